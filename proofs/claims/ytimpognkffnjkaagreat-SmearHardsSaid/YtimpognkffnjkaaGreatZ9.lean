/- Texts I1, I2, I3, I4, I5 of one proof, one behind the other; what nothing here names is left out. -/
import Derived.Test.YtimpognkffnjkaaGreatZ8
import Derived.Test.YtimpognkffnjkaaGreatZ4
import Derived.Deep.LoopGhost
import Derived.Test.YtimpognkffnjkaaGreatZ7
import Derived.Test.YtimpognkffnjkaaGreatZ6
import Derived.Test.YtimpognkffnjkaaGreatZ3
import Derived.IntWalk
set_option maxRecDepth 100000
set_option maxHeartbeats 8000000
set_option linter.unusedVariables false
set_option linter.unusedSimpArgs false
namespace Go.Proofs.YtimpognkffnjkaaGreat
open Go.RowKit
theorem Cur.allTh {n:Nat} {w0:World} {row:Option Nat} {Θ:World→Prop} {L:Slots} {M:List Ent} {a:Act} {w:World} {Fs:List (World→Prop)} (h:Cur n w0 row none (Facts Fs) Θ L M a w) {Θ':World→Prop} (hΘ:∀ w,Facts Fs w→Θ w→Θ' w):Cur n w0 row none (Facts []) Θ' L M a w:=
 ⟨h.sz,h.df,⟨h.st.gr,h.st.nod,h.st.own,fun g hg=>(by cases hg),fun _ _ φ hφ=>(by cases hφ),fun w' ha=>hΘ w' (h.st.psi w' ha) (h.st.the w' ha)⟩,h.sl⟩
theorem Cur.offM {n:Nat} {w0:World} {row ex:Option Nat} {Θ:World→Prop} {L:Slots} {M:List Ent} {a:Act} {w:World} (h:Cur n w0 row ex (Facts []) Θ L M a w):Cur n w0 row none (Facts []) (fun _=>True) L M a w:=
 ⟨h.sz,h.df,⟨h.st.gr,h.st.nod,h.st.own,fun _ hg=>(by cases hg),fun _ _ φ hφ=>(by cases hφ),fun _ _=>trivial⟩,h.sl⟩
theorem lpG {P:Program} {a:Act} {w:World} {G:Prop} {Q:Exit→Act→World→Prop} {c:Code} (I:Nat→Act→World→Prop) (n0:Nat) (h0:I n0 a w) (round:∀ n a w,I n a w→c.wp P (Exit.then (fun a' w'=>∃ n',n' < n∧I n' a' w') Q) a w) (nav:(Code.loop c).wp P Q a w→G:=by intro nv;with_reducible repeat (first | exact nv | refine then_n ?_ | refine wp_seq ?_ | refine wp_block ?_ | refine blk_n ?_ | refine sc_n ?_ | refine wp_skip ?_ | refine wp_scope_straight ?_ | refine wp_label ?_ | refine wp_ret ?_ | refine then_ret ?_ | refine blk_ret ?_ | refine sc_r ?_ | refine wp_exit ?_ | refine then_e ?_ | refine blk_x ?_ | refine blk_e rfl ?_ | refine sc_x ?_)):G:=nav (wp_loop_ghost I n0 h0 round)
section
variable {R:Reg} {Q:Exit→Act→World→Prop} {i:Nat} {o:Oper}
def pb2 (v:Value):Nat:=ptrB v
def NewC (B:Nat) (w:World) (T:TypeId) (v:Value) (cs:List Value):Prop:=v = .slice (some ⟨pb2 v,0,none⟩) 1 1∧B≤pb2 v∧w.heap[pb2 v]? = some (.cells cs.toArray T (0,0))
theorem s_bsF (ho:R.ops[i]? = some o) (hf:free' R i=true) (hg:o.guard=none) (op':Op) (hop:o.op=op') (T:TypeId) (zs:Env→List Value) (n:Nat) (hV:R.v? i=some fun env=>.slice (some ⟨pb2 (env i),0,none⟩) 1 1) (hF:R.F.filter (fun p=>Nat.beq p.1 i)=[(i,fun env w=>NewC R.w0.heap.size w T (env i) (zs env))])
    (hrun:∀ {D env a w},At R i D env a w→∀ o':Oper,o'.op=op'→(execOp a.eval o').run Tryz.prog w = .ok (.value (.slice (some ⟨w.heap.size,0,none⟩) 1 1)) (w.alloc (.cells (zs env).toArray T (0,0)))) (hr:∀ env x,zs (restr (R.cl.getD i []) (upd env i x))=zs env:=by intros;rfl):SR Tryz.prog Q R i:=
  s_gen ho hf (fun {D env a w} hA K hK=>by
    rw [if_pos (wanted_none hg _)]
    unfold Oper.wp
    rw [hrun hA o hop]
    have hs':=hA.j.st.call (w':=w.alloc (.cells (zs env).toArray T (0,0))) ⟨rfl,rfl,rfl,by simp,fun k hk=>Below.heap_alloc _ _ _ hk⟩
    refine hK _ _ hs' (fun w'' ha=>?_)
    have e:restr (R.cl.getD i []) (upd env i (.slice (some ⟨w.heap.size,0,none⟩) 1 1)) i = .slice (some ⟨w.heap.size,0,none⟩) 1 1:=by
      unfold restr upd
      rw [if_pos (List.contains_iff_mem.2 (cl_self hA.ok ho)),if_pos rfl]
    refine ⟨fun V' hV'=>(by rw [hV] at hV';obtain rfl:=Option.some.inj hV';simp only [e];rfl),fun p hp he=>?_⟩
    have h1:p∈R.F.filter (fun p=>Nat.beq p.1 i):=List.mem_filter.2 ⟨hp,by rw [he];exact Nat.beq_refl i⟩
    rw [hF,List.mem_singleton] at h1
    subst h1
    simp only [e,hr]
    refine ⟨rfl,hA.j.st.gr.size,?_⟩
    show w''.heap[w.heap.size]? = _
    rw [ha.2 w.heap.size (by simp) (fun m e hm he=>by have:=lt_of_some (hA.j.st.own m e hm).2;omega) (fun hx=>by have:=(hA.j.st.exb _ hx).1;omega)]
    exact heap_alloc_new w _)
theorem s_appY (ho:R.ops[i]? = some o) (hf:free R i=true) (hg:o.guard=none) {s x:Operand} {TS T:TypeId} (hop:o.op = .call { callee:=.builtin .append,args:=#[s,x],argTypes:=#[TS,TS] }) (hTS:Tryz.prog.underlying TS=some (.slice T)) {k by':Nat} {z:Value} (hinfo:(Tryz.prog.info? T).map (fun i=>(i.zero,i.size,i.bytes))=some (some z,k,by')) (hzk:z.cells.size=k) (hk0:0 < k) (hby:by'≤1000)
    {v:Value} {n:Nat} {ds:List Value} (X:World→Prop) (Ts:List TypeId) (hX:∀ w w',KeepT Ts none w w'→X w→X w') (hT':Ts.contains T=false) (hTs:tFree Ts R=true) (hV:R.v? i=some fun env=>.slice (sA (env i)) (n+1) (sC (env i))) (hF:R.F=[]) (hΨ:∀ w,R.Ψ w) (hex:R.ex=none) (hΘ:∀ w,R.Θ w→OwnK T k w R.w0.heap.size v n ds∧X w) (zs:List Value) (hzs:zs.length=k) (h1c:∀ u∈zs,u.oneCell'=true) (hth:R.th=some (i,fun env w=>OwnK T k w R.w0.heap.size (.slice (sA (env i)) (n+1) (sC (env i))) (n+1) (ds ++ zs)∧X w)) (hlen:n≤1000000)
    {bn:Nat} {TC:TypeId} (hcx:∀ w,R.Θ w→w.heap[bn]? = some (.cells zs.toArray TC (0,0)))
    (hs:∀ env,opAt R i env s=some v) (hx:∀ env,opAt R i env x=some (.slice (some ⟨bn,0,none⟩) 1 1)):SR Tryz.prog Q R i:=
  s_th ho hf (fun {D env a w} hA K hK=>by
    rw [if_pos (wanted_none hg _)]
    have hnD:D i=false:=hA.i
    have ht0:R.tht D env=R.Θ:=by unfold Reg.tht;rw [hth];simp [hnD]
    have hst0:=hA.j.st
    rw [ht0] at hst0
    have hT:∀ w',Apart (R.mem D env) none w w'→OwnK T k w' R.w0.heap.size v n ds∧X w':=fun w' hw=>hΘ w' (hst0.the w' hw)
    obtain ⟨i0,hi,hz0,hz1,hz2⟩:=info_parts hinfo
    have hcell:=hcx _ (hst0.the w (Apart.refl _ _ _))
    obtain ⟨v',w',hr,h2,h3,_,h5⟩:=run_append_own_at (P:=Tryz.prog) w R.w0.heap.size TS o.type T i0 z k by' hTS hi hz0 hz1 hz2 hzk hk0 v n ds (hT w (Apart.refl _ _ _)).1 ⟨bn,0,none⟩ 1 1 zs (by rw [hzs,Nat.one_mul])
      (fun q u hq=>by
        have h9:=own_cell hcell hq
        have e9:((⟨bn,0,none⟩:Addr).add q)=⟨bn,q,none⟩:=by unfold Addr.add;split <;> simp_all
        rw [e9];exact h9) h1c (by unfold maxLen;omega) (by
          have:(n+1)*by'≤1000001*1000:=Nat.mul_le_mul (by omega) hby
          omega) hst0.gr.size
    have hrun:(execOp a.eval o).run Tryz.prog w = .ok (.value v') w':=by
      have e1:=hA.e (hs env)
      have e2:=hA.e (hx env)
      unfold execOp
      simp [hop,resolve,Deferred.ofValue,invoke,builtin,e1,e2,hr]
    unfold Oper.wp
    rw [hrun]
    have hown:OwnK T k w' R.w0.heap.size v' (n+1) (ds ++ zs):=h2
    have hself:=cl_self hA.ok ho
    have hform:v' = .slice (sA v') (n+1) (sC v'):=by
      obtain ⟨_,h9⟩:=hown
      rcases h9 with ⟨_,h9⟩ | ⟨g9,c9,cur9,rfl,_⟩
      · omega
      · rfl
    have key:=hst0.rowedX (fun w''=>⟨hΨ w'',fun j hj=>⟨fun V hV=>((hA.j.fact hj).1 V hV),fun p hp=>(by rw [hF] at hp;cases hp)⟩⟩) hT hT' hX (fun m e hm=>tFree_mem hTs hm) h3 hown (by rcases h5 with h | h;exact .inl h;exact .inr (.inl h)) hex
    have e9:restr (R.cl.getD i []) (upd env i v') i=v':=by unfold restr upd;rw [if_pos (List.contains_iff_mem.2 hself),if_pos rfl]
    refine hK v' w' ?_ (fun w'' _=>⟨fun V' hV'=>(by rw [hV] at hV';obtain rfl:=Option.some.inj hV';simp only [e9];exact hform),fun p hp=>(by rw [hF] at hp;cases hp)⟩)
    have ht1:R.tht (upB D i) (upd env i v')=fun w=>OwnK T k w R.w0.heap.size v' (n+1) (ds ++ zs)∧X w:=by
      unfold Reg.tht
      rw [hth]
      simp only [upB_self,if_true]
      funext w''
      rw [e9,← hform]
    rw [ht1]
    exact key)
theorem s_factO (ho:R.ops[i]? = some o) (hf:free' R i=true) {f:FuncId} {fn:Func} {ps:Array Operand} {ts:Array TypeId} (hop:o.op = .call { callee:=.value (.func f),args:=ps,argTypes:=ts })
    (hfn:Tryz.prog.funcs[f]? = some fn) (hname:(fn.name == "runtime.NumGoroutine")=false) (hb:fn.body.isSome=true) (hw:∀ {D env a w},At R i D env a w→Region.wanted o (yielded R.ops a.tmps)=true) (φ:Value→World→Prop) (form:Value→Value) (Ω:Value→World→Nat→Prop) (hV:R.v? i=some fun env=>form (env i)) (hF:R.F.filter (fun p=>Nat.beq p.1 i)=[(i,fun env w=>φ (env i) w)])
    (hφ:∀ v w,φ v w→v=form v) (hst:∀ v w w' B,(∀ b,B≤b→b < w.heap.size→w'.heap[b]? = w.heap[b]?)→Ω v w B→φ v w')
    (h:∀ {D env a w},At R i D env a w→∃ args,ps.map a.eval=args∧Calls Tryz.prog f args w fun e w'=>∃ v,e = .returned v∧Below w.heap.size w w'∧Ω v w' w.heap.size):SR Tryz.prog Q R i:=
  s_callx ho hf hop hfn hname hb (fun {D env a w} hA=>by
    obtain ⟨args,ha,hc⟩:=h hA
    refine ⟨hw hA,args,ha,hc.mono ?_⟩
    rintro e w' ⟨v,rfl,hb,h4⟩
    have hs':=hA.j.st.call hb
    exact ⟨v,rfl,hs',fun w'' ha=>f_fact hV hφ hF hA.ok ho (hst v _ _ w.heap.size (fun b h1 h2=>ha.2 b h2 (fun m e hm he=>by have:=lt_of_some (hA.j.st.own m e hm).2;omega) (fun hx=>by have:=(hA.j.st.exb b hx).1;omega)) h4)⟩)
end
theorem m_bigeq {P:Program} {f:FuncId} {args:Array Value} {w:World} {z z':Int} (h:Calls P f args w fun e w'=>∃ v,e = .returned v∧Below w.heap.size w w'∧BigN w.heap.size w' v z) (e:z=z'):Calls P f args w fun e w'=>∃ v,e = .returned v∧Below w.heap.size w w'∧BigN w.heap.size w' v z':=e▸h
def NumAt (B:Nat) (w:World) (cs:List Value) (k:Nat) (z:Int):Prop:=cs[k]? = some (.bool (decide (z < 0)))∧∃ A c,cs[k+1]? = some (.slice A (digs z).length c)∧RowN B w (.slice A (digs z).length c) (digs z)
def WEl (B:Nat) (w:World) (cs:List Value) (es:List (Int × Int)) (i:Nat):Prop:=NumAt B w cs (i*7) (smS es (i+1)*1000000000000000000)∧NumAt B w cs (i*7+2) (smE es (i+1)*1000000000000000000)∧NumAt B w cs (i*7+4) (smB es (i+1)*1000000000000000000)∧cs[i*7+6]? = some (vI (smO es (i+1)-smO es i))
def WRow (B:Nat) (w:World) (cs:List Value) (es:List (Int × Int)) (n:Nat):Prop:=cs.length=n*7∧∀ i,i < n→WEl B w cs es i
section
variable {B:Nat} {w w':World} {cs:List Value} {es:List (Int × Int)} {n:Nat}
theorem NumAt.step {k:Nat} {z:Int} (h:NumAt B w cs k z) (hr:∀ v,RowN B w v (digs z)→RowN B w' v (digs z)):NumAt B w' cs k z:=by
 obtain ⟨h1,A,c,h2,h3⟩:=h
 exact ⟨h1,A,c,h2,hr _ h3⟩
theorem WRow.step (h:WRow B w cs es n) (hr:∀ v ds,RowN B w v ds→RowN B w' v ds):WRow B w' cs es n:=
  ⟨h.1,fun i hi=>by
    obtain ⟨a,b,c,d⟩:=h.2 i hi
    exact ⟨a.step (fun v=>hr v _),b.step (fun v=>hr v _),c.step (fun v=>hr v _),d⟩⟩
theorem keepT_int (hk:KeepT [3] none w w'):Keep none w w':=fun b cur fz hb _=>hk b cur _ fz hb rfl (by simp)
theorem WRow.keep (h:WRow B w cs es n) (hk:KeepT [3] none w w'):WRow B w' cs es n:=h.step (fun v ds hr=>hr.keep (keepT_int hk))
theorem RowN.keepB {v:Value} {ds:List Int} (hk:∀ b,B≤b→b < w.heap.size→w'.heap[b]? = w.heap[b]?) (h:RowN B w v ds):RowN B w' v ds:=by
  refine ⟨?_,h.2⟩
  obtain ⟨A,c,rfl,h1,h2,h3⟩:=h.1
  refine ⟨A,c,rfl,h1,h2,?_⟩
  rcases h3 with h3 | ⟨b,off,cur,fz,rfl,hb,hc⟩
  · exact .inl h3
  · exact .inr ⟨b,off,cur,fz,rfl,by rw [hk b (h.2 b rfl) (lt_of_some hb)];exact hb,hc⟩
theorem WRow.keepB (h:WRow B w cs es n) (hk:∀ b,B≤b→b < w.heap.size→w'.heap[b]? = w.heap[b]?):WRow B w' cs es n:=h.step (fun v ds hr=>hr.keepB hk)
theorem WRow.grown (h:WRow B w cs es n) (hg:w.grownBy w' none):WRow B w' cs es n:=h.step (fun v ds hr=>⟨hr.1.grown hg,hr.2⟩)
theorem WRow.nil (w:World) (B:Nat) (es:List (Int × Int)):WRow B w [] es 0:=⟨rfl,fun i hi=>absurd hi (Nat.not_lt_zero i)⟩
theorem WRow.weak {B':Nat} (hB:B'≤B) (h:WRow B w cs es n):WRow B' w cs es n:=⟨h.1,fun i hi=>by
    obtain ⟨⟨a1,A1,c1,a2,a3⟩,⟨b1,A2,c2,b2,b3⟩,⟨d1,A3,c3,d2,d3⟩,d⟩:=h.2 i hi
    exact ⟨⟨a1,A1,c1,a2,a3.1,fun b hb=>Nat.le_trans hB (a3.2 b hb)⟩,⟨b1,A2,c2,b2,b3.1,fun b hb=>Nat.le_trans hB (b3.2 b hb)⟩,⟨d1,A3,c3,d2,d3.1,fun b hb=>Nat.le_trans hB (d3.2 b hb)⟩,d⟩⟩
abbrev winV (es:List (Int × Int)) (n:Nat) (v1 v2 v3:Value) (d:Int):List Value:=[.bool (decide (smS es (n+1)*1000000000000000000 < 0)),.slice (bA v1) (digs (smS es (n+1)*1000000000000000000)).length (bC v1),.bool (decide (smE es (n+1)*1000000000000000000 < 0)),.slice (bA v2) (digs (smE es (n+1)*1000000000000000000)).length (bC v2),.bool (decide (smB es (n+1)*1000000000000000000 < 0)),.slice (bA v3) (digs (smB es (n+1)*1000000000000000000)).length (bC v3),vI d]
theorem WRow.snoc (h:WRow B w cs es n) {v1 v2 v3:Value} {d:Int} (hd:d=smO es (n+1)-smO es n) (h1:BigN B w v1 (smS es (n+1)*1000000000000000000)) (h2:BigN B w v2 (smE es (n+1)*1000000000000000000)) (h3:BigN B w v3 (smB es (n+1)*1000000000000000000)):WRow B w (cs ++ winV es n v1 v2 v3 d) es (n+1):=by
  obtain ⟨hl,ha⟩:=h
  refine ⟨by simp [hl];omega,fun i hi=>?_⟩
  by_cases hn:i < n
  · have g:∀ k,k < 7→(cs ++ winV es n v1 v2 v3 d)[i*7+k]? = cs[i*7+k]?:=fun k hk=>List.getElem?_append_left (by rw [hl];omega)
    obtain ⟨⟨a1,A1,c1,a2,a3⟩,⟨b1,A2,c2,b2,b3⟩,⟨d1,A3,c3,d2,d3⟩,d0⟩:=ha i hn
    have g0:=g 0 (by omega)
    rw [Nat.add_zero] at g0
    exact ⟨⟨by rw [g0];exact a1,A1,c1,by rw [g 1 (by omega)];exact a2,a3⟩,⟨by rw [g 2 (by omega)];exact b1,A2,c2,by rw [show i*7+2+1=i*7+3 by omega] at b2 ⊢;rw [g 3 (by omega)];exact b2,b3⟩,⟨by rw [g 4 (by omega)];exact d1,A3,c3,by rw [show i*7+4+1=i*7+5 by omega] at d2 ⊢;rw [g 5 (by omega)];exact d2,d3⟩,by rw [g 6 (by omega)];exact d0⟩
  · obtain rfl:i=n:=by omega
    have g:∀ k,(cs ++ winV es i v1 v2 v3 d)[i*7+k]? = (winV es i v1 v2 v3 d)[k]?:=fun k=>by
      rw [List.getElem?_append_right (by rw [hl];omega),hl]
      congr 1;omega
    have g0:=g 0
    rw [Nat.add_zero] at g0
    exact ⟨⟨by rw [g0];rfl,_,_,by rw [g 1];rfl,h1.row⟩,⟨by rw [g 2];rfl,_,_,by rw [show i*7+2+1=i*7+3 by omega,g 3];rfl,h2.row⟩,⟨by rw [g 4];rfl,_,_,by rw [show i*7+4+1=i*7+5 by omega,g 5];rfl,h3.row⟩,by rw [g 6,hd];rfl⟩
end
def WinsB (w:World) (v:Value) (B:Nat) (es:List (Int × Int)):Prop:=∃ cs,RowT 43 w v (es.length-1) 7 (fun i=>(cs[i]?).getD undef)∧(∀ b,v.ownBlock=some b→B≤b)∧WRow B w cs es (es.length-1)
def winsF (n:Nat) (v:Value):Value:=.slice (sA v) (n-1) (sC v)
section
variable {B:Nat} {w w':World} {v:Value} {es:List (Int × Int)}
theorem WinsB.form (h:WinsB w v B es):v=winsF es.length v:=by obtain ⟨cs,h1,_⟩:=h;exact RowT.form h1
theorem WinsB.keepB (hk:∀ b,B≤b→b < w.heap.size→w'.heap[b]? = w.heap[b]?) (h:WinsB w v B es):WinsB w' v 0 es:=by
  obtain ⟨cs,h1,h2,h3⟩:=h
  refine ⟨cs,?_,fun _ _=>Nat.zero_le _,(h3.keepB hk).weak (Nat.zero_le _)⟩
  obtain ⟨A,c,rfl,e1,e2,e3⟩:=h1
  refine ⟨A,c,rfl,e1,e2,?_⟩
  rcases e3 with e3 | ⟨b,off,cur,fz,rfl,hb,hc⟩
  · exact .inl e3
  · exact .inr ⟨b,off,cur,fz,rfl,by rw [hk b (h2 b rfl) (lt_of_some hb)];exact hb,hc⟩
theorem WinsB.re (h:WinsB w v B es):WinsB w (.slice (sA v) (es.length-1) (sC v)) B es:=by
 have e:=h.form
 unfold winsF at e
 rw [← e];exact h
theorem WinsB.grown (h:WinsB w v B es) (hg:w.grownBy w' none):WinsB w' v B es:=by
 obtain ⟨cs,h1,h2,h3⟩:=h
 exact ⟨cs,h1.grown hg,h2,h3.grown hg⟩
end
theorem Facts.wins {L:List (World→Prop)} {w:World} {v:Value} {es:List (Int × Int)} (h:Facts L w) (j:Nat) (hj:L[j]? = some (fun w=>WinsB w v 0 es)):WinsB w (.slice (sA v) (es.length-1) (sC v)) 0 es:=(show WinsB w v 0 es from h.get j hj).re
theorem At.wins {R:Reg} {i:Nat} {D:Nat→Bool} {env:Env} {a:Act} {w:World} (h:At R i D env a w) (j:Nat) {es:List (Int × Int)} (hj:((R.cl.getD i []).contains j && !(j == i))=true) (hs:((R.cl.getD j []).contains j)=true) (hF:R.F.filter (fun p=>Nat.beq p.1 j)=[(j,fun env w=>WinsB w (env j) 0 es)]):WinsB w (.slice (sA (env j)) (es.length-1) (sC (env j))) 0 es:=
 (show WinsB w (env j) 0 es from h.fact j (φ:=fun v w=>WinsB w v 0 es) hj hs hF).re
theorem s_iaX {R:Reg} {Q:Exit→Act→World→Prop} {i:Nat} {o:Oper} (ho:R.ops[i]? = some o) (hf:free' R i=true) {T E:TypeId} {x ix:Operand} (hop:o.op = .indexAddr T x ix) (hw:∀ {D env a w},At R i D env a w→Region.wanted o (yielded R.ops a.tmps)=true)
    (hT:Tryz.prog.underlying T=some (.slice E)) {n k:Nat} (hE:(Tryz.prog.info? E).map (·.size)=some k) (j q:Nat) (hq:j*k=q) {s:Env→Value} (hV:R.v? i=some fun env=>elt (s env) q)
    (hx:∀ env,opAt R i env x=some (s env)) (z:Int) (hix:∀ env,opAt R i env ix=some (vI z)) (hz:z=(j:Int)) (hs:∀ {D env a w},At R i D env a w→∃ f,Els w (s env) n k f) (hj:j < n) (hn:noF R i=true:=by rfl) (hr:∀ env x,s (restr (R.cl.getD i []) (upd env i x))=s env:=by intros;rfl):SR Tryz.prog Q R i:=
  s_val ho hf hV (fun {D env a w} hA=>⟨hw hA,by
    subst hq
    obtain ⟨_,A,c,e,h1,h2⟩:=hs hA
    have e1:=hA.e (hx env)
    have e2:=hA.e (hix env)
    rw [e] at e1
    rcases h2 with h2 | ⟨b,off,rfl,_⟩
    · omega
    obtain ⟨i0,hi,hz0⟩:=Option.map_eq_some_iff.1 hE
    subst hz
    rw [e]
    have:(j:Int) < (n:Int):=by omega
    have h0:(j:Int)*(k:Int)=((j*k:Nat):Int):=by simp
    simp [execOp,hop,e1,e2,Instr.indexAt,asIntOf,run_underlying hT,sizeOf,typeInfo,hi,hz0,elt,hj,Addr.add]
    try (split <;> simp_all)⟩) hn (fun env x=>by simp only [hr])
theorem WinsB.els {w:World} {v:Value} {B:Nat} {es:List (Int × Int)} (h:WinsB w v B es):∃ f,Els w v (es.length-1) 7 f:=by obtain ⟨cs,h,_⟩:=h;exact ⟨_,h.els⟩
def agC (v:Value) (i:Nat):Value:=match v with
  | .agg xs=>xs.getD i undef
  | _=>undef
def winVF (es:List (Int × Int)) (k:Nat) (v:Value):Value:=.agg #[.bool (decide (smS es (k+1)*1000000000000000000 < 0)),.slice (sA (agC v 1)) (digs (smS es (k+1)*1000000000000000000)).length (sC (agC v 1)),.bool (decide (smE es (k+1)*1000000000000000000 < 0)),.slice (sA (agC v 3)) (digs (smE es (k+1)*1000000000000000000)).length (sC (agC v 3)),.bool (decide (smB es (k+1)*1000000000000000000 < 0)),.slice (sA (agC v 5)) (digs (smB es (k+1)*1000000000000000000)).length (sC (agC v 5)),vI (smO es (k+1)-smO es k)]
def WinV (w:World) (v:Value) (es:List (Int × Int)) (k:Nat):Prop:=v=winVF es k v∧RowX none w (.slice (sA (agC v 1)) (digs (smS es (k+1)*1000000000000000000)).length (sC (agC v 1))) (digs (smS es (k+1)*1000000000000000000))∧RowX none w (.slice (sA (agC v 3)) (digs (smE es (k+1)*1000000000000000000)).length (sC (agC v 3))) (digs (smE es (k+1)*1000000000000000000))∧RowX none w (.slice (sA (agC v 5)) (digs (smB es (k+1)*1000000000000000000)).length (sC (agC v 5))) (digs (smB es (k+1)*1000000000000000000))
theorem WinV.keep {w w':World} {v:Value} {es:List (Int × Int)} {k:Nat} (h:WinV w v es k) (hk:Keep none w w'):WinV w' v es k:=⟨h.1,h.2.1.keep hk,h.2.2.1.keep hk,h.2.2.2.keep hk⟩
theorem cell_at {cs:List Value} {i:Nat} {v:Value} (h:cs[i]? = some v):(cs[i]?).getD undef=v:=by rw [h];rfl
theorem s_ldW {R:Reg} {Q:Exit→Act→World→Prop} {i:Nat} {o:Oper} (ho:R.ops[i]? = some o) (hf:free' R i=true) {x:Operand} (hop:o.op = .load 43 x) (hw:∀ {D env a w},At R i D env a w→Region.wanted o (yielded R.ops a.tmps)=true) {es:List (Int × Int)} (k:Nat) (hk:k < es.length-1) {s:Env→Value} (hx:∀ env,opAt R i env x=some (elt (s env) (k*7))) (hs:∀ {D env a w},At R i D env a w→WinsB w (s env) 0 es)
    (hV:R.v? i=some fun env=>winVF es k (env i)) (hF:R.F.filter (fun p=>Nat.beq p.1 i)=[(i,fun env w=>WinV w (env i) es k)]) (hint:intFree R=true) (hex:R.ex=none):SR Tryz.prog Q R i:=
  s_gen ho hf (fun {D env a w} hA K hK=>by
    rw [if_pos (hw hA)]
    unfold Oper.wp
    obtain ⟨cs,hRT,_,hWR⟩:=hs hA
    obtain ⟨⟨w11,V1,d1,w12,w13⟩,⟨w21,V2,d2,w22,w23⟩,⟨w31,V3,d3,w32,w33⟩,wd0⟩:=hWR.2 k hk
    obtain ⟨A,c,e,h1,h2⟩:=hRT.els
    have e1:=hA.e (hx env)
    rw [e] at e1
    rcases h2 with h2 | ⟨b,off,rfl,hc⟩
    · omega
    have h3:=leGg (P:=Tryz.prog) (T:=43) (by kernel_rfl) (g:=fun p=>(cs[k*7+p]?).getD undef) (cell_at w11) (cell_at w12) (cell_at w21) (cell_at w22) (cell_at w31) (cell_at w32) (cell_at wd0) b (off+k*7) w (fun p hp=>by have:=hc (k*7+p) (by omega);rwa [← Nat.add_assoc] at this)
    have hrun:(execOp a.eval o).run Tryz.prog w = .ok (.value (.agg #[.bool (decide (smS es (k+1)*1000000000000000000 < 0)),.slice V1 (digs (smS es (k+1)*1000000000000000000)).length d1,.bool (decide (smE es (k+1)*1000000000000000000 < 0)),.slice V2 (digs (smE es (k+1)*1000000000000000000)).length d2,.bool (decide (smB es (k+1)*1000000000000000000 < 0)),.slice V3 (digs (smB es (k+1)*1000000000000000000)).length d3,vI (smO es (k+1)-smO es k)])) w:=by
      simp [execOp,hop,e1,elt,h3]
    rw [hrun]
    refine hK _ _ hA.j.st (fun w'' ha=>f_fact (φ:=fun v w=>WinV w v es k) (form:=winVF es k) hV (fun v w h=>h.1) hF hA.ok ho (WinV.keep ⟨rfl,⟨w13.1,fun _ e=>by cases e⟩,⟨w23.1,fun _ e=>by cases e⟩,⟨w33.1,fun _ e=>by cases e⟩⟩ ?_))
    have:=apart_keep hint hA.j.st ha
    rwa [hex] at this)
section
variable {L:List (World→Prop)} {w:World} {es:List (Int × Int)} {k:Nat}
theorem Facts.wv1 {v:Value} (h:Facts L w) (j:Nat) (hj:L[j]? = some (fun w=>WinV w v es k)):Row w (.slice (sA (agC v 1)) (digs (smS es (k+1)*1000000000000000000)).length (sC (agC v 1))) (digs (smS es (k+1)*1000000000000000000)):=(show WinV w v es k from h.get j hj).2.1.1
theorem Facts.wv2 {v:Value} (h:Facts L w) (j:Nat) (hj:L[j]? = some (fun w=>WinV w v es k)):Row w (.slice (sA (agC v 3)) (digs (smE es (k+1)*1000000000000000000)).length (sC (agC v 3))) (digs (smE es (k+1)*1000000000000000000)):=(show WinV w v es k from h.get j hj).2.2.1.1
theorem Facts.wv3 {v:Value} (h:Facts L w) (j:Nat) (hj:L[j]? = some (fun w=>WinV w v es k)):Row w (.slice (sA (agC v 5)) (digs (smB es (k+1)*1000000000000000000)).length (sC (agC v 5))) (digs (smB es (k+1)*1000000000000000000)):=(show WinV w v es k from h.get j hj).2.2.2.1
end
end Go.Proofs.YtimpognkffnjkaaGreat
namespace Go.Proofs.YtimpognkffnjkaaGreat
open Go.RowKit
attribute [local go_sem] vN bT bF rS vW vM vL vT2 vT3 vP vI execOp Act.eval evC bigF vB hi_zero lo_zero Tryz.underlying24 Tryz.underlying40 Tryz.underlying43 Tryz.underlying98
theorem rwin_info:(Tryz.prog.info? 43).map (fun i=>(i.zero,i.size,i.bytes))=some (some (.agg #[bF,.slice none 0 0,bF,.slice none 0 0,bF,.slice none 0 0,vI 0]),7,104):=by kernel_rfl
theorem m_day (es:List (Int × Int)) (i:Nat):vI (dayOf ((es.getD i (0,0)).1,(es.getD i (0,0)).2))=vI (smD es i):=rfl
theorem m_start (es:List (Int × Int)) (i:Nat):vI (startOf ((es.getD i (0,0)).1,(es.getD i (0,0)).2))=vI (smD es i*86400+smO es i):=rfl
theorem win_join {es:List (Int × Int)} (k:Nat):jn (smD es (k+1)-1) (43200+(es.getD k (0,0)).2) 0=smS es (k+1)*1000000000000000000∧jn (smD es (k+1)) (43200+(es.getD (k+1) (0,0)).2) 0=smE es (k+1)*1000000000000000000∧jn (smD es (k+1)-1-40587) 43200 0=smB es (k+1)*1000000000000000000:=by
 have h1:smS es (k+1)=(smD es (k+1)-1)*86400+43200+(es.getD k (0,0)).2:=rfl
 have h2:smE es (k+1)=smD es (k+1)*86400+43200+(es.getD (k+1) (0,0)).2:=rfl
 have h3:smB es (k+1)=(smD es (k+1)-1)*86400+43200-3506716800:=rfl
 unfold jn
 refine ⟨by omega,by omega,by omega⟩
theorem smD_bd {es:List (Int × Int)} (hp:okPre es es.length=true) {i:Nat} (hi:i < es.length):15020≤smD es i∧smD es i≤13031271080:=by
 have h:=okPre_num hp (i:=i) hi
 unfold smD dayOf;omega
theorem rwindows_any (w0:World) (A0:Option Addr) (c0:Nat) (es:List (Int × Int)) (u x:Int) (hv:Ents w0 w0.heap.size (.slice A0 es.length c0) es) (hp:okPre es es.length=true) (hn0:0 < es.length) (hl64:es.length≤64):Calls Tryz.prog 14 #[.agg #[vI u,vI x,.slice A0 es.length c0]] w0 fun e w'=>∃ v,e = .returned v∧Below w0.heap.size w0 w'∧WinsB w' v w0.heap.size es:=by
  have hst:=St.start w0 (Θ:=fun _=>True) (fun _ _=>trivial)
  refine en_ Tryz.func14 hst 58 [(0,.agg #[vI u,vI x,.slice A0 es.length c0])] (fun ac H_=>?_)
  replace H_:=H_.facts
  refine fq H_ 1 [[0],[1]] [_,_] (fun E1=>[(1,vP (pb E1 0) 0)]) (W:=[{ i:=0,T:=24,c0:=[vI u,vI x,.slice A0 es.length c0] }]) (s:=⟨bx3 0,mv3⟩) (k:=fun E1 ac wd H_=>?_)
  refine fq1 H_ 0 [[0]] [_] (fun _=>[(3,.slice none 0 0)]) (s:=mv3) (k:=fun E2 ac wd H_=>?_)
  replace H_:=H_.th (Θ':=fun w=>OwnK 43 7 w w0.heap.size (.slice none 0 0) 0 []∧WRow w0.heap.size w [] es 0) (fun w _=>⟨OwnK.nil w _,WRow.nil w _ _⟩)
  refine fq1 H_ 0 [[0]] [_] (fun _=>[(4,vI 1)]) (s:=mv3) (k:=fun E3 ac wd H_=>?_)
  refine lp3 (fun ac wd=>∃ (v:Value) (cs:List Value) (k:Nat),k+1≤es.length∧Cur 58 w0 none none (Facts []) (fun w=>OwnK 43 7 w w0.heap.size v k cs∧WRow w0.heap.size w cs es k) [(1,vP (pb E1 0) 0),(3,v),(4,vI (((k:Nat):Int)+1))] [((pb E1 0),24,[vI u,vI x,.slice A0 es.length c0])] ac wd) (fun ac _=>((es.length:Int)-sI ac 4).toNat) ⟨.slice none 0 0,[],0,by omega,(H_.re rfl).th (fun _ h=>h)⟩ ?_
  rintro ac wd ⟨v,cs,k,hi1,H_⟩
  have hmu:sI ac 4=((k:Nat):Int)+1:=sI_eq (H_.g (t:=4) rfl)
  by_cases h1:k+1 < es.length
  have hb:=okPre_num hp (i:=k+1) h1;have hb2:=okPre_num hp (i:=k) (by omega);have hd:=smD_bd hp (i:=k+1) h1;obtain ⟨j1,j2,j3⟩:=win_join (es:=es) k;have w3:=win_in hp (i:=k+1) (by omega) h1
  refine fq1 H_ 4 [[0],[1],[1,2],[1,2,3],r_ 5] [_,_,_,vN es.length,bT] (fun _=>[(12,bT)]) (s:=⟨mv3,fa3 2,ld31 0 sh22,ln_ Tryz.underlying22 fun _ env _ wd hA=>(hv.gn hA.j.st.gr).els,bi3⟩) (k:=fun E5 ac wd H_=>?_)
  refine cT3 H_ ?_
  refine fq1 H_ 21 [[0],[0,1],[2],[2,3],r_ 5,r_ 6,r_ 7,[7],[7,8],[9],[7,8,9,10],[7,8,9,10,11],[7,8,9,10,11,12],[13],[13,14],[15],[13,14,15,16],[13,14,15,16,17],[13,14,15,16,17,18],r_ 7++[13,14,15,16,17,18,19],r_ 21,r_ 22] [_,_,_,vI ((((k:Nat):Int)+1)-1),elt (.slice A0 es.length c0) (k*2),elt (.slice A0 es.length c0) (k*2+1),vI ((es.getD k (0,0)).2),_,_,_,elt (.slice A0 es.length c0) ((k+1)*2),elt (.slice A0 es.length c0) ((k+1)*2+1),vI ((es.getD (k+1) (0,0)).2),_,_,_,elt (.slice A0 es.length c0) ((k+1)*2),K_ (.agg #[vI ((es.getD (k+1) (0,0)).1),vI ((es.getD (k+1) (0,0)).2)]),_,_,_,_] (fun _=>[(5,vI ((es.getD k (0,0)).2)),(6,vI ((es.getD (k+1) (0,0)).2)),(7,vI (smD es (k+1)))]) (s:=⟨fa3 2,ld31 0 sh22,mv3,bi3 (h:=by intro env w;(first | (simp [go_sem];done) | (simp [go_sem];exact IntWalk.i64_in _ (by omega)) | (simp [go_sem];exact IntWalk.i64_in _ (by simp only [List.getD_eq_getElem?_getD] at *;omega)))),ia_ Tryz.underlying22 sz89 k (k*2) ((((k:Nat):Int)+1)-1) (fun _ env _ wd hA=>(hv.gn hA.j.st.gr).els) (by omega) (by omega) rfl,s_fa rfl rfl rfl (fun _=>wanted_none rfl _) (k*2) 1 (k*2+1) rfl (s:=fun _=>.slice A0 es.length c0) rfl (fun _=>rfl) (fun {D env ac wd} hA=>(hv.gn hA.j.st.gr).els) (by omega) (fun b q w=>by simp [go_sem,Tryz.underlying89]),le_ (k*2+1) (fun _ env _ wd hA=>(hv.gn hA.j.st.gr).els) (by omega) (leG1 sh3 (by exact enC_1 es k)),fa3 2,ld31 0 sh22,mv3,ia_ Tryz.underlying22 sz89 (k+1) ((k+1)*2) (((k:Nat):Int)+1) (fun _ env _ wd hA=>(hv.gn hA.j.st.gr).els) (by omega) (by omega) rfl,s_fa rfl rfl rfl (fun _=>wanted_none rfl _) ((k+1)*2) 1 ((k+1)*2+1) rfl (s:=fun _=>.slice A0 es.length c0) rfl (fun _=>rfl) (fun {D env ac wd} hA=>(hv.gn hA.j.st.gr).els) (by omega) (fun b q w=>by simp [go_sem,Tryz.underlying89]),le_ ((k+1)*2+1) (fun _ env _ wd hA=>(hv.gn hA.j.st.gr).els) (by omega) (leG1 sh3 (by exact enC_1 es (k+1))),fa3 2,ld31 0 sh22,mv3,ia_ Tryz.underlying22 sz89 (k+1) ((k+1)*2) (((k:Nat):Int)+1) (fun _ env _ wd hA=>(hv.gn hA.j.st.gr).els) (by omega) (by omega) rfl,le_ ((k+1)*2) (fun _ env _ wd hA=>(hv.gn hA.j.st.gr).els) (by omega) (leGb sh89 (by exact enC_0 es (k+1)) (by exact enC_1 es (k+1))),cl3 Tryz.func36 ((Ret.eq (rday_any ((es.getD (k+1) (0,0)).1) ((es.getD (k+1) (0,0)).2) hb.1 hb.2.1) (m_day es (k+1)))),mv3,mv3,mv3⟩) (k:=fun E6 ac wd H_=>?_)
  refine then_n ?_
  refine reg_cut mixed 22 [[0],[1],[1,2],[3],[3,4],[1,2,3,4,5],[1,2,3,4,5,6],[7],[8],[8,9],[7,8,9,10],[1,2,3,4,5,6,7,8,9,10,11],[12],[12,13],[12,13,14],[12,13,14,15],[1,2,3,4,5,6,7,8,9,10,11,12,13,14,15,16],[17],[18],[17,18,19],[1,2,3,4,5,6,7,8,9,10,11,12,13,14,15,16,17,18,19,20],[1,2,3,4,5,6,7,8,9,10,11,12,13,14,15,16,17,18,19,20,21],[0,1,2,3,4,5,6,7,8,9,10,11,12,13,14,15,16,17,18,19,20,21,22],[0,1,2,3,4,5,6,7,8,9,10,11,12,13,14,15,16,17,18,19,20,21,22,23]] (by kernel_rfl) H_ [some 34,some 35,some 36,some 37,some 38,some 39,some 40,some 41,some 42,some 43,some 44,some 45,some 46,some 47,some 48,some 49,some 50,some 51,some 52,some 53,some 54,some 55] [[0],[1],[1,2],[3],[3,4],[1,2,3,4,5],[1,2,3,4,5,6],[7],[8],[8,9],[7,8,9,10],[1,2,3,4,5,6,7,8,9,10,11],[12],[12,13],[12,13,14],[12,13,14,15],[1,2,3,4,5,6,7,8,9,10,11,12,13,14,15,16],[17],[18],[17,18,19],[1,2,3,4,5,6,7,8,9,10,11,12,13,14,15,16,17,18,19,20],[1,2,3,4,5,6,7,8,9,10,11,12,13,14,15,16,17,18,19,20,21]] [] [] [some fun _=>v,some fun _=>vI (smD es (k+1)),some fun _=>vI ((smD es (k+1))-1),some fun _=>vI ((es.getD k (0,0)).2),some fun _=>vI (43200+((es.getD k (0,0)).2)),some fun _=>vL ((smD es (k+1))-1) (43200+((es.getD k (0,0)).2)) 0,some fun env=>bigF (smS es (k+1)*1000000000000000000) (env 6),some fun _=>vI (smD es (k+1)),some fun _=>vI ((es.getD (k+1) (0,0)).2),some fun _=>vI (43200+((es.getD (k+1) (0,0)).2)),some fun _=>vL (smD es (k+1)) (43200+((es.getD (k+1) (0,0)).2)) 0,some fun env=>bigF (smE es (k+1)*1000000000000000000) (env 11),some fun _=>vI (smD es (k+1)),some fun _=>vI ((smD es (k+1))-1),some fun _=>vI (((smD es (k+1))-1)-40587),some fun _=>vL (((smD es (k+1))-1)-40587) 43200 0,some fun env=>bigF (smB es (k+1)*1000000000000000000) (env 16),some fun _=>vI ((es.getD (k+1) (0,0)).2),some fun _=>vI ((es.getD k (0,0)).2),some fun _=>vI (((es.getD (k+1) (0,0)).2)-((es.getD k (0,0)).2)),some fun env=>.agg #[.bool (decide (smS es (k+1)*1000000000000000000 < 0)),.slice ((bA (env 6))) ((digs (smS es (k+1)*1000000000000000000)).length) ((bC (env 6))),.bool (decide (smE es (k+1)*1000000000000000000 < 0)),.slice ((bA (env 11))) ((digs (smE es (k+1)*1000000000000000000)).length) ((bC (env 11))),.bool (decide (smB es (k+1)*1000000000000000000 < 0)),.slice ((bA (env 16))) ((digs (smB es (k+1)*1000000000000000000)).length) ((bC (env 16))),vI (((es.getD (k+1) (0,0)).2)-((es.getD k (0,0)).2))],some fun env=>.slice (some ⟨pb2 (env 21),0,none⟩) 1 1] [(6,fun env w=>BigN w0.heap.size w (env 6) (smS es (k+1)*1000000000000000000)),(11,fun env w=>BigN w0.heap.size w (env 11) (smE es (k+1)*1000000000000000000)),(16,fun env w=>BigN w0.heap.size w (env 16) (smB es (k+1)*1000000000000000000)),(21,fun env w=>NewC w0.heap.size w 43 (env 21) ([.bool (decide (smS es (k+1)*1000000000000000000 < 0)),.slice ((bA (env 6))) ((digs (smS es (k+1)*1000000000000000000)).length) ((bC (env 6))),.bool (decide (smE es (k+1)*1000000000000000000 < 0)),.slice ((bA (env 11))) ((digs (smE es (k+1)*1000000000000000000)).length) ((bC (env 11))),.bool (decide (smB es (k+1)*1000000000000000000 < 0)),.slice ((bA (env 16))) ((digs (smB es (k+1)*1000000000000000000)).length) ((bC (env 16))),vI (((es.getD (k+1) (0,0)).2)-((es.getD k (0,0)).2))]))] none rfl (by kernel_rfl) (by kernel_rfl) (sn (sn (sn (sn (sn (sn (sn (sn (sn (sn (sn (sn (sn (sn (sn (sn (sn (sn (sn (sn (sn (sn s0 ?_) ?_) ?_) ?_) ?_) ?_) ?_) ?_) ?_) ?_) ?_) ?_) ?_) ?_) ?_) ?_) ?_) ?_) ?_) ?_) ?_) ?_) ?_
  · exact mv3
  · exact mv3
  · exact (bi3 (h:=by intro env w;(first | (simp [go_sem];done) | (simp [go_sem];exact IntWalk.i64_in _ (by omega)) | (simp [go_sem];exact IntWalk.i64_in _ (by simp only [List.getD_eq_getElem?_getD] at *;omega)))))
  · exact mv3
  · exact (bi3 (h:=by intro env w;(first | (simp [go_sem];done) | (simp [go_sem];exact IntWalk.i64_in _ (by omega)) | (simp [go_sem];exact IntWalk.i64_in _ (by simp only [List.getD_eq_getElem?_getD] at *;omega)))))
  · exact bd32
  · exact (cb3 Tryz.func37 fun wd hA=>m_bigeq (Join_any wd ((smD es (k+1))-1) (43200+((es.getD k (0,0)).2)) 0 (by omega) (by omega) (by omega) (by omega) (by omega) (by omega)) j1)
  · exact mv3
  · exact mv3
  · exact (bi3 (h:=by intro env w;(first | (simp [go_sem];done) | (simp [go_sem];exact IntWalk.i64_in _ (by omega)) | (simp [go_sem];exact IntWalk.i64_in _ (by simp only [List.getD_eq_getElem?_getD] at *;omega)))))
  · exact bd32
  · exact (cb3 Tryz.func37 fun wd hA=>m_bigeq (Join_any wd (smD es (k+1)) (43200+((es.getD (k+1) (0,0)).2)) 0 (by omega) (by omega) (by omega) (by omega) (by omega) (by omega)) j2)
  · exact mv3
  · exact (bi3 (h:=by intro env w;(first | (simp [go_sem];done) | (simp [go_sem];exact IntWalk.i64_in _ (by omega)) | (simp [go_sem];exact IntWalk.i64_in _ (by simp only [List.getD_eq_getElem?_getD] at *;omega)))))
  · exact (bi3 (h:=by intro env w;(first | (simp [go_sem];done) | (simp [go_sem];exact IntWalk.i64_in _ (by omega)) | (simp [go_sem];exact IntWalk.i64_in _ (by simp only [List.getD_eq_getElem?_getD] at *;omega)))))
  · exact bd32
  · exact (cb3 Tryz.func37 fun wd hA=>m_bigeq (Join_any wd (((smD es (k+1))-1)-40587) 43200 0 (by omega) (by omega) (by omega) (by omega) (by omega) (by omega)) j3)
  · exact mv3
  · exact mv3
  · exact (bi3 (h:=by intro env w;(first | (simp [go_sem];done) | (simp [go_sem];exact IntWalk.i64_in _ (by omega)) | (simp [go_sem];exact IntWalk.i64_in _ (by simp only [List.getD_eq_getElem?_getD] at *;omega)))))
  · exact bd34
  · exact s_bsF rfl rfl rfl (.buildSlice 44 1 #[(0,.tmp 54)]) rfl 43 (fun env=>[.bool (decide (smS es (k+1)*1000000000000000000 < 0)),.slice ((bA (env 6))) ((digs (smS es (k+1)*1000000000000000000)).length) ((bC (env 6))),.bool (decide (smE es (k+1)*1000000000000000000 < 0)),.slice ((bA (env 11))) ((digs (smE es (k+1)*1000000000000000000)).length) ((bC (env 11))),.bool (decide (smB es (k+1)*1000000000000000000 < 0)),.slice ((bA (env 16))) ((digs (smB es (k+1)*1000000000000000000)).length) ((bC (env 16))),vI (((es.getD (k+1) (0,0)).2)-((es.getD k (0,0)).2))]) 1 rfl rfl (fun {D env ac wd} hA=>by intro o' hoq;have e54:ac.tmps[54]? = some (.agg #[.bool (decide (smS es (k+1)*1000000000000000000 < 0)),.slice ((bA (env 6))) ((digs (smS es (k+1)*1000000000000000000)).length) ((bC (env 6))),.bool (decide (smE es (k+1)*1000000000000000000 < 0)),.slice ((bA (env 11))) ((digs (smE es (k+1)*1000000000000000000)).length) ((bC (env 11))),.bool (decide (smB es (k+1)*1000000000000000000 < 0)),.slice ((bA (env 16))) ((digs (smB es (k+1)*1000000000000000000)).length) ((bC (env 16))),vI (((es.getD (k+1) (0,0)).2)-((es.getD k (0,0)).2))]):=hA.g rfl;unfold execOp;simp [go_sem,hoq,e54,Tryz.underlying44])
  intro E7 ac wd hJ
  have H_:Cur 58 w0 none none (Facts [fun w=>BigN w0.heap.size w (E7 6) (smS es (k+1)*1000000000000000000),fun w=>BigN w0.heap.size w (E7 11) (smE es (k+1)*1000000000000000000),fun w=>BigN w0.heap.size w (E7 16) (smB es (k+1)*1000000000000000000),fun w=>NewC w0.heap.size w 43 (E7 21) ([.bool (decide (smS es (k+1)*1000000000000000000 < 0)),.slice ((bA (E7 6))) ((digs (smS es (k+1)*1000000000000000000)).length) ((bC (E7 6))),.bool (decide (smE es (k+1)*1000000000000000000 < 0)),.slice ((bA (E7 11))) ((digs (smE es (k+1)*1000000000000000000)).length) ((bC (E7 11))),.bool (decide (smB es (k+1)*1000000000000000000 < 0)),.slice ((bA (E7 16))) ((digs (smB es (k+1)*1000000000000000000)).length) ((bC (E7 16))),vI (((es.getD (k+1) (0,0)).2)-((es.getD k (0,0)).2))])]) (fun w=>OwnK 43 7 w w0.heap.size v k cs∧WRow w0.heap.size w cs es k) [(1,vP (pb E1 0) 0),(4,vI (((k:Nat):Int)+1)),(34,v),(55,.slice (some ⟨pb2 (E7 21),0,none⟩) 1 1)] [((pb E1 0),24,[vI u,vI x,.slice A0 es.length c0])] ac wd:=hJ.curF rfl rfl rfl (fun _ h=>h) rfl rfl rfl
  clear hJ
  replace H_:=Cur.allTh H_ (Θ':=fun w=>OwnK 43 7 w w0.heap.size v k cs∧(fun w=>WRow w0.heap.size w cs es k∧BigN w0.heap.size w (E7 6) (smS es (k+1)*1000000000000000000)∧BigN w0.heap.size w (E7 11) (smE es (k+1)*1000000000000000000)∧BigN w0.heap.size w (E7 16) (smB es (k+1)*1000000000000000000)) w∧NewC w0.heap.size w 43 (E7 21) (winV es k (E7 6) (E7 11) (E7 16) ((es.getD (k+1) (0,0)).2-(es.getD k (0,0)).2))) (fun w hF hT=>⟨hT.1,⟨hT.2,hF.get 0 rfl,hF.get 1 rfl,hF.get 2 rfl⟩,hF.get 3 rfl⟩)
  refine reg_rest H_ [some 56,some 3] [[0],[0,1]] [] [] [some fun env=>.slice (sA (env 0)) (k+1) (sC (env 0)),some fun env=>.slice (sA (env 0)) (k+1) (sC (env 0))] [] (some (0,fun env w=>OwnK 43 7 w w0.heap.size (.slice (sA (env 0)) (k+1) (sC (env 0))) (k+1) (cs ++ (winV es k (E7 6) (E7 11) (E7 16) ((es.getD (k+1) (0,0)).2-(es.getD k (0,0)).2)))∧(fun w=>WRow w0.heap.size w cs es k∧BigN w0.heap.size w (E7 6) (smS es (k+1)*1000000000000000000)∧BigN w0.heap.size w (E7 11) (smE es (k+1)*1000000000000000000)∧BigN w0.heap.size w (E7 16) (smB es (k+1)*1000000000000000000)) w)) rfl (by kernel_rfl) (by kernel_rfl) (by kernel_rfl) (sn (sn s0 ?_) ?_) ?_
  · exact s_appY rfl rfl rfl rfl Tryz.underlying44 rwin_info rfl (by omega) (by omega) (fun w=>WRow w0.heap.size w cs es k∧BigN w0.heap.size w (E7 6) (smS es (k+1)*1000000000000000000)∧BigN w0.heap.size w (E7 11) (smE es (k+1)*1000000000000000000)∧BigN w0.heap.size w (E7 16) (smB es (k+1)*1000000000000000000)) [3] (fun _ _ hk h=>⟨h.1.keep hk,h.2.1.keep (keepT_int hk),h.2.2.1.keep (keepT_int hk),h.2.2.2.keep (keepT_int hk)⟩) rfl rfl rfl rfl (fun _ _ h=>by cases h) rfl (fun _ h=>⟨h.1,h.2.1⟩) (winV es k (E7 6) (E7 11) (E7 16) ((es.getD (k+1) (0,0)).2-(es.getD k (0,0)).2)) rfl (by simp [Value.oneCell']) rfl (by omega) (fun _ h=>h.2.2.2.2) (fun _=>rfl) (fun _=>rfl)
  · exact mv3
  intro E8 ac wd hJ
  have H_:Cur 58 w0 none none (Facts []) (fun w=>OwnK 43 7 w w0.heap.size (.slice (sA (E8 0)) (k+1) (sC (E8 0))) (k+1) (cs ++ (winV es k (E7 6) (E7 11) (E7 16) ((es.getD (k+1) (0,0)).2-(es.getD k (0,0)).2)))∧(fun w=>WRow w0.heap.size w cs es k∧BigN w0.heap.size w (E7 6) (smS es (k+1)*1000000000000000000)∧BigN w0.heap.size w (E7 11) (smE es (k+1)*1000000000000000000)∧BigN w0.heap.size w (E7 16) (smB es (k+1)*1000000000000000000)) w) [(1,vP (pb E1 0) 0),(3,.slice (sA (E8 0)) (k+1) (sC (E8 0))),(4,vI (((k:Nat):Int)+1))] [((pb E1 0),24,[vI u,vI x,.slice A0 es.length c0])] ac wd:=hJ.curF rfl rfl rfl (fun _ h=>h) rfl rfl rfl
  clear hJ
  refine fq1 H_ 2 (tri 3) [_,vI ((((k:Nat):Int)+1)+1),_] (fun _=>[(4,vI ((((k:Nat):Int)+1)+1))]) (s:=⟨mv3,bi3 (h:=by intro env w;(first | (simp [go_sem];done) | (simp [go_sem];exact IntWalk.i64_in _ (by omega)) | (simp [go_sem];exact IntWalk.i64_in _ (by simp only [List.getD_eq_getElem?_getD] at *;omega)))),mv3⟩) (k:=fun E9 ac wd H_=>?_)
  refine then_n ?_
  exact ⟨⟨.slice (sA (E8 0)) (k+1) (sC (E8 0)),cs ++ (winV es k (E7 6) (E7 11) (E7 16) ((es.getD (k+1) (0,0)).2-(es.getD k (0,0)).2)),k+1,by omega,((H_.take (M1:=[_]) rfl).re rfl).th (fun w hw=>⟨hw.1,hw.2.1.snoc rfl hw.2.2.1 hw.2.2.2.1 hw.2.2.2.2⟩)⟩,by rw [sI_eq (H_.g (t:=4) rfl),hmu];omega⟩
  have hk:es.length-1=k:=by omega
  refine fq1 H_ 4 [[0],[1],[1,2],[1,2,3],r_ 5] [_,_,_,vN es.length,bF] (fun _=>[(12,bF)]) (s:=⟨mv3,fa3 2,ld31 0 sh22,ln_ Tryz.underlying22 fun _ env _ wd hA=>(hv.gn hA.j.st.gr).els,bi3⟩) (k:=fun E5 ac wd H_=>?_)
  refine cF3 H_ ?_
  refine fq1 H_ 1 [[0],[0,1]] [_,_] (fun _=>[(2,v)]) (s:=⟨mv3,mv3⟩) (k:=fun E6 ac wd H_=>?_)
  refine lvT3 Tryz.results14 H_ ?_
  refine ⟨_,rfl,H_.st.below,cs,?_,fun b hb=>own_geM (H_.st.nowT).1 hb,?_⟩
  · rw [hk];exact (H_.st.nowT).1.rowT (by omega) (fun i hi=>by have hl:=(H_.st.nowT).2.1;rw [List.getElem?_eq_getElem (by omega)];rfl)
  · rw [hk];exact (H_.st.nowT).2
def rIn (es:List (Int × Int)) (z:Int):Int:=if smI es z (smM es z es.length)=true then ((smM es z es.length:Nat):Int)-1 else -1
theorem rIn_yes {es:List (Int × Int)} {z:Int} {m:Nat} (hm:smM es z es.length=m) (h:smI es z m=true):rIn es z=(m:Int)-1:=by subst hm;unfold rIn;rw [if_pos h]
theorem rIn_no {es:List (Int × Int)} {z:Int} {m:Nat} (hm:smM es z es.length=m) (h:smI es z m=false):rIn es z = -1:=by subst hm;unfold rIn;rw [h];rfl
theorem rin_any (w0:World) (A9:Option Addr) (c9:Nat) (es:List (Int × Int)) (hW:WinsB w0 (.slice A9 (es.length-1) c9) 0 es) (hp:okPre es es.length=true) (hn0:0 < es.length) (hl64:es.length≤64) (p:Bool) (A1:Option Addr) (k1_:Nat) (z:Int) (hz0:p=decide (z < 0)) (hr:Row w0 (.slice A1 (digs z).length k1_) (digs z)):Calls Tryz.prog 33 #[.slice A9 ((es.length-1)) c9,.agg #[.bool (p),.slice A1 ((digs z).length) k1_]] w0 fun e w'=>e = .returned (vI (rIn es z))∧Below w0.heap.size w0 w':=by
 obtain ⟨cs,hRT,_,hWR⟩:=hW
 have hst:=St.start w0 (Θ:=fun _=>True) (fun _ _=>trivial)
 refine en_ Tryz.func33 hst 31 [(0,.slice A9 ((es.length-1)) c9),(1,.agg #[.bool (p),.slice A1 ((digs z).length) k1_])] (fun ac H_=>?_)
 replace H_:=H_.facts
 refine fq H_ 1 [[0],[1]] [_,_] (fun E1=>[(3,vP (pb E1 0) 0)]) (W:=[{ i:=0,T:=40,c0:=[.bool (p),rS z A1 k1_] }]) (s:=⟨bx3 0,mv3⟩) (k:=fun E1 ac wd H_=>?_)
 refine fq1 H_ 0 [[0]] [_] (fun _=>[(5,vI 0)]) (s:=mv3) (k:=fun E2 ac wd H_=>?_)
 refine lp3 (fun ac wd=>∃ i:Nat,(i≤es.length-1∧∀ j,j < i→winB es z (j+1)=false)∧Cur 31 w0 none none (Facts []) (fun _=>True) [(0,.slice A9 ((es.length-1)) c9),(3,vP (pb E1 0) 0),(5,vN i)] [((pb E1 0),40,[.bool (p),rS z A1 k1_])] ac wd) (fun ac _=>(((es.length-1:Nat):Int)-sI ac 5).toNat) ⟨0,⟨by omega,fun j hj=>absurd hj (Nat.not_lt_zero j)⟩,(H_.re rfl).th (fun _ h=>h)⟩ ?_
 rintro ac wd ⟨i,⟨hi1,hN⟩,H_⟩
 have hmu:sI ac 5=((i:Nat):Int):=sI_eq (H_.g (t:=5) rfl)
 by_cases h1:i < es.length-1
 obtain ⟨⟨w11,V1,d1,w12,w13⟩,⟨w21,V2,d2,w22,w23⟩,⟨w31,V3,d3,w32,w33⟩,wd0⟩:=hWR.2 i (by omega);obtain ⟨b0,b1,b2,b3,b4,b5,b6,b7⟩:=win_in hp (i:=i+1) (by omega) (by omega)
 refine fq1 H_ 3 [[0],[1],[1,2],r_ 4] [_,_,vN (es.length-1),bT] (fun _=>[(9,bT)]) (s:=⟨mv3,mv3,ln_ Tryz.underlying44 fun _ env _ wd hA=>(hRT.grown hA.j.st.gr).els,bi3⟩) (k:=fun E4 ac wd H_=>?_)
 refine cT3 H_ ?_
 by_cases hA:smS es (i+1)*1000000000000000000≤z
 by_cases hB:z < smE es (i+1)*1000000000000000000
 refine fq1 H_ 17 [[0],[1],[2],[1,2,3],[1,2,3,4],[1,2,3,4,5],r_ 7,r_ 8,r_ 9,r_ 10,r_ 9++[10],r_ 9++[11],r_ 9++[10,11,12],r_ 9++[10,11,12,13],r_ 9++[10,11,12,13,14],r_ 16,r_ 17,r_ 18] [_,_,_,elt (.slice A9 ((es.length-1)) c9) (i*7),elt (.slice A9 ((es.length-1)) c9) (i*7),K_ (.agg #[.bool (decide (smS es (i+1)*1000000000000000000 < 0)),rS (smS es (i+1)*1000000000000000000) V1 d1]),_,bT,_,_,_,_,elt (.slice A9 ((es.length-1)) c9) (i*7),elt (.slice A9 ((es.length-1)) c9) (i*7+2),K_ (.agg #[.bool (decide (smE es (i+1)*1000000000000000000 < 0)),rS (smE es (i+1)*1000000000000000000) V2 d2]),_,bT,bT] (fun _=>[(29,bT)]) (s:=⟨ld3b 0 sh40,mv3,mv3,ia_ Tryz.underlying44 sz43 i (i*7) ((i:Nat):Int) (fun _ env _ wd hA=>(hRT.grown hA.j.st.gr).els) (rfl) (by omega) rfl,s_fa rfl rfl rfl (fun _=>wanted_none rfl _) (i*7) 0 (i*7) rfl (s:=fun _=>.slice A9 ((es.length-1)) c9) rfl (fun _=>rfl) (fun {D env ac wd} hA=>(hRT.grown hA.j.st.gr).els) (by omega) (fun b q w=>by simp [go_sem,Tryz.underlying43]),le_ (i*7) (fun _ env _ wd hA=>(hRT.grown hA.j.st.gr).els) (by omega) (leGb sh40 (cell_at w11) (cell_at w12)),cw3 Tryz.func21 fun wd hA=>Cmp_any wd p A1 k1_ z hz0 (hr.grown hA.j.st.gr)  (decide (smS es (i+1)*1000000000000000000 < 0)) V1 d1 (smS es (i+1)*1000000000000000000) rfl ((show RowN 0 w0 (.slice V1 (digs (smS es (i+1)*1000000000000000000)).length d1) (digs (smS es (i+1)*1000000000000000000)) from w13).1.grown hA.j.st.gr) ,bi3 (h:=by intro env w;(first | (simp [go_sem,cm_le,cm_lt,cm_ge,cm_gt,hA];done) | (simp [go_sem,cm_le,cm_lt,cm_ge,cm_gt];omega))),mv3,ld3b 0 sh40,gm3,gm3,ia_ Tryz.underlying44 sz43 i (i*7) ((i:Nat):Int) (fun _ env _ wd hA=>(hRT.grown hA.j.st.gr).els) (rfl) (by omega) rfl,s_fa rfl rfl rfl (fun hA=>hA.gy rfl rfl rfl) (i*7) 2 (i*7+2) rfl (s:=fun _=>.slice A9 ((es.length-1)) c9) rfl (fun _=>rfl) (fun {D env ac wd} hA=>(hRT.grown hA.j.st.gr).els) (by omega) (fun b q w=>by simp [go_sem,Tryz.underlying43]),le_ (i*7+2) (fun _ env _ wd hA=>(hRT.grown hA.j.st.gr).els) (by omega) (leGb sh40 (cell_at w21) (cell_at w22)),cw3 Tryz.func21 fun wd hA=>Cmp_any wd p A1 k1_ z hz0 (hr.grown hA.j.st.gr)  (decide (smE es (i+1)*1000000000000000000 < 0)) V2 d2 (smE es (i+1)*1000000000000000000) rfl ((show RowN 0 w0 (.slice V2 (digs (smE es (i+1)*1000000000000000000)).length d2) (digs (smE es (i+1)*1000000000000000000)) from w23).1.grown hA.j.st.gr) ,bi3 (h:=by intro env w;(first | (simp [go_sem,cm_le,cm_lt,cm_ge,cm_gt,hB];done) | (simp [go_sem,cm_le,cm_lt,cm_ge,cm_gt];omega))),pk3 (h:=by intro env w;(first | (simp [go_sem,cm_le,cm_lt,cm_ge,cm_gt,hB];done) | (simp [go_sem,cm_le,cm_lt,cm_ge,cm_gt];omega)))⟩) (k:=fun E5 ac wd H_=>?_)
 refine cT3 H_ ?_
 refine fq1 H_ 1 [[0],[0,1]] [_,_] (fun _=>[(4,vN i)]) (s:=⟨mv3,mv3⟩) (k:=fun E6 ac wd H_=>?_)
 refine lvT3 Tryz.results33 H_ ?_
 have hW:winB es z (i+1)=true:=by unfold winB;simp only [Bool.and_eq_true,decide_eq_true_eq];exact ⟨hA,hB⟩
 obtain ⟨e1,e2⟩:=(win_is hp (by omega) (by omega)).1 hW
 have e3:rIn es z=((i:Nat):Int):=by rw [rIn_yes e1.symm (by rw [e1];exact e2)];omega
 exact ⟨by rw [e3],H_.st.below⟩
 refine fq1 H_ 17 [[0],[1],[2],[1,2,3],[1,2,3,4],[1,2,3,4,5],r_ 7,r_ 8,r_ 9,r_ 10,r_ 9++[10],r_ 9++[11],r_ 9++[10,11,12],r_ 9++[10,11,12,13],r_ 9++[10,11,12,13,14],r_ 16,r_ 17,r_ 18] [_,_,_,elt (.slice A9 ((es.length-1)) c9) (i*7),elt (.slice A9 ((es.length-1)) c9) (i*7),K_ (.agg #[.bool (decide (smS es (i+1)*1000000000000000000 < 0)),rS (smS es (i+1)*1000000000000000000) V1 d1]),_,bT,_,_,_,_,elt (.slice A9 ((es.length-1)) c9) (i*7),elt (.slice A9 ((es.length-1)) c9) (i*7+2),K_ (.agg #[.bool (decide (smE es (i+1)*1000000000000000000 < 0)),rS (smE es (i+1)*1000000000000000000) V2 d2]),_,bF,bF] (fun _=>[(29,bF)]) (s:=⟨ld3b 0 sh40,mv3,mv3,ia_ Tryz.underlying44 sz43 i (i*7) ((i:Nat):Int) (fun _ env _ wd hA=>(hRT.grown hA.j.st.gr).els) (rfl) (by omega) rfl,s_fa rfl rfl rfl (fun _=>wanted_none rfl _) (i*7) 0 (i*7) rfl (s:=fun _=>.slice A9 ((es.length-1)) c9) rfl (fun _=>rfl) (fun {D env ac wd} hA=>(hRT.grown hA.j.st.gr).els) (by omega) (fun b q w=>by simp [go_sem,Tryz.underlying43]),le_ (i*7) (fun _ env _ wd hA=>(hRT.grown hA.j.st.gr).els) (by omega) (leGb sh40 (cell_at w11) (cell_at w12)),cw3 Tryz.func21 fun wd hA=>Cmp_any wd p A1 k1_ z hz0 (hr.grown hA.j.st.gr)  (decide (smS es (i+1)*1000000000000000000 < 0)) V1 d1 (smS es (i+1)*1000000000000000000) rfl ((show RowN 0 w0 (.slice V1 (digs (smS es (i+1)*1000000000000000000)).length d1) (digs (smS es (i+1)*1000000000000000000)) from w13).1.grown hA.j.st.gr) ,bi3 (h:=by intro env w;(first | (simp [go_sem,cm_le,cm_lt,cm_ge,cm_gt,hA];done) | (simp [go_sem,cm_le,cm_lt,cm_ge,cm_gt];omega))),mv3,ld3b 0 sh40,gm3,gm3,ia_ Tryz.underlying44 sz43 i (i*7) ((i:Nat):Int) (fun _ env _ wd hA=>(hRT.grown hA.j.st.gr).els) (rfl) (by omega) rfl,s_fa rfl rfl rfl (fun hA=>hA.gy rfl rfl rfl) (i*7) 2 (i*7+2) rfl (s:=fun _=>.slice A9 ((es.length-1)) c9) rfl (fun _=>rfl) (fun {D env ac wd} hA=>(hRT.grown hA.j.st.gr).els) (by omega) (fun b q w=>by simp [go_sem,Tryz.underlying43]),le_ (i*7+2) (fun _ env _ wd hA=>(hRT.grown hA.j.st.gr).els) (by omega) (leGb sh40 (cell_at w21) (cell_at w22)),cw3 Tryz.func21 fun wd hA=>Cmp_any wd p A1 k1_ z hz0 (hr.grown hA.j.st.gr)  (decide (smE es (i+1)*1000000000000000000 < 0)) V2 d2 (smE es (i+1)*1000000000000000000) rfl ((show RowN 0 w0 (.slice V2 (digs (smE es (i+1)*1000000000000000000)).length d2) (digs (smE es (i+1)*1000000000000000000)) from w23).1.grown hA.j.st.gr) ,bi3 (h:=by intro env w;(first | (simp [go_sem,cm_le,cm_lt,cm_ge,cm_gt,hB];done) | (simp [go_sem,cm_le,cm_lt,cm_ge,cm_gt];omega))),pk3 (h:=by intro env w;(first | (simp [go_sem,cm_le,cm_lt,cm_ge,cm_gt,hB];done) | (simp [go_sem,cm_le,cm_lt,cm_ge,cm_gt];omega)))⟩) (k:=fun E5 ac wd H_=>?_)
 refine cF3 H_ ?_
 refine fq1 H_ 2 (tri 3) [_,vI (((i:Nat):Int)+1),_] (fun _=>[(5,vI (((i:Nat):Int)+1))]) (s:=⟨mv3,bi3 (h:=by intro env w;(first | (simp [go_sem];done) | (simp [go_sem];exact IntWalk.i64_in _ (by omega)) | (simp [go_sem];exact IntWalk.i64_in _ (by simp only [List.getD_eq_getElem?_getD] at *;omega)))),mv3⟩) (k:=fun E6 ac wd H_=>?_)
 refine then_n ?_
 have hW:winB es z (i+1)=false:=by unfold winB;simp only [Bool.and_eq_false_iff,decide_eq_false_iff_not];omega
 exact ⟨⟨i+1,⟨by omega,fun j hj=>by by_cases e:j=i;(subst e;exact hW);exact hN j (by omega)⟩,(H_.take (M1:=[_]) rfl).re rfl⟩,by rw [sI_eq (H_.g (t:=5) rfl),hmu];omega⟩
 refine fq1 H_ 17 [[0],[1],[2],[1,2,3],[1,2,3,4],[1,2,3,4,5],r_ 7,r_ 8,r_ 9,r_ 10,r_ 9++[10],r_ 9++[11],r_ 9++[10,11,12],r_ 9++[10,11,12,13],r_ 9++[10,11,12,13,14],r_ 16,r_ 17,r_ 18] [_,_,_,elt (.slice A9 ((es.length-1)) c9) (i*7),elt (.slice A9 ((es.length-1)) c9) (i*7),K_ (.agg #[.bool (decide (smS es (i+1)*1000000000000000000 < 0)),rS (smS es (i+1)*1000000000000000000) V1 d1]),_,bF,_,_,_,_,_,_,_,_,_,bF] (fun _=>[(29,bF)]) (s:=⟨ld3b 0 sh40,mv3,mv3,ia_ Tryz.underlying44 sz43 i (i*7) ((i:Nat):Int) (fun _ env _ wd hA=>(hRT.grown hA.j.st.gr).els) (rfl) (by omega) rfl,s_fa rfl rfl rfl (fun _=>wanted_none rfl _) (i*7) 0 (i*7) rfl (s:=fun _=>.slice A9 ((es.length-1)) c9) rfl (fun _=>rfl) (fun {D env ac wd} hA=>(hRT.grown hA.j.st.gr).els) (by omega) (fun b q w=>by simp [go_sem,Tryz.underlying43]),le_ (i*7) (fun _ env _ wd hA=>(hRT.grown hA.j.st.gr).els) (by omega) (leGb sh40 (cell_at w11) (cell_at w12)),cw3 Tryz.func21 fun wd hA=>Cmp_any wd p A1 k1_ z hz0 (hr.grown hA.j.st.gr)  (decide (smS es (i+1)*1000000000000000000 < 0)) V1 d1 (smS es (i+1)*1000000000000000000) rfl ((show RowN 0 w0 (.slice V1 (digs (smS es (i+1)*1000000000000000000)).length d1) (digs (smS es (i+1)*1000000000000000000)) from w13).1.grown hA.j.st.gr) ,bi3 (h:=by intro env w;(first | (simp [go_sem,cm_le,cm_lt,cm_ge,cm_gt,hA];done) | (simp [go_sem,cm_le,cm_lt,cm_ge,cm_gt];omega))),mv3,off_,off_,off_,off_,off_,off_,off_,off_,pk3⟩) (k:=fun E5 ac wd H_=>?_)
 refine cF3 H_ ?_
 refine fq1 H_ 2 (tri 3) [_,vI (((i:Nat):Int)+1),_] (fun _=>[(5,vI (((i:Nat):Int)+1))]) (s:=⟨mv3,bi3 (h:=by intro env w;(first | (simp [go_sem];done) | (simp [go_sem];exact IntWalk.i64_in _ (by omega)) | (simp [go_sem];exact IntWalk.i64_in _ (by simp only [List.getD_eq_getElem?_getD] at *;omega)))),mv3⟩) (k:=fun E6 ac wd H_=>?_)
 refine then_n ?_
 have hW:winB es z (i+1)=false:=by unfold winB;simp only [Bool.and_eq_false_iff,decide_eq_false_iff_not];omega
 exact ⟨⟨i+1,⟨by omega,fun j hj=>by by_cases e:j=i;(subst e;exact hW);exact hN j (by omega)⟩,(H_.take (M1:=[_]) rfl).re rfl⟩,by rw [sI_eq (H_.g (t:=5) rfl),hmu];omega⟩
 obtain rfl:i=es.length-1:=by omega
 refine fq1 H_ 3 [[0],[1],[1,2],r_ 4] [_,_,vN (es.length-1),bF] (fun _=>[(9,bF)]) (s:=⟨mv3,mv3,ln_ Tryz.underlying44 fun _ env _ wd hA=>(hRT.grown hA.j.st.gr).els,bi3⟩) (k:=fun E4 ac wd H_=>?_)
 refine cF3 H_ ?_
 refine fq1 H_ 0 [[0]] [_] (fun _=>[(4,vI (-1))]) (s:=mv3) (k:=fun E5 ac wd H_=>?_)
 refine lvT3 Tryz.results33 H_ ?_
 have e2:smI es z (smM es z es.length)=false:=win_none hp hn0 hN
 exact ⟨by rw [rIn_no rfl e2],H_.st.below⟩
theorem rInT_any (w0:World) (A0:Option Addr) (c0:Nat) (es:List (Int × Int)) (u x:Int) (hv:Ents w0 w0.heap.size (.slice A0 es.length c0) es) (hp:okPre es es.length=true) (hn0:0 < es.length) (hl64:es.length≤64) (p:Bool) (A1:Option Addr) (k1_:Nat) (z:Int) (hz0:p=decide (z < 0)) (hr:Row w0 (.slice A1 (digs z).length k1_) (digs z)):Calls Tryz.prog 12 #[.agg #[vI u,vI x,.slice A0 es.length c0],.agg #[.bool (p),.slice A1 ((digs z).length) k1_]] w0 fun e w'=>e = .returned (vI (rIn es z))∧Below w0.heap.size w0 w':=by
 have hst:=St.start w0 (Θ:=fun _=>True) (fun _ _=>trivial)
 refine en_ Tryz.func12 hst 9 [(0,.agg #[vI u,vI x,.slice A0 es.length c0]),(1,.agg #[.bool (p),.slice A1 ((digs z).length) k1_])] (fun ac H_=>?_)
 replace H_:=H_.facts
 refine fq H_ 2 [[0],[1],[2]] [_,_,_] (fun E1=>[(2,vP (pb E1 0) 0),(3,vP (pb E1 1) 0)]) (W:=[{ i:=0,T:=24,c0:=[vI u,vI x,.slice A0 es.length c0] },{ i:=1,T:=40,c0:=[.bool (p),rS z A1 k1_] }]) (s:=⟨bx3 0,bx3 1,mv3⟩) (k:=fun E1 ac wd H_=>?_)
 refine fq H_ 4 [[0],[0,1],[2],r_ 4,r_ 5] [_,KE_ fun env=>.slice ((sA (env 1))) ((es.length-1)) ((sC (env 1))),_,_,_] (fun _=>[(4,vI (rIn es z))]) (F:=[(1,fun env w=>WinsB w (env 1) 0 es)]) (s:=⟨ld3c 0 sh24,s_factO rfl rfl rfl Tryz.func14 (by kernel_rfl) rfl (fun _=>wanted_none rfl _) (fun v w=>WinsB w v 0 es) (winsF es.length) (fun v w B=>WinsB w v B es) rfl rfl (fun v w h=>h.form) (fun v w w' B hk h=>h.keepB hk) (fun {D env ac wd} hA=>⟨_,hA.args (vs:=[.agg #[vI u,vI x,.slice A0 es.length c0]]) rfl,rwindows_any wd A0 c0 es u x (hv.gn hA.j.st.gr) hp hn0 hl64⟩),ld3b 1 sh40,cw3e Tryz.func33 fun env wd hA=>rin_any wd (sA (env 1)) (sC (env 1)) es (At.wins hA 1 rfl rfl rfl) hp hn0 hl64 p A1 k1_ z hz0 (hr.grown hA.j.st.gr),mv3⟩) (k:=fun E2 ac wd H_=>?_)
 refine lvT3 Tryz.results12 H_ ?_
 exact ⟨rfl,H_.st.below⟩
theorem fir_join (es:List (Int × Int)):jn 0 (smD es 0*86400+smO es 0) 0=firZ es:=by unfold jn firZ;omega
theorem rfirst_any (w0:World) (A0:Option Addr) (c0:Nat) (es:List (Int × Int)) (u x:Int) (hv:Ents w0 w0.heap.size (.slice A0 es.length c0) es) (hp:okPre es es.length=true) (hn0:0 < es.length) (hl64:es.length≤64):Calls Tryz.prog 48 #[.agg #[vI u,vI x,.slice A0 es.length c0]] w0 fun e w'=>∃ v,e = .returned v∧Below w0.heap.size w0 w'∧BigN w0.heap.size w' v (firZ es):=by
 obtain ⟨f0,f1,f2,f3,f4⟩:=fir_in hp hn0
 have hst:=St.start w0 (Θ:=fun _=>True) (fun _ _=>trivial)
 refine en_ Tryz.func48 hst 10 [(0,.agg #[vI u,vI x,.slice A0 es.length c0])] (fun ac H_=>?_)
 replace H_:=H_.facts
 refine fq H_ 1 [[0],[1]] [_,_] (fun E1=>[(1,vP (pb E1 0) 0),(2,vP (pb E1 1) 0)]) (W:=[{ i:=0,T:=24,c0:=[vI u,vI x,.slice A0 es.length c0] },{ i:=1,T:=40,c0:=[bF,.slice none 0 0] }]) (s:=⟨bx3 0,al_ 1⟩) (k:=fun E1 ac wd H_=>?_)
 refine fq H_ 7 (tri 8) [_,_,elt (.slice A0 es.length c0) (0*2),K_ (.agg #[vI ((es.getD 0 (0,0)).1),vI ((es.getD 0 (0,0)).2)]),_,vL 0 (smD es 0*86400+smO es 0) 0,_,none] (fun _=>[]) (S:=[⟨1,7,fun env=>[.bool (decide (firZ es < 0)),rS (firZ es) ((bA (env 6))) ((bC (env 6)))]⟩]) (F:=[fB w0 6 (firZ es)]) (s:=⟨fa3 2,ld31 0 sh22,ia_ Tryz.underlying22 sz89 0 (0*2) 0 (fun _ env _ wd hA=>(hv.gn hA.j.st.gr).els) (rfl) (by omega) rfl,le_ (0*2) (fun _ env _ wd hA=>(hv.gn hA.j.st.gr).els) (by omega) (leGb sh89 (by exact enC_0 es 0) (by exact enC_1 es 0)),cl3 Tryz.func82 ((Ret.eq (rstart_any ((es.getD 0 (0,0)).1) ((es.getD 0 (0,0)).2) (okPre_num hp (i:=0) hn0).1 (okPre_num hp (i:=0) hn0).2.1 (okPre_num hp (i:=0) hn0).2.2.1 (okPre_num hp (i:=0) hn0).2.2.2.1) (m_start es 0))),bd31,cb3 Tryz.func37 fun wd hA=>m_bigeq (Join_any wd 0 (smD es 0*86400+smO es 0) 0 (by omega) (by omega) (by omega) (by omega) (by omega) (by omega)) (fir_join es),se3 1 sh40⟩) (k:=fun E2 ac wd H_=>?_)
 refine lvC3 (v:=bigF (firZ es) (E2 6)) Tryz.results48 H_ 1 (loadGc sh40 rfl ⟨rfl,rfl,trivial⟩) ?_
 exact ⟨_,rfl,H_.st.below,BigN.mk rfl rfl (Facts.bN H_.st.now 0 rfl)⟩
end Go.Proofs.YtimpognkffnjkaaGreat
namespace Go.Proofs.YtimpognkffnjkaaGreat
open Go.RowKit
attribute [local go_sem] vN bT bF rS vW vM vL vT2 vT3 vP vI execOp Act.eval evC bigF vB hi_zero lo_zero Tryz.underlying24 Tryz.underlying40 Tryz.underlying43 Tryz.underlying98
def SofX (w:World) (v:Value) (z1 z2 k:Int):Prop:=v = .tuple #[tp v 0,tp v 1,vI k]∧BigX none w (tp v 0) z1∧BigX none w (tp v 1) z2
def sofF (z1 z2 k:Int) (v:Value):Value:=.tuple #[bigF z1 (tp v 0),bigF z2 (tp v 1),vI k]
section
variable {w w':World} {v v1 v2:Value} {z1 z2 k:Int}
theorem SofX.mk (h1:BigX none w v1 z1) (h2:BigX none w v2 z2):SofX w (.tuple #[v1,v2,vI k]) z1 z2 k:=⟨rfl,h1,h2⟩
theorem SofX.form (h:SofX w v z1 z2 k):v=sofF z1 z2 k v:=by
 obtain ⟨h0,h1,h2⟩:=h
 unfold sofF
 rw [← h1.form,← h2.form]
 exact h0
theorem SofX.keep (h:SofX w v z1 z2 k) (hk:Keep none w w'):SofX w' v z1 z2 k:=⟨h.1,h.2.1.keep hk,h.2.2.keep hk⟩
theorem BigX.of {b:Bool} {z:Int} {A:Option Addr} {c:Nat} (hb:b=decide (z < 0)) (h:Row w (.slice A (digs z).length c) (digs z)):BigX none w (.agg #[.bool b,.slice A (digs z).length c]) z:=by subst hb;exact ⟨A,c,rfl,h,fun _ e=>by cases e⟩
theorem SofX.mk' {k':Int} (h1:BigX none w v1 z1) (h2:BigX none w v2 z2) (hk:k'=k):SofX w (.tuple #[v1,v2,vI k']) z1 z2 k:=hk▸⟨rfl,h1,h2⟩
theorem BigX.zero (w:World):BigX none w (.agg #[bF,.slice none 0 0]) 0:=by
 have h:digs 0=[]:=digs_zero
 have h2:=BigX.of (w:=w) (b:=false) (z:=0) (A:=none) (c:=0) (by decide) (by rw [h];exact ⟨none,0,rfl,Nat.le_refl _,by simp,.inl rfl⟩)
 rw [h] at h2;exact h2
end
section
variable {L:List (World→Prop)} {w:World} {z1 z2 k:Int}
theorem Facts.sof1 {v:Value} (h:Facts L w) (j:Nat) (hj:L[j]? = some (fun w=>SofX w v z1 z2 k)):Row w (.slice (bA (tp v 0)) (digs z1).length (bC (tp v 0))) (digs z1):=BigX.row (show SofX w v z1 z2 k from h.get j hj).2.1
theorem Facts.sof2 {v:Value} (h:Facts L w) (j:Nat) (hj:L[j]? = some (fun w=>SofX w v z1 z2 k)):Row w (.slice (bA (tp v 1)) (digs z2).length (bC (tp v 1))) (digs z2):=BigX.row (show SofX w v z1 z2 k from h.get j hj).2.2
variable {R:Reg} {i:Nat} {D:Nat→Bool} {env:Env} {a:Act}
theorem At.sof1 (h:At R i D env a w) (j:Nat) (hj:((R.cl.getD i []).contains j && !(j == i))=true) (hs:((R.cl.getD j []).contains j)=true) (hF:R.F.filter (fun p=>Nat.beq p.1 j)=[(j,fun env w=>SofX w (env j) z1 z2 k)]):Row w (.slice (bA (tp (env j) 0)) (digs z1).length (bC (tp (env j) 0))) (digs z1):=BigX.row (h.fact j (φ:=fun v w=>SofX w v z1 z2 k) hj hs hF).2.1
theorem At.sof2 (h:At R i D env a w) (j:Nat) (hj:((R.cl.getD i []).contains j && !(j == i))=true) (hs:((R.cl.getD j []).contains j)=true) (hF:R.F.filter (fun p=>Nat.beq p.1 j)=[(j,fun env w=>SofX w (env j) z1 z2 k)]):Row w (.slice (bA (tp (env j) 1)) (digs z2).length (bC (tp (env j) 1))) (digs z2):=BigX.row (h.fact j (φ:=fun v w=>SofX w v z1 z2 k) hj hs hF).2.2
end
def rsR (es:List (Int × Int)) (z:Int):Int:=if smI es z (smM es z es.length)=true then (z-smS es (smM es z es.length)*1000000000000000000)*86400 % smL es (smM es z es.length) else 0
def rsB (es:List (Int × Int)) (z:Int):Int:=if smI es z (smM es z es.length)=true then smL es (smM es z es.length) else 1
section
variable {es:List (Int × Int)} {z:Int} {m:Nat}
theorem rs_in (hm:smM es z es.length=m) (h:smI es z m=true):softZ es z=smB es m*1000000000000000000+(z-smS es m*1000000000000000000)*86400 / smL es m∧rsR es z=(z-smS es m*1000000000000000000)*86400 % smL es m∧rsB es z=smL es m:=by
 subst hm;unfold softZ smV rsR rsB;rw [if_pos h,if_pos h,if_pos h];exact ⟨rfl,rfl,rfl⟩
theorem rs_out (hm:smM es z es.length=m) (h:smI es z m=false):softZ es z=z-(3506716800+smO es m)*1000000000000000000∧rsR es z=0∧rsB es z=1:=by
 subst hm;unfold softZ smV rsR rsB;rw [h];exact ⟨rfl,rfl,rfl⟩
theorem rIn_k {k:Nat} (hm:smM es z es.length=k+1) (h:smI es z (k+1)=true):vI (rIn es z)=vI ((k:Nat):Int):=by rw [rIn_yes hm h];congr 1;omega
theorem rIn_none (hm:smM es z es.length=m) (h:smI es z m=false):vI (rIn es z)=vI (-1):=by rw [rIn_no hm h]
theorem cnt_m {o:Nat} (h:o=m+1):vI ((o:Int)-1)=vI ((m:Nat):Int):=by subst h;congr 1;omega
end
theorem rsoft_any (w0:World) (A0:Option Addr) (c0:Nat) (es:List (Int × Int)) (u x:Int) (hv:Ents w0 w0.heap.size (.slice A0 es.length c0) es) (hp:okPre es es.length=true) (hn0:0 < es.length) (A9:Option Addr) (c9:Nat) (hW:WinsB w0 (.slice A9 (es.length-1) c9) 0 es) (hl64:es.length≤64) (p:Bool) (A1:Option Addr) (k1_:Nat) (z:Int) (hz0:p=decide (z < 0)) (hr:Row w0 (.slice A1 (digs z).length k1_) (digs z)) (hz:InW z) (hf:firZ es≤z) (hbz:-1099511627776≤z / 1000000000000000000 / 86400∧z / 1000000000000000000 / 86400≤1099511627776):Calls Tryz.prog 49 #[.agg #[vI u,vI x,.slice A0 es.length c0],.slice A9 ((es.length-1)) c9,.agg #[.bool (p),.slice A1 ((digs z).length) k1_]] w0 fun e w'=>∃ v,e = .returned v∧Below w0.heap.size w0 w'∧SofX w' v (softZ es z) (rsR es z) (rsB es z):=by
 have hW0:=hW
 obtain ⟨cs,hRT,_,hWR⟩:=hW0
 have hst:=St.start w0 (Θ:=fun _=>True) (fun _ _=>trivial)
 refine en_ Tryz.func49 hst 74 [(0,.agg #[vI u,vI x,.slice A0 es.length c0]),(1,.slice A9 ((es.length-1)) c9),(2,.agg #[.bool (p),.slice A1 ((digs z).length) k1_])] (fun ac H_=>?_)
 replace H_:=H_.facts
 refine fq H_ 4 [[0],[1],[2],[3],[4]] [_,_,_,_,_] (fun E1=>[(3,vP (pb E1 0) 0),(5,vP (pb E1 1) 0),(6,vP (pb E1 2) 0),(7,vP (pb E1 3) 0)]) (W:=[{ i:=0,T:=24,c0:=[vI u,vI x,.slice A0 es.length c0] },{ i:=1,T:=40,c0:=[.bool (p),rS z A1 k1_] },{ i:=2,T:=40,c0:=[bF,.slice none 0 0] },{ i:=3,T:=40,c0:=[bF,.slice none 0 0] }]) (s:=⟨bx3 0,bx3 1,al_ 2,al_ 3,mv3⟩) (k:=fun E1 ac wd H_=>?_)
 obtain ⟨m,hm⟩:∃ m,smM es z es.length=m:=⟨_,rfl⟩
 obtain ⟨a1,a2⟩:=smM_spec es z es.length
 rw [hm] at a1 a2
 cases hI:smI es z m
 obtain ⟨o1,o2⟩:=soft_at hp hn0 (z:=z) hf (by rw [hm];exact hI);have hml:m < es.length:=(by rcases a1 with h | h <;> omega);have hmo:=okPre_num hp (i:=m) hml;have hmo2:0≤smO es m∧smO es m≤1000:=⟨hmo.2.2.1,hmo.2.2.2.1⟩;rw [hm] at o1 o2;obtain ⟨r1,r2,r3⟩:=rs_out hm hI
 refine fq1 H_ 3 [[0],[1],[0,1,2],r_ 4] [_,_,_,_] (fun _=>[(9,vI (-1))]) (s:=⟨mv3,ld3b 1 sh40,cw3 Tryz.func33 fun wd hA=>u_res_eq (rin_any wd A9 c9 es (hW.grown hA.j.st.gr) hp hn0 hl64 p A1 k1_ z hz0 (hr.grown hA.j.st.gr)) (rIn_none hm hI),mv3⟩) (k:=fun E2 ac wd H_=>?_)
 refine fq1 H_ 1 [[0],[0,1]] [_,bF] (fun _=>[(22,bF)]) (s:=⟨mv3,bi3⟩) (k:=fun E3 ac wd H_=>?_)
 refine cF3 H_ ?_
 refine fq H_ 9 [[0],[1],[0,1,2],r_ 4,r_ 5,[0,1,2,3,5],[6],[7],[0,1,2,3,4,6,7,8],r_ 10] [_,_,KE_ fun env=>vT2 (bigF (z / 1000000000000000000) (tp (env 2) 0)) (bigF (z % 1000000000000000000) (tp (env 2) 1)),_,_,_,_,_,none,none] (fun E4=>[(13,vP (pb E4 6) 0)]) (W:=[{ i:=6,T:=40,c0:=[bF,.slice none 0 0],s:=some 8,c1:=fun env=>[.bool (decide (z / 1000000000000000000 < 0)),rS (z / 1000000000000000000) ((bA (tp (env 2) 0))) ((bC (tp (env 2) 0)))] },{ i:=7,T:=40,c0:=[bF,.slice none 0 0],s:=some 9,c1:=fun env=>[.bool (decide (z % 1000000000000000000 < 0)),rS (z % 1000000000000000000) ((bA (tp (env 2) 1))) ((bC (tp (env 2) 1)))] }]) (F:=[fB w0 1 1000000000000000000,(2,fun env w=>DivX w (env 2) (z / 1000000000000000000) (z % 1000000000000000000))]) (s:=⟨ld3b 1 sh40,cb3 Tryz.func20 fun wd hA=>Int_any wd 1000000000000000000 (by omega) (by omega),cf_ Tryz.func51 (fun v w=>DivX w v (z / 1000000000000000000) (z % 1000000000000000000)) (divF (z / 1000000000000000000) (z % 1000000000000000000)) (h:=fun _ env _ wd hA=>⟨_,toD (Div_any wd p A1 k1_ z hz0 (hr.grown hA.j.st.gr) (by unfold InW at hz;unfold Sm;omega) (decide (1000000000000000000 < 0)) (bA (env 1)) (bC (env 1)) 1000000000000000000 rfl (At.bigN hA 1 rfl rfl rfl) (by unfold InW at hz;unfold Sm;omega) (by omega)),rfl⟩),mv3,xt3,xt3,al_ 4,al_ 5,sw3 4 6 sh40,sw3 5 7 sh40⟩) (k:=fun E4 ac wd H_=>?_)
 refine fq1 H_ 6 (tri 4++[[0,1,2,4],[0,1,2,3,5],r_ 7]) [_,_,_,_,_,_,_] (fun _=>[(15,vI (z / 1000000000000000000))]) (s:=⟨ld3b 4 sh40,cw3 Tryz.func83 fun wd hA=>Small_yes wd (decide (z / 1000000000000000000 < 0)) (bA (tp (E4 2) 0)) (bC (tp (E4 2) 0)) (z / 1000000000000000000) rfl (Facts.div1 (hA.j.st.now).1 1 rfl)  (by omega) (by omega),mv3,xt3,xt3,mv3,mv3⟩) (k:=fun E5 ac wd H_=>?_)
 refine fq1 H_ 8 [[0],[0,1],[2],[3],[2,3,4],r_ 6,r_ 7,r_ 8,r_ 9] [_,_,_,_,_,elt (.slice A0 es.length c0) (m*2),elt (.slice A0 es.length c0) (m*2+1),vI (smO es m),_] (fun _=>[(17,vI (smO es m))]) (s:=⟨fa3 2,ld31 0 sh22,ld3c 0 sh24,mv3,cw3 Tryz.func84 fun wd hA=>u_res_eq (rat_any (.slice A0 es.length c0) es u x (z / 1000000000000000000) wd (hv.gn hA.j.st.gr) hp) (cnt_m o1),ia_ Tryz.underlying22 sz89 m (m*2) ((m:Nat):Int) (fun _ env _ wd hA=>(hv.gn hA.j.st.gr).els) (rfl) (by omega) rfl,s_fa rfl rfl rfl (fun _=>wanted_none rfl _) (m*2) 1 (m*2+1) rfl (s:=fun _=>.slice A0 es.length c0) rfl (fun _=>rfl) (fun {D env ac wd} hA=>(hv.gn hA.j.st.gr).els) (by omega) (fun b q w=>by simp [go_sem,Tryz.underlying89]),le_ (m*2+1) (fun _ env _ wd hA=>(hv.gn hA.j.st.gr).els) (by omega) (leG1 sh3 (by exact enC_1 es m)),mv3⟩) (k:=fun E6 ac wd H_=>?_)
 refine fq H_ 8 [[0],[1],[1,2],[1,2,3],r_ 5,[5],[0,1,2,3,4,6],r_ 8,r_ 9] [_,_,vL 40587 (smO es m) 0,_,_,K_ (.agg #[bF,.slice none 0 0]),none,none,_] (fun _=>[(8,vI 1)]) (S:=[⟨2,6,fun env=>[.bool (decide (z-((3506716800+smO es m)*1000000000000000000) < 0)),rS (z-((3506716800+smO es m)*1000000000000000000)) ((bA (env 4))) ((bC (env 4)))]⟩,⟨3,7,fun _=>[bF,.slice none 0 0]⟩]) (F:=[fB w0 3 ((3506716800+smO es m)*1000000000000000000),fB w0 4 (z-((3506716800+smO es m)*1000000000000000000))]) (s:=⟨ld3b 1 sh40,mv3,bd32,cb3 Tryz.func37 fun wd hA=>m_bigeq (Join_any wd 40587 (smO es m) 0 (by omega) (by omega) (by omega) (by omega) (by omega) (by omega)) (show jn 40587 (smO es m) 0=(3506716800+smO es m)*1000000000000000000 by unfold jn;omega),cb3e Tryz.func19 fun env wd hA=>Sub_any wd p A1 k1_ z hz0 (hr.grown hA.j.st.gr) (by unfold InW at hz;unfold Sm;omega) (decide ((3506716800+smO es m)*1000000000000000000 < 0)) (bA (env 3)) (bC (env 3)) ((3506716800+smO es m)*1000000000000000000) rfl (At.bigN hA 3 rfl rfl rfl) (by unfold InW at hz;unfold Sm;omega),bd30,se3 2 sh40,se3 3 sh40,mv3⟩) (k:=fun E7 ac wd H_=>?_)
 refine then_n (wp_ret ?_)
 have s6:=H_.g (t:=6) rfl
 have hc6:=(H_.st.own 2 _ rfl).2
 have c6_0:=own_cell (o:=0) hc6 rfl
 have c6_1:=own_cell (o:=1) hc6 rfl
 have s7:=H_.g (t:=7) rfl
 have hc7:=(H_.st.own 3 _ rfl).2
 have c7_0:=own_cell (o:=0) hc7 rfl
 have c7_1:=own_cell (o:=1) hc7 rfl
 have s8:=H_.g (t:=8) rfl
 refine leave (v:=vT3 (bigF (z-((3506716800+smO es m)*1000000000000000000)) (E7 4)) (.agg #[.bool false,.slice none 0 0]) (vI 1)) H_.df (by simp [results,Tryz.results49,go_sem,Array.getD_eq_getD_getElem?,s6,c6_0,c6_1,Tryz.underlying40,s7,c7_0,c7_1,Tryz.underlying40,s8]) ?_
 rw [r1,r2,r3]
 exact ⟨_,rfl,H_.st.below,SofX.mk (BigX.of rfl (Facts.bigN H_.st.now 3 rfl)) (BigX.zero _)⟩
 have hm0:0 < m∧z < smE es m*1000000000000000000:=(by unfold smI at hI;simpa using hI);obtain ⟨hm0,hzE⟩:=hm0;obtain ⟨a3,a4,a5⟩:=a1.resolve_left (by omega);obtain ⟨k,rfl⟩:∃ k,m=k+1:=⟨m-1,by omega⟩;obtain ⟨⟨w11,V1,d1,w12,w13⟩,⟨w21,V2,d2,w22,w23⟩,⟨w31,V3,d3,w32,w33⟩,wd0⟩:=hWR.2 k (by omega);obtain ⟨b0,b1,b2,b3,b4,b5,b6,b7⟩:=win_in hp (i:=k+1) (by omega) (by omega);have hq0:0≤(z-smS es (k+1)*1000000000000000000)*86400 / smL es (k+1)∧(z-smS es (k+1)*1000000000000000000)*86400 / smL es (k+1)≤86400*1000000000000000000:=(by rcases b6 with h | h <;> rw [h] at b7 ⊢ <;> omega);have hq1:0≤(z-smS es (k+1)*1000000000000000000)*86400 % smL es (k+1)∧(z-smS es (k+1)*1000000000000000000)*86400 % smL es (k+1) < smL es (k+1):=⟨Int.emod_nonneg _ (by omega),Int.emod_lt_of_pos _ (by omega)⟩;have hsL:86400+(smO es (k+1)-smO es k)=smL es (k+1):=(by show _=86400+smO es (k+1)-smO es k;omega);obtain ⟨r1,r2,r3⟩:=rs_in hm hI
 refine fq1 H_ 3 [[0],[1],[0,1,2],r_ 4] [_,_,_,_] (fun _=>[(9,vN k)]) (s:=⟨mv3,ld3b 1 sh40,cw3 Tryz.func33 fun wd hA=>u_res_eq (rin_any wd A9 c9 es (hW.grown hA.j.st.gr) hp hn0 hl64 p A1 k1_ z hz0 (hr.grown hA.j.st.gr)) (rIn_k hm hI),mv3⟩) (k:=fun E2 ac wd H_=>?_)
 refine fq1 H_ 1 [[0],[0,1]] [_,bT] (fun _=>[(22,bT)]) (s:=⟨mv3,bi3⟩) (k:=fun E3 ac wd H_=>?_)
 refine cT3 H_ ?_
 refine fq H_ 5 [[0],[1],[0,1,2],r_ 4,[4],r_ 6] [_,_,elt (.slice A9 ((es.length-1)) c9) (k*7),K_ (.agg #[.bool (decide (smS es (k+1)*1000000000000000000 < 0)),rS (smS es (k+1)*1000000000000000000) V1 d1,.bool (decide (smE es (k+1)*1000000000000000000 < 0)),rS (smE es (k+1)*1000000000000000000) V2 d2,.bool (decide (smB es (k+1)*1000000000000000000 < 0)),rS (smB es (k+1)*1000000000000000000) V3 d3,vI (smO es (k+1)-smO es k)]),_,none] (fun E4=>[(10,vP (pb E4 4) 0)]) (W:=[{ i:=4,T:=43,c0:=[bF,.slice none 0 0,bF,.slice none 0 0,bF,.slice none 0 0,vI 0],s:=some 5,c1:=fun _=>[.bool (decide (smS es (k+1)*1000000000000000000 < 0)),rS (smS es (k+1)*1000000000000000000) V1 d1,.bool (decide (smE es (k+1)*1000000000000000000 < 0)),rS (smE es (k+1)*1000000000000000000) V2 d2,.bool (decide (smB es (k+1)*1000000000000000000 < 0)),rS (smB es (k+1)*1000000000000000000) V3 d3,vI (smO es (k+1)-smO es k)] }]) (s:=⟨mv3,mv3,ia_ Tryz.underlying44 sz43 k (k*7) ((k:Nat):Int) (fun _ env _ wd hA=>(hRT.grown hA.j.st.gr).els) (rfl) (by omega) rfl,le_ (k*7) (fun _ env _ wd hA=>(hRT.grown hA.j.st.gr).els) (by omega) (leGg sh43 (cell_at w11) (cell_at w12) (cell_at w21) (cell_at w22) (cell_at w31) (cell_at w32) (cell_at wd0)),al_ 4,sw3 4 4 sh43⟩) (k:=fun E4 ac wd H_=>?_)
 refine fq H_ 17 [[0],[1],[1,2],r_ 4,r_ 5,r_ 6,[6],[6,7],[6,7,8],r_ 10,r_ 11,r_ 12,r_ 13,r_ 12++[13],[14],[15],r_ 13++[14,15,16],r_ 18] [_,_,_,_,_,_,_,_,vI (86400+(smO es (k+1)-smO es k)),_,KE_ fun env=>vT2 (bigF (((z-(smS es (k+1)*1000000000000000000))*86400) / (smL es (k+1))) (tp (env 10) 0)) (bigF (((z-(smS es (k+1)*1000000000000000000))*86400) % (smL es (k+1))) (tp (env 10) 1)),_,_,_,_,_,none,none] (fun E5=>[(11,vP (pb E5 14) 0),(12,vP (pb E5 15) 0)]) (W:=[{ i:=14,T:=40,c0:=[bF,.slice none 0 0],s:=some 16,c1:=fun env=>[.bool (decide (((z-(smS es (k+1)*1000000000000000000))*86400) / (smL es (k+1)) < 0)),rS (((z-(smS es (k+1)*1000000000000000000))*86400) / (smL es (k+1))) ((bA (tp (env 10) 0))) ((bC (tp (env 10) 0)))] },{ i:=15,T:=40,c0:=[bF,.slice none 0 0],s:=some 17,c1:=fun env=>[.bool (decide (((z-(smS es (k+1)*1000000000000000000))*86400) % (smL es (k+1)) < 0)),rS (((z-(smS es (k+1)*1000000000000000000))*86400) % (smL es (k+1))) ((bA (tp (env 10) 1))) ((bC (tp (env 10) 1)))] }]) (F:=[fB w0 3 (z-(smS es (k+1)*1000000000000000000)),fB w0 4 86400,fB w0 5 ((z-(smS es (k+1)*1000000000000000000))*86400),fB w0 9 (smL es (k+1)),(10,fun env w=>DivX w (env 10) (((z-(smS es (k+1)*1000000000000000000))*86400) / (smL es (k+1))) (((z-(smS es (k+1)*1000000000000000000))*86400) % (smL es (k+1))))]) (s:=⟨ld3b 1 sh40,fa3 0,ld3b 4 sh40,cb3 Tryz.func19 fun wd hA=>Sub_any wd p A1 k1_ z hz0 (hr.grown hA.j.st.gr) (by unfold InW at hz;unfold Sm;omega) (decide (smS es (k+1)*1000000000000000000 < 0)) V1 d1 (smS es (k+1)*1000000000000000000) rfl ((show RowN 0 w0 (.slice V1 (digs (smS es (k+1)*1000000000000000000)).length d1) (digs (smS es (k+1)*1000000000000000000)) from w13).1.grown hA.j.st.gr) (by unfold InW at hz;unfold Sm;omega),cb3 Tryz.func20 fun wd hA=>Int_any wd 86400 (by omega) (by omega),cb3e Tryz.func30 fun env wd hA=>Mul_any wd (decide (z-(smS es (k+1)*1000000000000000000) < 0)) (bA (env 3)) (bC (env 3)) (z-(smS es (k+1)*1000000000000000000)) rfl (At.bigN hA 3 rfl rfl rfl) (by unfold InW at hz;unfold Sm;omega) (decide (86400 < 0)) (bA (env 4)) (bC (env 4)) 86400 rfl (At.bigN hA 4 rfl rfl rfl) (by unfold InW at hz;unfold Sm;omega),fa3 6,ld31 4 sh3,bi3 (h:=by intro env w;(first | (simp [go_sem];done) | (simp [go_sem];exact IntWalk.i64_in _ (by omega)) | (simp [go_sem];exact IntWalk.i64_in _ (by simp only [List.getD_eq_getElem?_getD] at *;omega)))),cb3 Tryz.func20 fun wd hA=>m_bigeq (Int_any wd (86400+(smO es (k+1)-smO es k)) (by omega) (by omega)) hsL,cf_ Tryz.func51 (fun v w=>DivX w v (((z-(smS es (k+1)*1000000000000000000))*86400) / (smL es (k+1))) (((z-(smS es (k+1)*1000000000000000000))*86400) % (smL es (k+1)))) (divF (((z-(smS es (k+1)*1000000000000000000))*86400) / (smL es (k+1))) (((z-(smS es (k+1)*1000000000000000000))*86400) % (smL es (k+1)))) (h:=fun _ env _ wd hA=>⟨_,toD (Div_any wd (decide ((z-(smS es (k+1)*1000000000000000000))*86400 < 0)) (bA (env 5)) (bC (env 5)) ((z-(smS es (k+1)*1000000000000000000))*86400) rfl (At.bigN hA 5 rfl rfl rfl) (by unfold InW at hz;unfold Sm;omega) (decide (smL es (k+1) < 0)) (bA (env 9)) (bC (env 9)) (smL es (k+1)) rfl (At.bigN hA 9 rfl rfl rfl) (by unfold InW at hz;unfold Sm;omega) (by omega)),rfl⟩),mv3,xt3,xt3,al_ 5,al_ 6,sw3 5 14 sh40,sw3 6 15 sh40⟩) (k:=fun E5 ac wd H_=>?_)
 refine fq H_ 10 [[0],[0,1],[2],r_ 4,[4],[5],[5,6],[5,6,7],[0,1,2,3,8],[0,1,2,3,4,8,9],r_ 11] [_,_,_,_,_,_,_,vI (86400+(smO es (k+1)-smO es k)),none,none,_] (fun _=>[(8,vI (86400+(smO es (k+1)-smO es k)))]) (S:=[⟨2,8,fun env=>[.bool (decide ((smB es (k+1)*1000000000000000000)+(((z-(smS es (k+1)*1000000000000000000))*86400) / (smL es (k+1))) < 0)),rS ((smB es (k+1)*1000000000000000000)+(((z-(smS es (k+1)*1000000000000000000))*86400) / (smL es (k+1)))) ((bA (env 3))) ((bC (env 3)))]⟩,⟨3,9,fun _=>[.bool (decide (((z-(smS es (k+1)*1000000000000000000))*86400) % (smL es (k+1)) < 0)),rS (((z-(smS es (k+1)*1000000000000000000))*86400) % (smL es (k+1))) ((bA (tp (E5 10) 1))) ((bC (tp (E5 10) 1)))]⟩]) (F:=[fB w0 3 ((smB es (k+1)*1000000000000000000)+(((z-(smS es (k+1)*1000000000000000000))*86400) / (smL es (k+1))))]) (s:=⟨fa3 4,ld3b 4 sh40,ld3b 5 sh40,cb3 Tryz.func29 fun wd hA=>Add_any wd (decide (smB es (k+1)*1000000000000000000 < 0)) V3 d3 (smB es (k+1)*1000000000000000000) rfl ((show RowN 0 w0 (.slice V3 (digs (smB es (k+1)*1000000000000000000)).length d3) (digs (smB es (k+1)*1000000000000000000)) from w33).1.grown hA.j.st.gr) (by unfold InW at hz;unfold Sm;omega) (decide (((z-(smS es (k+1)*1000000000000000000))*86400) / (smL es (k+1)) < 0)) (bA (tp (E5 10) 0)) (bC (tp (E5 10) 0)) (((z-(smS es (k+1)*1000000000000000000))*86400) / (smL es (k+1))) rfl (Facts.div1 (hA.j.st.now).1 4 rfl) (by unfold InW at hz;unfold Sm;omega),ld3b 6 sh40,fa3 6,ld31 4 sh3,bi3 (h:=by intro env w;(first | (simp [go_sem];done) | (simp [go_sem];exact IntWalk.i64_in _ (by omega)) | (simp [go_sem];exact IntWalk.i64_in _ (by simp only [List.getD_eq_getElem?_getD] at *;omega)))),se3 2 sh40,se3 3 sh40,mv3⟩) (k:=fun E6 ac wd H_=>?_)
 refine then_n (wp_ret (then_ret ?_))
 have s6:=H_.g (t:=6) rfl
 have hc6:=(H_.st.own 2 _ rfl).2
 have c6_0:=own_cell (o:=0) hc6 rfl
 have c6_1:=own_cell (o:=1) hc6 rfl
 have s7:=H_.g (t:=7) rfl
 have hc7:=(H_.st.own 3 _ rfl).2
 have c7_0:=own_cell (o:=0) hc7 rfl
 have c7_1:=own_cell (o:=1) hc7 rfl
 have s8:=H_.g (t:=8) rfl
 refine leave (v:=vT3 (bigF ((smB es (k+1)*1000000000000000000)+(((z-(smS es (k+1)*1000000000000000000))*86400) / (smL es (k+1)))) (E6 3)) (bigF (((z-(smS es (k+1)*1000000000000000000))*86400) % (smL es (k+1))) (tp (E5 10) 1)) (vI (86400+(smO es (k+1)-smO es k)))) H_.df (by simp [results,Tryz.results49,go_sem,Array.getD_eq_getD_getElem?,s6,c6_0,c6_1,Tryz.underlying40,s7,c7_0,c7_1,Tryz.underlying40,s8]) ?_
 rw [r1,r2,r3]
 exact ⟨_,rfl,H_.st.below,SofX.mk' (BigX.of rfl (Facts.bigN H_.st.now 5 rfl)) (BigX.of rfl (Facts.div2 H_.st.now 4 rfl)) hsL⟩
theorem rSoft_any (w0:World) (A0:Option Addr) (c0:Nat) (es:List (Int × Int)) (u x:Int) (hv:Ents w0 w0.heap.size (.slice A0 es.length c0) es) (hp:okPre es es.length=true) (hn0:0 < es.length) (hl64:es.length≤64) (p:Bool) (A1:Option Addr) (k1_:Nat) (z:Int) (hz0:p=decide (z < 0)) (hr:Row w0 (.slice A1 (digs z).length k1_) (digs z)) (hz:InW z) (hf:firZ es≤z) (hbz:-1099511627776≤z / 1000000000000000000 / 86400∧z / 1000000000000000000 / 86400≤1099511627776):Calls Tryz.prog 24 #[.agg #[vI u,vI x,.slice A0 es.length c0],.agg #[.bool (p),.slice A1 ((digs z).length) k1_]] w0 fun e w'=>∃ v,e = .returned v∧Below w0.heap.size w0 w'∧SofX w' v (softZ es z) (rsR es z) (rsB es z):=by
 have hst:=St.start w0 (Θ:=fun _=>True) (fun _ _=>trivial)
 refine en_ Tryz.func24 hst 15 [(0,.agg #[vI u,vI x,.slice A0 es.length c0]),(1,.agg #[.bool (p),.slice A1 ((digs z).length) k1_])] (fun ac H_=>?_)
 replace H_:=H_.facts
 refine fq H_ 4 [[0],[1],[2],[3],[4]] [_,_,_,_,_] (fun E1=>[(2,vP (pb E1 0) 0),(3,vP (pb E1 1) 0),(4,vP (pb E1 2) 0),(5,vP (pb E1 3) 0)]) (W:=[{ i:=0,T:=24,c0:=[vI u,vI x,.slice A0 es.length c0] },{ i:=1,T:=40,c0:=[.bool (p),rS z A1 k1_] },{ i:=2,T:=40,c0:=[bF,.slice none 0 0] },{ i:=3,T:=40,c0:=[bF,.slice none 0 0] }]) (s:=⟨bx3 0,bx3 1,al_ 2,al_ 3,mv3⟩) (k:=fun E1 ac wd H_=>?_)
 refine fq H_ 10 [[0],[1],[1,2],[3],r_ 5,r_ 6,[0,1,2,3,4,6],[0,1,2,3,4,7],r_ 9,r_ 10,r_ 11] [_,_,KE_ fun env=>.slice ((sA (env 2))) ((es.length-1)) ((sC (env 2))),_,KE_ fun env=>vT3 (bigF (softZ es z) (tp (env 4) 0)) (bigF (rsR es z) (tp (env 4) 1)) (vI (rsB es z)),_,_,_,none,none,_] (fun _=>[(6,vI (rsB es z))]) (S:=[⟨2,8,fun env=>[.bool (decide (softZ es z < 0)),rS (softZ es z) ((bA (tp (env 4) 0))) ((bC (tp (env 4) 0)))]⟩,⟨3,9,fun env=>[.bool (decide (rsR es z < 0)),rS (rsR es z) ((bA (tp (env 4) 1))) ((bC (tp (env 4) 1)))]⟩]) (F:=[(2,fun env w=>WinsB w (env 2) 0 es),(4,fun env w=>SofX w (env 4) (softZ es z) (rsR es z) (rsB es z))]) (s:=⟨ld3c 0 sh24,ld3c 0 sh24,s_factO rfl rfl rfl Tryz.func14 (by kernel_rfl) rfl (fun _=>wanted_none rfl _) (fun v w=>WinsB w v 0 es) (winsF es.length) (fun v w B=>WinsB w v B es) rfl rfl (fun v w h=>h.form) (fun v w w' B hk h=>h.keepB hk) (fun {D env ac wd} hA=>⟨_,hA.args (vs:=[.agg #[vI u,vI x,.slice A0 es.length c0]]) rfl,rwindows_any wd A0 c0 es u x (hv.gn hA.j.st.gr) hp hn0 hl64⟩),ld3b 1 sh40,cf_ Tryz.func49 (fun v w=>SofX w v (softZ es z) (rsR es z) (rsB es z)) (sofF (softZ es z) (rsR es z) (rsB es z)) (h:=fun _ env _ wd hA=>⟨_,rsoft_any wd A0 c0 es u x (hv.gn hA.j.st.gr) hp hn0 (sA (env 2)) (sC (env 2)) (At.wins hA 2 rfl rfl rfl) hl64 p A1 k1_ z hz0 (hr.grown hA.j.st.gr) hz hf hbz,rfl⟩),xt3,xt3,xt3,se3 2 sh40,se3 3 sh40,mv3⟩) (k:=fun E2 ac wd H_=>?_)
 refine then_n (wp_ret ?_)
 have s4:=H_.g (t:=4) rfl
 have hc4:=(H_.st.own 2 _ rfl).2
 have c4_0:=own_cell (o:=0) hc4 rfl
 have c4_1:=own_cell (o:=1) hc4 rfl
 have s5:=H_.g (t:=5) rfl
 have hc5:=(H_.st.own 3 _ rfl).2
 have c5_0:=own_cell (o:=0) hc5 rfl
 have c5_1:=own_cell (o:=1) hc5 rfl
 have s6:=H_.g (t:=6) rfl
 refine leave (v:=vT3 (bigF (softZ es z) (tp (E2 4) 0)) (bigF (rsR es z) (tp (E2 4) 1)) (vI (rsB es z))) H_.df (by simp [results,Tryz.results24,go_sem,Array.getD_eq_getD_getElem?,s4,c4_0,c4_1,Tryz.underlying40,s5,c5_0,c5_1,Tryz.underlying40,s6]) ?_
 exact ⟨_,rfl,H_.st.below,SofX.mk (BigX.of rfl (Facts.sof1 H_.st.now 1 rfl)) (BigX.of rfl (Facts.sof2 H_.st.now 1 rfl))⟩
theorem rsplit_no (w0:World) (p:Bool) (A0:Option Addr) (c0:Nat) (x:Int) (hp:p=decide (x < 0)) (hr:Row w0 (.slice A0 (digs x).length c0) (digs x)) (hx:Sm x) (h0:-9223372036854775808≤x / 1000000000000000000 / 86400) (h1:x / 1000000000000000000 / 86400 < 9223372036854775808) (hno:¬ (-1099511627776≤x / 1000000000000000000 / 86400∧x / 1000000000000000000 / 86400≤1099511627776)):Calls Tryz.prog 50 #[.agg #[.bool (p),.slice A0 ((digs x).length) c0]] w0 fun e w'=>e = .returned (vT2 (vL 0 0 0) (.bool false))∧Below w0.heap.size w0 w':=by
 have hin:(decide (-1099511627776≤x / 1000000000000000000 / 86400) && decide (x / 1000000000000000000 / 86400≤1099511627776))=false:=by simp;omega
 have hst:=St.start w0 (Θ:=fun _=>True) (fun _ _=>trivial)
 refine en_ Tryz.func50 hst 53 [(0,.agg #[.bool (p),.slice A0 ((digs x).length) c0])] (fun ac H_=>?_)
 replace H_:=H_.facts
 refine fq H_ 2 [[0],[1],[2]] [_,_,_] (fun E1=>[(1,vP (pb E1 0) 0),(2,vP (pb E1 1) 0)]) (W:=[{ i:=0,T:=40,c0:=[.bool (p),rS x A0 c0] },{ i:=1,T:=98,c0:=[vI 0,vI 0,vI 0] }]) (s:=⟨bx3 0,al_ 1,mv3⟩) (k:=fun E1 ac wd H_=>?_)
 refine fq H_ 9 [[0],[1],[0,1,2],r_ 4,r_ 5,[0,1,2,3,5],[6],[7],[0,1,2,3,4,6,7,8],r_ 10] [_,_,KE_ fun env=>vT2 (bigF (x / 1000000000000000000) (tp (env 2) 0)) (bigF (x % 1000000000000000000) (tp (env 2) 1)),_,_,_,_,_,none,none] (fun E2=>[(4,vP (pb E2 6) 0),(5,vP (pb E2 7) 0)]) (W:=[{ i:=6,T:=40,c0:=[bF,.slice none 0 0],s:=some 8,c1:=fun env=>[.bool (decide (x / 1000000000000000000 < 0)),rS (x / 1000000000000000000) ((bA (tp (env 2) 0))) ((bC (tp (env 2) 0)))] },{ i:=7,T:=40,c0:=[bF,.slice none 0 0],s:=some 9,c1:=fun env=>[.bool (decide (x % 1000000000000000000 < 0)),rS (x % 1000000000000000000) ((bA (tp (env 2) 1))) ((bC (tp (env 2) 1)))] }]) (F:=[fB w0 1 1000000000000000000,(2,fun env w=>DivX w (env 2) (x / 1000000000000000000) (x % 1000000000000000000))]) (s:=⟨ld3b 0 sh40,cb3 Tryz.func20 fun wd hA=>Int_any wd 1000000000000000000 (by omega) (by omega),cf_ Tryz.func51 (fun v w=>DivX w v (x / 1000000000000000000) (x % 1000000000000000000)) (divF (x / 1000000000000000000) (x % 1000000000000000000)) (h:=fun _ env _ wd hA=>⟨_,toD (Div_any wd p A0 c0 x hp (hr.grown hA.j.st.gr) hx (decide (1000000000000000000 < 0)) (bA (env 1)) (bC (env 1)) 1000000000000000000 rfl (At.bigN hA 1 rfl rfl rfl) (by unfold Sm;omega) (by omega)),rfl⟩),mv3,xt3,xt3,al_ 2,al_ 3,sw3 2 6 sh40,sw3 3 7 sh40⟩) (k:=fun E2 ac wd H_=>?_)
 refine fq H_ 9 [[0],[1],[0,1,2],r_ 4,r_ 5,[0,1,2,3,5],[6],[7],[0,1,2,3,4,6,7,8],r_ 10] [_,_,KE_ fun env=>vT2 (bigF ((x / 1000000000000000000) / 86400) (tp (env 2) 0)) (bigF ((x / 1000000000000000000) % 86400) (tp (env 2) 1)),_,_,_,_,_,none,none] (fun E3=>[(6,vP (pb E3 6) 0),(7,vP (pb E3 7) 0)]) (W:=[{ i:=6,T:=40,c0:=[bF,.slice none 0 0],s:=some 8,c1:=fun env=>[.bool (decide ((x / 1000000000000000000) / 86400 < 0)),rS ((x / 1000000000000000000) / 86400) ((bA (tp (env 2) 0))) ((bC (tp (env 2) 0)))] },{ i:=7,T:=40,c0:=[bF,.slice none 0 0],s:=some 9,c1:=fun env=>[.bool (decide ((x / 1000000000000000000) % 86400 < 0)),rS ((x / 1000000000000000000) % 86400) ((bA (tp (env 2) 1))) ((bC (tp (env 2) 1)))] }]) (F:=[fB w0 1 86400,(2,fun env w=>DivX w (env 2) ((x / 1000000000000000000) / 86400) ((x / 1000000000000000000) % 86400))]) (s:=⟨ld3b 2 sh40,cb3 Tryz.func20 fun wd hA=>Int_any wd 86400 (by omega) (by omega),cf_ Tryz.func51 (fun v w=>DivX w v ((x / 1000000000000000000) / 86400) ((x / 1000000000000000000) % 86400)) (divF ((x / 1000000000000000000) / 86400) ((x / 1000000000000000000) % 86400)) (h:=fun _ env _ wd hA=>⟨_,toD (Div_any wd (decide (x / 1000000000000000000 < 0)) (bA (tp (E2 2) 0)) (bC (tp (E2 2) 0)) (x / 1000000000000000000) rfl (Facts.div1 (hA.j.st.now).1 1 rfl) (by unfold Sm at *;omega) (decide (86400 < 0)) (bA (env 1)) (bC (env 1)) 86400 rfl (At.bigN hA 1 rfl rfl rfl) (by unfold Sm;omega) (by omega)),rfl⟩),mv3,xt3,xt3,al_ 4,al_ 5,sw3 4 6 sh40,sw3 5 7 sh40⟩) (k:=fun E3 ac wd H_=>?_)
 refine fq1 H_ 6 (tri 4++[[0,1,2,4],[0,1,2,3,5],r_ 7]) [_,_,_,_,_,_,_] (fun _=>[(8,vI ((x / 1000000000000000000 / 86400))),(9,bT)]) (s:=⟨ld3b 4 sh40,cw3 Tryz.func83 fun wd hA=>Small_yes wd (decide ((x / 1000000000000000000) / 86400 < 0)) (bA (tp (E3 2) 0)) (bC (tp (E3 2) 0)) (x / 1000000000000000000 / 86400) rfl (Facts.div1 (hA.j.st.now).1 3 rfl)  (by omega) (by omega),mv3,xt3,xt3,mv3,mv3⟩) (k:=fun E4 ac wd H_=>?_)
 refine fq1 H_ 6 (tri 7) [_,bF,_,_,_,bT,bT] (fun _=>[(37,bT)]) (s:=⟨mv3,un3,mv3,gm3,cl3 Tryz.func85 (((In_any (x / 1000000000000000000 / 86400)).eq (congrArg Value.bool hin))),un3,pk3⟩) (k:=fun E5 ac wd H_=>?_)
 refine cT3 H_ ?_
 refine fq H_ 2 (tri 3) [vL 0 0 0,none,_] (fun _=>[(3,bF)]) (S:=[⟨1,1,fun _=>[vI 0,vI 0,vI 0]⟩]) (s:=⟨bd30,se3 1 sh98,mv3⟩) (k:=fun E6 ac wd H_=>?_)
 refine lvCT3 (v:=vL 0 0 0) Tryz.results50 H_ 1 (loadGc sh98 rfl ⟨rfl,rfl,rfl,trivial⟩) ?_
 exact ⟨rfl,H_.st.below⟩
theorem rWhy_any (w0:World) (A0:Option Addr) (c0:Nat) (es:List (Int × Int)) (u x:Int) (hv:Ents w0 w0.heap.size (.slice A0 es.length c0) es) (hp:okPre es es.length=true) (hn0:0 < es.length) (hl64:es.length≤64) (p:Bool) (A1:Option Addr) (k1_:Nat) (z:Int) (hz0:p=decide (z < 0)) (hr:Row w0 (.slice A1 (digs z).length k1_) (digs z)) (hz:InW z):Calls Tryz.prog 23 #[.agg #[vI u,vI x,.slice A0 es.length c0],.agg #[.bool (p),.slice A1 ((digs z).length) k1_]] w0 fun e w'=>e = .returned (vI (msE es z))∧Below w0.heap.size w0 w':=by
 have hst:=St.start w0 (Θ:=fun _=>True) (fun _ _=>trivial)
 refine en_ Tryz.func23 hst 19 [(0,.agg #[vI u,vI x,.slice A0 es.length c0]),(1,.agg #[.bool (p),.slice A1 ((digs z).length) k1_])] (fun ac H_=>?_)
 replace H_:=H_.facts
 refine fq H_ 2 [[0],[1],[2]] [_,_,_] (fun E1=>[(2,vP (pb E1 0) 0),(3,vP (pb E1 1) 0)]) (W:=[{ i:=0,T:=24,c0:=[vI u,vI x,.slice A0 es.length c0] },{ i:=1,T:=40,c0:=[.bool (p),rS z A1 k1_] }]) (s:=⟨bx3 0,bx3 1,mv3⟩) (k:=fun E1 ac wd H_=>?_)
 by_cases hE:z < firZ es
 have hM:msE es z=8:=by unfold msE;rw [if_pos hE]
 refine fq H_ 4 [[0],[1],[1,2],r_ 4,r_ 5] [_,_,_,_,bT] (fun _=>[(11,bT)]) (F:=[fB w0 2 (firZ es)]) (s:=⟨ld3b 1 sh40,ld3c 0 sh24,cb3 Tryz.func48 fun wd hA=>rfirst_any wd A0 c0 es u x (hv.gn hA.j.st.gr) hp hn0 hl64,cw3e Tryz.func21 fun env wd hA=>Cmp_any wd p A1 k1_ z hz0 (hr.grown hA.j.st.gr)  (decide (firZ es < 0)) (bA (env 2)) (bC (env 2)) (firZ es) rfl (At.bigN hA 2 rfl rfl rfl) ,bi3 (h:=by intro env w;(first | (simp [go_sem,cm_le,cm_lt,cm_ge,cm_gt,hE];done) | (simp [go_sem,cm_le,cm_lt,cm_ge,cm_gt];omega)))⟩) (k:=fun E2 ac wd H_=>?_)
 refine cT3 H_ ?_
 refine fq1 H_ 0 [[0]] [_] (fun _=>[(4,vI 8)]) (s:=mv3) (k:=fun E3 ac wd H_=>?_)
 refine lvT3 Tryz.results23 H_ ?_
 exact ⟨by rw [hM],H_.st.below⟩
 have hsz:Sm z:=by unfold InW at hz;unfold Sm;omega
 refine fq H_ 4 [[0],[1],[1,2],r_ 4,r_ 5] [_,_,_,_,bF] (fun _=>[(11,bF)]) (F:=[fB w0 2 (firZ es)]) (s:=⟨ld3b 1 sh40,ld3c 0 sh24,cb3 Tryz.func48 fun wd hA=>rfirst_any wd A0 c0 es u x (hv.gn hA.j.st.gr) hp hn0 hl64,cw3e Tryz.func21 fun env wd hA=>Cmp_any wd p A1 k1_ z hz0 (hr.grown hA.j.st.gr)  (decide (firZ es < 0)) (bA (env 2)) (bC (env 2)) (firZ es) rfl (At.bigN hA 2 rfl rfl rfl) ,bi3 (h:=by intro env w;(first | (simp [go_sem,cm_le,cm_lt,cm_ge,cm_gt,hE];done) | (simp [go_sem,cm_le,cm_lt,cm_ge,cm_gt];omega)))⟩) (k:=fun E2 ac wd H_=>?_)
 refine cF3 H_ ?_
 cases hin:wthn (z / 1000000000000000000 / 86400) (-1099511627776) 1099511627776
 have hM:msE es z=2:=(by unfold msE;rw [if_neg hE,if_neg (by rw [hin];exact Bool.false_ne_true)]);have hno:¬ (-1099511627776≤z / 1000000000000000000 / 86400∧z / 1000000000000000000 / 86400≤1099511627776):=(fun h=>by have:=wth_iff.2 h;rw [hin] at this;cases this)
 refine fq H_ 7 (tri 4++[[0,1,2,4],[5],[0,1,2,3,5,6],r_ 8]) [_,_,_,_,_,_,none,_] (fun _=>[(6,bF)]) (W:=[{ i:=5,T:=98,c0:=[vI 0,vI 0,vI 0],s:=some 6,c1:=fun _=>[vI 0,vI 0,vI 0] }]) (s:=⟨ld3b 1 sh40,cw3 Tryz.func50 fun wd hA=>rsplit_no wd p A1 k1_ z hz0 (hr.grown hA.j.st.gr) hsz (by unfold InW at hz;omega) (by unfold InW at hz;omega) hno,mv3,xt3,xt3,al_ 2,sw3 2 5 sh98,mv3⟩) (k:=fun E3 ac wd H_=>?_)
 refine fq1 H_ 1 [[0],[0,1]] [_,bT] (fun _=>[(18,bT)]) (s:=⟨mv3,un3⟩) (k:=fun E4 ac wd H_=>?_)
 refine cT3 H_ ?_
 refine fq1 H_ 0 [[0]] [_] (fun _=>[(4,vI 2)]) (s:=mv3) (k:=fun E5 ac wd H_=>?_)
 refine lvT3 Tryz.results23 H_ ?_
 exact ⟨by rw [hM],H_.st.below⟩
 have hM:msE es z=0:=by unfold msE;rw [if_neg hE,if_pos hin]
 refine fq H_ 7 (tri 4++[[0,1,2,4],[5],[0,1,2,3,5,6],r_ 8]) [_,_,_,_,_,_,none,_] (fun _=>[(6,bT)]) (W:=[{ i:=5,T:=98,c0:=[vI 0,vI 0,vI 0],s:=some 6,c1:=fun _=>[vI (z / 1000000000000000000 / 86400),vI (z / 1000000000000000000 % 86400),vI (z % 1000000000000000000)] }]) (s:=⟨ld3b 1 sh40,cw3 Tryz.func50 fun wd hA=>Split_yes wd p A1 k1_ z hz0 (hr.grown hA.j.st.gr) hsz (wth_iff.1 hin).1 (wth_iff.1 hin).2,mv3,xt3,xt3,al_ 2,sw3 2 5 sh98,mv3⟩) (k:=fun E3 ac wd H_=>?_)
 refine fq1 H_ 1 [[0],[0,1]] [_,bF] (fun _=>[(18,bF)]) (s:=⟨mv3,un3⟩) (k:=fun E4 ac wd H_=>?_)
 refine cF3 H_ ?_
 refine fq1 H_ 0 [[0]] [_] (fun _=>[(4,vI 0)]) (s:=mv3) (k:=fun E5 ac wd H_=>?_)
 refine lvT3 Tryz.results23 H_ ?_
 exact ⟨by rw [hM],H_.st.below⟩
end Go.Proofs.YtimpognkffnjkaaGreat
namespace Go.Proofs.YtimpognkffnjkaaGreat
open Go.RowKit
attribute [local go_sem] vN bT bF rS vW vM vL vT2 vT3 vP vI execOp Act.eval evC bigF vB hi_zero lo_zero Tryz.underlying27 Tryz.underlying57
def dvs (a b:Int):Int:=if h:a % b=0∨b≤0 then b else dvs b (a % b)
termination_by b.toNat
decreasing_by
 have:=Int.emod_lt_of_pos a (show 0 < b by omega)
 have:=Int.emod_nonneg a (show b≠0 by omega)
 omega
theorem dvs_end {a b:Int} (h:a % b=0):dvs a b=b:=by rw [dvs,dif_pos (.inl h)]
theorem dvs_next {a b:Int} (h:a % b≠0) (h0:0 < b):dvs a b=dvs b (a % b):=by rw [dvs,dif_neg (by omega)]
theorem dvs_in:∀ (n:Nat) (a b:Int),b.toNat≤n→0 < b→0 < dvs a b∧dvs a b≤b:=by
  intro n
  induction n with
  | zero=>intro a b h h0;omega
  | succ n ih =>
    intro a b h h0
    by_cases hc:a % b=0
    · rw [dvs_end hc];omega
    · rw [dvs_next hc h0]
      have h1:=Int.emod_lt_of_pos a h0
      have h2:=Int.emod_nonneg a (show b≠0 by omega)
      have:=ih b (a % b) (by omega) (by omega)
      omega
theorem dvs_pos {a b:Int} (h:0 < b):0 < dvs a b∧dvs a b≤b:=dvs_in _ a b (Nat.le_refl _) h
theorem mdiv_any (a0 b0:Int) (ha:InW a0) (hb:InW b0) (h00:0 < b0):Ret 56 #[vW a0,vW b0] (vW (dvs a0 b0)):=by
 intro w0
 have hst:=St.start w0 (Θ:=fun _=>True) (fun _ _=>trivial)
 refine en_ Tryz.func56 hst 21 [(0,vW a0),(1,vW b0)] (fun ac H_=>?_)
 refine gq H_ 2 [[0],[1],[2]] [_,_,_] (fun E1=>[(2,vP (pb E1 0) 0),(3,vP (pb E1 1) 0),(4,vP (pb E1 2) 0)]) (W:=[{ i:=0,T:=27,c0:=[vI (hi (a0)),.int .u64 (lo (a0))] },{ i:=1,T:=27,c0:=[vI (hi (b0)),.int .u64 (lo (b0))] },{ i:=2,T:=27,c0:=[vI 0,.int .u64 0] }]) (s:=⟨bx3 0,bx3 1,al_ 2⟩) (k:=fun E1 ac wd H_=>?_)
 refine lpG (fun n_ ac wd=>∃ (a b:Int),(InW a∧InW b∧0 < b∧dvs a b=dvs a0 b0∧n_=b.toNat)∧Cur 21 w0 none none (fun _=>True) (fun _=>True) [(2,vP (pb E1 0) 0),(3,vP (pb E1 1) 0),(4,vP (pb E1 2) 0)] [((pb E1 0),27,[vI (hi (a)),.int .u64 (lo (a))]),((pb E1 1),27,[vI (hi (b)),.int .u64 (lo (b))]),((pb E1 2),27,[vI 0,.int .u64 0])] ac wd) b0.toNat ⟨a0,b0,⟨ha,hb,h00,rfl,rfl⟩,(H_.re rfl).th (fun _ h=>h)⟩ ?_
 rintro n_ ac wd ⟨a,b,⟨ha,hb,h0,hD,hn_⟩,H_⟩
 have m1:=Int.emod_nonneg a (show b≠0 by omega)
 have m2:=Int.emod_lt_of_pos a h0
 refine gq H_ 11 [[0],[1],[0,1,2],r_ 4,r_ 5,[0,1,2,3,5],[0,1,2,3,6],[7],[8],[0,1,2,3,4,7,8,9],r_ 6++[7,8,9,10],r_ 12] [_,_,_,_,_,_,_,_,_,none,none,_] (fun E3=>[(6,vP (pb E3 8) 0)]) (W:=[{ i:=7,T:=27,c0:=[vI 0,.int .u64 0],s:=some 9,c1:=fun _=>[vI (hi (a / b)),.int .u64 (lo (a / b))] },{ i:=8,T:=27,c0:=[vI 0,.int .u64 0],s:=some 10,c1:=fun _=>[vI (hi (a % b)),.int .u64 (lo (a % b))] }]) (s:=⟨ld3b 0 sh27,ld3b 1 sh27,cl3 Tryz.func57 ((wdiv_any a b ha hb h0)),mv3,xt3,xt3,xt3,al_ 3,al_ 4,sw3 3 7 sh27,sw3 4 8 sh27,mv3⟩) (k:=fun E3 ac wd H_=>?_)
 by_cases hc:a % b=0
 have e1:=dvs_end hc
 refine gq1 H_ 2 [[0],[1],[0,1,2]] [_,K_ (.agg #[vI 0,.int .u64 0]),bT] (fun _=>[(17,bT)]) (s:=⟨ld3b 4 sh27,bd30,bi3 (h:=by intro env w;simp [go_sem,hc,hi_zero,lo_zero])⟩) (k:=fun E4 ac wd H_=>?_)
 refine cT3 H_ ?_
 refine gq H_ 1 [[0],[0,1]] [_,none] (fun _=>[]) (S:=[⟨2,1,fun _=>[vI (hi (b)),.int .u64 (lo (b))]⟩]) (s:=⟨ld3b 1 sh27,se3 2 sh27⟩) (k:=fun E5 ac wd H_=>?_)
 refine lvC3 (v:=vW b) Tryz.results56 H_ 2 (loadGc sh27 rfl ⟨rfl,rfl,trivial⟩) ?_
 exact ⟨by rw [← hD,e1],H_.st.below⟩
 have e1:=dvs_next hc h0;have hne:=hilo0 hc
 refine gq1 H_ 2 [[0],[1],[0,1,2]] [_,K_ (.agg #[vI 0,.int .u64 0]),bF] (fun _=>[(17,bF)]) (s:=⟨ld3b 4 sh27,bd30,bi3 (h:=by intro env w;(first | (simp [go_sem];done) | (simp [go_sem];exact fun g1 g2=>hne ⟨g1,g2⟩)))⟩) (k:=fun E4 ac wd H_=>?_)
 refine cF3 H_ ?_
 refine gq H_ 3 [[0],[1],[0,2],r_ 4] [_,_,none,none] (fun _=>[]) (S:=[⟨0,2,fun _=>[vI (hi (b)),.int .u64 (lo (b))]⟩,⟨1,3,fun _=>[vI (hi (a % b)),.int .u64 (lo (a % b))]⟩]) (s:=⟨ld3b 1 sh27,ld3b 4 sh27,se3 0 sh27,se3 1 sh27⟩) (k:=fun E5 ac wd H_=>?_)
 refine blk_n (then_n ?_)
 exact ⟨_,by omega,b,a % b,⟨hb,by unfold InW at *;omega,by omega,e1▸hD,rfl⟩,(H_.take (M1:=[_,_,_]) rfl).re rfl⟩
theorem mmake_any (a b:Int) (ha:InW a) (hb:InW b) (hb0:0 < b):Ret 26 #[vW a,vW b] (vT2 (.agg #[vI (hi (a / dvs a b)),.int .u64 (lo (a / dvs a b)),vI (hi (b / dvs a b)),.int .u64 (lo (b / dvs a b))]) (vI 0)):=by
 intro w0
 have hst:=St.start w0 (Θ:=fun _=>True) (fun _ _=>trivial)
 refine en_ Tryz.func26 hst 38 [(0,vW a),(1,vW b)] (fun ac H_=>?_)
 refine gq H_ 3 [[0],[1],[2],[3]] [_,_,_,_] (fun E1=>[(2,vP (pb E1 0) 0),(3,vP (pb E1 1) 0),(4,vP (pb E1 2) 0)]) (W:=[{ i:=0,T:=27,c0:=[vI (hi (a)),.int .u64 (lo (a))] },{ i:=1,T:=27,c0:=[vI (hi (b)),.int .u64 (lo (b))] },{ i:=2,T:=57,c0:=[vI 0,.int .u64 0,vI 0,.int .u64 0] }]) (s:=⟨bx3 0,bx3 1,al_ 2,mv3⟩) (k:=fun E1 ac wd H_=>?_)
 obtain ⟨g0,g1⟩:=dvs_pos (a:=a) hb0
 obtain ⟨g,hg⟩:∃ g,dvs a b=g:=⟨_,rfl⟩
 rw [hg] at g0 g1
 have hgw:InW g:=by unfold InW at *;omega
 refine gq1 H_ 3 [[0],[1],[0,1,2],r_ 4] [_,K_ (.agg #[vI 0,.int .u64 0]),_,bF] (fun _=>[(16,bF)]) (s:=⟨ld3b 1 sh27,bd30,cl3 Tryz.func32 ((mcmpZ b 0 hb (by unfold InW;omega))),bi3 (h:=by intro env w;(first | (simp [go_sem,cm_le,cm_lt,cm_ge,cm_gt,hb0];done) | (simp [go_sem,cm_le,cm_lt,cm_ge,cm_gt];omega)))⟩) (k:=fun E2 ac wd H_=>?_)
 refine cF3 H_ ?_
 refine gq H_ 4 [[0],[1],[0,1,2],[3],r_ 5] [_,_,_,_,none] (fun E3=>[(6,vP (pb E3 3) 0)]) (W:=[{ i:=3,T:=27,c0:=[vI 0,.int .u64 0],s:=some 4,c1:=fun _=>[vI (hi (g)),.int .u64 (lo (g))] }]) (s:=⟨ld3b 0 sh27,ld3b 1 sh27,cl3 Tryz.func56 ((Ret.eq (mdiv_any a b ha hb hb0) (congrArg vW hg))),al_ 3,sw3 3 3 sh27⟩) (k:=fun E3 ac wd H_=>?_)
 refine gq H_ 11 [[0],[1],[0,1,2],r_ 4,r_ 5,[0,1,2,3,5],[0,1,2,3,6],[7],[8],[0,1,2,3,4,7,8,9],r_ 6++[7,8,9,10],r_ 12] [_,_,_,_,_,_,_,_,_,none,none,_] (fun E4=>[(7,vP (pb E4 7) 0)]) (W:=[{ i:=7,T:=27,c0:=[vI 0,.int .u64 0],s:=some 9,c1:=fun _=>[vI (hi (a / g)),.int .u64 (lo (a / g))] },{ i:=8,T:=27,c0:=[vI 0,.int .u64 0],s:=some 10,c1:=fun _=>[vI (hi (a % g)),.int .u64 (lo (a % g))] }]) (s:=⟨ld3b 0 sh27,ld3b 3 sh27,cl3 Tryz.func57 ((wdiv_any a g ha hgw g0)),mv3,xt3,xt3,xt3,al_ 4,al_ 5,sw3 4 7 sh27,sw3 5 8 sh27,mv3⟩) (k:=fun E4 ac wd H_=>?_)
 refine gq H_ 11 [[0],[1],[0,1,2],r_ 4,r_ 5,[0,1,2,3,5],[0,1,2,3,6],[7],[8],[0,1,2,3,4,7,8,9],r_ 6++[7,8,9,10],r_ 12] [_,_,_,_,_,_,_,_,_,none,none,_] (fun E5=>[(10,vP (pb E5 7) 0)]) (W:=[{ i:=7,T:=27,c0:=[vI 0,.int .u64 0],s:=some 9,c1:=fun _=>[vI (hi (b / g)),.int .u64 (lo (b / g))] },{ i:=8,T:=27,c0:=[vI 0,.int .u64 0],s:=some 10,c1:=fun _=>[vI (hi (b % g)),.int .u64 (lo (b % g))] }]) (s:=⟨ld3b 1 sh27,ld3b 3 sh27,cl3 Tryz.func57 ((wdiv_any b g hb hgw g0)),mv3,xt3,xt3,xt3,al_ 6,al_ 7,sw3 6 7 sh27,sw3 7 8 sh27,mv3⟩) (k:=fun E5 ac wd H_=>?_)
 refine gq H_ 4 [[0],[1],[0,1,2],r_ 4,r_ 5] [_,_,K_ (.agg #[vI (hi (a / g)),.int .u64 (lo (a / g)),vI (hi (b / g)),.int .u64 (lo (b / g))]),none,_] (fun _=>[(5,vI 0)]) (S:=[⟨2,3,fun _=>[vI (hi (a / g)),.int .u64 (lo (a / g)),vI (hi (b / g)),.int .u64 (lo (b / g))]⟩]) (s:=⟨ld3b 4 sh27,ld3b 6 sh27,bd32,se3 2 sh57,mv3⟩) (k:=fun E6 ac wd H_=>?_)
 refine lvCT3 (v:=.agg #[vI (hi (a / g)),.int .u64 (lo (a / g)),vI (hi (b / g)),.int .u64 (lo (b / g))]) Tryz.results26 H_ 2 (loadGc sh57 rfl ⟨rfl,rfl,rfl,rfl,trivial⟩) ?_
 subst hg;exact ⟨rfl,H_.st.below⟩
def rtN (es:List (Int × Int)) (z:Int):Int:=if msE es z=0 then msR es z / dvs (msR es z) (msB es z) else 0
def rtD (es:List (Int × Int)) (z:Int):Int:=if msE es z=0 then msB es z / dvs (msR es z) (msB es z) else 0
theorem ms_bd {es:List (Int × Int)} (hp:okPre es es.length=true) (hn:0 < es.length) {z:Int} (h:msE es z=0):0≤msR es z∧msR es z < msB es z∧msB es z≤86401:=by
  unfold msR msB
  rw [if_pos h]
  obtain ⟨a1,a2⟩:=smM_spec es z es.length
  cases hI:smI es z (smM es z es.length)
  · simp
  · have hm0:0 < smM es z es.length:=by unfold smI at hI;simp at hI;exact hI.1
    obtain ⟨a3,a4,a5⟩:=a1.resolve_left (by omega)
    obtain ⟨b0,b1,b2,b3,b4,b5,b6,b7⟩:=win_in hp hm0 a4
    rw [if_pos ⟨h,rfl⟩,if_pos rfl]
    have:=Int.emod_nonneg ((z-smS es (smM es z es.length)*1000000000000000000)*86400) (show smL es (smM es z es.length)≠0 by omega)
    have:=Int.emod_lt_of_pos ((z-smS es (smM es z es.length)*1000000000000000000)*86400) (show 0 < smL es (smM es z es.length) by omega)
    omega
theorem rt_no {es:List (Int × Int)} {z:Int} (h:¬ msE es z=0):rtN es z=0∧rtD es z=0:=by unfold rtN rtD;rw [if_neg h,if_neg h];exact ⟨rfl,rfl⟩
theorem rt_yes {es:List (Int × Int)} {z:Int} (h:msE es z=0):rtN es z=msR es z / dvs (msR es z) (msB es z)∧rtD es z=msB es z / dvs (msR es z) (msB es z):=by unfold rtN rtD;rw [if_pos h,if_pos h];exact ⟨rfl,rfl⟩
theorem mRest_l (w0:World) (g:Nat) (u x:Int) (es:List (Int × Int)) (hL:IsLx w0 g u x es) (z:Int) (hz:InW z):LeapC Tryz.prog 22 [vP g 0,vW z] w0 g u x es (vT2 (.agg #[vI (hi (rtN es z)),.int .u64 (lo (rtN es z)),vI (hi (rtD es z)),.int .u64 (lo (rtD es z))]) (vI (msE es z))):=by
 unfold LeapC
 have hl64:=(okT_pre hL.ok).2.2;have hp:=(okT_pre hL.ok).1;have hn0:=(okT_pre hL.ok).2.1
 have hst:=St.startL w0 hL
 refine en_ Tryz.func22 hst 27 [(0,vP g 0),(1,vW z)] (fun ac H_=>?_)
 refine gq H_ 2 [[0],[1],[2]] [_,_,_] (fun E1=>[(3,vP (pb E1 0) 0),(4,vP (pb E1 1) 0)]) (W:=[{ i:=0,T:=27,c0:=[vI (hi (z)),.int .u64 (lo (z))] },{ i:=1,T:=57,c0:=[vI 0,.int .u64 0,vI 0,.int .u64 0] }]) (s:=⟨bx3 0,al_ 1,mv3⟩) (k:=fun E1 ac wd H_=>?_)
 refine gq H_ 14 [[0],[1],[0,1,2],r_ 4,r_ 5,[0,1,2,3,5],[0,1,2,3,6],[0,1,2,3,7],[8],[9],[10],[0,1,2,3,4,8,9,10,11],r_ 6++[8,9,10,11,12],r_ 7++[8,9,10,11,12,13],r_ 15] [_,_,K_ (.tuple #[vW (msN es z),vW (msR es z),vW (msB es z),vI (msE es z)]),_,_,_,_,_,_,_,_,none,none,none,_] (fun E2=>[(7,vP (pb E2 9) 0),(8,vP (pb E2 10) 0),(9,vI (msE es z))]) (W:=[{ i:=8,T:=27,c0:=[vI 0,.int .u64 0],s:=some 11,c1:=fun _=>[vI (hi (msN es z)),.int .u64 (lo (msN es z))] },{ i:=9,T:=27,c0:=[vI 0,.int .u64 0],s:=some 12,c1:=fun _=>[vI (hi (msR es z)),.int .u64 (lo (msR es z))] },{ i:=10,T:=27,c0:=[vI 0,.int .u64 0],s:=some 13,c1:=fun _=>[vI (hi (msB es z)),.int .u64 (lo (msB es z))] }]) (s:=⟨mv3,ld3b 0 sh27,s_leap (g:=g) (u:=u) (x:=x) (es:=es) Tryz.func52 (fun _ h=>h) (fun _ h=>h) (h:=fun D env ac wd hA hL=>⟨_,msoft_l _ g u x es hL z hz,rfl⟩),mv3,xt3,xt3,xt3,xt3,al_ 2,al_ 3,al_ 4,sw3 2 8 sh27,sw3 3 9 sh27,sw3 4 10 sh27,mv3⟩) (k:=fun E2 ac wd H_=>?_)
 by_cases he:msE es z=0
 obtain ⟨q1,q2⟩:=rt_yes he;obtain ⟨m0,m1,m2⟩:=ms_bd hp hn0 he
 refine gq1 H_ 1 [[0],[0,1]] [_,bF] (fun _=>[(19,bF)]) (s:=⟨mv3,bi3 (h:=by intro env w;simp [go_sem,he])⟩) (k:=fun E3 ac wd H_=>?_)
 refine cF3 H_ ?_
 refine gq H_ 6 [[0],[1],[0,1,2],r_ 4,[0,1,2,4],r_ 6,r_ 7] [_,_,_,_,_,none,_] (fun _=>[(5,vI 0)]) (S:=[⟨1,5,fun _=>[vI (hi ((msR es z) / dvs (msR es z) (msB es z))),.int .u64 (lo ((msR es z) / dvs (msR es z) (msB es z))),vI (hi ((msB es z) / dvs (msR es z) (msB es z))),.int .u64 (lo ((msB es z) / dvs (msR es z) (msB es z)))]⟩]) (s:=⟨ld3b 3 sh27,ld3b 4 sh27,cl3 Tryz.func26 ((mmake_any (msR es z) (msB es z) (by unfold InW;omega) (by unfold InW;omega) (by omega))),xt3,xt3,se3 1 sh57,mv3⟩) (k:=fun E4 ac wd H_=>?_)
 refine lvCT3 (v:=.agg #[vI (hi ((msR es z) / dvs (msR es z) (msB es z))),.int .u64 (lo ((msR es z) / dvs (msR es z) (msB es z))),vI (hi ((msB es z) / dvs (msR es z) (msB es z))),.int .u64 (lo ((msB es z) / dvs (msR es z) (msB es z)))]) Tryz.results22 H_ 1 (loadGc sh57 rfl ⟨rfl,rfl,rfl,rfl,trivial⟩) ?_
 exact ⟨by rw [q1,q2,he],H_.st.nowT,H_.st.gr⟩
 obtain ⟨q1,q2⟩:=rt_no he
 refine gq1 H_ 1 [[0],[0,1]] [_,bT] (fun _=>[(19,bT)]) (s:=⟨mv3,bi3 (h:=by intro env w;simp [go_sem,he])⟩) (k:=fun E3 ac wd H_=>?_)
 refine cT3 H_ ?_
 refine gq H_ 3 [[0],[1],[0,2],r_ 4] [K_ (.agg #[vI 0,.int .u64 0,vI 0,.int .u64 0]),_,none,_] (fun _=>[(5,vI (msE es z))]) (S:=[⟨1,2,fun _=>[vI 0,.int .u64 0,vI 0,.int .u64 0]⟩]) (s:=⟨bd30,mv3,se3 1 sh57,mv3⟩) (k:=fun E4 ac wd H_=>?_)
 refine lvCT3 (v:=.agg #[vI 0,.int .u64 0,vI 0,.int .u64 0]) Tryz.results22 H_ 1 (loadGc sh57 rfl ⟨rfl,rfl,rfl,rfl,trivial⟩) ?_
 exact ⟨by rw [q1,q2,hi_zero,lo_zero],H_.st.nowT,H_.st.gr⟩
end Go.Proofs.YtimpognkffnjkaaGreat
namespace Go.Proofs.YtimpognkffnjkaaGreat
open Go.RowKit
attribute [local go_sem] vN bT bF rS vW vM vL vT2 vT3 vP vI execOp Act.eval evC bigF vB hi_zero lo_zero Tryz.underlying24 Tryz.underlying40 Tryz.underlying98
theorem Cur.mapF {n:Nat} {w0:World} {row ex:Option Nat} {L0 L1:List (World→Prop)} {Θ:World→Prop} {L:Slots} {M:List Ent} {a:Act} {w:World} (h:Cur n w0 row ex (Facts L0) Θ L M a w) (hk:∀ w,Facts L0 w→Facts L1 w):Cur n w0 row ex (Facts L1) Θ L M a w:=
 ⟨h.sz,h.df,h.st.mono (fun w' hw=>hk w' hw) (fun _ h=>h),h.sl⟩
theorem Facts.mk3 {p q r:World→Prop} {w:World} (h1:p w) (h2:q w) (h3:r w):Facts [p,q,r] w:=by
 intro φ hφ
 simp only [List.mem_cons,List.not_mem_nil,or_false] at hφ
 rcases hφ with rfl | rfl | rfl <;> assumption
theorem BigN.toX {B:Nat} {w:World} {v:Value} {z:Int} (h:BigN B w v z):BigX none w v z:=by
 obtain ⟨A,c,h1,h2⟩:=h
 exact ⟨A,c,h1,h2.1,fun _ e=>by cases e⟩
def HardX (w:World) (v:Value) (z e:Int):Prop:=v = .tuple #[tp v 0,vI e]∧BigX none w (tp v 0) z
def hardF (z e:Int) (v:Value):Value:=.tuple #[bigF z (tp v 0),vI e]
section
variable {w w':World} {v:Value} {z e:Int}
theorem HardX.mk (h:BigX none w v z):HardX w (.tuple #[v,vI e]) z e:=⟨rfl,h⟩
theorem HardX.form (h:HardX w v z e):v=hardF z e v:=by
 obtain ⟨h0,h1⟩:=h
 unfold hardF
 rw [← h1.form]
 exact h0
theorem HardX.keep (h:HardX w v z e) (hk:Keep none w w'):HardX w' v z e:=⟨h.1,h.2.keep hk⟩
theorem Facts.hard {L:List (World→Prop)} (h:Facts L w) (j:Nat) (hj:L[j]? = some (fun w=>HardX w v z e)):Row w (.slice (bA (tp v 0)) (digs z).length (bC (tp v 0))) (digs z):=BigX.row (show HardX w v z e from h.get j hj).2
theorem At.hard {R:Reg} {i:Nat} {D:Nat→Bool} {env:Env} {a:Act} (h:At R i D env a w) (j:Nat) (hj:((R.cl.getD i []).contains j && !(j == i))=true) (hs:((R.cl.getD j []).contains j)=true) (hF:R.F.filter (fun p=>Nat.beq p.1 j)=[(j,fun env w=>HardX w (env j) z e)]):Row w (.slice (bA (tp (env j) 0)) (digs z).length (bC (tp (env j) 0))) (digs z):=BigX.row (h.fact j (φ:=fun v w=>HardX w v z e) hj hs hF).2
end
section
variable {es:List (Int × Int)} (hp:okPre es es.length=true) (hn:0 < es.length)
include hp hn
theorem soft_low {z:Int} (hz:z≤firZ es):softZ es z=z-(3506716800+smO es 0)*1000000000000000000:=by
  have hF:firZ es=(smD es 0*86400+smO es 0)*1000000000000000000:=rfl
  obtain ⟨f0,f1,f2,f3,f4⟩:=fir_in hp hn
  obtain ⟨a1,a2⟩:=smM_spec es z es.length
  unfold softZ
  generalize smM es z es.length=m at *
  rcases a1 with rfl | ⟨a3,a4,a5⟩
  · unfold smV smI
    simp only [Nat.lt_irrefl,decide_false,Bool.false_and,Bool.false_eq_true,if_false]
  · exfalso
    have hd:smD es 0+1≤smD es m:=by
      have:=(day_mono hp 0 m (by omega)).1
      rw [Nat.zero_add] at this
      unfold smD;omega
    have hS:smS es m=(smD es m-1)*86400+43200+smO es (m-1):=rfl
    have ho:0≤smO es (m-1):=(okPre_num hp (i:=m-1) (by omega)).2.2.1
    omega
theorem soft_fir:softZ es (firZ es)=hd0 es:=by
 rw [soft_low hp hn (Int.le_refl _)]
 unfold firZ hd0
 omega
theorem hard_bd {y:Int} (hy:hd0 es≤y):firZ es≤hardZ es y∧y+3506716800000000000000000000-2000000000000000000≤hardZ es y∧hardZ es y≤y+3506716800000000000000000000+1002000000000000000000:=by
  have hH:hd0 es=(smD es 0*86400-3506716800)*1000000000000000000:=rfl
  refine ⟨?_,?_⟩
  · refine Int.not_lt.1 fun hlt=>?_
    have h1:=(hard_least hp hn (y:=y) (z:=firZ es-1) (by omega)).2 (by omega)
    rw [soft_low hp hn (by omega)] at h1
    unfold firZ at h1
    omega
  · obtain ⟨b1,b2⟩:=hdM_spec es y es.length
    have hoff:=hd_off hp hn (y:=y) (by omega)
    unfold hardZ hdV
    generalize hdM es y es.length=m at *
    have hm:m < es.length:=by rcases b1 with h | h <;> omega
    have ho:=okPre_num hp (i:=m) hm
    have ho1:0≤smO es m:=ho.2.2.1
    have ho2:smO es m≤1000:=ho.2.2.2.1
    cases hI:hdI es y m
    · rw [if_neg (by simp),hoff hI]
      omega
    · rw [if_pos rfl]
      unfold hdI at hI
      simp only [Bool.and_eq_true,decide_eq_true_eq] at hI
      obtain ⟨b3,b4,b5⟩:=b1.resolve_left (by omega)
      have hS:smS es m=(smD es m-1)*86400+43200+smO es (m-1):=rfl
      have hB:smB es m=(smD es m-1)*86400+43200-3506716800:=rfl
      have hq:=okPre_num hp (i:=m-1) (by omega)
      have hq1:0≤smO es (m-1):=hq.2.2.1
      have hq2:smO es (m-1)≤1000:=hq.2.2.2.1
      obtain ⟨h5,h6⟩:=smL_cases hp b3 hm
      obtain ⟨x,hx⟩:∃ x,x=y-smB es m*1000000000000000000:=⟨_,rfl⟩
      rw [← hx]
      have hx2:=hI.2
      have hu:cdiv (x*smL es m) 86400≤x+1000000000000000000:=cdiv_le.2 (by rcases h5 with h5 | h5 <;> rw [h5] <;> omega)
      have hl:¬ cdiv (x*smL es m) 86400≤x-1000000000000000000-1:=fun h=>by
        have:=cdiv_le.1 h
        rcases h5 with h5 | h5 <;> rw [h5] at this <;> omega
      omega
end
theorem rHard_any (w0:World) (A0:Option Addr) (c0:Nat) (es:List (Int × Int)) (u x:Int) (hv:Ents w0 w0.heap.size (.slice A0 es.length c0) es) (hp:okPre es es.length=true) (hn0:0 < es.length) (hl64:es.length≤64) (p:Bool) (A1:Option Addr) (k1_:Nat) (y:Int) (hz0:p=decide (y < 0)) (hr:Row w0 (.slice A1 (digs y).length k1_) (digs y)) (hz:InW y):Calls Tryz.prog 17 #[.agg #[vI u,vI x,.slice A0 es.length c0],.agg #[.bool (p),.slice A1 ((digs y).length) k1_]] w0 fun e w'=>∃ v,e = .returned v∧Below w0.heap.size w0 w'∧HardX w' v (mhV es y) (mhE es y):=by
 obtain ⟨f0,f1,f2,f3,f4⟩:=fir_in hp hn0
 have hs0:=soft_fir hp hn0
 have hF9:firZ es=(smD es 0*86400+smO es 0)*1000000000000000000:=rfl
 have hH:hd0 es=(smD es 0*86400-3506716800)*1000000000000000000:=rfl
 have hsz:Sm y:=by unfold InW at hz;unfold Sm;omega
 have hzF:InW (firZ es):=by unfold InW;omega
 have hbF:-1099511627776≤firZ es / 1000000000000000000 / 86400∧firZ es / 1000000000000000000 / 86400≤1099511627776:=by omega
 obtain ⟨md,hmd⟩:∃ md,md=y+3506716800000000000000000000:=⟨_,rfl⟩
 obtain ⟨lo,hlo⟩:∃ lo,lo=md-2000000000000000000:=⟨_,rfl⟩
 obtain ⟨hi_,hhi⟩:∃ hi_,hi_=md+1002000000000000000000:=⟨_,rfl⟩
 have hst:=St.start w0 (Θ:=fun _=>True) (fun _ _=>trivial)
 refine en_ Tryz.func17 hst 102 [(0,.agg #[vI u,vI x,.slice A0 es.length c0]),(1,.agg #[.bool (p),.slice A1 ((digs y).length) k1_])] (fun ac H_=>?_)
 replace H_:=H_.facts
 refine fq H_ 3 [[0],[1],[2],[3]] [_,_,_,_] (fun E1=>[(2,vP (pb E1 0) 0),(3,vP (pb E1 1) 0),(4,vP (pb E1 2) 0)]) (W:=[{ i:=0,T:=24,c0:=[vI u,vI x,.slice A0 es.length c0] },{ i:=1,T:=40,c0:=[.bool (p),rS y A1 k1_] },{ i:=2,T:=40,c0:=[bF,.slice none 0 0] }]) (s:=⟨bx3 0,bx3 1,al_ 2,mv3⟩) (k:=fun E1 ac wd H_=>?_)
 refine fq H_ 6 [[0],[0,1],[2],r_ 4,[4],r_ 6,r_ 7] [_,_,_,KE_ fun env=>.slice ((sA (env 3))) ((es.length-1)) ((sC (env 3))),_,none,_] (fun E2=>[(6,vP (pb E2 4) 0),(7,.slice ((sA (E2 3))) ((es.length-1)) ((sC (E2 3))))]) (W:=[{ i:=4,T:=40,c0:=[bF,.slice none 0 0],s:=some 5,c1:=fun env=>[.bool (decide (firZ es < 0)),rS (firZ es) ((bA (env 1))) ((bC (env 1)))] }]) (F:=[fB w0 1 (firZ es),(3,fun env w=>WinsB w (env 3) 0 es)]) (s:=⟨ld3c 0 sh24,cb3 Tryz.func48 fun wd hA=>rfirst_any wd A0 c0 es u x (hv.gn hA.j.st.gr) hp hn0 hl64,ld3c 0 sh24,s_factO rfl rfl rfl Tryz.func14 (by kernel_rfl) rfl (fun _=>wanted_none rfl _) (fun v w=>WinsB w v 0 es) (winsF es.length) (fun v w B=>WinsB w v B es) rfl rfl (fun v w h=>h.form) (fun v w w' B hk h=>h.keepB hk) (fun {D env ac wd} hA=>⟨_,hA.args (vs:=[.agg #[vI u,vI x,.slice A0 es.length c0]]) rfl,rwindows_any wd A0 c0 es u x (hv.gn hA.j.st.gr) hp hn0 hl64⟩),al_ 3,sw3 3 4 sh40,mv3⟩) (k:=fun E2 ac wd H_=>?_)
 refine fq H_ 12 [[0],[1],[2],r_ 4,r_ 5,r_ 6,[0,1,2,3,4,6],[0,1,2,3,4,7],[8],[9],r_ 6++[8,9,10],r_ 7++[8,9,10,11],r_ 13] [_,_,_,KE_ fun env=>vT3 (bigF (softZ es (firZ es)) (tp (env 3) 0)) (bigF (rsR es (firZ es)) (tp (env 3) 1)) (vI (rsB es (firZ es))),_,_,_,_,_,_,none,none,_] (fun E3=>[(8,vP (pb E3 8) 0)]) (W:=[{ i:=8,T:=40,c0:=[bF,.slice none 0 0],s:=some 10,c1:=fun env=>[.bool (decide (softZ es (firZ es) < 0)),rS (softZ es (firZ es)) ((bA (tp (env 3) 0))) ((bC (tp (env 3) 0)))] },{ i:=9,T:=40,c0:=[bF,.slice none 0 0],s:=some 11,c1:=fun env=>[.bool (decide (rsR es (firZ es) < 0)),rS (rsR es (firZ es)) ((bA (tp (env 3) 1))) ((bC (tp (env 3) 1)))] }]) (F:=[(3,fun env w=>SofX w (env 3) (softZ es (firZ es)) (rsR es (firZ es)) (rsB es (firZ es)))]) (s:=⟨ld3c 0 sh24,mv3,ld3b 3 sh40,cf_ Tryz.func49 (fun v w=>SofX w v (softZ es (firZ es)) (rsR es (firZ es)) (rsB es (firZ es))) (sofF (softZ es (firZ es)) (rsR es (firZ es)) (rsB es (firZ es))) (h:=fun _ env _ wd hA=>⟨_,rsoft_any wd A0 c0 es u x (hv.gn hA.j.st.gr) hp hn0 (sA (E2 3)) (sC (E2 3)) (Facts.wins (hA.j.st.now).1 1 rfl) hl64 _ (bA (E2 1)) (bC (E2 1)) (firZ es) rfl (Facts.bigN (hA.j.st.now).1 0 rfl) hzF (Int.le_refl _) hbF,rfl⟩),mv3,xt3,xt3,xt3,al_ 4,al_ 5,sw3 4 8 sh40,sw3 5 9 sh40,mv3⟩) (k:=fun E3 ac wd H_=>?_)
 by_cases hE:y < hd0 es
 have hM:mhE es y=8:=by unfold mhE;rw [if_pos hE]
 refine fq1 H_ 3 [[0],[1],[0,1,2],r_ 4] [_,_,_,bT] (fun _=>[(36,bT)]) (s:=⟨ld3b 1 sh40,ld3b 4 sh40,cw3 Tryz.func21 fun wd hA=>Cmp_any wd p A1 k1_ y hz0 (hr.grown hA.j.st.gr)  (decide (softZ es (firZ es) < 0)) (bA (tp (E3 3) 0)) (bC (tp (E3 3) 0)) (softZ es (firZ es)) rfl (Facts.sof1 (hA.j.st.now).1 2 rfl) ,bi3 (h:=by intro env w;(first | (simp [go_sem,cm_lt,hs0,hE];done) | (simp [go_sem,cm_lt,hs0];omega)))⟩) (k:=fun E4 ac wd H_=>?_)
 refine cT3 H_ ?_
 refine fq H_ 2 (tri 3) [K_ (.agg #[bF,.slice none 0 0]),none,_] (fun _=>[(5,vI 8)]) (S:=[⟨2,1,fun _=>[bF,.slice none 0 0]⟩]) (s:=⟨bd30,se3 2 sh40,mv3⟩) (k:=fun E5 ac wd H_=>?_)
 refine lvCT3 (v:=.agg #[.bool false,.slice none 0 0]) Tryz.results17 H_ 2 (loadGc sh40 rfl ⟨rfl,rfl,trivial⟩) ?_
 have e1:mhV es y=0:=by unfold mhV;rw [if_neg (by rw [hM];omega)]
 rw [e1,hM]
 exact ⟨_,rfl,H_.st.below,HardX.mk (BigX.zero _)⟩
 refine fq1 H_ 3 [[0],[1],[0,1,2],r_ 4] [_,_,_,bF] (fun _=>[(36,bF)]) (s:=⟨ld3b 1 sh40,ld3b 4 sh40,cw3 Tryz.func21 fun wd hA=>Cmp_any wd p A1 k1_ y hz0 (hr.grown hA.j.st.gr)  (decide (softZ es (firZ es) < 0)) (bA (tp (E3 3) 0)) (bC (tp (E3 3) 0)) (softZ es (firZ es)) rfl (Facts.sof1 (hA.j.st.now).1 2 rfl) ,bi3 (h:=by intro env w;(first | (simp [go_sem,cm_lt,hs0,hE];done) | (simp [go_sem,cm_lt,hs0];omega)))⟩) (k:=fun E4 ac wd H_=>?_)
 refine cF3 H_ ?_
 cases hin:wthn (y / 1000000000000000000 / 86400) (-1099511627776) 1099511627776
 have hmid:¬ wthn (y / 1000000000000000000 / 86400) (-1099511577776) 1099511577776=true:=(fun h=>by have:=wth_iff.1 h;have:=wth_no.1 hin;omega);have hM:mhE es y=2:=(by unfold mhE;rw [if_neg hE,if_neg hmid]);have hno:¬ (-1099511627776≤y / 1000000000000000000 / 86400∧y / 1000000000000000000 / 86400≤1099511627776):=(fun h=>by have:=wth_iff.2 h;rw [hin] at this;cases this)
 refine fq H_ 7 (tri 4++[[0,1,2,4],[5],[0,1,2,3,5,6],r_ 8]) [_,_,_,_,_,_,none,_] (fun E5=>[(11,vP (pb E5 5) 0),(12,bF)]) (W:=[{ i:=5,T:=98,c0:=[vI 0,vI 0,vI 0],s:=some 6,c1:=fun _=>[vI 0,vI 0,vI 0] }]) (s:=⟨ld3b 1 sh40,cw3 Tryz.func50 fun wd hA=>rsplit_no wd p A1 k1_ y hz0 (hr.grown hA.j.st.gr) hsz (by unfold InW at hz;omega) (by unfold InW at hz;omega) hno,mv3,xt3,xt3,al_ 6,sw3 6 5 sh98,mv3⟩) (k:=fun E5 ac wd H_=>?_)
 refine fq1 H_ 11 (tri 12) [_,bT,_,_,_,_,bT,_,_,_,_,bT] (fun _=>[(54,bT)]) (s:=⟨mv3,un3,mv3,off_,off_,off_,pk3,mv3,off_,off_,off_,pk3⟩) (k:=fun E6 ac wd H_=>?_)
 refine cT3 H_ ?_
 refine fq H_ 2 (tri 3) [K_ (.agg #[bF,.slice none 0 0]),none,_] (fun _=>[(5,vI 2)]) (S:=[⟨2,1,fun _=>[bF,.slice none 0 0]⟩]) (s:=⟨bd30,se3 2 sh40,mv3⟩) (k:=fun E7 ac wd H_=>?_)
 refine lvCT3 (v:=.agg #[.bool false,.slice none 0 0]) Tryz.results17 H_ 2 (loadGc sh40 rfl ⟨rfl,rfl,trivial⟩) ?_
 have e1:mhV es y=0:=by unfold mhV;rw [if_neg (by rw [hM];omega)]
 rw [e1,hM]
 exact ⟨_,rfl,H_.st.below,HardX.mk (BigX.zero _)⟩
 have hbz:=wth_iff.1 hin
 refine fq H_ 7 (tri 4++[[0,1,2,4],[5],[0,1,2,3,5,6],r_ 8]) [_,_,_,_,_,_,none,_] (fun E5=>[(11,vP (pb E5 5) 0),(12,bT)]) (W:=[{ i:=5,T:=98,c0:=[vI 0,vI 0,vI 0],s:=some 6,c1:=fun _=>[vI (y / 1000000000000000000 / 86400),vI (y / 1000000000000000000 % 86400),vI (y % 1000000000000000000)] }]) (s:=⟨ld3b 1 sh40,cw3 Tryz.func50 fun wd hA=>Split_yes wd p A1 k1_ y hz0 (hr.grown hA.j.st.gr) hsz (wth_iff.1 hin).1 (wth_iff.1 hin).2,mv3,xt3,xt3,al_ 6,sw3 6 5 sh98,mv3⟩) (k:=fun E5 ac wd H_=>?_)
 by_cases g1:y / 1000000000000000000 / 86400 < -1099511577776
 have hmid:¬ wthn (y / 1000000000000000000 / 86400) (-1099511577776) 1099511577776=true:=(fun h=>by have:=wth_iff.1 h;omega);have hM:mhE es y=2:=by unfold mhE;rw [if_neg hE,if_neg hmid]
 refine fq1 H_ 11 (tri 12) [_,bF,_,_,_,bT,bT,_,_,_,_,bT] (fun _=>[(54,bT)]) (s:=⟨mv3,un3,mv3,fa3 0,ld31 6 sh3,bi3 (h:=by intro env w;simp [go_sem,g1]),pk3 (h:=by intro env w;simp [go_sem,g1]),mv3,off_,off_,off_,pk3⟩) (k:=fun E6 ac wd H_=>?_)
 refine cT3 H_ ?_
 refine fq H_ 2 (tri 3) [K_ (.agg #[bF,.slice none 0 0]),none,_] (fun _=>[(5,vI 2)]) (S:=[⟨2,1,fun _=>[bF,.slice none 0 0]⟩]) (s:=⟨bd30,se3 2 sh40,mv3⟩) (k:=fun E7 ac wd H_=>?_)
 refine lvCT3 (v:=.agg #[.bool false,.slice none 0 0]) Tryz.results17 H_ 2 (loadGc sh40 rfl ⟨rfl,rfl,trivial⟩) ?_
 have e1:mhV es y=0:=by unfold mhV;rw [if_neg (by rw [hM];omega)]
 rw [e1,hM]
 exact ⟨_,rfl,H_.st.below,HardX.mk (BigX.zero _)⟩
 by_cases g2:1099511577776 < y / 1000000000000000000 / 86400
 have hmid:¬ wthn (y / 1000000000000000000 / 86400) (-1099511577776) 1099511577776=true:=(fun h=>by have:=wth_iff.1 h;omega);have hM:mhE es y=2:=by unfold mhE;rw [if_neg hE,if_neg hmid]
 refine fq1 H_ 11 (tri 12) [_,bF,_,_,_,bF,bF,_,_,_,bT,bT] (fun _=>[(54,bT)]) (s:=⟨mv3,un3,mv3,fa3 0,ld31 6 sh3,bi3 (h:=by intro env w;simp [go_sem,g1]),pk3 (h:=by intro env w;simp [go_sem,g1]),mv3,fa3 0,ld31 6 sh3,bi3 (h:=by intro env w;simp [go_sem,g2]),pk3 (h:=by intro env w;simp [go_sem,g2])⟩) (k:=fun E6 ac wd H_=>?_)
 refine cT3 H_ ?_
 refine fq H_ 2 (tri 3) [K_ (.agg #[bF,.slice none 0 0]),none,_] (fun _=>[(5,vI 2)]) (S:=[⟨2,1,fun _=>[bF,.slice none 0 0]⟩]) (s:=⟨bd30,se3 2 sh40,mv3⟩) (k:=fun E7 ac wd H_=>?_)
 refine lvCT3 (v:=.agg #[.bool false,.slice none 0 0]) Tryz.results17 H_ 2 (loadGc sh40 rfl ⟨rfl,rfl,trivial⟩) ?_
 have e1:mhV es y=0:=by unfold mhV;rw [if_neg (by rw [hM];omega)]
 rw [e1,hM]
 exact ⟨_,rfl,H_.st.below,HardX.mk (BigX.zero _)⟩
 have hmid:wthn (y / 1000000000000000000 / 86400) (-1099511577776) 1099511577776=true:=wth_iff.2 (by omega);have hM:mhE es y=0:=(by unfold mhE;rw [if_neg hE,if_pos hmid]);have hy:hd0 es≤y:=(by omega);obtain ⟨d1,d2,d3⟩:=hard_bd hp hn0 hy
 refine fq1 H_ 11 (tri 12) [_,bF,_,_,_,bF,bF,_,_,_,bF,bF] (fun _=>[(54,bF)]) (s:=⟨mv3,un3,mv3,fa3 0,ld31 6 sh3,bi3 (h:=by intro env w;simp [go_sem,g1]),pk3 (h:=by intro env w;simp [go_sem,g1]),mv3,fa3 0,ld31 6 sh3,bi3 (h:=by intro env w;simp [go_sem,g2]),pk3 (h:=by intro env w;simp [go_sem,g2])⟩) (k:=fun E6 ac wd H_=>?_)
 refine cF3 H_ ?_
 refine fq H_ 5 [[0],[1],[1,2],r_ 4,[4],r_ 6] [_,vL 40587 0 0,_,_,_,none] (fun E7=>[(13,vP (pb E7 4) 0)]) (W:=[{ i:=4,T:=40,c0:=[bF,.slice none 0 0],s:=some 5,c1:=fun env=>[.bool (decide (md < 0)),rS md ((bA (env 3))) ((bC (env 3)))] }]) (F:=[fB w0 2 3506716800000000000000000000,fB w0 3 md]) (s:=⟨ld3b 1 sh40,bd31,cb3 Tryz.func37 fun wd hA=>m_bigeq (Join_any wd 40587 0 0 (by omega) (by omega) (by omega) (by omega) (by omega) (by omega)) (show jn 40587 0 0=3506716800000000000000000000 by unfold jn;omega),cb3e Tryz.func29 fun env wd hA=>m_bigeq (Add_any wd p A1 k1_ y hz0 (hr.grown hA.j.st.gr) hsz (decide (3506716800000000000000000000 < 0)) (bA (env 2)) (bC (env 2)) 3506716800000000000000000000 rfl (At.bigN hA 2 rfl rfl rfl) (by unfold Sm;omega)) hmd.symm,al_ 7,sw3 7 4 sh40⟩) (k:=fun E7 ac wd H_=>?_)
 refine fq H_ 11 [[0],[1],[1,2],r_ 4,[4],[5],[0,1,2,3,5,6],r_ 8,[8],[9],r_ 11,r_ 12] [_,vL 0 2 0,_,_,_,vL 0 1002 0,_,_,_,_,none,none] (fun E8=>[(14,vP (pb E8 8) 0),(15,vP (pb E8 9) 0)]) (W:=[{ i:=8,T:=40,c0:=[bF,.slice none 0 0],s:=some 10,c1:=fun env=>[.bool (decide (lo < 0)),rS lo ((bA (env 3))) ((bC (env 3)))] },{ i:=9,T:=40,c0:=[bF,.slice none 0 0],s:=some 11,c1:=fun env=>[.bool (decide (hi_ < 0)),rS hi_ ((bA (env 7))) ((bC (env 7)))] }]) (F:=[fB w0 2 2000000000000000000,fB w0 3 lo,fB w0 6 1002000000000000000000,fB w0 7 hi_]) (s:=⟨ld3b 7 sh40,bd31,cb3 Tryz.func37 fun wd hA=>m_bigeq (Join_any wd 0 2 0 (by omega) (by omega) (by omega) (by omega) (by omega) (by omega)) (show jn 0 2 0=2000000000000000000 by unfold jn;omega),cb3e Tryz.func19 fun env wd hA=>m_bigeq (Sub_any wd (decide (md < 0)) (bA (E7 3)) (bC (E7 3)) md rfl (Facts.bigN (hA.j.st.now).1 4 rfl) (by unfold Sm;omega) (decide (2000000000000000000 < 0)) (bA (env 2)) (bC (env 2)) 2000000000000000000 rfl (At.bigN hA 2 rfl rfl rfl) (by unfold Sm;omega)) hlo.symm,ld3b 7 sh40,bd31,cb3 Tryz.func37 fun wd hA=>m_bigeq (Join_any wd 0 1002 0 (by omega) (by omega) (by omega) (by omega) (by omega) (by omega)) (show jn 0 1002 0=1002000000000000000000 by unfold jn;omega),cb3e Tryz.func29 fun env wd hA=>m_bigeq (Add_any wd (decide (md < 0)) (bA (E7 3)) (bC (E7 3)) md rfl (Facts.bigN (hA.j.st.now).1 4 rfl) (by unfold Sm;omega) (decide (1002000000000000000000 < 0)) (bA (env 6)) (bC (env 6)) 1002000000000000000000 rfl (At.bigN hA 6 rfl rfl rfl) (by unfold Sm;omega)) hhi.symm,al_ 8,al_ 9,sw3 8 8 sh40,sw3 9 9 sh40⟩) (k:=fun E8 ac wd H_=>?_)
 by_cases hL:lo < firZ es
 refine fq1 H_ 3 [[0],[1],[0,1,2],r_ 4] [_,_,_,bT] (fun _=>[(71,bT)]) (s:=⟨ld3b 8 sh40,ld3b 3 sh40,cw3 Tryz.func21 fun wd hA=>Cmp_any wd (decide (lo < 0)) (bA (E8 3)) (bC (E8 3)) lo rfl (Facts.bigN (hA.j.st.now).1 6 rfl)  (decide (firZ es < 0)) (bA (E2 1)) (bC (E2 1)) (firZ es) rfl (Facts.bigN (hA.j.st.now).1 0 rfl) ,bi3 (h:=by intro env w;(first | (simp [go_sem,cm_le,cm_lt,cm_ge,cm_gt,hL];done) | (simp [go_sem,cm_le,cm_lt,cm_ge,cm_gt];omega)))⟩) (k:=fun E9 ac wd H_=>?_)
 refine cT3 H_ ?_
 refine fq H_ 1 [[0],[0,1]] [_,none] (fun _=>[]) (S:=[⟨8,1,fun _=>[.bool (decide (firZ es < 0)),rS (firZ es) ((bA (E2 1))) ((bC (E2 1)))]⟩]) (s:=⟨ld3b 3 sh40,se3 8 sh40⟩) (k:=fun E10 ac wd H_=>?_)
 refine lpG (fun n_ ac wd=>∃ (va vb:Value) (a b:Int),(firZ es≤a∧a≤hardZ es y∧hardZ es y≤b∧b≤hi_∧n_=(b-a).toNat)∧Cur 102 w0 none none (Facts [fun w=>WinsB w (E2 3) 0 es,fun w=>BigX none w va a,fun w=>BigX none w vb b]) (fun _=>True) [(2,vP (pb E1 0) 0),(3,vP (pb E1 1) 0),(4,vP (pb E1 2) 0),(7,.slice ((sA (E2 3))) ((es.length-1)) ((sC (E2 3)))),(14,vP (pb E8 8) 0),(15,vP (pb E8 9) 0)] [((pb E1 0),24,[vI u,vI x,.slice A0 es.length c0]),((pb E1 1),40,[.bool (p),rS y A1 k1_]),((pb E1 2),40,[bF,.slice none 0 0]),((pb E2 4),40,[.bool (decide (firZ es < 0)),rS (firZ es) ((bA (E2 1))) ((bC (E2 1)))]),((pb E3 8),40,[.bool (decide (softZ es (firZ es) < 0)),rS (softZ es (firZ es)) ((bA (tp (E3 3) 0))) ((bC (tp (E3 3) 0)))]),((pb E3 9),40,[.bool (decide (rsR es (firZ es) < 0)),rS (rsR es (firZ es)) ((bA (tp (E3 3) 1))) ((bC (tp (E3 3) 1)))]),((pb E5 5),98,[vI (y / 1000000000000000000 / 86400),vI (y / 1000000000000000000 % 86400),vI (y % 1000000000000000000)]),((pb E7 4),40,[.bool (decide (md < 0)),rS md ((bA (E7 3))) ((bC (E7 3)))]),((pb E8 8),40,[.bool (decide (a < 0)),rS a ((bA va)) ((bC va))]),((pb E8 9),40,[.bool (decide (b < 0)),rS b ((bA vb)) ((bC vb))])] ac wd) ((hi_-(firZ es)).toNat) ⟨(E2 1),(E8 7),firZ es,hi_,⟨by omega,by omega,by omega,by omega,rfl⟩,(Cur.mapF H_ (L1:=[fun w=>WinsB w (E2 3) 0 es,fun w=>BigX none w (E2 1) (firZ es),fun w=>BigX none w (E8 7) hi_]) (fun w hF=>Facts.mk3 (hF.get 1 rfl) (BigN.toX (hF.get 0 rfl)) (BigN.toX (hF.get 8 rfl)))).re rfl⟩ ?_
 rintro n_ ac wd ⟨va,vb,a,b,⟨ha1,ha2,hb1,hb2,hn_⟩,H_⟩
 by_cases hab:a < b
 refine fq1 H_ 3 [[0],[1],[0,1,2],r_ 4] [_,_,_,bT] (fun _=>[(76,bT)]) (s:=⟨ld3b 8 sh40,ld3b 9 sh40,cw3 Tryz.func21 fun wd hA=>Cmp_any wd (decide (a < 0)) (bA va) (bC va) a rfl (Facts.big (hA.j.st.now).1 1 rfl)  (decide (b < 0)) (bA vb) (bC vb) b rfl (Facts.big (hA.j.st.now).1 2 rfl) ,bi3 (h:=by intro env w;(first | (simp [go_sem,cm_le,cm_lt,cm_ge,cm_gt,hab];done) | (simp [go_sem,cm_le,cm_lt,cm_ge,cm_gt];omega)))⟩) (k:=fun E12 ac wd H_=>?_)
 refine cT3 H_ ?_
 refine fq H_ 11 [[0],[1],[0,1,2],r_ 4,r_ 5,r_ 6,r_ 7,r_ 6++[7],[8],[9],r_ 7++[8,9,10],r_ 12] [_,_,_,_,KE_ fun env=>vT2 (bigF ((a+b) / 2) (tp (env 4) 0)) (bigF ((a+b) % 2) (tp (env 4) 1)),_,_,_,_,_,none,none] (fun E13=>[(16,vP (pb E13 8) 0)]) (W:=[{ i:=8,T:=40,c0:=[bF,.slice none 0 0],s:=some 10,c1:=fun env=>[.bool (decide ((a+b) / 2 < 0)),rS ((a+b) / 2) ((bA (tp (env 4) 0))) ((bC (tp (env 4) 0)))] },{ i:=9,T:=40,c0:=[bF,.slice none 0 0],s:=some 11,c1:=fun env=>[.bool (decide ((a+b) % 2 < 0)),rS ((a+b) % 2) ((bA (tp (env 4) 1))) ((bC (tp (env 4) 1)))] }]) (F:=[fB w0 2 (a+b),fB w0 3 2,(4,fun env w=>DivX w (env 4) ((a+b) / 2) ((a+b) % 2))]) (s:=⟨ld3b 8 sh40,ld3b 9 sh40,cb3 Tryz.func29 fun wd hA=>Add_any wd (decide (a < 0)) (bA va) (bC va) a rfl (Facts.big (hA.j.st.now).1 1 rfl) (by unfold Sm;omega) (decide (b < 0)) (bA vb) (bC vb) b rfl (Facts.big (hA.j.st.now).1 2 rfl) (by unfold Sm;omega),cb3 Tryz.func20 fun wd hA=>Int_any wd 2 (by omega) (by omega),cf_ Tryz.func51 (fun v w=>DivX w v ((a+b) / 2) ((a+b) % 2)) (divF ((a+b) / 2) ((a+b) % 2)) (h:=fun _ env _ wd hA=>⟨_,toD (Div_any wd (decide (a+b < 0)) (bA (env 2)) (bC (env 2)) (a+b) rfl (At.bigN hA 2 rfl rfl rfl) (by unfold Sm;omega) (decide (2 < 0)) (bA (env 3)) (bC (env 3)) 2 rfl (At.bigN hA 3 rfl rfl rfl) (by unfold Sm;omega) (by omega)),rfl⟩),mv3,xt3,xt3,al_ 10,al_ 11,sw3 10 8 sh40,sw3 11 9 sh40⟩) (k:=fun E13 ac wd H_=>?_)
 have hq1:a≤(a+b) / 2:=by omega
 have hq2:(a+b) / 2 < b:=by omega
 have hl:=hard_least hp hn0 (y:=y) (z:=(a+b) / 2) (by unfold hd0 at hy;exact hy)
 refine fq H_ 12 [[0],[1],[2],r_ 4,r_ 5,r_ 6,[0,1,2,3,4,6],[0,1,2,3,4,7],[8],[9],r_ 6++[8,9,10],r_ 7++[8,9,10,11],r_ 13] [_,_,_,KE_ fun env=>vT3 (bigF (softZ es ((a+b) / 2)) (tp (env 3) 0)) (bigF (rsR es ((a+b) / 2)) (tp (env 3) 1)) (vI (rsB es ((a+b) / 2))),_,_,_,_,_,_,none,none,_] (fun E14=>[(18,vP (pb E14 8) 0)]) (W:=[{ i:=8,T:=40,c0:=[bF,.slice none 0 0],s:=some 10,c1:=fun env=>[.bool (decide (softZ es ((a+b) / 2) < 0)),rS (softZ es ((a+b) / 2)) ((bA (tp (env 3) 0))) ((bC (tp (env 3) 0)))] },{ i:=9,T:=40,c0:=[bF,.slice none 0 0],s:=some 11,c1:=fun env=>[.bool (decide (rsR es ((a+b) / 2) < 0)),rS (rsR es ((a+b) / 2)) ((bA (tp (env 3) 1))) ((bC (tp (env 3) 1)))] }]) (F:=[(3,fun env w=>SofX w (env 3) (softZ es ((a+b) / 2)) (rsR es ((a+b) / 2)) (rsB es ((a+b) / 2)))]) (s:=⟨ld3c 0 sh24,mv3,ld3b 10 sh40,cf_ Tryz.func49 (fun v w=>SofX w v (softZ es ((a+b) / 2)) (rsR es ((a+b) / 2)) (rsB es ((a+b) / 2))) (sofF (softZ es ((a+b) / 2)) (rsR es ((a+b) / 2)) (rsB es ((a+b) / 2))) (h:=fun _ env _ wd hA=>⟨_,rsoft_any wd A0 c0 es u x (hv.gn hA.j.st.gr) hp hn0 (sA (E2 3)) (sC (E2 3)) (Facts.wins (hA.j.st.now).1 0 rfl) hl64 _ (bA (tp (E13 4) 0)) (bC (tp (E13 4) 0)) ((a+b) / 2) rfl (Facts.div1 (hA.j.st.now).1 5 rfl) (by unfold InW;omega) (by omega) (by omega),rfl⟩),mv3,xt3,xt3,xt3,al_ 12,al_ 13,sw3 12 8 sh40,sw3 13 9 sh40,mv3⟩) (k:=fun E14 ac wd H_=>?_)
 by_cases hC:y≤softZ es ((a+b) / 2)
 have hl2:=hl.1 hC
 refine fq1 H_ 3 [[0],[1],[0,1,2],r_ 4] [_,_,_,bT] (fun _=>[(96,bT)]) (s:=⟨ld3b 12 sh40,ld3b 1 sh40,cw3 Tryz.func21 fun wd hA=>Cmp_any wd (decide (softZ es ((a+b) / 2) < 0)) (bA (tp (E14 3) 0)) (bC (tp (E14 3) 0)) (softZ es ((a+b) / 2)) rfl (Facts.sof1 (hA.j.st.now).1 6 rfl)  p A1 k1_ y hz0 (hr.grown hA.j.st.gr) ,bi3 (h:=by intro env w;(first | (simp [go_sem,cm_le,cm_lt,cm_ge,cm_gt,hC];done) | (simp [go_sem,cm_le,cm_lt,cm_ge,cm_gt];omega)))⟩) (k:=fun E15 ac wd H_=>?_)
 refine cT3 H_ ?_
 refine fq H_ 1 [[0],[0,1]] [_,none] (fun _=>[]) (S:=[⟨9,1,fun _=>[.bool (decide ((a+b) / 2 < 0)),rS ((a+b) / 2) ((bA (tp (E13 4) 0))) ((bC (tp (E13 4) 0)))]⟩]) (s:=⟨ld3b 10 sh40,se3 9 sh40⟩) (k:=fun E16 ac wd H_=>?_)
 refine blk_n (then_n ?_)
 exact ⟨_,by omega,va,tp (E13 4) 0,a,(a+b) / 2,⟨ha1,ha2,hl2,by omega,rfl⟩,(Cur.mapF (H_.take (M1:=[_,_,_,_,_,_,_,_,_,_]) rfl) (L1:=[fun w=>WinsB w (E2 3) 0 es,fun w=>BigX none w va a,fun w=>BigX none w (tp (E13 4) 0) ((a+b) / 2)]) (fun w hF=>Facts.mk3 (hF.get 0 rfl) (hF.get 1 rfl) (show DivX _ _ _ _ from hF.get 5 rfl).2.1)).re rfl⟩
 have hl2:=fun h=>hC (hl.2 h)
 refine fq1 H_ 3 [[0],[1],[0,1,2],r_ 4] [_,_,_,bF] (fun _=>[(96,bF)]) (s:=⟨ld3b 12 sh40,ld3b 1 sh40,cw3 Tryz.func21 fun wd hA=>Cmp_any wd (decide (softZ es ((a+b) / 2) < 0)) (bA (tp (E14 3) 0)) (bC (tp (E14 3) 0)) (softZ es ((a+b) / 2)) rfl (Facts.sof1 (hA.j.st.now).1 6 rfl)  p A1 k1_ y hz0 (hr.grown hA.j.st.gr) ,bi3 (h:=by intro env w;(first | (simp [go_sem,cm_le,cm_lt,cm_ge,cm_gt,hC];done) | (simp [go_sem,cm_le,cm_lt,cm_ge,cm_gt];omega)))⟩) (k:=fun E15 ac wd H_=>?_)
 refine cF3 H_ ?_
 refine fq H_ 3 [[0],[1],[0,1,2],r_ 4] [_,_,_,none] (fun _=>[]) (S:=[⟨8,3,fun env=>[.bool (decide (((a+b) / 2)+1 < 0)),rS (((a+b) / 2)+1) ((bA (env 2))) ((bC (env 2)))]⟩]) (F:=[fB w0 1 1,fB w0 2 (((a+b) / 2)+1)]) (s:=⟨ld3b 10 sh40,cb3 Tryz.func20 fun wd hA=>Int_any wd 1 (by omega) (by omega),cb3e Tryz.func29 fun env wd hA=>Add_any wd (decide ((a+b) / 2 < 0)) (bA (tp (E13 4) 0)) (bC (tp (E13 4) 0)) ((a+b) / 2) rfl (Facts.div1 (hA.j.st.now).1 5 rfl) (by unfold Sm;omega) (decide (1 < 0)) (bA (env 1)) (bC (env 1)) 1 rfl (At.bigN hA 1 rfl rfl rfl) (by unfold Sm;omega),se3 8 sh40⟩) (k:=fun E16 ac wd H_=>?_)
 refine blk_n (then_n ?_)
 exact ⟨_,by omega,(E16 2),vb,(a+b) / 2+1,b,⟨by omega,by omega,hb1,hb2,rfl⟩,(Cur.mapF (H_.take (M1:=[_,_,_,_,_,_,_,_,_,_]) rfl) (L1:=[fun w=>WinsB w (E2 3) 0 es,fun w=>BigX none w (E16 2) ((a+b) / 2+1),fun w=>BigX none w vb b]) (fun w hF=>Facts.mk3 (hF.get 0 rfl) (BigN.toX (hF.get 8 rfl)) (hF.get 2 rfl))).re rfl⟩
 obtain rfl:a=hardZ es y:=by omega
 refine fq1 H_ 3 [[0],[1],[0,1,2],r_ 4] [_,_,_,bF] (fun _=>[(76,bF)]) (s:=⟨ld3b 8 sh40,ld3b 9 sh40,cw3 Tryz.func21 fun wd hA=>Cmp_any wd (decide ((hardZ es y) < 0)) (bA va) (bC va) (hardZ es y) rfl (Facts.big (hA.j.st.now).1 1 rfl)  (decide (b < 0)) (bA vb) (bC vb) b rfl (Facts.big (hA.j.st.now).1 2 rfl) ,bi3 (h:=by intro env w;(first | (simp [go_sem,cm_le,cm_lt,cm_ge,cm_gt,hab];done) | (simp [go_sem,cm_le,cm_lt,cm_ge,cm_gt];omega)))⟩) (k:=fun E12 ac wd H_=>?_)
 refine cF3 H_ ?_
 refine fq H_ 2 (tri 3) [_,none,_] (fun _=>[(5,vI 0)]) (S:=[⟨2,1,fun _=>[.bool (decide ((hardZ es y) < 0)),rS (hardZ es y) ((bA va)) ((bC va))]⟩]) (s:=⟨ld3b 8 sh40,se3 2 sh40,mv3⟩) (k:=fun E13 ac wd H_=>?_)
 refine lvCT3 (v:=bigF (hardZ es y) va) Tryz.results17 H_ 2 (loadGc sh40 rfl ⟨rfl,rfl,trivial⟩) ?_
 have e1:mhV es y=hardZ es y:=by unfold mhV;rw [if_pos hM]
 rw [e1,hM]
 exact ⟨_,rfl,H_.st.below,HardX.mk (BigX.of rfl (Facts.big H_.st.now 1 rfl))⟩
 refine fq1 H_ 3 [[0],[1],[0,1,2],r_ 4] [_,_,_,bF] (fun _=>[(71,bF)]) (s:=⟨ld3b 8 sh40,ld3b 3 sh40,cw3 Tryz.func21 fun wd hA=>Cmp_any wd (decide (lo < 0)) (bA (E8 3)) (bC (E8 3)) lo rfl (Facts.bigN (hA.j.st.now).1 6 rfl)  (decide (firZ es < 0)) (bA (E2 1)) (bC (E2 1)) (firZ es) rfl (Facts.bigN (hA.j.st.now).1 0 rfl) ,bi3 (h:=by intro env w;(first | (simp [go_sem,cm_le,cm_lt,cm_ge,cm_gt,hL];done) | (simp [go_sem,cm_le,cm_lt,cm_ge,cm_gt];omega)))⟩) (k:=fun E9 ac wd H_=>?_)
 refine cF3 H_ ?_
 refine lpG (fun n_ ac wd=>∃ (va vb:Value) (a b:Int),(firZ es≤a∧a≤hardZ es y∧hardZ es y≤b∧b≤hi_∧n_=(b-a).toNat)∧Cur 102 w0 none none (Facts [fun w=>WinsB w (E2 3) 0 es,fun w=>BigX none w va a,fun w=>BigX none w vb b]) (fun _=>True) [(2,vP (pb E1 0) 0),(3,vP (pb E1 1) 0),(4,vP (pb E1 2) 0),(7,.slice ((sA (E2 3))) ((es.length-1)) ((sC (E2 3)))),(14,vP (pb E8 8) 0),(15,vP (pb E8 9) 0)] [((pb E1 0),24,[vI u,vI x,.slice A0 es.length c0]),((pb E1 1),40,[.bool (p),rS y A1 k1_]),((pb E1 2),40,[bF,.slice none 0 0]),((pb E2 4),40,[.bool (decide (firZ es < 0)),rS (firZ es) ((bA (E2 1))) ((bC (E2 1)))]),((pb E3 8),40,[.bool (decide (softZ es (firZ es) < 0)),rS (softZ es (firZ es)) ((bA (tp (E3 3) 0))) ((bC (tp (E3 3) 0)))]),((pb E3 9),40,[.bool (decide (rsR es (firZ es) < 0)),rS (rsR es (firZ es)) ((bA (tp (E3 3) 1))) ((bC (tp (E3 3) 1)))]),((pb E5 5),98,[vI (y / 1000000000000000000 / 86400),vI (y / 1000000000000000000 % 86400),vI (y % 1000000000000000000)]),((pb E7 4),40,[.bool (decide (md < 0)),rS md ((bA (E7 3))) ((bC (E7 3)))]),((pb E8 8),40,[.bool (decide (a < 0)),rS a ((bA va)) ((bC va))]),((pb E8 9),40,[.bool (decide (b < 0)),rS b ((bA vb)) ((bC vb))])] ac wd) ((hi_-lo).toNat) ⟨(E8 3),(E8 7),lo,hi_,⟨by omega,by omega,by omega,by omega,rfl⟩,(Cur.mapF H_ (L1:=[fun w=>WinsB w (E2 3) 0 es,fun w=>BigX none w (E8 3) lo,fun w=>BigX none w (E8 7) hi_]) (fun w hF=>Facts.mk3 (hF.get 1 rfl) (BigN.toX (hF.get 6 rfl)) (BigN.toX (hF.get 8 rfl)))).re rfl⟩ ?_
 rintro n_ ac wd ⟨va,vb,a,b,⟨ha1,ha2,hb1,hb2,hn_⟩,H_⟩
 by_cases hab:a < b
 refine fq1 H_ 3 [[0],[1],[0,1,2],r_ 4] [_,_,_,bT] (fun _=>[(76,bT)]) (s:=⟨ld3b 8 sh40,ld3b 9 sh40,cw3 Tryz.func21 fun wd hA=>Cmp_any wd (decide (a < 0)) (bA va) (bC va) a rfl (Facts.big (hA.j.st.now).1 1 rfl)  (decide (b < 0)) (bA vb) (bC vb) b rfl (Facts.big (hA.j.st.now).1 2 rfl) ,bi3 (h:=by intro env w;(first | (simp [go_sem,cm_le,cm_lt,cm_ge,cm_gt,hab];done) | (simp [go_sem,cm_le,cm_lt,cm_ge,cm_gt];omega)))⟩) (k:=fun E11 ac wd H_=>?_)
 refine cT3 H_ ?_
 refine fq H_ 11 [[0],[1],[0,1,2],r_ 4,r_ 5,r_ 6,r_ 7,r_ 6++[7],[8],[9],r_ 7++[8,9,10],r_ 12] [_,_,_,_,KE_ fun env=>vT2 (bigF ((a+b) / 2) (tp (env 4) 0)) (bigF ((a+b) % 2) (tp (env 4) 1)),_,_,_,_,_,none,none] (fun E12=>[(16,vP (pb E12 8) 0)]) (W:=[{ i:=8,T:=40,c0:=[bF,.slice none 0 0],s:=some 10,c1:=fun env=>[.bool (decide ((a+b) / 2 < 0)),rS ((a+b) / 2) ((bA (tp (env 4) 0))) ((bC (tp (env 4) 0)))] },{ i:=9,T:=40,c0:=[bF,.slice none 0 0],s:=some 11,c1:=fun env=>[.bool (decide ((a+b) % 2 < 0)),rS ((a+b) % 2) ((bA (tp (env 4) 1))) ((bC (tp (env 4) 1)))] }]) (F:=[fB w0 2 (a+b),fB w0 3 2,(4,fun env w=>DivX w (env 4) ((a+b) / 2) ((a+b) % 2))]) (s:=⟨ld3b 8 sh40,ld3b 9 sh40,cb3 Tryz.func29 fun wd hA=>Add_any wd (decide (a < 0)) (bA va) (bC va) a rfl (Facts.big (hA.j.st.now).1 1 rfl) (by unfold Sm;omega) (decide (b < 0)) (bA vb) (bC vb) b rfl (Facts.big (hA.j.st.now).1 2 rfl) (by unfold Sm;omega),cb3 Tryz.func20 fun wd hA=>Int_any wd 2 (by omega) (by omega),cf_ Tryz.func51 (fun v w=>DivX w v ((a+b) / 2) ((a+b) % 2)) (divF ((a+b) / 2) ((a+b) % 2)) (h:=fun _ env _ wd hA=>⟨_,toD (Div_any wd (decide (a+b < 0)) (bA (env 2)) (bC (env 2)) (a+b) rfl (At.bigN hA 2 rfl rfl rfl) (by unfold Sm;omega) (decide (2 < 0)) (bA (env 3)) (bC (env 3)) 2 rfl (At.bigN hA 3 rfl rfl rfl) (by unfold Sm;omega) (by omega)),rfl⟩),mv3,xt3,xt3,al_ 10,al_ 11,sw3 10 8 sh40,sw3 11 9 sh40⟩) (k:=fun E12 ac wd H_=>?_)
 have hq1:a≤(a+b) / 2:=by omega
 have hq2:(a+b) / 2 < b:=by omega
 have hl:=hard_least hp hn0 (y:=y) (z:=(a+b) / 2) (by unfold hd0 at hy;exact hy)
 refine fq H_ 12 [[0],[1],[2],r_ 4,r_ 5,r_ 6,[0,1,2,3,4,6],[0,1,2,3,4,7],[8],[9],r_ 6++[8,9,10],r_ 7++[8,9,10,11],r_ 13] [_,_,_,KE_ fun env=>vT3 (bigF (softZ es ((a+b) / 2)) (tp (env 3) 0)) (bigF (rsR es ((a+b) / 2)) (tp (env 3) 1)) (vI (rsB es ((a+b) / 2))),_,_,_,_,_,_,none,none,_] (fun E13=>[(18,vP (pb E13 8) 0)]) (W:=[{ i:=8,T:=40,c0:=[bF,.slice none 0 0],s:=some 10,c1:=fun env=>[.bool (decide (softZ es ((a+b) / 2) < 0)),rS (softZ es ((a+b) / 2)) ((bA (tp (env 3) 0))) ((bC (tp (env 3) 0)))] },{ i:=9,T:=40,c0:=[bF,.slice none 0 0],s:=some 11,c1:=fun env=>[.bool (decide (rsR es ((a+b) / 2) < 0)),rS (rsR es ((a+b) / 2)) ((bA (tp (env 3) 1))) ((bC (tp (env 3) 1)))] }]) (F:=[(3,fun env w=>SofX w (env 3) (softZ es ((a+b) / 2)) (rsR es ((a+b) / 2)) (rsB es ((a+b) / 2)))]) (s:=⟨ld3c 0 sh24,mv3,ld3b 10 sh40,cf_ Tryz.func49 (fun v w=>SofX w v (softZ es ((a+b) / 2)) (rsR es ((a+b) / 2)) (rsB es ((a+b) / 2))) (sofF (softZ es ((a+b) / 2)) (rsR es ((a+b) / 2)) (rsB es ((a+b) / 2))) (h:=fun _ env _ wd hA=>⟨_,rsoft_any wd A0 c0 es u x (hv.gn hA.j.st.gr) hp hn0 (sA (E2 3)) (sC (E2 3)) (Facts.wins (hA.j.st.now).1 0 rfl) hl64 _ (bA (tp (E12 4) 0)) (bC (tp (E12 4) 0)) ((a+b) / 2) rfl (Facts.div1 (hA.j.st.now).1 5 rfl) (by unfold InW;omega) (by omega) (by omega),rfl⟩),mv3,xt3,xt3,xt3,al_ 12,al_ 13,sw3 12 8 sh40,sw3 13 9 sh40,mv3⟩) (k:=fun E13 ac wd H_=>?_)
 by_cases hC:y≤softZ es ((a+b) / 2)
 have hl2:=hl.1 hC
 refine fq1 H_ 3 [[0],[1],[0,1,2],r_ 4] [_,_,_,bT] (fun _=>[(96,bT)]) (s:=⟨ld3b 12 sh40,ld3b 1 sh40,cw3 Tryz.func21 fun wd hA=>Cmp_any wd (decide (softZ es ((a+b) / 2) < 0)) (bA (tp (E13 3) 0)) (bC (tp (E13 3) 0)) (softZ es ((a+b) / 2)) rfl (Facts.sof1 (hA.j.st.now).1 6 rfl)  p A1 k1_ y hz0 (hr.grown hA.j.st.gr) ,bi3 (h:=by intro env w;(first | (simp [go_sem,cm_le,cm_lt,cm_ge,cm_gt,hC];done) | (simp [go_sem,cm_le,cm_lt,cm_ge,cm_gt];omega)))⟩) (k:=fun E14 ac wd H_=>?_)
 refine cT3 H_ ?_
 refine fq H_ 1 [[0],[0,1]] [_,none] (fun _=>[]) (S:=[⟨9,1,fun _=>[.bool (decide ((a+b) / 2 < 0)),rS ((a+b) / 2) ((bA (tp (E12 4) 0))) ((bC (tp (E12 4) 0)))]⟩]) (s:=⟨ld3b 10 sh40,se3 9 sh40⟩) (k:=fun E15 ac wd H_=>?_)
 refine blk_n (then_n ?_)
 exact ⟨_,by omega,va,tp (E12 4) 0,a,(a+b) / 2,⟨ha1,ha2,hl2,by omega,rfl⟩,(Cur.mapF (H_.take (M1:=[_,_,_,_,_,_,_,_,_,_]) rfl) (L1:=[fun w=>WinsB w (E2 3) 0 es,fun w=>BigX none w va a,fun w=>BigX none w (tp (E12 4) 0) ((a+b) / 2)]) (fun w hF=>Facts.mk3 (hF.get 0 rfl) (hF.get 1 rfl) (show DivX _ _ _ _ from hF.get 5 rfl).2.1)).re rfl⟩
 have hl2:=fun h=>hC (hl.2 h)
 refine fq1 H_ 3 [[0],[1],[0,1,2],r_ 4] [_,_,_,bF] (fun _=>[(96,bF)]) (s:=⟨ld3b 12 sh40,ld3b 1 sh40,cw3 Tryz.func21 fun wd hA=>Cmp_any wd (decide (softZ es ((a+b) / 2) < 0)) (bA (tp (E13 3) 0)) (bC (tp (E13 3) 0)) (softZ es ((a+b) / 2)) rfl (Facts.sof1 (hA.j.st.now).1 6 rfl)  p A1 k1_ y hz0 (hr.grown hA.j.st.gr) ,bi3 (h:=by intro env w;(first | (simp [go_sem,cm_le,cm_lt,cm_ge,cm_gt,hC];done) | (simp [go_sem,cm_le,cm_lt,cm_ge,cm_gt];omega)))⟩) (k:=fun E14 ac wd H_=>?_)
 refine cF3 H_ ?_
 refine fq H_ 3 [[0],[1],[0,1,2],r_ 4] [_,_,_,none] (fun _=>[]) (S:=[⟨8,3,fun env=>[.bool (decide (((a+b) / 2)+1 < 0)),rS (((a+b) / 2)+1) ((bA (env 2))) ((bC (env 2)))]⟩]) (F:=[fB w0 1 1,fB w0 2 (((a+b) / 2)+1)]) (s:=⟨ld3b 10 sh40,cb3 Tryz.func20 fun wd hA=>Int_any wd 1 (by omega) (by omega),cb3e Tryz.func29 fun env wd hA=>Add_any wd (decide ((a+b) / 2 < 0)) (bA (tp (E12 4) 0)) (bC (tp (E12 4) 0)) ((a+b) / 2) rfl (Facts.div1 (hA.j.st.now).1 5 rfl) (by unfold Sm;omega) (decide (1 < 0)) (bA (env 1)) (bC (env 1)) 1 rfl (At.bigN hA 1 rfl rfl rfl) (by unfold Sm;omega),se3 8 sh40⟩) (k:=fun E15 ac wd H_=>?_)
 refine blk_n (then_n ?_)
 exact ⟨_,by omega,(E15 2),vb,(a+b) / 2+1,b,⟨by omega,by omega,hb1,hb2,rfl⟩,(Cur.mapF (H_.take (M1:=[_,_,_,_,_,_,_,_,_,_]) rfl) (L1:=[fun w=>WinsB w (E2 3) 0 es,fun w=>BigX none w (E15 2) ((a+b) / 2+1),fun w=>BigX none w vb b]) (fun w hF=>Facts.mk3 (hF.get 0 rfl) (BigN.toX (hF.get 8 rfl)) (hF.get 2 rfl))).re rfl⟩
 obtain rfl:a=hardZ es y:=by omega
 refine fq1 H_ 3 [[0],[1],[0,1,2],r_ 4] [_,_,_,bF] (fun _=>[(76,bF)]) (s:=⟨ld3b 8 sh40,ld3b 9 sh40,cw3 Tryz.func21 fun wd hA=>Cmp_any wd (decide ((hardZ es y) < 0)) (bA va) (bC va) (hardZ es y) rfl (Facts.big (hA.j.st.now).1 1 rfl)  (decide (b < 0)) (bA vb) (bC vb) b rfl (Facts.big (hA.j.st.now).1 2 rfl) ,bi3 (h:=by intro env w;(first | (simp [go_sem,cm_le,cm_lt,cm_ge,cm_gt,hab];done) | (simp [go_sem,cm_le,cm_lt,cm_ge,cm_gt];omega)))⟩) (k:=fun E11 ac wd H_=>?_)
 refine cF3 H_ ?_
 refine fq H_ 2 (tri 3) [_,none,_] (fun _=>[(5,vI 0)]) (S:=[⟨2,1,fun _=>[.bool (decide ((hardZ es y) < 0)),rS (hardZ es y) ((bA va)) ((bC va))]⟩]) (s:=⟨ld3b 8 sh40,se3 2 sh40,mv3⟩) (k:=fun E12 ac wd H_=>?_)
 refine lvCT3 (v:=bigF (hardZ es y) va) Tryz.results17 H_ 2 (loadGc sh40 rfl ⟨rfl,rfl,trivial⟩) ?_
 have e1:mhV es y=hardZ es y:=by unfold mhV;rw [if_pos hM]
 rw [e1,hM]
 exact ⟨_,rfl,H_.st.below,HardX.mk (BigX.of rfl (Facts.big H_.st.now 1 rfl))⟩
end Go.Proofs.YtimpognkffnjkaaGreat
