/- Texts H1, H2, H3, H4, H5, H6, H7, H8 of one proof, one behind the other; what nothing here names is left out. -/
import Derived.Test.YtailjojebdmnnaaGreatZ9
import Derived.Test.YtailjojebdmnnaaGreatZ12
import Derived.Test.YtailjojebdmnnaaGreatZ5
import Derived.Test.YtailjojebdmnnaaGreatZ10
import Derived.Test.YtailjojebdmnnaaGreatZ3
import Derived.Test.YtailjojebdmnnaaGreatZ4
import Derived.IntWalk
import Derived.Test.YtailjojebdmnnaaGreatZ7
set_option maxRecDepth 100000
set_option maxHeartbeats 8000000
set_option linter.unusedVariables false
set_option linter.unusedSimpArgs false
namespace Go.Proofs.YtailjojebdmnnaaGreat
open Go.RowKit
theorem IsLx.gn {w w':World} {g:Nat} {u x:Int} {es:List (Int × Int)} (h:IsLx w g u x es) (hg:w.grownBy w' none):IsLx w' g u x es:=by
 obtain ⟨q,h⟩:=h
 exact ⟨q,h.below ⟨hg.os,hg.tape,hg.output,hg.size,fun i hi=>hg.block i hi (by simp)⟩⟩
def agS:Value→Value
  | .agg #[_,_,s]=>s
  | _=>undef
def TabG (ex:Option Nat) (w:World) (v:Value) (u x:Int) (es:List (Int × Int)):Prop:=v = .agg #[vI u,vI x,agS v]∧EntL w (agS v) es∧es.length≤9223372036854775807∧∀ k,ex=some k→(agS v).ownBlock≠some k
def tabF (u x:Int) (n:Nat) (v:Value):Value:=.agg #[vI u,vI x,.slice (sA (agS v)) n n]
section
variable {ex:Option Nat} {w w':World} {v:Value} {u x:Int} {es:List (Int × Int)}
theorem TabG.form (h:TabG ex w v u x es):v=tabF u x es.length v:=by
 have h2:=h.2.1.form
 unfold tabF entF at *
 rw [← h2]
 exact h.1
theorem TabG.keep (h:TabG ex w v u x es) (hk:KeepT [44] ex w w'):TabG ex w' v u x es:=by
 obtain ⟨h1,⟨b,h2,h3⟩,h4,h5⟩:=h
 refine ⟨h1,⟨b,h2,(hk _ _ _ _ h3 rfl (fun e=>h5 b e (by rw [h2];rfl))).trans h3⟩,h4,h5⟩
theorem TabG.ents (h:TabG ex w v u x es):Ents w w.heap.size (.slice (sA (agS v)) es.length es.length) es:=by
 have h2:=h.2.1.ents h.2.2.1
 rw [h.2.1.form] at h2
 exact h2
end
theorem tableN {g:Nat} {w:World} {u x:Int} {es:List (Int × Int)} (h:IsLx w g u x es):Calls Tryz.prog 69 #[vP g 0] w fun e w'=>∃ v,e = .returned v∧Below w.heap.size w w'∧TabG none w' v u x es:=by
 obtain ⟨q,h⟩:=h
 have hl:=(okT_pre h.1).2.2
 refine (table_any g u x q es w h).mono ?_
 rintro e w' ⟨ge,rfl,hb,hge,hbl⟩
 exact ⟨_,rfl,hbl,rfl,⟨ge,rfl,hb⟩,by omega,fun k hk=>by cases hk⟩
def winL (es:List (Int × Int)) (i:Nat):List Value:=[vI (hi (smS es i*1000000000000000000)),.int .u64 (lo (smS es i*1000000000000000000)),vI (hi (smE es i*1000000000000000000)),.int .u64 (lo (smE es i*1000000000000000000)),vI (hi (smB es i*1000000000000000000)),.int .u64 (lo (smB es i*1000000000000000000)),vI (smO es i-smO es (i-1))]
def winR (es:List (Int × Int)):Nat→List Value
  | 0=>[]
  | i+1=>winR es i ++ winL es (i+1)
def winC (es:List (Int × Int)) (p:Nat):Value:=(winL es (p / 7+1)).getD (p % 7) undef
theorem winR_len (es:List (Int × Int)):∀ n,(winR es n).length=n*7
  | 0=>rfl
  | n+1=>by simp [winR,winR_len es n,winL];omega
theorem winR_get (es:List (Int × Int)):∀ n i,i < n*7→(winR es n)[i]? = some (winC es i)
  | 0,i,h=>by omega
  | n+1,i,h=>by
    unfold winR
    by_cases hi:i < n*7
    · rw [List.getElem?_append_left (by rw [winR_len];exact hi)]
      exact winR_get es n i hi
    · rw [List.getElem?_append_right (by rw [winR_len];omega),winR_len]
      have h1:i / 7=n:=by omega
      have h2:i % 7=i-n*7:=by omega
      unfold winC
      rw [h1,h2,List.getD_eq_getElem?_getD,List.getElem?_eq_getElem (by simp [winL];omega)]
      rfl
theorem winC_at (es:List (Int × Int)) (j q:Nat) (hq:q < 7):winC es (j*7+q)=(winL es (j+1)).getD q undef:=by
 unfold winC
 rw [show (j*7+q) / 7=j by omega,show (j*7+q) % 7=q by omega]
end Go.Proofs.YtailjojebdmnnaaGreat
namespace Go.Proofs.YtailjojebdmnnaaGreat
open Go.RowKit
theorem St.rowedX {T:TypeId} {k:Nat} {w0 w w':World} {row ex:Option Nat} {M:Mem} {Ψ Θ X:World→Prop} {Ts:List TypeId} (h:St w0 row ex w M Ψ Θ) (hΨ:∀ w,Ψ w) {v:Value} {n:Nat} {cs:List Value} (hΘ:∀ w',Apart M none w w'→OwnK T k w' w0.heap.size v n cs∧X w') (hT:Ts.contains T=false) (hX:∀ w w',KeepT Ts none w w'→X w→X w') (hM:∀ m e,M m=some e→Ts.contains e.2.1=false) (hg:w.grownBy w' v.ownBlock) {v':Value} {n':Nat} {cs':List Value} (ho:OwnK T k w' w0.heap.size v' n' cs') (hv:v'.ownBlock=v.ownBlock∨v'.ownBlock=some w.heap.size∨v'.ownBlock=none) (hex:ex=none) :
    St w0 row ex w' M Ψ (fun w=>OwnK T k w w0.heap.size v' n' cs'∧X w):=by
  have base:=h.rowedK hΨ (fun w' hw=>(hΘ w' hw).1) hg ho hv hex
  have h0:=hΘ w (Apart.refl _ _ _)
  refine ⟨base.gr,base.nod,base.own,base.exb,base.psi,fun w'' hw=>⟨base.the w'' hw,hX w w'' (fun b cur T' fz hb hT' _=>?_) h0.2⟩⟩
  have hne:T'≠T:=fun e=>by rw [e,hT] at hT';cases hT'
  have e1:w'.heap[b]? = w.heap[b]?:=hg.block b (lt_of_some hb) (fun e=>by
    obtain ⟨_,h2⟩:=h0.1
    rcases h2 with ⟨rfl,_⟩ | ⟨g,cap,cur',rfl,_,hh,_⟩
    · cases e
    · simp only [Value.ownBlock,Option.some.injEq] at e
      rw [← e,hb] at hh
      simp only [Option.some.injEq,Obj.cells.injEq] at hh
      exact hne hh.2.1)
  rw [← e1] at hb ⊢
  refine hw.2 b (lt_of_some hb) (fun m e hm he=>?_) (by simp)
  have h1:=(base.own m e hm).2
  rw [he,hb] at h1
  simp only [Option.some.injEq,Obj.cells.injEq] at h1
  have:=hM m e hm
  rw [← h1.2.1,hT'] at this
  cases this
theorem tFree_mem {Ts:List TypeId} {R:Reg} {D:Nat→Bool} {env:Env} (hi:tFree Ts R=true) {m:Nat} {e:Ent} (hm:R.mem D env m=some e):Ts.contains e.2.1=false:=by
  unfold Reg.mem at hm
  cases ho:R.O[m]? with
  | none=>simp only [ho] at hm;cases hm
  | some o =>
    simp only [ho] at hm
    split at hm
    · have h2:=List.all_eq_true.1 hi o (List.mem_of_getElem? ho)
      rw [← Option.some.inj hm]
      simpa using h2
    · cases hm
section
variable {R:Reg} {Q:Exit→Act→World→Prop} {i:Nat} {o:Oper}
theorem s_appX (ho:R.ops[i]? = some o) (hf:free R i=true) (hg:o.guard=none) {s x:Operand} {TS T:TypeId} (hop:o.op = .call { callee:=.builtin .append,args:=#[s,x],argTypes:=#[TS,TS] }) (hTS:Tryz.prog.underlying TS=some (.slice T)) {k by':Nat} {z:Value} (hinfo:(Tryz.prog.info? T).map (fun i=>(i.zero,i.size,i.bytes))=some (some z,k,by')) (hzk:z.cells.size=k) (hk0:0 < k) (hby:by'≤1000)
    {v:Value} {n:Nat} {ds:List Value} (X:World→Prop) (Ts:List TypeId) (hX:∀ w w',KeepT Ts none w w'→X w→X w') (hT':Ts.contains T=false) (hTs:tFree Ts R=true) (hV:R.v? i=some fun env=>.slice (sA (env i)) (n+1) (sC (env i))) (hF:R.F=[]) (hΨ:∀ w,R.Ψ w) (hex:R.ex=none) (hΘ:∀ w,R.Θ w→OwnK T k w R.w0.heap.size v n ds∧X w) (zs:List Value) (hzs:zs.length=k) (h1c:∀ u∈zs,u.oneCell'=true) (hth:R.th=some (i,fun env w=>OwnK T k w R.w0.heap.size (.slice (sA (env i)) (n+1) (sC (env i))) (n+1) (ds ++ zs)∧X w)) (hlen:n≤1000000)
    (j m:Nat) {ow:Own} (hm:R.O[m]? = some ow) (hal:ow.al=some j) (hst:ow.st=none) (hc:ow.c0=zs) (hj:((R.cl.getD i []).contains j && !(j == i))=true)
    (hs:∀ env,opAt R i env s=some v) (hx:∀ {D env a w},At R i D env a w→a.eval x = .slice (some ⟨pb env j,0,none⟩) 1 1):SR Tryz.prog Q R i:=
  s_th ho hf (fun {D env a w} hA K hK=>by
    rw [if_pos (wanted_none hg _)]
    have hnD:D i=false:=hA.i
    have ht0:R.tht D env=R.Θ:=by unfold Reg.tht;rw [hth];simp [hnD]
    have hst0:=hA.j.st
    rw [ht0] at hst0
    have hT:∀ w',Apart (R.mem D env) none w w'→OwnK T k w' R.w0.heap.size v n ds∧X w':=fun w' hw=>hΘ w' (hst0.the w' hw)
    obtain ⟨i0,hi,hz0,hz1,hz2⟩:=info_parts hinfo
    have hcell:=hA.cells m hm (by rw [hal];exact hj) (by rw [hst];trivial)
    have hb:ow.blk env=pb env j:=by unfold Own.blk;rw [hal]
    rw [hb,hc] at hcell
    obtain ⟨v',w',hr,h2,h3,_,h5⟩:=run_append_own_at (P:=Tryz.prog) w R.w0.heap.size TS o.type T i0 z k by' hTS hi hz0 hz1 hz2 hzk hk0 v n ds (hT w (Apart.refl _ _ _)).1 ⟨pb env j,0,none⟩ 1 1 zs (by rw [hzs,Nat.one_mul])
      (fun q u hq=>by
        have h9:=own_cell hcell hq
        have e9:((⟨pb env j,0,none⟩:Addr).add q)=⟨pb env j,q,none⟩:=by unfold Addr.add;split <;> simp_all
        rw [e9];exact h9) h1c (by unfold maxLen;omega) (by
          have:(n+1)*by'≤1000001*1000:=Nat.mul_le_mul (by omega) hby
          omega) hst0.gr.size
    have hrun:(execOp a.eval o).run Tryz.prog w = .ok (.value v') w':=by
      have e1:=hA.e (hs env)
      have e2:=hx hA
      unfold execOp
      simp [hop,resolve,Deferred.ofValue,invoke,builtin,e1,e2,hr]
    unfold Oper.wp
    rw [hrun]
    have hown:OwnK T k w' R.w0.heap.size v' (n+1) (ds ++ zs):=h2
    have hself:=cl_self hA.ok ho
    have hform:v' = .slice (sA v') (n+1) (sC v'):=by
      obtain ⟨_,h9⟩:=hown
      rcases h9 with ⟨_,h9⟩ | ⟨g9,c9,cur9,rfl,_⟩
      · omega
      · rfl
    have key:=hst0.rowedX (fun w''=>⟨hΨ w'',fun j hj=>⟨fun V hV=>((hA.j.fact hj).1 V hV),fun p hp=>(by rw [hF] at hp;cases hp)⟩⟩) hT hT' hX (fun m e hm=>tFree_mem hTs hm) h3 hown (by rcases h5 with h | h;exact .inl h;exact .inr (.inl h)) hex
    have e9:restr (R.cl.getD i []) (upd env i v') i=v':=by unfold restr upd;rw [if_pos (List.contains_iff_mem.2 hself),if_pos rfl]
    refine hK v' w' ?_ (fun w'' _=>⟨fun V' hV'=>(by rw [hV] at hV';obtain rfl:=Option.some.inj hV';simp only [e9];exact hform),fun p hp=>(by rw [hF] at hp;cases hp)⟩)
    have ht1:R.tht (upB D i) (upd env i v')=fun w=>OwnK T k w R.w0.heap.size v' (n+1) (ds ++ zs)∧X w:=by
      unfold Reg.tht
      rw [hth]
      simp only [upB_self,if_true]
      funext w''
      rw [e9,← hform]
    rw [ht1]
    exact key)
theorem s_factM (ho:R.ops[i]? = some o) (hf:free' R i=true) {f:FuncId} {fn:Func} {ps:Array Operand} {ts:Array TypeId} (hop:o.op = .call { callee:=.value (.func f),args:=ps,argTypes:=ts })
    (hfn:Tryz.prog.funcs[f]? = some fn) (hname:(fn.name == "runtime.NumGoroutine")=false) (hb:fn.body.isSome=true) (hw:∀ {D env a w},At R i D env a w→Region.wanted o (yielded R.ops a.tmps)=true) (φ:Value→World→Prop) (form:Value→Value) (hV:R.v? i=some fun env=>form (env i)) (hF:R.F.filter (fun p=>Nat.beq p.1 i)=[(i,fun env w=>φ (env i) w)])
    (hφ:∀ v w,φ v w→v=form v) (hst:∀ v w w' B,(∀ b,B≤b→b < w.heap.size→w'.heap[b]? = w.heap[b]?)→φ v w→(∀ b,v.ownBlock=some b→B≤b)→φ v w')
    (h:∀ {D env a w},At R i D env a w→∃ args,ps.map a.eval=args∧Calls Tryz.prog f args w fun e w'=>∃ v,e = .returned v∧Below w.heap.size w w'∧φ v w'∧∀ b,v.ownBlock=some b→w.heap.size≤b):SR Tryz.prog Q R i:=
  s_callx ho hf hop hfn hname hb (fun {D env a w} hA=>by
    obtain ⟨args,ha,hc⟩:=h hA
    refine ⟨hw hA,args,ha,hc.mono ?_⟩
    rintro e w' ⟨v,rfl,hb,h3,h4⟩
    have hs':=hA.j.st.call hb
    exact ⟨v,rfl,hs',fun w'' ha=>f_fact hV hφ hF hA.ok ho (hst v _ _ w.heap.size (fun b h1 h2=>ha.2 b h2 (fun m e hm he=>by have:=lt_of_some (hA.j.st.own m e hm).2;omega) (fun hx=>by have:=(hA.j.st.exb b hx).1;omega)) h3 h4)⟩)
end
theorem Cur.toTh {n:Nat} {w0:World} {row:Option Nat} {Θ:World→Prop} {L:Slots} {M:List Ent} {a:Act} {w:World} {Fs:List (World→Prop)} (h:Cur n w0 row none (Facts Fs) Θ L M a w) (k:Nat) {X:World→Prop} (hk:Fs[k]? = some X) {Θ':World→Prop} (hΘ:∀ w,X w→Θ' w):Cur n w0 row none (Facts []) Θ' L M a w:=
 ⟨h.sz,h.df,⟨h.st.gr,h.st.nod,h.st.own,fun g hg=>(by cases hg),fun _ _ φ hφ=>(by cases hφ),fun w' ha=>hΘ w' ((h.st.psi w' ha).get k hk)⟩,h.sl⟩
abbrev vWin (es:List (Int × Int)) (i:Nat):Value:=.agg #[vI (hi (smS es i*1000000000000000000)),.int .u64 (lo (smS es i*1000000000000000000)),vI (hi (smE es i*1000000000000000000)),.int .u64 (lo (smE es i*1000000000000000000)),vI (hi (smB es i*1000000000000000000)),.int .u64 (lo (smB es i*1000000000000000000)),vI (smO es i-smO es (i-1))]
theorem tab_ents {w:World} {v:Value} {u x:Int} {es:List (Int × Int)} {P:Prop} (h:P∧TabG none w v u x es):Ents w w.heap.size (.slice (sA (agS v)) es.length es.length) es:=h.2.ents
theorem win_secs {es:List (Int × Int)} (hp:okPre es es.length=true) {i:Nat} (h0:0 < i) (hi:i < es.length):1297728000+(es.getD i (0,0)).1-43200+(es.getD (i-1) (0,0)).2=smS es i∧1297728000+(es.getD i (0,0)).1-43200+86400+(es.getD i (0,0)).2=smE es i∧1297728000+(es.getD i (0,0)).1-43200-3506716800=smB es i∧(es.getD i (0,0)).2-(es.getD (i-1) (0,0)).2=smO es i-smO es (i-1):=by
 have h:=okPre_num hp (i:=i) hi
 unfold smS smE smB smD smO dayOf
 refine ⟨by omega,by omega,by omega,rfl⟩
def WinN (w:World) (v:Value) (es:List (Int × Int)):Prop:=RowT 47 w v (es.length-1) 7 (winC es)
def winF (n:Nat) (v:Value):Value:=.slice (sA v) (n-1) (sC v)
section
variable {w w':World} {v:Value} {es:List (Int × Int)}
theorem WinN.form (h:WinN w v es):v=winF es.length v:=RowT.form h
theorem WinN.keepB {B:Nat} (hk:∀ b,B≤b→b < w.heap.size→w'.heap[b]? = w.heap[b]?) (h:WinN w v es) (hB:∀ b,v.ownBlock=some b→B≤b):WinN w' v es:=by
  obtain ⟨A,c,rfl,h1,h2,h3⟩:=h
  refine ⟨A,c,rfl,h1,h2,?_⟩
  rcases h3 with h3 | ⟨b,off,cur,fz,rfl,hb,hc⟩
  · exact .inl h3
  · exact .inr ⟨b,off,cur,fz,rfl,by rw [hk b (hB b rfl) (lt_of_some hb)];exact hb,hc⟩
end
theorem Facts.winM {L:List (World→Prop)} {w:World} {v:Value} {es:List (Int × Int)} (h:Facts L w) (j:Nat) (hj:L[j]? = some (fun w=>WinN w v es)):RowT 47 w (.slice (sA v) (es.length-1) (sC v)) (es.length-1) 7 (winC es):=(show WinN w v es from h.get j hj).re
theorem At.winM {R:Reg} {i:Nat} {D:Nat→Bool} {env:Env} {a:Act} {w:World} (h:At R i D env a w) (j:Nat) {es:List (Int × Int)} (hj:((R.cl.getD i []).contains j && !(j == i))=true) (hs:((R.cl.getD j []).contains j)=true) (hF:R.F.filter (fun p=>Nat.beq p.1 j)=[(j,fun env w=>WinN w (env j) es)]):RowT 47 w (.slice (sA (env j)) (es.length-1) (sC (env j))) (es.length-1) 7 (winC es):=
 (show WinN w (env j) es from h.fact j (φ:=fun v w=>WinN w v es) hj hs hF).re
theorem own_geM {T:TypeId} {k:Nat} {w:World} {B:Nat} {v:Value} {n:Nat} {cs:List Value} (h:OwnK T k w B v n cs) {b:Nat} (hb:v.ownBlock=some b):B≤b:=by
  obtain ⟨_,h2⟩:=h
  rcases h2 with ⟨rfl,_⟩ | ⟨g,cap,cur,rfl,hB,_⟩
  · cases hb
  · simp only [Value.ownBlock,Option.some.injEq] at hb;omega
theorem mcmpZ (a b:Int) (ha:InW a) (hb:InW b):Ret 33 #[vW a,vW b] (vI (cmpZ a b)):=fun w=>by
 have:=wcmp_any a b ha hb w
 rw [show cmp3 a b=cmpZ a b by unfold cmp3 cmpZ;split <;> (try split) <;> (try split) <;> omega] at this
 exact this
theorem cm_le {x y:Int}:cmpZ x y≤0↔x≤y:=by unfold cmpZ;split <;> (try split) <;> omega
theorem cm_lt {x y:Int}:cmpZ x y < 0↔x < y:=by unfold cmpZ;split <;> (try split) <;> omega
theorem cm_ge {x y:Int}:0≤cmpZ x y↔y≤x:=by unfold cmpZ;split <;> (try split) <;> omega
theorem cm_gt {x y:Int}:0 < cmpZ x y↔y < x:=by unfold cmpZ;split <;> (try split) <;> omega
end Go.Proofs.YtailjojebdmnnaaGreat
namespace Go.Proofs.YtailjojebdmnnaaGreat
open Go.RowKit
attribute [local go_sem] vN bT bF rS vW vM vL vT2 vT3 vP vI execOp Act.eval evC bigF vB hi_zero lo_zero Tryz.underlying24 Tryz.underlying27 Tryz.underlying47
theorem msec_any (n:Int) (h0:-9223372036854775808≤n) (h1:n < 9223372036854775808):Ret 53 #[vI n] (vW (n*1000000000000000000)):=by
 intro w0
 have hst:=St.start w0 (Θ:=fun _=>True) (fun _ _=>trivial)
 refine en_ Tryz.func53 hst 13 [(0,vI n)] (fun ac H_=>?_)
 refine gq H_ 0 [[0]] [_] (fun E1=>[(2,vP (pb E1 0) 0)]) (W:=[{ i:=0,T:=27,c0:=[vI 0,.int .u64 0] }]) (s:=(al_ 0)) (k:=fun E1 ac wd H_=>?_)
 refine gq H_ 9 (tri 6++[[0,1,2,3,4,6],[7],r_ 6++[7,8],r_ 10]) [_,_,_,_,_,_,_,_,none,_] (fun E2=>[(3,vP (pb E2 7) 0)]) (W:=[{ i:=7,T:=27,c0:=[vI 0,.int .u64 0],s:=some 8,c1:=fun _=>[vI (hi (n*1000000000000000000)),.int .u64 (lo (n*1000000000000000000))] }]) (s:=⟨mv3,cl3 Tryz.func31 ((of_any n (by omega) (by omega))),cl3 Tryz.func31 ((of_any 1000000000000000000 (by omega) (by omega))),cl3 Tryz.func68 (((wmul_any n 1000000000000000000 (by unfold InW;omega) (by unfold InW;omega)).eq (fit_tup (by unfold InW;omega)))),mv3,xt3,xt3,al_ 1,sw3 1 7 sh27,mv3⟩) (k:=fun E2 ac wd H_=>?_)
 refine gq H_ 1 [[0],[0,1]] [_,none] (fun _=>[]) (S:=[⟨0,1,fun _=>[vI (hi (n*1000000000000000000)),.int .u64 (lo (n*1000000000000000000))]⟩]) (s:=⟨ld3b 1 sh27,se3 0 sh27⟩) (k:=fun E3 ac wd H_=>?_)
 refine lvC3 (v:=vW (n*1000000000000000000)) Tryz.results53 H_ 0 (loadGc sh27 rfl ⟨rfl,rfl,trivial⟩) ?_
 exact ⟨rfl,H_.st.below⟩
theorem mplus_any (a b:Int) (ha:InW a) (hb:InW b) (hs:InW (a+b)):Ret 58 #[vW a,vW b] (vW (a+b)):=by
 intro w0
 have hst:=St.start w0 (Θ:=fun _=>True) (fun _ _=>trivial)
 refine en_ Tryz.func58 hst 14 [(0,vW a),(1,vW b)] (fun ac H_=>?_)
 refine gq H_ 2 [[0],[1],[2]] [_,_,_] (fun E1=>[(2,vP (pb E1 0) 0),(3,vP (pb E1 1) 0),(4,vP (pb E1 2) 0)]) (W:=[{ i:=0,T:=27,c0:=[vI (hi (a)),.int .u64 (lo (a))] },{ i:=1,T:=27,c0:=[vI (hi (b)),.int .u64 (lo (b))] },{ i:=2,T:=27,c0:=[vI 0,.int .u64 0] }]) (s:=⟨bx3 0,bx3 1,al_ 2⟩) (k:=fun E1 ac wd H_=>?_)
 refine gq H_ 8 [[0],[1],[0,1,2],r_ 4,r_ 5,[0,1,2,3,5],[6],[0,1,2,3,4,6,7],r_ 9] [_,_,_,_,_,_,_,none,_] (fun E2=>[(5,vP (pb E2 6) 0)]) (W:=[{ i:=6,T:=27,c0:=[vI 0,.int .u64 0],s:=some 7,c1:=fun _=>[vI (hi (a+b)),.int .u64 (lo (a+b))] }]) (s:=⟨ld3b 0 sh27,ld3b 1 sh27,cl3 Tryz.func29 ((Ret.eq (wadd_any a b ha hb) (fit_tup hs))),mv3,xt3,xt3,al_ 3,sw3 3 6 sh27,mv3⟩) (k:=fun E2 ac wd H_=>?_)
 refine gq H_ 1 [[0],[0,1]] [_,none] (fun _=>[]) (S:=[⟨2,1,fun _=>[vI (hi (a+b)),.int .u64 (lo (a+b))]⟩]) (s:=⟨ld3b 3 sh27,se3 2 sh27⟩) (k:=fun E3 ac wd H_=>?_)
 refine lvC3 (v:=vW (a+b)) Tryz.results58 H_ 2 (loadGc sh27 rfl ⟨rfl,rfl,trivial⟩) ?_
 exact ⟨rfl,H_.st.below⟩
theorem mless_any (a b:Int) (ha:InW a) (hb:InW b) (hs:InW (a-b)):Ret 51 #[vW a,vW b] (vW (a-b)):=by
 intro w0
 have hst:=St.start w0 (Θ:=fun _=>True) (fun _ _=>trivial)
 refine en_ Tryz.func51 hst 14 [(0,vW a),(1,vW b)] (fun ac H_=>?_)
 refine gq H_ 2 [[0],[1],[2]] [_,_,_] (fun E1=>[(2,vP (pb E1 0) 0),(3,vP (pb E1 1) 0),(4,vP (pb E1 2) 0)]) (W:=[{ i:=0,T:=27,c0:=[vI (hi (a)),.int .u64 (lo (a))] },{ i:=1,T:=27,c0:=[vI (hi (b)),.int .u64 (lo (b))] },{ i:=2,T:=27,c0:=[vI 0,.int .u64 0] }]) (s:=⟨bx3 0,bx3 1,al_ 2⟩) (k:=fun E1 ac wd H_=>?_)
 refine gq H_ 8 [[0],[1],[0,1,2],r_ 4,r_ 5,[0,1,2,3,5],[6],[0,1,2,3,4,6,7],r_ 9] [_,_,_,_,_,_,_,none,_] (fun E2=>[(5,vP (pb E2 6) 0)]) (W:=[{ i:=6,T:=27,c0:=[vI 0,.int .u64 0],s:=some 7,c1:=fun _=>[vI (hi (a-b)),.int .u64 (lo (a-b))] }]) (s:=⟨ld3b 0 sh27,ld3b 1 sh27,cl3 Tryz.func78 ((Ret.eq (wsub_any a b ha hb) (fit_tup hs))),mv3,xt3,xt3,al_ 3,sw3 3 6 sh27,mv3⟩) (k:=fun E2 ac wd H_=>?_)
 refine gq H_ 1 [[0],[0,1]] [_,none] (fun _=>[]) (S:=[⟨2,1,fun _=>[vI (hi (a-b)),.int .u64 (lo (a-b))]⟩]) (s:=⟨ld3b 3 sh27,se3 2 sh27⟩) (k:=fun E3 ac wd H_=>?_)
 refine lvC3 (v:=vW (a-b)) Tryz.results51 H_ 2 (loadGc sh27 rfl ⟨rfl,rfl,trivial⟩) ?_
 exact ⟨rfl,H_.st.below⟩
theorem win_info:(Tryz.prog.info? 47).map (fun i=>(i.zero,i.size,i.bytes))=some (some (.agg #[vI 0,.int .u64 0,vI 0,.int .u64 0,vI 0,.int .u64 0,vI 0]),7,56):=by kernel_rfl
theorem win_in {es:List (Int × Int)} (hp:okPre es es.length=true) {i:Nat} (h0:0 < i) (hi:i < es.length):0≤smS es i∧smS es i < 2305843009213693952∧0≤smE es i∧smE es i < 2305843009213693952 ∧ -3506716800≤smB es i∧smB es i < 2305843009213693952∧(smL es i=86399∨smL es i=86401)∧smE es i-smS es i=smL es i:=by
 have h:=okPre_num hp (i:=i) hi
 have h2:=okPre_num hp (i:=i-1) (by omega)
 have h3:=smL_cases hp h0 hi
 refine ⟨?_,?_,?_,?_,?_,?_,h3.1,h3.2⟩ <;> (try unfold smS) <;> (try unfold smE) <;> (try unfold smB) <;> (try unfold smD) <;> (try unfold smO) <;> (try unfold dayOf) <;> omega
theorem mwindows_any (w0:World) (g:Nat) (u x:Int) (es:List (Int × Int)) (hL:IsLx w0 g u x es):Calls Tryz.prog 32 #[vP g 0] w0 fun e w'=>∃ v,e = .returned v∧Below w0.heap.size w0 w'∧WinN w' v es∧∀ b,v.ownBlock=some b→w0.heap.size≤b:=by
 have hl64:=(okT_pre hL.ok).2.2;have hp:=(okT_pre hL.ok).1;have hn0:=(okT_pre hL.ok).2.1
 have hst:=St.start w0 (Θ:=fun _=>True) (fun _ _=>trivial)
 refine en_ Tryz.func32 hst 58 [(0,vP g 0)] (fun ac H_=>?_)
 replace H_:=H_.facts
 refine fq0 H_ 0 [[0]] [_] (s:=mv3) (k:=fun E1 ac wd H_=>?_)
 refine fq1 H_ 0 [[0]] [_] (fun _=>[(3,.slice none 0 0)]) (s:=mv3) (k:=fun E2 ac wd H_=>?_)
 refine fq H_ 3 (tri 4) [_,KE_ fun env=>.agg #[vI u,vI x,.slice ((sA (agS (env 1)))) es.length es.length],KE_ fun env=>.slice ((sA (agS (env 1)))) es.length es.length,_] (fun E3=>[(4,.slice ((sA (agS (E3 1)))) es.length es.length)]) (F:=[(1,fun env w=>TabG none w (env 1) u x es)]) (s:=⟨mv3,s_factT rfl rfl rfl Tryz.func69 (by kernel_rfl) rfl (fun _=>wanted_none rfl _) (fun v w=>TabG none w v u x es) (tabF u x es.length) rfl rfl [44] rfl (fun v w h=>h.form) (fun v w w' hk h=>h.keep hk) (fun {D env ac wd} hA=>⟨_,hA.args (vs:=[vP g 0]) rfl,tableN (hL.gn hA.j.st.gr)⟩),fl3,mv3⟩) (k:=fun E3 ac wd H_=>?_)
 replace H_:=Cur.toTh H_ 0 rfl (Θ':=fun w=>OwnK 47 7 w w0.heap.size (.slice none 0 0) 0 (winR es 0)∧TabG none w (E3 1) u x es) (fun w h=>⟨OwnK.nil w _,h⟩)
 refine fq1 H_ 2 [[0],[0,1],[2]] [_,vN es.length,_] (fun _=>[(13,vN es.length),(14,vI 0)]) (s:=⟨mv3,ln_ Tryz.underlying22 fun _ env _ wd hA=>(tab_ents (hA.thO rfl)).els,mv3⟩) (k:=fun E4 ac wd H_=>?_)
 refine lp3 (fun ac wd=>∃ (v:Value) (i:Nat),i≤es.length∧Cur 58 w0 none none (Facts []) (fun w=>OwnK 47 7 w w0.heap.size v (i-1) (winR es (i-1))∧TabG none w (E3 1) u x es) [(3,v),(4,.slice ((sA (agS (E3 1)))) es.length es.length),(13,vN es.length),(14,vN i)] [] ac wd) (fun ac _=>((es.length:Int)-sI ac 14).toNat) ⟨.slice none 0 0,0,by omega,(H_.re rfl).th (fun _ h=>h)⟩ ?_
 rintro ac wd ⟨v,i,hi1,H_⟩
 have hmu:sI ac 14=((i:Nat):Int):=sI_eq (H_.g (t:=14) rfl)
 by_cases h1:i < es.length
 refine fq1 H_ 0 [[0]] [bT] (fun _=>[(15,bT)]) (s:=bi3) (k:=fun E6 ac wd H_=>?_)
 refine cT3 H_ ?_
 rcases Nat.eq_zero_or_pos i with h0 | h0
 subst h0
 refine fq1 H_ 1 [[0],[0,1]] [_,_] (fun _=>[(5,vN 0)]) (s:=⟨mv3,mv3⟩) (k:=fun E7 ac wd H_=>?_)
 refine fq1 H_ 1 [[0],[0,1]] [_,bT] (fun _=>[(18,bT)]) (s:=⟨mv3,bi3⟩) (k:=fun E8 ac wd H_=>?_)
 refine cT3 H_ ?_
 refine fq1 H_ 1 [[0],[0,1]] [vI (((0:Nat):Int)+1),_] (fun _=>[(14,vI (((0:Nat):Int)+1))]) (s:=⟨bi3 (h:=by intro env w;(first | (simp [go_sem];done) | (simp [go_sem];exact IntWalk.i64_in _ (by omega)) | (simp [go_sem];exact IntWalk.i64_in _ (by simp only [List.getD_eq_getElem?_getD] at *;omega)))),mv3⟩) (k:=fun E9 ac wd H_=>?_)
 refine then_n ?_
 exact ⟨⟨v,0+1,by omega,((H_.take (M1:=[]) rfl).re rfl).th (fun w hw=>hw)⟩,by rw [sI_eq (H_.g (t:=14) rfl),hmu];omega⟩
 obtain ⟨k,rfl⟩:∃ k,i=k+1:=⟨i-1,by omega⟩;have hk0:k+1-1=k:=Nat.add_sub_cancel k 1;obtain ⟨q0,q1,q2,q3⟩:=win_secs hp h0 h1;rw [hk0] at q0 q3;have hb:=okPre_num hp (i:=k+1) h1;have hb2:=okPre_num hp (i:=k) (by omega)
 refine fq1 H_ 1 [[0],[0,1]] [_,_] (fun _=>[(5,vN (k+1))]) (s:=⟨mv3,mv3⟩) (k:=fun E7 ac wd H_=>?_)
 refine fq1 H_ 1 [[0],[0,1]] [_,bF] (fun _=>[(18,bF)]) (s:=⟨mv3,bi3⟩) (k:=fun E8 ac wd H_=>?_)
 refine cF3 H_ ?_
 refine fq1 H_ 7 [[0],[1],[0,1,2],r_ 4,r_ 5,r_ 6,r_ 7,r_ 8] [_,_,elt (.slice ((sA (agS (E3 1)))) es.length es.length) ((k+1)*2),elt (.slice ((sA (agS (E3 1)))) es.length es.length) ((k+1)*2),vI ((es.getD (k+1) (0,0)).1),vI (1297728000+((es.getD (k+1) (0,0)).1)),vI ((1297728000+((es.getD (k+1) (0,0)).1))-43200),_] (fun _=>[(6,vI ((1297728000+((es.getD (k+1) (0,0)).1))-43200))]) (s:=⟨mv3,mv3,ia_ Tryz.underlying22 sz44 (k+1) ((k+1)*2) (((k+1):Nat):Int) (fun _ env _ wd hA=>(tab_ents (hA.thO rfl)).els) (rfl) (by omega) rfl,s_fa rfl rfl rfl (fun _=>wanted_none rfl _) ((k+1)*2) 0 ((k+1)*2) rfl (s:=fun _=>.slice ((sA (agS (E3 1)))) es.length es.length) rfl (fun _=>rfl) (fun {D env ac wd} hA=>(tab_ents (hA.thO rfl)).els) (by omega) (fun b q w=>by simp [go_sem,Tryz.underlying44]),le_ ((k+1)*2) (fun _ env _ wd hA=>(tab_ents (hA.thO rfl)).els) (by omega) (leG1 sh3 (by exact enC_0 es (k+1))),bi3 (h:=by intro env w;(first | (simp [go_sem];done) | (simp [go_sem];exact IntWalk.i64_in _ (by omega)) | (simp [go_sem];exact IntWalk.i64_in _ (by simp only [List.getD_eq_getElem?_getD] at *;omega)))),bi3 (h:=by intro env w;(first | (simp [go_sem];done) | (simp [go_sem];exact IntWalk.i64_in _ (by omega)) | (simp [go_sem];exact IntWalk.i64_in _ (by simp only [List.getD_eq_getElem?_getD] at *;omega)))),mv3⟩) (k:=fun E9 ac wd H_=>?_)
 refine fq1 H_ 12 [[0],[1],[1,2],r_ 4,r_ 5,r_ 6,[6],[7],[6,7,8],[6,7,8,9],[6,7,8,9,10],r_ 6++[11],r_ 13] [_,_,vI ((((k+1):Nat):Int)-1),elt (.slice ((sA (agS (E3 1)))) es.length es.length) (k*2),elt (.slice ((sA (agS (E3 1)))) es.length es.length) (k*2+1),vI ((es.getD k (0,0)).2),_,_,elt (.slice ((sA (agS (E3 1)))) es.length es.length) ((k+1)*2),elt (.slice ((sA (agS (E3 1)))) es.length es.length) ((k+1)*2+1),vI ((es.getD (k+1) (0,0)).2),_,_] (fun _=>[(7,vI ((es.getD k (0,0)).2)),(8,vI ((es.getD (k+1) (0,0)).2))]) (s:=⟨mv3,mv3,bi3 (h:=by intro env w;(first | (simp [go_sem];done) | (simp [go_sem];exact IntWalk.i64_in _ (by omega)) | (simp [go_sem];exact IntWalk.i64_in _ (by simp only [List.getD_eq_getElem?_getD] at *;omega)))),ia_ Tryz.underlying22 sz44 k (k*2) ((((k+1):Nat):Int)-1) (fun _ env _ wd hA=>(tab_ents (hA.thO rfl)).els) (by omega) (by omega) rfl,s_fa rfl rfl rfl (fun _=>wanted_none rfl _) (k*2) 1 (k*2+1) rfl (s:=fun _=>.slice ((sA (agS (E3 1)))) es.length es.length) rfl (fun _=>rfl) (fun {D env ac wd} hA=>(tab_ents (hA.thO rfl)).els) (by omega) (fun b q w=>by simp [go_sem,Tryz.underlying44]),le_ (k*2+1) (fun _ env _ wd hA=>(tab_ents (hA.thO rfl)).els) (by omega) (leG1 sh3 (by exact enC_1 es k)),mv3,mv3,ia_ Tryz.underlying22 sz44 (k+1) ((k+1)*2) (((k+1):Nat):Int) (fun _ env _ wd hA=>(tab_ents (hA.thO rfl)).els) (rfl) (by omega) rfl,s_fa rfl rfl rfl (fun _=>wanted_none rfl _) ((k+1)*2) 1 ((k+1)*2+1) rfl (s:=fun _=>.slice ((sA (agS (E3 1)))) es.length es.length) rfl (fun _=>rfl) (fun {D env ac wd} hA=>(tab_ents (hA.thO rfl)).els) (by omega) (fun b q w=>by simp [go_sem,Tryz.underlying44]),le_ ((k+1)*2+1) (fun _ env _ wd hA=>(tab_ents (hA.thO rfl)).els) (by omega) (leG1 sh3 (by exact enC_1 es (k+1))),mv3,mv3⟩) (k:=fun E10 ac wd H_=>?_)
 refine fq H_ 19 [[0],[1],[2],[1,2,3],[1,2,3,4],[5],[5,6],[7],[5,6,7,8],[1,2,3,4,5,6,7,8,9],[10],[10,11],[1,2,3,4,5,6,7,8,9,10,11,12],[13],[14],[13,14,15],[1,2,3,4,5,6,7,8,9,10,11,12,13,14,15,16],[1,2,3,4,5,6,7,8,9,10,11,12,13,14,15,16,17],r_ 19,r_ 20] [_,_,_,vI (((1297728000+((es.getD (k+1) (0,0)).1))-43200)+((es.getD k (0,0)).2)),_,_,vI (((1297728000+((es.getD (k+1) (0,0)).1))-43200)+86400),_,vI ((((1297728000+((es.getD (k+1) (0,0)).1))-43200)+86400)+((es.getD (k+1) (0,0)).2)),_,_,vI (((1297728000+((es.getD (k+1) (0,0)).1))-43200)-3506716800),_,_,_,vI (((es.getD (k+1) (0,0)).2)-((es.getD k (0,0)).2)),K_ (.agg #[vI (hi (smS es (k+1)*1000000000000000000)),.int .u64 (lo (smS es (k+1)*1000000000000000000)),vI (hi (smE es (k+1)*1000000000000000000)),.int .u64 (lo (smE es (k+1)*1000000000000000000)),vI (hi (smB es (k+1)*1000000000000000000)),.int .u64 (lo (smB es (k+1)*1000000000000000000)),vI (((es.getD (k+1) (0,0)).2)-((es.getD k (0,0)).2))]),KE_ fun env=>.slice (some ⟨(pb env 17),0,none⟩) 1 1,KE_ fun env=>.slice (sA (env 18)) (k+1) (sC (env 18)),_] (fun E11=>[(3,.slice (sA (E11 18)) (k+1) (sC (E11 18)))]) (W:=[{ i:=17,T:=47,c0:=[vI (hi (smS es (k+1)*1000000000000000000)),.int .u64 (lo (smS es (k+1)*1000000000000000000)),vI (hi (smE es (k+1)*1000000000000000000)),.int .u64 (lo (smE es (k+1)*1000000000000000000)),vI (hi (smB es (k+1)*1000000000000000000)),.int .u64 (lo (smB es (k+1)*1000000000000000000)),vI (((es.getD (k+1) (0,0)).2)-((es.getD k (0,0)).2))] }]) (th:=(some (18,fun env w=>OwnK 47 7 w w0.heap.size (.slice (sA (env 18)) (k+1) (sC (env 18))) (k+1) ((winR es k) ++ [vI (hi (smS es (k+1)*1000000000000000000)),.int .u64 (lo (smS es (k+1)*1000000000000000000)),vI (hi (smE es (k+1)*1000000000000000000)),.int .u64 (lo (smE es (k+1)*1000000000000000000)),vI (hi (smB es (k+1)*1000000000000000000)),.int .u64 (lo (smB es (k+1)*1000000000000000000)),vI (((es.getD (k+1) (0,0)).2)-((es.getD k (0,0)).2))])∧(fun w=>TabG none w (E3 1) u x es) w))) (T:=fun E11=>fun w=>OwnK 47 7 w w0.heap.size (.slice (sA (E11 18)) (k+1) (sC (E11 18))) (k+1) ((winR es k) ++ [vI (hi (smS es (k+1)*1000000000000000000)),.int .u64 (lo (smS es (k+1)*1000000000000000000)),vI (hi (smE es (k+1)*1000000000000000000)),.int .u64 (lo (smE es (k+1)*1000000000000000000)),vI (hi (smB es (k+1)*1000000000000000000)),.int .u64 (lo (smB es (k+1)*1000000000000000000)),vI (((es.getD (k+1) (0,0)).2)-((es.getD k (0,0)).2))])∧(fun w=>TabG none w (E3 1) u x es) w) (s:=⟨mv3,mv3,mv3,bi3 (h:=by intro env w;(first | (simp [go_sem];done) | (simp [go_sem];exact IntWalk.i64_in _ (by omega)) | (simp [go_sem];exact IntWalk.i64_in _ (by simp only [List.getD_eq_getElem?_getD] at *;omega)))),cl3 Tryz.func53 ((Ret.eq (msec_any (((1297728000+((es.getD (k+1) (0,0)).1))-43200)+((es.getD k (0,0)).2)) (by omega) (by omega)) (congrArg vW (congrArg (· * 1000000000000000000) q0)))),mv3,bi3 (h:=by intro env w;(first | (simp [go_sem];done) | (simp [go_sem];exact IntWalk.i64_in _ (by omega)) | (simp [go_sem];exact IntWalk.i64_in _ (by simp only [List.getD_eq_getElem?_getD] at *;omega)))),mv3,bi3 (h:=by intro env w;(first | (simp [go_sem];done) | (simp [go_sem];exact IntWalk.i64_in _ (by omega)) | (simp [go_sem];exact IntWalk.i64_in _ (by simp only [List.getD_eq_getElem?_getD] at *;omega)))),cl3 Tryz.func53 ((Ret.eq (msec_any ((((1297728000+((es.getD (k+1) (0,0)).1))-43200)+86400)+((es.getD (k+1) (0,0)).2)) (by omega) (by omega)) (congrArg vW (congrArg (· * 1000000000000000000) q1)))),mv3,bi3 (h:=by intro env w;(first | (simp [go_sem];done) | (simp [go_sem];exact IntWalk.i64_in _ (by omega)) | (simp [go_sem];exact IntWalk.i64_in _ (by simp only [List.getD_eq_getElem?_getD] at *;omega)))),cl3 Tryz.func53 ((Ret.eq (msec_any (((1297728000+((es.getD (k+1) (0,0)).1))-43200)-3506716800) (by omega) (by omega)) (congrArg vW (congrArg (· * 1000000000000000000) q2)))),mv3,mv3,bi3 (h:=by intro env w;(first | (simp [go_sem];done) | (simp [go_sem];exact IntWalk.i64_in _ (by omega)) | (simp [go_sem];exact IntWalk.i64_in _ (by simp only [List.getD_eq_getElem?_getD] at *;omega)))),bd34,s_bsM rfl rfl 0 rfl rfl 1 rfl (fun {D env ac wd} hA=>by have e53:ac.tmps[53]? = some (.agg #[vI (hi (smS es (k+1)*1000000000000000000)),.int .u64 (lo (smS es (k+1)*1000000000000000000)),vI (hi (smE es (k+1)*1000000000000000000)),.int .u64 (lo (smE es (k+1)*1000000000000000000)),vI (hi (smB es (k+1)*1000000000000000000)),.int .u64 (lo (smB es (k+1)*1000000000000000000)),vI (((es.getD (k+1) (0,0)).2)-((es.getD k (0,0)).2))]):=hA.g rfl;simp [go_sem,e53,Tryz.underlying95]),s_appX rfl rfl rfl rfl Tryz.underlying95 win_info rfl (by omega) (by omega) (fun w=>TabG none w (E3 1) u x es) [44] (fun _ _ hk h=>TabG.keep h hk) rfl rfl rfl rfl (fun _ _ h=>by cases h) rfl (fun _ h=>h) [vI (hi (smS es (k+1)*1000000000000000000)),.int .u64 (lo (smS es (k+1)*1000000000000000000)),vI (hi (smE es (k+1)*1000000000000000000)),.int .u64 (lo (smE es (k+1)*1000000000000000000)),vI (hi (smB es (k+1)*1000000000000000000)),.int .u64 (lo (smB es (k+1)*1000000000000000000)),vI (((es.getD (k+1) (0,0)).2)-((es.getD k (0,0)).2))] rfl (by simp [Value.oneCell']) rfl (by omega) 17 0 rfl rfl rfl rfl rfl (fun _=>rfl) (fun hA=>hA.e rfl),mv3⟩) (k:=fun E11 ac wd H_=>?_)
 refine fq1 H_ 1 [[0],[0,1]] [vI ((((k+1):Nat):Int)+1),_] (fun _=>[(14,vI ((((k+1):Nat):Int)+1))]) (s:=⟨bi3 (h:=by intro env w;(first | (simp [go_sem];done) | (simp [go_sem];exact IntWalk.i64_in _ (by omega)) | (simp [go_sem];exact IntWalk.i64_in _ (by simp only [List.getD_eq_getElem?_getD] at *;omega)))),mv3⟩) (k:=fun E12 ac wd H_=>?_)
 refine then_n ?_
 exact ⟨⟨.slice (sA (E11 18)) (k+1) (sC (E11 18)),k+1+1,by omega,((H_.take (M1:=[]) rfl).re rfl).th (fun w hw=>hw)⟩,by rw [sI_eq (H_.g (t:=14) rfl),hmu];omega⟩
 obtain rfl:i=es.length:=by omega
 refine fq1 H_ 0 [[0]] [bF] (fun _=>[(15,bF)]) (s:=bi3) (k:=fun E6 ac wd H_=>?_)
 refine cF3 H_ ?_
 refine fq1 H_ 1 [[0],[0,1]] [_,_] (fun _=>[(2,v)]) (s:=⟨mv3,mv3⟩) (k:=fun E7 ac wd H_=>?_)
 refine lvT3 Tryz.results32 H_ ?_
 exact ⟨_,rfl,H_.st.below,(H_.st.nowT).1.rowT (by omega) (winR_get es (es.length-1)),fun b hb=>own_geM (H_.st.nowT).1 hb⟩
def atR (es:List (Int × Int)) (z:Int):Value:=if smI es z (smM es z es.length)=true then vT2 (vWin es (smM es z es.length)) bT else vT2 (.agg #[vI 0,.int .u64 0,vI 0,.int .u64 0,vI 0,.int .u64 0,vI 0]) bF
theorem atR_yes {es:List (Int × Int)} {z:Int} (h:smI es z (smM es z es.length)=true):atR es z=vT2 (vWin es (smM es z es.length)) bT:=by unfold atR;rw [if_pos h]
theorem atR_no {es:List (Int × Int)} {z:Int} (h:smI es z (smM es z es.length)=false):atR es z=vT2 (.agg #[vI 0,.int .u64 0,vI 0,.int .u64 0,vI 0,.int .u64 0,vI 0]) bF:=by unfold atR;rw [h];rfl
theorem win_none {es:List (Int × Int)} (hp:okPre es es.length=true) (hn:0 < es.length) {z:Int} (h:∀ j,j < es.length-1→winB es z (j+1)=false):smI es z (smM es z es.length)=false:=by
  cases hI:smI es z (smM es z es.length) with
  | false=>rfl
  | true =>
    obtain ⟨a1,_⟩:=smM_spec es z es.length
    have h0:0 < smM es z es.length:=by have:=hI;unfold smI at this;simp only [Bool.and_eq_true,decide_eq_true_eq] at this;exact this.1
    obtain ⟨m,hm⟩:∃ m,smM es z es.length=m+1:=⟨smM es z es.length-1,by omega⟩
    have hlt:m+1 < es.length:=by rcases a1 with a1 | a1 <;> omega
    have h2:=(win_is hp (z:=z) (i:=m+1) (by omega) hlt).2 ⟨hm.symm,hI⟩
    rw [h m (by omega)] at h2;cases h2
theorem mat_any (w0:World) (g:Nat) (u x:Int) (es:List (Int × Int)) (hL:IsLx w0 g u x es) (z:Int) (hz:InW z):Calls Tryz.prog 11 #[vP g 0,vW z] w0 fun e w'=>e = .returned (atR es z)∧Below w0.heap.size w0 w':=by
 have hl64:=(okT_pre hL.ok).2.2;have hp:=(okT_pre hL.ok).1;have hn0:=(okT_pre hL.ok).2.1
 have hst:=St.start w0 (Θ:=fun _=>True) (fun _ _=>trivial)
 refine en_ Tryz.func11 hst 30 [(0,vP g 0),(1,vW z)] (fun ac H_=>?_)
 replace H_:=H_.facts
 refine fq H_ 2 [[0],[1],[2]] [_,_,_] (fun E1=>[(3,vP (pb E1 0) 0),(4,vP (pb E1 1) 0)]) (W:=[{ i:=0,T:=27,c0:=[vI (hi (z)),.int .u64 (lo (z))] },{ i:=1,T:=47,c0:=[vI 0,.int .u64 0,vI 0,.int .u64 0,vI 0,.int .u64 0,vI 0] }]) (s:=⟨bx3 0,al_ 1,mv3⟩) (k:=fun E1 ac wd H_=>?_)
 refine fq H_ 3 [[0],[0,1],[0,1,2],[3]] [_,KE_ fun env=>.slice ((sA (env 1))) ((es.length-1)) ((sC (env 1))),vN (es.length-1),_] (fun E2=>[(9,.slice ((sA (E2 1))) ((es.length-1)) ((sC (E2 1)))),(10,vN (es.length-1)),(11,vI 0)]) (F:=[(1,fun env w=>WinN w (env 1) es)]) (s:=⟨mv3,s_factM rfl rfl rfl Tryz.func32 (by kernel_rfl) rfl (fun _=>wanted_none rfl _) (fun v w=>WinN w v es) (winF es.length) rfl rfl (fun v w h=>h.form) (fun v w w' B hk h hB=>h.keepB hk hB) (fun {D env ac wd} hA=>⟨_,hA.args (vs:=[vP g 0]) rfl,mwindows_any wd g u x es (hL.gn hA.j.st.gr)⟩),ln_ Tryz.underlying95 fun _ env _ wd hA=>(At.winM hA 1 rfl rfl rfl).els,mv3⟩) (k:=fun E2 ac wd H_=>?_)
 refine lp3 (fun ac wd=>∃ i:Nat,(i≤es.length-1∧∀ j,j < i→winB es z (j+1)=false)∧Cur 30 w0 none none (Facts [fun w=>WinN w (E2 1) es]) (fun _=>True) [(3,vP (pb E1 0) 0),(4,vP (pb E1 1) 0),(9,.slice ((sA (E2 1))) ((es.length-1)) ((sC (E2 1)))),(10,vN (es.length-1)),(11,vN i)] [((pb E1 0),27,[vI (hi (z)),.int .u64 (lo (z))]),((pb E1 1),47,[vI 0,.int .u64 0,vI 0,.int .u64 0,vI 0,.int .u64 0,vI 0])] ac wd) (fun ac _=>(((es.length-1:Nat):Int)-sI ac 11).toNat) ⟨0,⟨by omega,fun j hj=>absurd hj (Nat.not_lt_zero j)⟩,(H_.re rfl).th (fun _ h=>h)⟩ ?_
 rintro ac wd ⟨i,⟨hi1,hN⟩,H_⟩
 have hmu:sI ac 11=((i:Nat):Int):=sI_eq (H_.g (t:=11) rfl)
 by_cases h1:i < es.length-1
 obtain ⟨b0,b1,b2,b3,b4,b5,b6,b7⟩:=win_in hp (i:=i+1) (by omega) (by omega)
 refine fq1 H_ 0 [[0]] [bT] (fun _=>[(12,bT)]) (s:=bi3) (k:=fun E4 ac wd H_=>?_)
 refine cT3 H_ ?_
 refine fq H_ 3 [[0],[0,1],[2],r_ 4] [elt (.slice ((sA (E2 1))) ((es.length-1)) ((sC (E2 1)))) (i*7),K_ (.agg #[vI (hi (smS es (i+1)*1000000000000000000)),.int .u64 (lo (smS es (i+1)*1000000000000000000)),vI (hi (smE es (i+1)*1000000000000000000)),.int .u64 (lo (smE es (i+1)*1000000000000000000)),vI (hi (smB es (i+1)*1000000000000000000)),.int .u64 (lo (smB es (i+1)*1000000000000000000)),vI (smO es (i+1)-smO es ((i+1)-1))]),_,none] (fun E5=>[(7,vP (pb E5 2) 0)]) (W:=[{ i:=2,T:=47,c0:=[vI 0,.int .u64 0,vI 0,.int .u64 0,vI 0,.int .u64 0,vI 0],s:=some 3,c1:=fun _=>[vI (hi (smS es (i+1)*1000000000000000000)),.int .u64 (lo (smS es (i+1)*1000000000000000000)),vI (hi (smE es (i+1)*1000000000000000000)),.int .u64 (lo (smE es (i+1)*1000000000000000000)),vI (hi (smB es (i+1)*1000000000000000000)),.int .u64 (lo (smB es (i+1)*1000000000000000000)),vI (smO es (i+1)-smO es ((i+1)-1))] }]) (s:=⟨ia_ Tryz.underlying95 sz47 i (i*7) ((i:Nat):Int) (fun _ env _ wd hA=>(Facts.winM (hA.j.st.now).1 0 rfl).els) (rfl) (by omega) rfl,le_ (i*7) (fun _ env _ wd hA=>(Facts.winM (hA.j.st.now).1 0 rfl).els) (by omega) (leGg sh47 (winC_at es i 0 (by omega)) (winC_at es i 1 (by omega)) (winC_at es i 2 (by omega)) (winC_at es i 3 (by omega)) (winC_at es i 4 (by omega)) (winC_at es i 5 (by omega)) (winC_at es i 6 (by omega))),al_ 2,sw3 2 2 sh47⟩) (k:=fun E5 ac wd H_=>?_)
 by_cases hA:smS es (i+1)*1000000000000000000≤z
 by_cases hB:z < smE es (i+1)*1000000000000000000
 refine fq1 H_ 11 [[0],[1],[1,2],r_ 4,r_ 5,r_ 6,r_ 7,r_ 6++[7],r_ 6++[7,8],r_ 10,r_ 11,r_ 12] [_,_,_,_,bT,_,_,_,_,_,bT,bT] (fun _=>[(26,bT)]) (s:=⟨ld3b 0 sh27,fa3 0,ld3b 2 sh27,cl3 Tryz.func33 ((mcmpZ z (smS es (i+1)*1000000000000000000) hz (by unfold InW;omega))),bi3 (h:=by intro env w;(first | (simp [go_sem,cm_le,cm_lt,cm_ge,cm_gt,hA];done) | (simp [go_sem,cm_le,cm_lt,cm_ge,cm_gt];omega))),mv3,ld3b 0 sh27,fa3 2,ld3b 2 sh27,cl3 Tryz.func33 ((mcmpZ z (smE es (i+1)*1000000000000000000) hz (by unfold InW;omega))),bi3 (h:=by intro env w;(first | (simp [go_sem,cm_le,cm_lt,cm_ge,cm_gt,hB];done) | (simp [go_sem,cm_le,cm_lt,cm_ge,cm_gt];omega))),pk3 (h:=by intro env w;(first | (simp [go_sem,cm_le,cm_lt,cm_ge,cm_gt,hB];done) | (simp [go_sem,cm_le,cm_lt,cm_ge,cm_gt];omega)))⟩) (k:=fun E6 ac wd H_=>?_)
 refine cT3 H_ ?_
 refine fq H_ 2 (tri 3) [_,none,_] (fun _=>[(5,bT)]) (S:=[⟨1,1,fun _=>[vI (hi (smS es (i+1)*1000000000000000000)),.int .u64 (lo (smS es (i+1)*1000000000000000000)),vI (hi (smE es (i+1)*1000000000000000000)),.int .u64 (lo (smE es (i+1)*1000000000000000000)),vI (hi (smB es (i+1)*1000000000000000000)),.int .u64 (lo (smB es (i+1)*1000000000000000000)),vI (smO es (i+1)-smO es ((i+1)-1))]⟩]) (s:=⟨ld3g 2 sh47,se3 1 sh47,mv3⟩) (k:=fun E7 ac wd H_=>?_)
 refine lvCT3 (v:=.agg #[vI (hi (smS es (i+1)*1000000000000000000)),.int .u64 (lo (smS es (i+1)*1000000000000000000)),vI (hi (smE es (i+1)*1000000000000000000)),.int .u64 (lo (smE es (i+1)*1000000000000000000)),vI (hi (smB es (i+1)*1000000000000000000)),.int .u64 (lo (smB es (i+1)*1000000000000000000)),vI (smO es (i+1)-smO es ((i+1)-1))]) Tryz.results11 H_ 1 (loadGc sh47 rfl ⟨rfl,rfl,rfl,rfl,rfl,rfl,rfl,trivial⟩) ?_
 have hW:winB es z (i+1)=true:=by unfold winB;simp only [Bool.and_eq_true,decide_eq_true_eq];exact ⟨hA,hB⟩
 obtain ⟨e1,e2⟩:=(win_is hp (by omega) (by omega)).1 hW
 exact ⟨by rw [atR_yes e2,← e1],H_.st.below⟩
 refine fq1 H_ 11 [[0],[1],[1,2],r_ 4,r_ 5,r_ 6,r_ 7,r_ 6++[7],r_ 6++[7,8],r_ 10,r_ 11,r_ 12] [_,_,_,_,bT,_,_,_,_,_,bF,bF] (fun _=>[(26,bF)]) (s:=⟨ld3b 0 sh27,fa3 0,ld3b 2 sh27,cl3 Tryz.func33 ((mcmpZ z (smS es (i+1)*1000000000000000000) hz (by unfold InW;omega))),bi3 (h:=by intro env w;(first | (simp [go_sem,cm_le,cm_lt,cm_ge,cm_gt,hA];done) | (simp [go_sem,cm_le,cm_lt,cm_ge,cm_gt];omega))),mv3,ld3b 0 sh27,fa3 2,ld3b 2 sh27,cl3 Tryz.func33 ((mcmpZ z (smE es (i+1)*1000000000000000000) hz (by unfold InW;omega))),bi3 (h:=by intro env w;(first | (simp [go_sem,cm_le,cm_lt,cm_ge,cm_gt,hB];done) | (simp [go_sem,cm_le,cm_lt,cm_ge,cm_gt];omega))),pk3 (h:=by intro env w;(first | (simp [go_sem,cm_le,cm_lt,cm_ge,cm_gt,hB];done) | (simp [go_sem,cm_le,cm_lt,cm_ge,cm_gt];omega)))⟩) (k:=fun E6 ac wd H_=>?_)
 refine cF3 H_ ?_
 refine fq1 H_ 1 [[0],[0,1]] [vI (((i:Nat):Int)+1),_] (fun _=>[(11,vI (((i:Nat):Int)+1))]) (s:=⟨bi3,mv3⟩) (k:=fun E7 ac wd H_=>?_)
 refine then_n ?_
 have hW:winB es z (i+1)=false:=by unfold winB;simp only [Bool.and_eq_false_iff,decide_eq_false_iff_not];omega
 exact ⟨⟨i+1,⟨by omega,fun j hj=>by by_cases e:j=i;(subst e;exact hW);exact hN j (by omega)⟩,(H_.take (M1:=[_,_]) rfl).re rfl⟩,by rw [sI_eq (H_.g (t:=11) rfl),hmu];omega⟩
 refine fq1 H_ 11 [[0],[1],[1,2],r_ 4,r_ 5,r_ 6,r_ 7,r_ 6++[7],r_ 6++[7,8],r_ 10,r_ 11,r_ 12] [_,_,_,_,bF,_,_,_,_,_,_,bF] (fun _=>[(26,bF)]) (s:=⟨ld3b 0 sh27,fa3 0,ld3b 2 sh27,cl3 Tryz.func33 ((mcmpZ z (smS es (i+1)*1000000000000000000) hz (by unfold InW;omega))),bi3 (h:=by intro env w;(first | (simp [go_sem,cm_le,cm_lt,cm_ge,cm_gt,hA];done) | (simp [go_sem,cm_le,cm_lt,cm_ge,cm_gt];omega))),mv3,off_,off_,off_,off_,off_,pk3⟩) (k:=fun E6 ac wd H_=>?_)
 refine cF3 H_ ?_
 refine fq1 H_ 1 [[0],[0,1]] [vI (((i:Nat):Int)+1),_] (fun _=>[(11,vI (((i:Nat):Int)+1))]) (s:=⟨bi3,mv3⟩) (k:=fun E7 ac wd H_=>?_)
 refine then_n ?_
 have hW:winB es z (i+1)=false:=by unfold winB;simp only [Bool.and_eq_false_iff,decide_eq_false_iff_not];omega
 exact ⟨⟨i+1,⟨by omega,fun j hj=>by by_cases e:j=i;(subst e;exact hW);exact hN j (by omega)⟩,(H_.take (M1:=[_,_]) rfl).re rfl⟩,by rw [sI_eq (H_.g (t:=11) rfl),hmu];omega⟩
 obtain rfl:i=es.length-1:=by omega
 refine fq1 H_ 0 [[0]] [bF] (fun _=>[(12,bF)]) (s:=bi3) (k:=fun E4 ac wd H_=>?_)
 refine cF3 H_ ?_
 refine fq H_ 2 (tri 3) [K_ (.agg #[vI 0,.int .u64 0,vI 0,.int .u64 0,vI 0,.int .u64 0,vI 0]),none,_] (fun _=>[(5,bF)]) (S:=[⟨1,1,fun _=>[vI 0,.int .u64 0,vI 0,.int .u64 0,vI 0,.int .u64 0,vI 0]⟩]) (s:=⟨bd30,se3 1 sh47,mv3⟩) (k:=fun E5 ac wd H_=>?_)
 refine lvCT3 (v:=.agg #[vI 0,.int .u64 0,vI 0,.int .u64 0,vI 0,.int .u64 0,vI 0]) Tryz.results11 H_ 1 (loadGc sh47 rfl ⟨rfl,rfl,rfl,rfl,rfl,rfl,rfl,trivial⟩) ?_
 have e2:smI es z (smM es z es.length)=false:=win_none hp hn0 hN
 exact ⟨by rw [atR_no e2],H_.st.below⟩
end Go.Proofs.YtailjojebdmnnaaGreat
namespace Go.Proofs.YtailjojebdmnnaaGreat
open Go.RowKit
attribute [local go_sem] vN bT bF rS vW vM vL vT2 vT3 vP vI execOp Act.eval evC bigF vB hi_zero lo_zero Tryz.underlying27 Tryz.underlying39 Tryz.underlying47
theorem m_res_eq {P:Program} {f:FuncId} {args:Array Value} {w0:World} {v v':Value} (h:Calls P f args w0 fun e w'=>e = .returned v∧Below w0.heap.size w0 w') (e:v=v'):Calls P f args w0 fun e w'=>e = .returned v'∧Below w0.heap.size w0 w':=by subst e;exact h
theorem mfirst_l {w:World} {g:Nat} {u x:Int} {es:List (Int × Int)} (h:IsLx w g u x es):LeapC Tryz.prog 18 [vP g 0] w g u x es (vI (day0 es)):=by
 obtain ⟨q,h⟩:=h
 exact (first_any g u x q es w h).mono (fun e w' h=>⟨h.1,⟨_,h.2.1⟩,h.2.2⟩)
def firZ (es:List (Int × Int)):Int:=(smD es 0*86400+smO es 0)*1000000000000000000
theorem off_day0 {es:List (Int × Int)} (hp:okPre es es.length=true) (hn:0 < es.length):vT2 (vI (offV es (day0 es))) (vI (offE es (day0 es)))=vT2 (vI (smO es 0)) (vI 0):=by
 have hc:=cnt_is hp (day0 es) (k:=1) (by omega) (fun _=>by unfold day0;exact Int.le_refl _) (fun h=>by have:=(day_step hp h).1;unfold day0;simpa using this)
 unfold offV offE
 rw [hc];rfl
theorem firZ_eq (es:List (Int × Int)):(day0 es*86400+smO es 0)*1000000000000000000=firZ es:=rfl
theorem fir_in {es:List (Int × Int)} (hp:okPre es es.length=true) (hn:0 < es.length):15020≤day0 es∧day0 es < 26687997800∧smD es 0=day0 es∧0≤smO es 0∧smO es 0≤1000:=by
 have h:=okPre_num hp (i:=0) hn
 unfold smD day0 smO dayOf
 refine ⟨by omega,by omega,rfl,by omega,by omega⟩
theorem ds_yes {z:Int} (h:wthn (z / 1000000000000000000 / 86400) (-1099511627776) 1099511627776=true):vT2 (vL (dsV z).2.1 (dsV z).2.2.1 (dsV z).2.2.2) (vI (dsV z).1)=vT2 (vL (z / 1000000000000000000 / 86400) (z / 1000000000000000000 % 86400) (z % 1000000000000000000)) (vI 0):=by unfold dsV;rw [if_pos h]
theorem ds_no {z:Int} (h:wthn (z / 1000000000000000000 / 86400) (-1099511627776) 1099511627776=false):vT2 (vL (dsV z).2.1 (dsV z).2.2.1 (dsV z).2.2.2) (vI (dsV z).1)=vT2 (vL 0 0 0) (vI 2):=by unfold dsV;rw [if_neg (by rw [h];exact Bool.false_ne_true)]
def msE (es:List (Int × Int)) (z:Int):Int:=if z < firZ es then 8 else if wthn (z / 1000000000000000000 / 86400) (-1099511627776) 1099511627776=true then 0 else 2
def msN (es:List (Int × Int)) (z:Int):Int:=if msE es z=0 then softZ es z else 0
def msR (es:List (Int × Int)) (z:Int):Int:=if msE es z=0∧smI es z (smM es z es.length)=true then (z-smS es (smM es z es.length)*1000000000000000000)*86400 % smL es (smM es z es.length) else 0
def msB (es:List (Int × Int)) (z:Int):Int:=if msE es z=0 then (if smI es z (smM es z es.length)=true then smL es (smM es z es.length) else 1) else 0
def softR (es:List (Int × Int)) (z:Int):Value:=.tuple #[vW (msN es z),vW (msR es z),vW (msB es z),vI (msE es z)]
theorem soft_err {es:List (Int × Int)} {z e:Int} (h:msE es z=e) (h0:e≠0):softR es z = .tuple #[vW 0,vW 0,vW 0,vI e]:=by
 subst h
 unfold softR msN msR msB
 rw [if_neg h0,if_neg (fun h=>h0 h.1),if_neg h0]
theorem soft_in {es:List (Int × Int)} {z:Int} {m:Nat} (h:msE es z=0) (hm:smM es z es.length=m) (hI:smI es z m=true):softR es z = .tuple #[vW (smB es m*1000000000000000000+(z-smS es m*1000000000000000000)*86400 / smL es m),vW ((z-smS es m*1000000000000000000)*86400 % smL es m),vW (smL es m),vI 0]:=by
 unfold softR msN msR msB softZ smV
 rw [if_pos h,hm,if_pos hI,if_pos ⟨h,hI⟩,if_pos h,if_pos hI,h]
theorem soft_out {es:List (Int × Int)} {z:Int} {m:Nat} (h:msE es z=0) (hm:smM es z es.length=m) (hI:smI es z m=false):softR es z = .tuple #[vW (z-(3506716800+smO es m)*1000000000000000000),vW 0,vW 1,vI 0]:=by
 have hI':¬ smI es z m=true:=by rw [hI];exact Bool.false_ne_true
 unfold softR msN msR msB softZ smV
 rw [if_pos h,hm,if_neg hI',if_neg (fun h=>hI' h.2),if_pos h,if_neg hI',h]
theorem mlen_any (es:List (Int × Int)) (m:Nat) (hb:smL es m=86399∨smL es m=86401):Ret 57 #[.agg #[vI (hi (smS es m*1000000000000000000)),.int .u64 (lo (smS es m*1000000000000000000)),vI (hi (smE es m*1000000000000000000)),.int .u64 (lo (smE es m*1000000000000000000)),vI (hi (smB es m*1000000000000000000)),.int .u64 (lo (smB es m*1000000000000000000)),vI (smO es m-smO es (m-1))]] (vW (smL es m)):=by
 have hsL:86400+(smO es m-smO es (m-1))=smL es m:=by unfold smL;omega
 intro w0
 have hst:=St.start w0 (Θ:=fun _=>True) (fun _ _=>trivial)
 refine en_ Tryz.func57 hst 7 [(0,.agg #[vI (hi (smS es m*1000000000000000000)),.int .u64 (lo (smS es m*1000000000000000000)),vI (hi (smE es m*1000000000000000000)),.int .u64 (lo (smE es m*1000000000000000000)),vI (hi (smB es m*1000000000000000000)),.int .u64 (lo (smB es m*1000000000000000000)),vI (smO es m-smO es (m-1))])] (fun ac H_=>?_)
 refine gq H_ 1 [[0],[1]] [_,_] (fun E1=>[(1,vP (pb E1 0) 0),(2,vP (pb E1 1) 0)]) (W:=[{ i:=0,T:=47,c0:=[vI (hi (smS es m*1000000000000000000)),.int .u64 (lo (smS es m*1000000000000000000)),vI (hi (smE es m*1000000000000000000)),.int .u64 (lo (smE es m*1000000000000000000)),vI (hi (smB es m*1000000000000000000)),.int .u64 (lo (smB es m*1000000000000000000)),vI (smO es m-smO es (m-1))] },{ i:=1,T:=27,c0:=[vI 0,.int .u64 0] }]) (s:=⟨bx3 0,al_ 1⟩) (k:=fun E1 ac wd H_=>?_)
 refine gq H_ 4 (tri 5) [_,_,vI (86400+(smO es m-smO es (m-1))),_,none] (fun _=>[]) (S:=[⟨1,4,fun _=>[vI (hi (smL es m)),.int .u64 (lo (smL es m))]⟩]) (s:=⟨fa3 6,ld31 0 sh3,bi3,cl3 Tryz.func31 ((Ret.eq (of_any (86400+(smO es m-smO es (m-1))) (by omega) (by omega)) (congrArg vW hsL))),se3 1 sh27⟩) (k:=fun E2 ac wd H_=>?_)
 refine lvC3 (v:=vW (smL es m)) Tryz.results57 H_ 1 (loadGc sh27 rfl ⟨rfl,rfl,trivial⟩) ?_
 exact ⟨rfl,H_.st.below⟩
theorem mwhole_y (z:Int) (hz:InW z) (hin:wthn (z / 1000000000000000000 / 86400) (-1099511627776) 1099511627776=true):Ret 59 #[vW z] (vT2 (vI (z / 1000000000000000000)) (vI 0)):=by
 have hb:=wth_iff.1 hin
 intro w0
 have hst:=St.start w0 (Θ:=fun _=>True) (fun _ _=>trivial)
 refine en_ Tryz.func59 hst 20 [(0,vW z)] (fun ac H_=>?_)
 refine gq H_ 2 [[0],[1],[1,2]] [_,_,_] (fun E1=>[(1,vP (pb E1 0) 0)]) (W:=[{ i:=0,T:=27,c0:=[vI (hi (z)),.int .u64 (lo (z))] }]) (s:=⟨bx3 0,mv3,mv3⟩) (k:=fun E1 ac wd H_=>?_)
 refine gq H_ 7 (tri 4++[[0,1,2,4],[5],[0,1,2,3,5,6],r_ 8]) [_,_,_,_,_,_,none,_] (fun E2=>[(4,vP (pb E2 5) 0),(5,vI 0)]) (W:=[{ i:=5,T:=39,c0:=[vI 0,vI 0,vI 0],s:=some 6,c1:=fun _=>[vI (z / 1000000000000000000 / 86400),vI (z / 1000000000000000000 % 86400),vI (z % 1000000000000000000)] }]) (s:=⟨ld3b 0 sh27,cl3 Tryz.func55 (((dsplit_any z hz).eq (ds_yes hin))),mv3,xt3,xt3,al_ 1,sw3 1 5 sh39,mv3⟩) (k:=fun E2 ac wd H_=>?_)
 refine gq1 H_ 1 [[0],[0,1]] [_,bF] (fun _=>[(12,bF)]) (s:=⟨mv3,bi3 (h:=by intro env w;(first | (simp [go_sem];done) | (simp [go_sem];rfl)))⟩) (k:=fun E3 ac wd H_=>?_)
 refine cF3 H_ ?_
 refine gq1 H_ 7 [[0],[0,1],[0,1,2],[3],[3,4],r_ 6,r_ 7,r_ 8] [_,_,vI ((z / 1000000000000000000 / 86400)*86400),_,_,vI (((z / 1000000000000000000 / 86400)*86400)+(z / 1000000000000000000 % 86400)),_,_] (fun _=>[(2,vI (((z / 1000000000000000000 / 86400)*86400)+(z / 1000000000000000000 % 86400))),(3,vI 0)]) (s:=⟨fa3 0,ld31 1 sh3,bi3,fa3 1,ld31 1 sh3,bi3,mv3,mv3⟩) (k:=fun E4 ac wd H_=>?_)
 refine then_n (wp_ret ?_)
 have s2:=H_.g (t:=2) rfl
 have s3:=H_.g (t:=3) rfl
 refine leave (v:=vT2 (vI (((z / 1000000000000000000 / 86400)*86400)+(z / 1000000000000000000 % 86400))) (vI 0)) H_.df (by simp [results,Tryz.results59,go_sem,Array.getD_eq_getD_getElem?,s2,s3]) ?_
 have e:((z / 1000000000000000000 / 86400)*86400)+(z / 1000000000000000000 % 86400)=z / 1000000000000000000:=by omega
 exact ⟨by rw [e],H_.st.below⟩
theorem mwhole_n (z:Int) (hz:InW z) (hin:wthn (z / 1000000000000000000 / 86400) (-1099511627776) 1099511627776=false):Ret 59 #[vW z] (vT2 (vI 0) (vI 2)):=by
 intro w0
 have hst:=St.start w0 (Θ:=fun _=>True) (fun _ _=>trivial)
 refine en_ Tryz.func59 hst 20 [(0,vW z)] (fun ac H_=>?_)
 refine gq H_ 2 [[0],[1],[1,2]] [_,_,_] (fun E1=>[(1,vP (pb E1 0) 0)]) (W:=[{ i:=0,T:=27,c0:=[vI (hi (z)),.int .u64 (lo (z))] }]) (s:=⟨bx3 0,mv3,mv3⟩) (k:=fun E1 ac wd H_=>?_)
 refine gq H_ 7 (tri 4++[[0,1,2,4],[5],[0,1,2,3,5,6],r_ 8]) [_,_,_,_,_,_,none,_] (fun E2=>[(4,vP (pb E2 5) 0),(5,vI 2)]) (W:=[{ i:=5,T:=39,c0:=[vI 0,vI 0,vI 0],s:=some 6,c1:=fun _=>[vI 0,vI 0,vI 0] }]) (s:=⟨ld3b 0 sh27,cl3 Tryz.func55 (((dsplit_any z hz).eq (ds_no hin))),mv3,xt3,xt3,al_ 1,sw3 1 5 sh39,mv3⟩) (k:=fun E2 ac wd H_=>?_)
 refine gq1 H_ 1 [[0],[0,1]] [_,bT] (fun _=>[(12,bT)]) (s:=⟨mv3,bi3⟩) (k:=fun E3 ac wd H_=>?_)
 refine cT3 H_ ?_
 refine gq1 H_ 2 [[0],[1],[0,1,2]] [_,_,_] (fun _=>[(2,vI 0),(3,vI 2)]) (s:=⟨mv3,mv3,mv3⟩) (k:=fun E4 ac wd H_=>?_)
 refine then_n (wp_ret (then_ret ?_))
 have s2:=H_.g (t:=2) rfl
 have s3:=H_.g (t:=3) rfl
 refine leave (v:=vT2 (vI 0) (vI 2)) H_.df (by simp [results,Tryz.results59,go_sem,Array.getD_eq_getD_getElem?,s2,s3]) ?_
 exact ⟨rfl,H_.st.below⟩
theorem mfirstZ_l (w0:World) (g:Nat) (u x:Int) (es:List (Int × Int)) (hL:IsLx w0 g u x es)  : LeapC Tryz.prog 52 [vP g 0] w0 g u x es (vW (firZ es)):=by
 unfold LeapC
 have hl64:=(okT_pre hL.ok).2.2;have hp:=(okT_pre hL.ok).1;have hn0:=(okT_pre hL.ok).2.1
 obtain ⟨f0,f1,f2,f3,f4⟩:=fir_in hp hn0
 have hst:=St.startL w0 hL
 refine en_ Tryz.func52 hst 18 [(0,vP g 0)] (fun ac H_=>?_)
 refine gq H_ 0 [[0]] [_] (fun E1=>[(2,vP (pb E1 0) 0)]) (W:=[{ i:=0,T:=27,c0:=[vI 0,.int .u64 0] }]) (s:=(al_ 0)) (k:=fun E1 ac wd H_=>?_)
 refine gq1 H_ 8 [[0],[1],[1,2],r_ 4,r_ 5,r_ 6,[0,1,2,3,4,6],r_ 6++[7],r_ 9] [_,_,vI (day0 es),vT2 (vI (smO es 0)) (vI 0),_,_,_,_,_] (fun _=>[(3,vI (smO es 0))]) (s:=⟨mv3,mv3,s_leap (g:=g) (u:=u) (x:=x) (es:=es) Tryz.func18 (fun _ h=>h) (fun _ h=>h) (h:=fun D env ac wd hA hL=>⟨_,mfirst_l hL,rfl⟩),s_leap (g:=g) (u:=u) (x:=x) (es:=es) Tryz.func54 (fun _ h=>h) (fun _ h=>h) (h:=fun D env ac wd hA hL=>⟨_,LeapC.eq (offset_l hL (day0 es)) (off_day0 hp hn0),rfl⟩),mv3,xt3,xt3,mv3,mv3⟩) (k:=fun E2 ac wd H_=>?_)
 refine gq H_ 6 [[0],[0,1],[0,1,2],[3],r_ 5,r_ 6,r_ 7] [_,vI (day0 es),vI ((day0 es)*86400),_,vI (((day0 es)*86400)+(smO es 0)),_,none] (fun _=>[]) (S:=[⟨0,6,fun _=>[vI (hi (firZ es)),.int .u64 (lo (firZ es))]⟩]) (s:=⟨mv3,s_leap (g:=g) (u:=u) (x:=x) (es:=es) Tryz.func18 (fun _ h=>h) (fun _ h=>h) (h:=fun D env ac wd hA hL=>⟨_,mfirst_l hL,rfl⟩),bi3,mv3,bi3,cl3 Tryz.func53 ((Ret.eq (msec_any (((day0 es)*86400)+(smO es 0)) (by omega) (by omega)) (congrArg vW (firZ_eq es)))),se3 0 sh27⟩) (k:=fun E3 ac wd H_=>?_)
 refine lvC3 (v:=vW (firZ es)) Tryz.results52 H_ 0 (loadGc sh27 rfl ⟨rfl,rfl,trivial⟩) ?_
 exact ⟨rfl,H_.st.nowT,H_.st.gr⟩
theorem atR_in {es:List (Int × Int)} {z:Int} {m:Nat} (hm:smM es z es.length=m) (h:smI es z m=true):atR es z=vT2 (vWin es m) bT:=by subst hm;exact atR_yes h
theorem atR_out {es:List (Int × Int)} {z:Int} {m:Nat} (hm:smM es z es.length=m) (h:smI es z m=false):atR es z=vT2 (.agg #[vI 0,.int .u64 0,vI 0,.int .u64 0,vI 0,.int .u64 0,vI 0]) bF:=by subst hm;exact atR_no h
theorem msoft_l (w0:World) (g:Nat) (u x:Int) (es:List (Int × Int)) (hL:IsLx w0 g u x es) (z:Int) (hz:InW z):LeapC Tryz.prog 25 [vP g 0,vW z] w0 g u x es (softR es z):=by
 unfold LeapC
 have hl64:=(okT_pre hL.ok).2.2;have hp:=(okT_pre hL.ok).1;have hn0:=(okT_pre hL.ok).2.1
 obtain ⟨f0,f1,f2,f3,f4⟩:=fir_in hp hn0
 have hF:firZ es=(day0 es*86400+smO es 0)*1000000000000000000:=rfl
 have hst:=St.startL w0 hL
 refine en_ Tryz.func25 hst 81 [(0,vP g 0),(1,vW z)] (fun ac H_=>?_)
 refine gq H_ 4 [[0],[1],[2],[3],[4]] [_,_,_,_,_] (fun E1=>[(3,vP (pb E1 0) 0),(4,vP (pb E1 1) 0),(5,vP (pb E1 2) 0),(6,vP (pb E1 3) 0)]) (W:=[{ i:=0,T:=27,c0:=[vI (hi (z)),.int .u64 (lo (z))] },{ i:=1,T:=27,c0:=[vI 0,.int .u64 0] },{ i:=2,T:=27,c0:=[vI 0,.int .u64 0] },{ i:=3,T:=27,c0:=[vI 0,.int .u64 0] }]) (s:=⟨bx3 0,al_ 1,al_ 2,al_ 3,mv3⟩) (k:=fun E1 ac wd H_=>?_)
 refine gq1 H_ 1 [[0],[0,1]] [_,bF] (fun _=>[(18,bF)]) (s:=⟨mv3,bi3⟩) (k:=fun E2 ac wd H_=>?_)
 refine cF3 H_ ?_
 by_cases hE:z < firZ es
 have hM:msE es z=8:=by unfold msE;rw [if_pos hE]
 refine gq1 H_ 4 [[0],[1],[1,2],r_ 4,r_ 5] [_,_,vW (firZ es),_,bT] (fun _=>[(26,bT)]) (s:=⟨ld3b 0 sh27,mv3,s_leap (g:=g) (u:=u) (x:=x) (es:=es) Tryz.func52 (fun _ h=>h) (fun _ h=>h) (h:=fun D env ac wd hA hL=>⟨_,mfirstZ_l _ g u x es hL,rfl⟩),cl3 Tryz.func33 ((mcmpZ z (firZ es) hz (by unfold InW;omega))),bi3 (h:=by intro env w;(first | (simp [go_sem,cm_le,cm_lt,cm_ge,cm_gt,hE];done) | (simp [go_sem,cm_le,cm_lt,cm_ge,cm_gt];omega)))⟩) (k:=fun E3 ac wd H_=>?_)
 refine cT3 H_ ?_
 refine gq H_ 6 [[0],[1],[2],[0,3],[0,1,3,4],r_ 6,r_ 7] [_,_,_,none,none,none,_] (fun _=>[(7,vI 8)]) (S:=[⟨1,3,fun _=>[vI 0,.int .u64 0]⟩,⟨2,4,fun _=>[vI 0,.int .u64 0]⟩,⟨3,5,fun _=>[vI 0,.int .u64 0]⟩]) (s:=⟨ld3b 1 sh27,ld3b 2 sh27,ld3b 3 sh27,se3 1 sh27,se3 2 sh27,se3 3 sh27,mv3⟩) (k:=fun E4 ac wd H_=>?_)
 refine then_n (wp_ret (then_ret ?_))
 have s4:=H_.g (t:=4) rfl
 have hc4:=(H_.st.own 1 _ rfl).2
 have c4_0:=own_cell (o:=0) hc4 rfl
 have c4_1:=own_cell (o:=1) hc4 rfl
 have s5:=H_.g (t:=5) rfl
 have hc5:=(H_.st.own 2 _ rfl).2
 have c5_0:=own_cell (o:=0) hc5 rfl
 have c5_1:=own_cell (o:=1) hc5 rfl
 have s6:=H_.g (t:=6) rfl
 have hc6:=(H_.st.own 3 _ rfl).2
 have c6_0:=own_cell (o:=0) hc6 rfl
 have c6_1:=own_cell (o:=1) hc6 rfl
 have s7:=H_.g (t:=7) rfl
 refine leave (v:=.tuple #[.agg #[vI 0,.int .u64 0],.agg #[vI 0,.int .u64 0],.agg #[vI 0,.int .u64 0],vI 8]) H_.df (by simp [results,Tryz.results25,go_sem,Array.getD_eq_getD_getElem?,s4,c4_0,c4_1,Tryz.underlying27,s5,c5_0,c5_1,Tryz.underlying27,s6,c6_0,c6_1,Tryz.underlying27,s7]) ?_
 exact ⟨by first | (rw [soft_err hM (by omega)];done) | (rw [soft_err hM (by omega)];rfl),H_.st.nowT,H_.st.gr⟩
 refine gq1 H_ 4 [[0],[1],[1,2],r_ 4,r_ 5] [_,_,vW (firZ es),_,bF] (fun _=>[(26,bF)]) (s:=⟨ld3b 0 sh27,mv3,s_leap (g:=g) (u:=u) (x:=x) (es:=es) Tryz.func52 (fun _ h=>h) (fun _ h=>h) (h:=fun D env ac wd hA hL=>⟨_,mfirstZ_l _ g u x es hL,rfl⟩),cl3 Tryz.func33 ((mcmpZ z (firZ es) hz (by unfold InW;omega))),bi3 (h:=by intro env w;(first | (simp [go_sem,cm_le,cm_lt,cm_ge,cm_gt,hE];done) | (simp [go_sem,cm_le,cm_lt,cm_ge,cm_gt];omega)))⟩) (k:=fun E3 ac wd H_=>?_)
 refine cF3 H_ ?_
 cases hin:wthn (z / 1000000000000000000 / 86400) (-1099511627776) 1099511627776
 have hM:msE es z=2:=by unfold msE;rw [if_neg hE,if_neg (by rw [hin];exact Bool.false_ne_true)]
 refine gq1 H_ 6 (tri 4++[[0,1,2,4],[0,1,2,3,5],r_ 7]) [_,_,_,_,_,_,_] (fun _=>[(7,vI 2),(8,vI 0)]) (s:=⟨ld3b 0 sh27,cl3 Tryz.func59 ((mwhole_n z hz hin)),mv3,xt3,xt3,mv3,mv3⟩) (k:=fun E4 ac wd H_=>?_)
 refine gq1 H_ 1 [[0],[0,1]] [_,bT] (fun _=>[(36,bT)]) (s:=⟨mv3,bi3⟩) (k:=fun E5 ac wd H_=>?_)
 refine cT3 H_ ?_
 refine gq H_ 7 [[0],[1],[2],[3],[0,4],[0,1,4,5],[0,1,2,4,5,6],r_ 8] [_,_,_,_,none,none,none,_] (fun _=>[(7,vI 2)]) (S:=[⟨1,4,fun _=>[vI 0,.int .u64 0]⟩,⟨2,5,fun _=>[vI 0,.int .u64 0]⟩,⟨3,6,fun _=>[vI 0,.int .u64 0]⟩]) (s:=⟨ld3b 1 sh27,ld3b 2 sh27,ld3b 3 sh27,mv3,se3 1 sh27,se3 2 sh27,se3 3 sh27,mv3⟩) (k:=fun E6 ac wd H_=>?_)
 refine then_n (wp_ret (then_ret ?_))
 have s4:=H_.g (t:=4) rfl
 have hc4:=(H_.st.own 1 _ rfl).2
 have c4_0:=own_cell (o:=0) hc4 rfl
 have c4_1:=own_cell (o:=1) hc4 rfl
 have s5:=H_.g (t:=5) rfl
 have hc5:=(H_.st.own 2 _ rfl).2
 have c5_0:=own_cell (o:=0) hc5 rfl
 have c5_1:=own_cell (o:=1) hc5 rfl
 have s6:=H_.g (t:=6) rfl
 have hc6:=(H_.st.own 3 _ rfl).2
 have c6_0:=own_cell (o:=0) hc6 rfl
 have c6_1:=own_cell (o:=1) hc6 rfl
 have s7:=H_.g (t:=7) rfl
 refine leave (v:=.tuple #[.agg #[vI 0,.int .u64 0],.agg #[vI 0,.int .u64 0],.agg #[vI 0,.int .u64 0],vI 2]) H_.df (by simp [results,Tryz.results25,go_sem,Array.getD_eq_getD_getElem?,s4,c4_0,c4_1,Tryz.underlying27,s5,c5_0,c5_1,Tryz.underlying27,s6,c6_0,c6_1,Tryz.underlying27,s7]) ?_
 exact ⟨by first | (rw [soft_err hM (by omega)];done) | (rw [soft_err hM (by omega)];rfl),H_.st.nowT,H_.st.gr⟩
 have hM:msE es z=0:=by unfold msE;rw [if_neg hE,if_pos hin]
 refine gq1 H_ 6 (tri 4++[[0,1,2,4],[0,1,2,3,5],r_ 7]) [_,_,_,_,_,_,_] (fun _=>[(7,vI 0),(8,vI (z / 1000000000000000000))]) (s:=⟨ld3b 0 sh27,cl3 Tryz.func59 ((mwhole_y z hz hin)),mv3,xt3,xt3,mv3,mv3⟩) (k:=fun E4 ac wd H_=>?_)
 refine gq1 H_ 1 [[0],[0,1]] [_,bF] (fun _=>[(36,bF)]) (s:=⟨mv3,bi3 (h:=by intro env w;(first | (simp [go_sem];done) | (simp [go_sem];rfl)))⟩) (k:=fun E5 ac wd H_=>?_)
 refine cF3 H_ ?_
 obtain ⟨m,hm⟩:∃ m,smM es z es.length=m:=⟨_,rfl⟩
 obtain ⟨a1,a2⟩:=smM_spec es z es.length
 rw [hm] at a1 a2
 have hbz:=wth_iff.1 hin
 cases hI:smI es z m
 obtain ⟨o1,o2⟩:=soft_at hp hn0 (z:=z) (by rw [f2];omega) (by rw [hm];exact hI);have hml:m < es.length:=(by rcases a1 with h | h <;> omega);have hmo:=okPre_num hp (i:=m) hml;have hmo2:0≤smO es m∧smO es m≤1000:=⟨hmo.2.2.1,hmo.2.2.2.1⟩;rw [hm] at o1 o2
 refine gq H_ 8 [[0],[1],[0,1,2],r_ 4,r_ 5,[0,1,2,3,5],[6],[0,1,2,3,4,6,7],r_ 9] [_,_,_,_,_,_,_,none,_] (fun E6=>[(9,vP (pb E6 6) 0),(10,bF)]) (W:=[{ i:=6,T:=47,c0:=[vI 0,.int .u64 0,vI 0,.int .u64 0,vI 0,.int .u64 0,vI 0],s:=some 7,c1:=fun _=>[vI (hi (0)),.int .u64 (lo (0)),vI (hi (0)),.int .u64 (lo (0)),vI (hi (0)),.int .u64 (lo (0)),vI 0] }]) (s:=⟨mv3,ld3b 0 sh27,cw3 Tryz.func11 fun wd hA=>m_res_eq (mat_any wd g u x es (hA.thO rfl) z hz) (atR_out hm hI),mv3,xt3,xt3,al_ 4,sw3 4 6 sh47,mv3⟩) (k:=fun E6 ac wd H_=>?_)
 refine gq1 H_ 0 [[0]] [_] (fun _=>[(47,bF)]) (s:=mv3) (k:=fun E7 ac wd H_=>?_)
 refine cF3 H_ ?_
 refine gq1 H_ 9 [[0],[1],[0,1,2],r_ 4,r_ 5,[0,1,2,3,5],[0,1,2,3,6],[0,1,2,3,4,7],r_ 6++[7,8],r_ 10] [_,_,vT3 (vI (smO es m)) (vI (atU es (z / 1000000000000000000))) (vI 0),_,_,_,_,_,_,_] (fun _=>[(14,vI (smO es m))]) (s:=⟨mv3,mv3,s_leap (g:=g) (u:=u) (x:=x) (es:=es) Tryz.func60 (fun _ h=>h) (fun _ h=>h) (h:=fun D env ac wd hA hL=>⟨_,LeapC.eq (at_l hL _) (at_yes (by rw [o1];omega) o2 rfl),rfl⟩),mv3,xt3,xt3,xt3,mv3,mv3,mv3⟩) (k:=fun E8 ac wd H_=>?_)
 refine gq H_ 10 [[0],[1],[1,2],[1,2,3],r_ 5,r_ 6,r_ 7,r_ 8,r_ 9,r_ 10,r_ 11] [_,_,vI (3506716800+(smO es m)),_,_,_,_,none,none,none,_] (fun _=>[(7,vI 0)]) (S:=[⟨1,7,fun _=>[vI (hi (z-((3506716800+(smO es m))*1000000000000000000))),.int .u64 (lo (z-((3506716800+(smO es m))*1000000000000000000)))]⟩,⟨2,8,fun _=>[vI (hi (0)),.int .u64 (lo (0))]⟩,⟨3,9,fun _=>[vI (hi (1)),.int .u64 (lo (1))]⟩]) (s:=⟨ld3b 0 sh27,mv3,bi3,cl3 Tryz.func53 ((msec_any (3506716800+(smO es m)) (by omega) (by omega))),cl3 Tryz.func51 ((mless_any z ((3506716800+(smO es m))*1000000000000000000) hz (by unfold InW;omega) (by unfold InW;omega))),cl3 Tryz.func31 ((of_any 0 (by omega) (by omega))),cl3 Tryz.func31 ((of_any 1 (by omega) (by omega))),se3 1 sh27,se3 2 sh27,se3 3 sh27,mv3⟩) (k:=fun E9 ac wd H_=>?_)
 refine then_n (wp_ret ?_)
 have s4:=H_.g (t:=4) rfl
 have hc4:=(H_.st.own 1 _ rfl).2
 have c4_0:=own_cell (o:=0) hc4 rfl
 have c4_1:=own_cell (o:=1) hc4 rfl
 have s5:=H_.g (t:=5) rfl
 have hc5:=(H_.st.own 2 _ rfl).2
 have c5_0:=own_cell (o:=0) hc5 rfl
 have c5_1:=own_cell (o:=1) hc5 rfl
 have s6:=H_.g (t:=6) rfl
 have hc6:=(H_.st.own 3 _ rfl).2
 have c6_0:=own_cell (o:=0) hc6 rfl
 have c6_1:=own_cell (o:=1) hc6 rfl
 have s7:=H_.g (t:=7) rfl
 refine leave (v:=.tuple #[vW (z-((3506716800+(smO es m))*1000000000000000000)),vW 0,vW 1,vI 0]) H_.df (by simp [results,Tryz.results25,go_sem,Array.getD_eq_getD_getElem?,s4,c4_0,c4_1,Tryz.underlying27,s5,c5_0,c5_1,Tryz.underlying27,s6,c6_0,c6_1,Tryz.underlying27,s7]) ?_
 exact ⟨by first | (rw [soft_out hM hm hI];done) | (rw [soft_out hM hm hI];rfl),H_.st.nowT,H_.st.gr⟩
 have hm0:0 < m∧z < smE es m*1000000000000000000:=(by unfold smI at hI;simpa using hI);obtain ⟨hm0,hzE⟩:=hm0;obtain ⟨a3,a4,a5⟩:=a1.resolve_left (by omega);obtain ⟨b0,b1,b2,b3,b4,b5,b6,b7⟩:=win_in hp hm0 a4;have hq0:0≤(z-smS es m*1000000000000000000)*86400 / smL es m∧(z-smS es m*1000000000000000000)*86400 / smL es m≤86400*1000000000000000000:=by rcases b6 with h | h <;> rw [h] at b7 ⊢ <;> omega
 refine gq H_ 8 [[0],[1],[0,1,2],r_ 4,r_ 5,[0,1,2,3,5],[6],[0,1,2,3,4,6,7],r_ 9] [_,_,_,_,_,_,_,none,_] (fun E6=>[(9,vP (pb E6 6) 0),(10,bT)]) (W:=[{ i:=6,T:=47,c0:=[vI 0,.int .u64 0,vI 0,.int .u64 0,vI 0,.int .u64 0,vI 0],s:=some 7,c1:=fun _=>[vI (hi (smS es m*1000000000000000000)),.int .u64 (lo (smS es m*1000000000000000000)),vI (hi (smE es m*1000000000000000000)),.int .u64 (lo (smE es m*1000000000000000000)),vI (hi (smB es m*1000000000000000000)),.int .u64 (lo (smB es m*1000000000000000000)),vI (smO es m-smO es (m-1))] }]) (s:=⟨mv3,ld3b 0 sh27,cw3 Tryz.func11 fun wd hA=>m_res_eq (mat_any wd g u x es (hA.thO rfl) z hz) (atR_in hm hI),mv3,xt3,xt3,al_ 4,sw3 4 6 sh47,mv3⟩) (k:=fun E6 ac wd H_=>?_)
 refine gq1 H_ 0 [[0]] [_] (fun _=>[(47,bT)]) (s:=mv3) (k:=fun E7 ac wd H_=>?_)
 refine cT3 H_ ?_
 refine gq H_ 16 [[0],[1],[1,2],r_ 4,r_ 5,[5],r_ 7,r_ 8,r_ 9,r_ 10,r_ 9++[10],r_ 9++[11],[12],[13],r_ 10++[12,13,14],r_ 11++[12,13,14,15],r_ 17] [_,_,_,_,_,_,_,_,_,_,_,_,_,_,none,none,_] (fun E8=>[(11,vP (pb E8 12) 0),(12,vP (pb E8 13) 0)]) (W:=[{ i:=12,T:=27,c0:=[vI 0,.int .u64 0],s:=some 14,c1:=fun _=>[vI (hi ((z-(smS es m*1000000000000000000))*86400 / (smL es m))),.int .u64 (lo ((z-(smS es m*1000000000000000000))*86400 / (smL es m)))] },{ i:=13,T:=27,c0:=[vI 0,.int .u64 0],s:=some 15,c1:=fun _=>[vI (hi ((z-(smS es m*1000000000000000000))*86400 % (smL es m))),.int .u64 (lo ((z-(smS es m*1000000000000000000))*86400 % (smL es m)))] }]) (s:=⟨ld3b 0 sh27,fa3 0,ld3b 4 sh27,cl3 Tryz.func51 ((mless_any z (smS es m*1000000000000000000) hz (by unfold InW;omega) (by unfold InW;omega))),cl3 Tryz.func31 ((of_any 86400 (by omega) (by omega))),ld3g 4 sh47,cl3 Tryz.func57 ((mlen_any es m b6)),cl3 Tryz.func56 ((wmuldiv_fits (z-(smS es m*1000000000000000000)) 86400 (smL es m) (by unfold InW;omega) (by unfold InW;omega) (by unfold InW;omega) (by omega) (by unfold InW;omega))),mv3,xt3,xt3,xt3,al_ 5,al_ 6,sw3 5 12 sh27,sw3 6 13 sh27,mv3⟩) (k:=fun E8 ac wd H_=>?_)
 refine gq H_ 10 [[0],[0,1],[2],r_ 4,[4],[5],[0,1,2,3,5,6],[0,1,2,3,5,6,7],r_ 9,r_ 10,r_ 11] [_,_,_,_,_,_,_,none,none,none,_] (fun _=>[(7,vI 0)]) (S:=[⟨1,7,fun _=>[vI (hi ((smB es m*1000000000000000000)+((z-(smS es m*1000000000000000000))*86400 / (smL es m)))),.int .u64 (lo ((smB es m*1000000000000000000)+((z-(smS es m*1000000000000000000))*86400 / (smL es m))))]⟩,⟨2,8,fun _=>[vI (hi ((z-(smS es m*1000000000000000000))*86400 % (smL es m))),.int .u64 (lo ((z-(smS es m*1000000000000000000))*86400 % (smL es m)))]⟩,⟨3,9,fun _=>[vI (hi (smL es m)),.int .u64 (lo (smL es m))]⟩]) (s:=⟨fa3 4,ld3b 4 sh27,ld3b 5 sh27,cl3 Tryz.func58 ((mplus_any (smB es m*1000000000000000000) ((z-(smS es m*1000000000000000000))*86400 / (smL es m)) (by unfold InW;omega) (by unfold InW;omega) (by unfold InW;omega))),ld3b 6 sh27,ld3g 4 sh47,cl3 Tryz.func57 ((mlen_any es m b6)),se3 1 sh27,se3 2 sh27,se3 3 sh27,mv3⟩) (k:=fun E9 ac wd H_=>?_)
 refine then_n (wp_ret (then_ret ?_))
 have s4:=H_.g (t:=4) rfl
 have hc4:=(H_.st.own 1 _ rfl).2
 have c4_0:=own_cell (o:=0) hc4 rfl
 have c4_1:=own_cell (o:=1) hc4 rfl
 have s5:=H_.g (t:=5) rfl
 have hc5:=(H_.st.own 2 _ rfl).2
 have c5_0:=own_cell (o:=0) hc5 rfl
 have c5_1:=own_cell (o:=1) hc5 rfl
 have s6:=H_.g (t:=6) rfl
 have hc6:=(H_.st.own 3 _ rfl).2
 have c6_0:=own_cell (o:=0) hc6 rfl
 have c6_1:=own_cell (o:=1) hc6 rfl
 have s7:=H_.g (t:=7) rfl
 refine leave (v:=.tuple #[vW ((smB es m*1000000000000000000)+((z-(smS es m*1000000000000000000))*86400 / (smL es m))),vW ((z-(smS es m*1000000000000000000))*86400 % (smL es m)),vW (smL es m),vI 0]) H_.df (by simp [results,Tryz.results25,go_sem,Array.getD_eq_getD_getElem?,s4,c4_0,c4_1,Tryz.underlying27,s5,c5_0,c5_1,Tryz.underlying27,s6,c6_0,c6_1,Tryz.underlying27,s7]) ?_
 exact ⟨by first | (rw [soft_in hM hm hI];done) | (rw [soft_in hM hm hI];rfl),H_.st.nowT,H_.st.gr⟩
theorem mSoft_l (w0:World) (g:Nat) (u x:Int) (es:List (Int × Int)) (hL:IsLx w0 g u x es) (z:Int) (hz:InW z):LeapC Tryz.prog 7 [vP g 0,vW z] w0 g u x es (vT2 (vW (msN es z)) (vI (msE es z))):=by
 unfold LeapC
 have hl64:=(okT_pre hL.ok).2.2;have hp:=(okT_pre hL.ok).1;have hn0:=(okT_pre hL.ok).2.1
 have hst:=St.startL w0 hL
 refine en_ Tryz.func7 hst 20 [(0,vP g 0),(1,vW z)] (fun ac H_=>?_)
 refine gq H_ 2 [[0],[1],[2]] [_,_,_] (fun E1=>[(3,vP (pb E1 0) 0),(4,vP (pb E1 1) 0)]) (W:=[{ i:=0,T:=27,c0:=[vI (hi (z)),.int .u64 (lo (z))] },{ i:=1,T:=27,c0:=[vI 0,.int .u64 0] }]) (s:=⟨bx3 0,al_ 1,mv3⟩) (k:=fun E1 ac wd H_=>?_)
 refine gq H_ 14 [[0],[1],[0,1,2],r_ 4,r_ 5,[0,1,2,3,5],[0,1,2,3,6],[0,1,2,3,7],[8],[9],[10],[0,1,2,3,4,8,9,10,11],r_ 6++[8,9,10,11,12],r_ 7++[8,9,10,11,12,13],r_ 15] [_,_,K_ (.tuple #[vW (msN es z),vW (msR es z),vW (msB es z),vI (msE es z)]),_,_,_,_,_,_,_,_,none,none,none,_] (fun E2=>[(6,vP (pb E2 8) 0),(9,vI (msE es z))]) (W:=[{ i:=8,T:=27,c0:=[vI 0,.int .u64 0],s:=some 11,c1:=fun _=>[vI (hi (msN es z)),.int .u64 (lo (msN es z))] },{ i:=9,T:=27,c0:=[vI 0,.int .u64 0],s:=some 12,c1:=fun _=>[vI (hi (msR es z)),.int .u64 (lo (msR es z))] },{ i:=10,T:=27,c0:=[vI 0,.int .u64 0],s:=some 13,c1:=fun _=>[vI (hi (msB es z)),.int .u64 (lo (msB es z))] }]) (s:=⟨mv3,ld3b 0 sh27,s_leap (g:=g) (u:=u) (x:=x) (es:=es) Tryz.func25 (fun _ h=>h) (fun _ h=>h) (h:=fun D env ac wd hA hL=>⟨_,msoft_l _ g u x es hL z hz,rfl⟩),mv3,xt3,xt3,xt3,xt3,al_ 2,al_ 3,al_ 4,sw3 2 8 sh27,sw3 3 9 sh27,sw3 4 10 sh27,mv3⟩) (k:=fun E2 ac wd H_=>?_)
 refine gq H_ 3 [[0],[1],[0,2],r_ 4] [_,_,none,_] (fun _=>[(5,vI (msE es z))]) (S:=[⟨1,2,fun _=>[vI (hi (msN es z)),.int .u64 (lo (msN es z))]⟩]) (s:=⟨ld3b 2 sh27,mv3,se3 1 sh27,mv3⟩) (k:=fun E3 ac wd H_=>?_)
 refine lvCT3 (v:=vW (msN es z)) Tryz.results7 H_ 1 (loadGc sh27 rfl ⟨rfl,rfl,trivial⟩) ?_
 exact ⟨rfl,H_.st.nowT,H_.st.gr⟩
end Go.Proofs.YtailjojebdmnnaaGreat
namespace Go.Proofs.YtailjojebdmnnaaGreat
open Go.RowKit
attribute [local go_sem] vN bT bF rS vW vM vL vT2 vT3 vP vI execOp Act.eval evC bigF vB hi_zero lo_zero Tryz.underlying27 Tryz.underlying39 Tryz.underlying47
def hd0 (es:List (Int × Int)):Int:=(smD es 0*86400-3506716800)*1000000000000000000
def mhE (es:List (Int × Int)) (y:Int):Int:=if y < hd0 es then 8 else if wthn (y / 1000000000000000000 / 86400) (-1099511577776) 1099511577776=true then 0 else 2
def mhV (es:List (Int × Int)) (y:Int):Int:=if mhE es y=0 then hardZ es y else 0
theorem hard_err {es:List (Int × Int)} {y e:Int} (h:mhE es y=e) (h0:e≠0):vT2 (vW (mhV es y)) (vI (mhE es y))=vT2 (vW 0) (vI e):=by
 subst h
 unfold mhV
 rw [if_neg h0]
theorem hard_in {es:List (Int × Int)} (hp:okPre es es.length=true) {y:Int} {i:Nat} (h:mhE es y=0) (h0:0 < i) (hi:i < es.length) (hW:wsmB es y i=true):vT2 (vW (mhV es y)) (vI (mhE es y))=vT2 (vW (smS es i*1000000000000000000+cdiv ((y-smB es i*1000000000000000000)*smL es i) 86400)) (vI 0):=by
 obtain ⟨e1,e2⟩:=(wsm_is hp h0 hi).1 hW
 rw [← e1] at e2
 unfold mhV hardZ hdV
 rw [if_pos h,h,← e1,if_pos e2]
theorem hard_out {es:List (Int × Int)} (hp:okPre es es.length=true) {y:Int} (h:mhE es y=0) (hN:∀ j,j < es.length-1→wsmB es y (j+1)=false):vT2 (vW (mhV es y)) (vI (mhE es y))=vT2 (vW (y+(3506716800+offV es (y / 1000000000000000000 / 86400+40587))*1000000000000000000)) (vI 0):=by
  have hI:¬ hdI es y (hdM es y es.length)=true:=fun hI=>by
    obtain ⟨a1,_⟩:=hdM_spec es y es.length
    have h0:0 < hdM es y es.length:=by have:=hI;unfold hdI at this;simp only [Bool.and_eq_true,decide_eq_true_eq] at this;exact this.1
    obtain ⟨m,hm⟩:∃ m,hdM es y es.length=m+1:=⟨hdM es y es.length-1,by omega⟩
    have hlt:m+1 < es.length:=by rcases a1 with a1 | a1 <;> omega
    have h2:=(wsm_is hp (y:=y) (i:=m+1) (by omega) hlt).2 ⟨hm.symm,hI⟩
    rw [hN m (by omega)] at h2;cases h2
  unfold mhV hardZ hdV
  rw [if_pos h,h,if_neg hI]
theorem mHard_l (w0:World) (g:Nat) (u x:Int) (es:List (Int × Int)) (hL:IsLx w0 g u x es) (y:Int) (hz:InW y):LeapC Tryz.prog 24 [vP g 0,vW y] w0 g u x es (vT2 (vW (mhV es y)) (vI (mhE es y))):=by
 unfold LeapC
 have hl64:=(okT_pre hL.ok).2.2;have hp:=(okT_pre hL.ok).1;have hn0:=(okT_pre hL.ok).2.1
 obtain ⟨f0,f1,f2,f3,f4⟩:=fir_in hp hn0
 have hF:firZ es=(day0 es*86400+smO es 0)*1000000000000000000:=rfl
 have hH:hd0 es=(smD es 0*86400-3506716800)*1000000000000000000:=rfl
 have ho9:=u_off_bd hp (y / 1000000000000000000 / 86400+40587)
 have hst:=St.startL w0 hL
 refine en_ Tryz.func24 hst 110 [(0,vP g 0),(1,vW y)] (fun ac H_=>?_)
 replace H_:=H_.facts
 refine fq H_ 2 [[0],[1],[2]] [_,_,_] (fun E1=>[(3,vP (pb E1 0) 0),(4,vP (pb E1 1) 0)]) (W:=[{ i:=0,T:=27,c0:=[vI (hi (y)),.int .u64 (lo (y))] },{ i:=1,T:=27,c0:=[vI 0,.int .u64 0] }]) (s:=⟨bx3 0,al_ 1,mv3⟩) (k:=fun E1 ac wd H_=>?_)
 refine fq1 H_ 1 [[0],[0,1]] [_,bF] (fun _=>[(18,bF)]) (s:=⟨mv3,bi3⟩) (k:=fun E2 ac wd H_=>?_)
 refine cF3 H_ ?_
 refine fq H_ 5 (tri 4++[[4],r_ 6]) [_,vW (firZ es),_,_,_,none] (fun E3=>[(6,vP (pb E3 4) 0)]) (W:=[{ i:=4,T:=27,c0:=[vI 0,.int .u64 0],s:=some 5,c1:=fun _=>[vI (hi ((firZ es)-(3506716800*1000000000000000000))),.int .u64 (lo ((firZ es)-(3506716800*1000000000000000000)))] }]) (s:=⟨mv3,s_leap (g:=g) (u:=u) (x:=x) (es:=es) Tryz.func52 (fun _ h=>h) (fun _ h=>h) (h:=fun D env ac wd hA hL=>⟨_,mfirstZ_l _ g u x es hL,rfl⟩),cl3 Tryz.func53 ((msec_any 3506716800 (by omega) (by omega))),cl3 Tryz.func51 ((mless_any (firZ es) (3506716800*1000000000000000000) (by unfold InW;omega) (by unfold InW;omega) (by unfold InW;omega))),al_ 2,sw3 2 4 sh27⟩) (k:=fun E3 ac wd H_=>?_)
 refine fq1 H_ 8 [[0],[1],[1,2],r_ 4,r_ 5,r_ 6,[0,1,2,3,4,6],r_ 6++[7],r_ 9] [_,_,vI (day0 es),vT2 (vI (smO es 0)) (vI 0),_,_,_,_,_] (fun _=>[(7,vI (smO es 0))]) (s:=⟨mv3,mv3,s_leap (g:=g) (u:=u) (x:=x) (es:=es) Tryz.func18 (fun _ h=>h) (fun _ h=>h) (h:=fun D env ac wd hA hL=>⟨_,mfirst_l hL,rfl⟩),s_leap (g:=g) (u:=u) (x:=x) (es:=es) Tryz.func54 (fun _ h=>h) (fun _ h=>h) (h:=fun D env ac wd hA hL=>⟨_,LeapC.eq (offset_l hL (day0 es)) (off_day0 hp hn0),rfl⟩),mv3,xt3,xt3,mv3,mv3⟩) (k:=fun E4 ac wd H_=>?_)
 by_cases hE:y < hd0 es
 have hM:mhE es y=8:=by unfold mhE;rw [if_pos hE]
 refine fq1 H_ 6 [[0],[1],[2],[2,3],[1,2,3,4],r_ 6,r_ 7] [_,_,_,_,_,_,bT] (fun _=>[(37,bT)]) (s:=⟨ld3b 0 sh27,ld3b 2 sh27,mv3,cl3 Tryz.func53 ((msec_any (smO es 0) (by omega) (by omega))),cl3 Tryz.func51 ((mless_any ((firZ es)-(3506716800*1000000000000000000)) ((smO es 0)*1000000000000000000) (by unfold InW;omega) (by unfold InW;omega) (by unfold InW;omega))),cl3 Tryz.func33 ((mcmpZ y (((firZ es)-(3506716800*1000000000000000000))-((smO es 0)*1000000000000000000)) hz (by unfold InW;omega))),bi3 (h:=by intro env w;(first | (simp [go_sem,cm_le,cm_lt,cm_ge,cm_gt,hE];done) | (simp [go_sem,cm_le,cm_lt,cm_ge,cm_gt];omega)))⟩) (k:=fun E5 ac wd H_=>?_)
 refine cT3 H_ ?_
 refine fq H_ 2 (tri 3) [K_ (.agg #[vI 0,.int .u64 0]),none,_] (fun _=>[(5,vI 8)]) (S:=[⟨1,1,fun _=>[vI 0,.int .u64 0]⟩]) (s:=⟨bd30,se3 1 sh27,mv3⟩) (k:=fun E6 ac wd H_=>?_)
 refine lvCT3 (v:=.agg #[vI 0,.int .u64 0]) Tryz.results24 H_ 1 (loadGc sh27 rfl ⟨rfl,rfl,trivial⟩) ?_
 exact ⟨by first | (rw [hard_err hM (by omega)];done) | (rw [hard_err hM (by omega)];rfl),H_.st.nowT,H_.st.gr⟩
 refine fq1 H_ 6 [[0],[1],[2],[2,3],[1,2,3,4],r_ 6,r_ 7] [_,_,_,_,_,_,bF] (fun _=>[(37,bF)]) (s:=⟨ld3b 0 sh27,ld3b 2 sh27,mv3,cl3 Tryz.func53 ((msec_any (smO es 0) (by omega) (by omega))),cl3 Tryz.func51 ((mless_any ((firZ es)-(3506716800*1000000000000000000)) ((smO es 0)*1000000000000000000) (by unfold InW;omega) (by unfold InW;omega) (by unfold InW;omega))),cl3 Tryz.func33 ((mcmpZ y (((firZ es)-(3506716800*1000000000000000000))-((smO es 0)*1000000000000000000)) hz (by unfold InW;omega))),bi3 (h:=by intro env w;(first | (simp [go_sem,cm_le,cm_lt,cm_ge,cm_gt,hE];done) | (simp [go_sem,cm_le,cm_lt,cm_ge,cm_gt];omega)))⟩) (k:=fun E5 ac wd H_=>?_)
 refine cF3 H_ ?_
 cases hin:wthn (y / 1000000000000000000 / 86400) (-1099511627776) 1099511627776
 have hmid:¬ wthn (y / 1000000000000000000 / 86400) (-1099511577776) 1099511577776=true:=(fun h=>by have:=wth_iff.1 h;have:=wth_no.1 hin;omega);have hM:mhE es y=2:=by unfold mhE;rw [if_neg hE,if_neg hmid]
 refine fq H_ 7 (tri 4++[[0,1,2,4],[5],[0,1,2,3,5,6],r_ 8]) [_,_,_,_,_,_,none,_] (fun E6=>[(9,vP (pb E6 5) 0),(10,vI 2)]) (W:=[{ i:=5,T:=39,c0:=[vI 0,vI 0,vI 0],s:=some 6,c1:=fun _=>[vI 0,vI 0,vI 0] }]) (s:=⟨ld3b 0 sh27,cl3 Tryz.func55 (((dsplit_any y hz).eq (ds_no hin))),mv3,xt3,xt3,al_ 3,sw3 3 5 sh39,mv3⟩) (k:=fun E6 ac wd H_=>?_)
 refine fq1 H_ 11 (tri 12) [_,bT,_,_,_,_,bT,_,_,_,_,bT] (fun _=>[(55,bT)]) (s:=⟨mv3,bi3,mv3,off_,off_,off_,pk3,mv3,off_,off_,off_,pk3⟩) (k:=fun E7 ac wd H_=>?_)
 refine cT3 H_ ?_
 refine fq H_ 2 (tri 3) [K_ (.agg #[vI 0,.int .u64 0]),none,_] (fun _=>[(5,vI 2)]) (S:=[⟨1,1,fun _=>[vI 0,.int .u64 0]⟩]) (s:=⟨bd30,se3 1 sh27,mv3⟩) (k:=fun E8 ac wd H_=>?_)
 refine lvCT3 (v:=.agg #[vI 0,.int .u64 0]) Tryz.results24 H_ 1 (loadGc sh27 rfl ⟨rfl,rfl,trivial⟩) ?_
 exact ⟨by first | (rw [hard_err hM (by omega)];done) | (rw [hard_err hM (by omega)];rfl),H_.st.nowT,H_.st.gr⟩
 have hbz:=wth_iff.1 hin
 refine fq H_ 7 (tri 4++[[0,1,2,4],[5],[0,1,2,3,5,6],r_ 8]) [_,_,_,_,_,_,none,_] (fun E6=>[(9,vP (pb E6 5) 0),(10,vI 0)]) (W:=[{ i:=5,T:=39,c0:=[vI 0,vI 0,vI 0],s:=some 6,c1:=fun _=>[vI (y / 1000000000000000000 / 86400),vI (y / 1000000000000000000 % 86400),vI (y % 1000000000000000000)] }]) (s:=⟨ld3b 0 sh27,cl3 Tryz.func55 (((dsplit_any y hz).eq (ds_yes hin))),mv3,xt3,xt3,al_ 3,sw3 3 5 sh39,mv3⟩) (k:=fun E6 ac wd H_=>?_)
 by_cases g1:y / 1000000000000000000 / 86400 < -1099511577776
 have hmid:¬ wthn (y / 1000000000000000000 / 86400) (-1099511577776) 1099511577776=true:=(fun h=>by have:=wth_iff.1 h;omega);have hM:mhE es y=2:=by unfold mhE;rw [if_neg hE,if_neg hmid]
 refine fq1 H_ 11 (tri 12) [_,bF,_,_,_,bT,bT,_,_,_,_,bT] (fun _=>[(55,bT)]) (s:=⟨mv3,bi3 (h:=by intro env w;(first | (simp [go_sem];done) | (simp [go_sem];rfl))),mv3,fa3 0,ld31 3 sh3,bi3 (h:=by intro env w;simp [go_sem,g1]),pk3 (h:=by intro env w;simp [go_sem,g1]),mv3,off_,off_,off_,pk3⟩) (k:=fun E7 ac wd H_=>?_)
 refine cT3 H_ ?_
 refine fq H_ 2 (tri 3) [K_ (.agg #[vI 0,.int .u64 0]),none,_] (fun _=>[(5,vI 2)]) (S:=[⟨1,1,fun _=>[vI 0,.int .u64 0]⟩]) (s:=⟨bd30,se3 1 sh27,mv3⟩) (k:=fun E8 ac wd H_=>?_)
 refine lvCT3 (v:=.agg #[vI 0,.int .u64 0]) Tryz.results24 H_ 1 (loadGc sh27 rfl ⟨rfl,rfl,trivial⟩) ?_
 exact ⟨by first | (rw [hard_err hM (by omega)];done) | (rw [hard_err hM (by omega)];rfl),H_.st.nowT,H_.st.gr⟩
 by_cases g2:1099511577776 < y / 1000000000000000000 / 86400
 have hmid:¬ wthn (y / 1000000000000000000 / 86400) (-1099511577776) 1099511577776=true:=(fun h=>by have:=wth_iff.1 h;omega);have hM:mhE es y=2:=by unfold mhE;rw [if_neg hE,if_neg hmid]
 refine fq1 H_ 11 (tri 12) [_,bF,_,_,_,bF,bF,_,_,_,bT,bT] (fun _=>[(55,bT)]) (s:=⟨mv3,bi3 (h:=by intro env w;(first | (simp [go_sem];done) | (simp [go_sem];rfl))),mv3,fa3 0,ld31 3 sh3,bi3 (h:=by intro env w;simp [go_sem,g1]),pk3 (h:=by intro env w;simp [go_sem,g1]),mv3,fa3 0,ld31 3 sh3,bi3 (h:=by intro env w;simp [go_sem,g2]),pk3 (h:=by intro env w;simp [go_sem,g2])⟩) (k:=fun E7 ac wd H_=>?_)
 refine cT3 H_ ?_
 refine fq H_ 2 (tri 3) [K_ (.agg #[vI 0,.int .u64 0]),none,_] (fun _=>[(5,vI 2)]) (S:=[⟨1,1,fun _=>[vI 0,.int .u64 0]⟩]) (s:=⟨bd30,se3 1 sh27,mv3⟩) (k:=fun E8 ac wd H_=>?_)
 refine lvCT3 (v:=.agg #[vI 0,.int .u64 0]) Tryz.results24 H_ 1 (loadGc sh27 rfl ⟨rfl,rfl,trivial⟩) ?_
 exact ⟨by first | (rw [hard_err hM (by omega)];done) | (rw [hard_err hM (by omega)];rfl),H_.st.nowT,H_.st.gr⟩
 have hmid:wthn (y / 1000000000000000000 / 86400) (-1099511577776) 1099511577776=true:=wth_iff.2 (by omega);have hM:mhE es y=0:=by unfold mhE;rw [if_neg hE,if_pos hmid]
 refine fq1 H_ 11 (tri 12) [_,bF,_,_,_,bF,bF,_,_,_,bF,bF] (fun _=>[(55,bF)]) (s:=⟨mv3,bi3 (h:=by intro env w;(first | (simp [go_sem];done) | (simp [go_sem];rfl))),mv3,fa3 0,ld31 3 sh3,bi3 (h:=by intro env w;simp [go_sem,g1]),pk3 (h:=by intro env w;simp [go_sem,g1]),mv3,fa3 0,ld31 3 sh3,bi3 (h:=by intro env w;simp [go_sem,g2]),pk3 (h:=by intro env w;simp [go_sem,g2])⟩) (k:=fun E7 ac wd H_=>?_)
 refine cF3 H_ ?_
 refine fq H_ 3 [[0],[0,1],[0,1,2],[3]] [_,KE_ fun env=>.slice ((sA (env 1))) ((es.length-1)) ((sC (env 1))),vN (es.length-1),_] (fun E8=>[(58,.slice ((sA (E8 1))) ((es.length-1)) ((sC (E8 1)))),(59,vN (es.length-1)),(60,vI 0)]) (F:=[(1,fun env w=>WinN w (env 1) es)]) (s:=⟨mv3,s_factM rfl rfl rfl Tryz.func32 (by kernel_rfl) rfl (fun _=>wanted_none rfl _) (fun v w=>WinN w v es) (winF es.length) rfl rfl (fun v w h=>h.form) (fun v w w' B hk h hB=>h.keepB hk hB) (fun {D env ac wd} hA=>⟨_,hA.args (vs:=[vP g 0]) rfl,mwindows_any wd g u x es (hA.thO rfl)⟩),ln_ Tryz.underlying95 fun _ env _ wd hA=>(At.winM hA 1 rfl rfl rfl).els,mv3⟩) (k:=fun E8 ac wd H_=>?_)
 refine lp3 (fun ac wd=>∃ i:Nat,(i≤es.length-1∧∀ j,j < i→wsmB es y (j+1)=false)∧Cur 110 w0 (some g) (some g) (Facts [fun w=>WinN w (E8 1) es]) (fun w=>IsLx w g u x es) [(0,vP g 0),(3,vP (pb E1 0) 0),(4,vP (pb E1 1) 0),(9,vP (pb E6 5) 0),(58,.slice ((sA (E8 1))) ((es.length-1)) ((sC (E8 1)))),(59,vN (es.length-1)),(60,vN i)] [((pb E1 0),27,[vI (hi (y)),.int .u64 (lo (y))]),((pb E1 1),27,[vI 0,.int .u64 0]),((pb E3 4),27,[vI (hi ((firZ es)-(3506716800*1000000000000000000))),.int .u64 (lo ((firZ es)-(3506716800*1000000000000000000)))]),((pb E6 5),39,[vI (y / 1000000000000000000 / 86400),vI (y / 1000000000000000000 % 86400),vI (y % 1000000000000000000)])] ac wd) (fun ac _=>(((es.length-1:Nat):Int)-sI ac 60).toNat) ⟨0,⟨by omega,fun j hj=>absurd hj (Nat.not_lt_zero j)⟩,(H_.re rfl).th (fun _ h=>h)⟩ ?_
 rintro ac wd ⟨i,⟨hi1,hN⟩,H_⟩
 have hmu:sI ac 60=((i:Nat):Int):=sI_eq (H_.g (t:=60) rfl)
 by_cases h1:i < es.length-1
 obtain ⟨b0,b1,b2,b3,b4,b5,b6,b7⟩:=win_in hp (i:=i+1) (by omega) (by omega)
 refine fq1 H_ 0 [[0]] [bT] (fun _=>[(61,bT)]) (s:=bi3) (k:=fun E10 ac wd H_=>?_)
 refine cT3 H_ ?_
 refine fq H_ 3 [[0],[0,1],[2],r_ 4] [elt (.slice ((sA (E8 1))) ((es.length-1)) ((sC (E8 1)))) (i*7),K_ (.agg #[vI (hi (smS es (i+1)*1000000000000000000)),.int .u64 (lo (smS es (i+1)*1000000000000000000)),vI (hi (smE es (i+1)*1000000000000000000)),.int .u64 (lo (smE es (i+1)*1000000000000000000)),vI (hi (smB es (i+1)*1000000000000000000)),.int .u64 (lo (smB es (i+1)*1000000000000000000)),vI (smO es (i+1)-smO es ((i+1)-1))]),_,none] (fun E11=>[(12,vP (pb E11 2) 0)]) (W:=[{ i:=2,T:=47,c0:=[vI 0,.int .u64 0,vI 0,.int .u64 0,vI 0,.int .u64 0,vI 0],s:=some 3,c1:=fun _=>[vI (hi (smS es (i+1)*1000000000000000000)),.int .u64 (lo (smS es (i+1)*1000000000000000000)),vI (hi (smE es (i+1)*1000000000000000000)),.int .u64 (lo (smE es (i+1)*1000000000000000000)),vI (hi (smB es (i+1)*1000000000000000000)),.int .u64 (lo (smB es (i+1)*1000000000000000000)),vI (smO es (i+1)-smO es ((i+1)-1))] }]) (s:=⟨ia_ Tryz.underlying95 sz47 i (i*7) ((i:Nat):Int) (fun _ env _ wd hA=>(Facts.winM (hA.j.st.now).1 0 rfl).els) (rfl) (by omega) rfl,le_ (i*7) (fun _ env _ wd hA=>(Facts.winM (hA.j.st.now).1 0 rfl).els) (by omega) (leGg sh47 (winC_at es i 0 (by omega)) (winC_at es i 1 (by omega)) (winC_at es i 2 (by omega)) (winC_at es i 3 (by omega)) (winC_at es i 4 (by omega)) (winC_at es i 5 (by omega)) (winC_at es i 6 (by omega))),al_ 4,sw3 4 2 sh47⟩) (k:=fun E11 ac wd H_=>?_)
 refine fq H_ 5 [[0],[1],[1,2],r_ 4,[4],r_ 6] [_,_,_,_,_,none] (fun E12=>[(13,vP (pb E12 4) 0)]) (W:=[{ i:=4,T:=27,c0:=[vI 0,.int .u64 0],s:=some 5,c1:=fun _=>[vI (hi (y-(smB es (i+1)*1000000000000000000))),.int .u64 (lo (y-(smB es (i+1)*1000000000000000000)))] }]) (s:=⟨ld3b 0 sh27,fa3 4,ld3b 4 sh27,cl3 Tryz.func51 ((mless_any y (smB es (i+1)*1000000000000000000) hz (by unfold InW;omega) (by unfold InW;omega))),al_ 5,sw3 5 4 sh27⟩) (k:=fun E12 ac wd H_=>?_)
 by_cases hA:(y-smB es (i+1)*1000000000000000000) < 0
 refine fq1 H_ 8 (tri 5++[[0,1,2,3,5],r_ 7,r_ 8,r_ 9]) [_,_,bT,_,_,_,_,_,bT] (fun _=>[(76,bT)]) (s:=⟨fa3 0,ld31 5 sh2,bi3 (h:=by intro env w;simp [go_sem,hi_neg,hA]),mv3,off_,off_,off_,off_,pk3⟩) (k:=fun E13 ac wd H_=>?_)
 refine cT3 H_ ?_
 refine fq1 H_ 1 [[0],[0,1]] [vI (((i:Nat):Int)+1),_] (fun _=>[(60,vI (((i:Nat):Int)+1))]) (s:=⟨bi3,mv3⟩) (k:=fun E14 ac wd H_=>?_)
 refine then_n ?_
 have hW:wsmB es y (i+1)=false:=by unfold wsmB;simp only [Bool.and_eq_false_iff,decide_eq_false_iff_not];omega
 exact ⟨⟨i+1,⟨by omega,fun j hj=>by by_cases e:j=i;(subst e;exact hW);exact hN j (by omega)⟩,(H_.take (M1:=[_,_,_,_]) rfl).re rfl⟩,by rw [sI_eq (H_.g (t:=60) rfl),hmu];omega⟩
 by_cases hB:86400*1000000000000000000≤(y-smB es (i+1)*1000000000000000000)
 refine fq1 H_ 8 (tri 5++[[0,1,2,3,5],r_ 7,r_ 8,r_ 9]) [_,_,bF,_,_,_,_,bT,bT] (fun _=>[(76,bT)]) (s:=⟨fa3 0,ld31 5 sh2,bi3 (h:=by intro env w;simp [go_sem,hi_neg,hA]),mv3,ld3b 5 sh27,cl3 Tryz.func53 ((msec_any 86400 (by omega) (by omega))),cl3 Tryz.func33 ((mcmpZ (y-(smB es (i+1)*1000000000000000000)) (86400*1000000000000000000) (by unfold InW;omega) (by unfold InW;omega))),bi3 (h:=by intro env w;(first | (simp [go_sem,cm_le,cm_lt,cm_ge,cm_gt,hB];done) | (simp [go_sem,cm_le,cm_lt,cm_ge,cm_gt];omega))),pk3 (h:=by intro env w;(first | (simp [go_sem,cm_le,cm_lt,cm_ge,cm_gt,hB];done) | (simp [go_sem,cm_le,cm_lt,cm_ge,cm_gt];omega)))⟩) (k:=fun E13 ac wd H_=>?_)
 refine cT3 H_ ?_
 refine fq1 H_ 1 [[0],[0,1]] [vI (((i:Nat):Int)+1),_] (fun _=>[(60,vI (((i:Nat):Int)+1))]) (s:=⟨bi3,mv3⟩) (k:=fun E14 ac wd H_=>?_)
 refine then_n ?_
 have hW:wsmB es y (i+1)=false:=by unfold wsmB;simp only [Bool.and_eq_false_iff,decide_eq_false_iff_not];omega
 exact ⟨⟨i+1,⟨by omega,fun j hj=>by by_cases e:j=i;(subst e;exact hW);exact hN j (by omega)⟩,(H_.take (M1:=[_,_,_,_]) rfl).re rfl⟩,by rw [sI_eq (H_.g (t:=60) rfl),hmu];omega⟩
 have hq0:0≤(y-smB es (i+1)*1000000000000000000)*smL es (i+1) / 86400∧(y-smB es (i+1)*1000000000000000000)*smL es (i+1) / 86400≤86401*1000000000000000000∧0≤(y-smB es (i+1)*1000000000000000000)*smL es (i+1)∧(y-smB es (i+1)*1000000000000000000)*smL es (i+1)≤86400*86401*1000000000000000000:=by rcases b6 with h | h <;> rw [h] <;> omega
 refine fq1 H_ 8 (tri 5++[[0,1,2,3,5],r_ 7,r_ 8,r_ 9]) [_,_,bF,_,_,_,_,bF,bF] (fun _=>[(76,bF)]) (s:=⟨fa3 0,ld31 5 sh2,bi3 (h:=by intro env w;simp [go_sem,hi_neg,hA]),mv3,ld3b 5 sh27,cl3 Tryz.func53 ((msec_any 86400 (by omega) (by omega))),cl3 Tryz.func33 ((mcmpZ (y-(smB es (i+1)*1000000000000000000)) (86400*1000000000000000000) (by unfold InW;omega) (by unfold InW;omega))),bi3 (h:=by intro env w;(first | (simp [go_sem,cm_le,cm_lt,cm_ge,cm_gt,hB];done) | (simp [go_sem,cm_le,cm_lt,cm_ge,cm_gt];omega))),pk3 (h:=by intro env w;(first | (simp [go_sem,cm_le,cm_lt,cm_ge,cm_gt,hB];done) | (simp [go_sem,cm_le,cm_lt,cm_ge,cm_gt];omega)))⟩) (k:=fun E13 ac wd H_=>?_)
 refine cF3 H_ ?_
 refine fq H_ 13 [[0],[1],[1,2],[1,2,3],r_ 5,r_ 6,r_ 7,r_ 6++[7],r_ 6++[8],[9],[10],r_ 7++[9,10,11],r_ 8++[9,10,11,12],r_ 14] [_,_,_,_,_,_,_,_,_,_,_,none,none,_] (fun E14=>[(14,vP (pb E14 9) 0),(15,vP (pb E14 10) 0)]) (W:=[{ i:=9,T:=27,c0:=[vI 0,.int .u64 0],s:=some 11,c1:=fun _=>[vI (hi ((y-(smB es (i+1)*1000000000000000000))*(smL es (i+1)) / 86400)),.int .u64 (lo ((y-(smB es (i+1)*1000000000000000000))*(smL es (i+1)) / 86400))] },{ i:=10,T:=27,c0:=[vI 0,.int .u64 0],s:=some 12,c1:=fun _=>[vI (hi ((y-(smB es (i+1)*1000000000000000000))*(smL es (i+1)) % 86400)),.int .u64 (lo ((y-(smB es (i+1)*1000000000000000000))*(smL es (i+1)) % 86400))] }]) (s:=⟨ld3b 5 sh27,ld3g 4 sh47,cl3 Tryz.func57 ((mlen_any es (i+1) b6)),cl3 Tryz.func31 ((of_any 86400 (by omega) (by omega))),cl3 Tryz.func56 ((wmuldiv_fits (y-(smB es (i+1)*1000000000000000000)) (smL es (i+1)) 86400 (by unfold InW;omega) (by unfold InW;omega) (by unfold InW;omega) (by omega) (by unfold InW;omega))),mv3,xt3,xt3,xt3,al_ 6,al_ 7,sw3 6 9 sh27,sw3 7 10 sh27,mv3⟩) (k:=fun E14 ac wd H_=>?_)
 by_cases hr:(y-smB es (i+1)*1000000000000000000)*smL es (i+1) % 86400=0
 refine fq1 H_ 2 [[0],[1],[0,1,2]] [_,K_ (.agg #[vI 0,.int .u64 0]),bF] (fun _=>[(88,bF)]) (s:=⟨ld3b 7 sh27,bd30,bi3 (h:=by intro env w;(first | (simp [go_sem,hr,hi_zero,lo_zero];done) | (simp [go_sem];exact fun g1 g2=>hne ⟨g1,g2⟩)))⟩) (k:=fun E15 ac wd H_=>?_)
 refine cF3 H_ ?_
 refine fq H_ 5 [[0],[0,1],[2],r_ 4,r_ 5,r_ 6] [_,_,_,_,none,_] (fun _=>[(5,vI 0)]) (S:=[⟨1,4,fun _=>[vI (hi ((smS es (i+1)*1000000000000000000)+((y-(smB es (i+1)*1000000000000000000))*(smL es (i+1)) / 86400))),.int .u64 (lo ((smS es (i+1)*1000000000000000000)+((y-(smB es (i+1)*1000000000000000000))*(smL es (i+1)) / 86400)))]⟩]) (s:=⟨fa3 0,ld3b 4 sh27,ld3b 6 sh27,cl3 Tryz.func58 ((mplus_any (smS es (i+1)*1000000000000000000) ((y-(smB es (i+1)*1000000000000000000))*(smL es (i+1)) / 86400) (by unfold InW;omega) (by unfold InW;omega) (by unfold InW;omega))),se3 1 sh27,mv3⟩) (k:=fun E16 ac wd H_=>?_)
 refine lvCT3 (v:=vW ((smS es (i+1)*1000000000000000000)+((y-(smB es (i+1)*1000000000000000000))*(smL es (i+1)) / 86400))) Tryz.results24 H_ 1 (loadGc sh27 rfl ⟨rfl,rfl,trivial⟩) ?_
 have hW:wsmB es y (i+1)=true:=by unfold wsmB;simp only [Bool.and_eq_true,decide_eq_true_eq];omega
 have e:smS es (i+1)*1000000000000000000+cdiv ((y-smB es (i+1)*1000000000000000000)*smL es (i+1)) 86400=(smS es (i+1)*1000000000000000000)+((y-(smB es (i+1)*1000000000000000000))*(smL es (i+1)) / 86400):=by unfold cdiv;rw [if_pos hr]
 exact ⟨by first | (rw [hard_in hp hM (by omega) (by omega) hW,e];done) | (rw [hard_in hp hM (by omega) (by omega) hW,e];rfl),H_.st.nowT,H_.st.gr⟩
 have hne:=hilo0 hr
 refine fq1 H_ 2 [[0],[1],[0,1,2]] [_,K_ (.agg #[vI 0,.int .u64 0]),bT] (fun _=>[(88,bT)]) (s:=⟨ld3b 7 sh27,bd30,bi3 (h:=by intro env w;(first | (simp [go_sem,hr,hi_zero,lo_zero];done) | (simp [go_sem];exact fun g1 g2=>hne ⟨g1,g2⟩)))⟩) (k:=fun E15 ac wd H_=>?_)
 refine cT3 H_ ?_
 refine fq H_ 3 [[0],[1],[0,1,2],r_ 4] [_,_,_,none] (fun _=>[]) (S:=[⟨6,3,fun _=>[vI (hi (((y-(smB es (i+1)*1000000000000000000))*(smL es (i+1)) / 86400)+1)),.int .u64 (lo (((y-(smB es (i+1)*1000000000000000000))*(smL es (i+1)) / 86400)+1))]⟩]) (s:=⟨ld3b 6 sh27,cl3 Tryz.func31 ((of_any 1 (by omega) (by omega))),cl3 Tryz.func58 ((mplus_any ((y-(smB es (i+1)*1000000000000000000))*(smL es (i+1)) / 86400) 1 (by unfold InW;omega) (by unfold InW;omega) (by unfold InW;omega))),se3 6 sh27⟩) (k:=fun E16 ac wd H_=>?_)
 refine fq H_ 5 [[0],[0,1],[2],r_ 4,r_ 5,r_ 6] [_,_,_,_,none,_] (fun _=>[(5,vI 0)]) (S:=[⟨1,4,fun _=>[vI (hi ((smS es (i+1)*1000000000000000000)+(((y-(smB es (i+1)*1000000000000000000))*(smL es (i+1)) / 86400)+1))),.int .u64 (lo ((smS es (i+1)*1000000000000000000)+(((y-(smB es (i+1)*1000000000000000000))*(smL es (i+1)) / 86400)+1)))]⟩]) (s:=⟨fa3 0,ld3b 4 sh27,ld3b 6 sh27,cl3 Tryz.func58 ((mplus_any (smS es (i+1)*1000000000000000000) (((y-(smB es (i+1)*1000000000000000000))*(smL es (i+1)) / 86400)+1) (by unfold InW;omega) (by unfold InW;omega) (by unfold InW;omega))),se3 1 sh27,mv3⟩) (k:=fun E17 ac wd H_=>?_)
 refine lvCT3 (v:=vW ((smS es (i+1)*1000000000000000000)+(((y-(smB es (i+1)*1000000000000000000))*(smL es (i+1)) / 86400)+1))) Tryz.results24 H_ 1 (loadGc sh27 rfl ⟨rfl,rfl,trivial⟩) ?_
 have hW:wsmB es y (i+1)=true:=by unfold wsmB;simp only [Bool.and_eq_true,decide_eq_true_eq];omega
 have e:smS es (i+1)*1000000000000000000+cdiv ((y-smB es (i+1)*1000000000000000000)*smL es (i+1)) 86400=(smS es (i+1)*1000000000000000000)+(((y-(smB es (i+1)*1000000000000000000))*(smL es (i+1)) / 86400)+1):=by unfold cdiv;rw [if_neg hr]
 exact ⟨by first | (rw [hard_in hp hM (by omega) (by omega) hW,e];done) | (rw [hard_in hp hM (by omega) (by omega) hW,e];rfl),H_.st.nowT,H_.st.gr⟩
 obtain rfl:i=es.length-1:=by omega
 refine fq1 H_ 0 [[0]] [bF] (fun _=>[(61,bF)]) (s:=bi3) (k:=fun E10 ac wd H_=>?_)
 refine cF3 H_ ?_
 refine fq1 H_ 8 [[0],[1],[1,2],[1,2,3],r_ 5,r_ 6,r_ 7,r_ 6++[7],r_ 7++[8]] [_,_,_,vI ((y / 1000000000000000000 / 86400)+40587),vT2 (vI (offV es ((y / 1000000000000000000 / 86400)+40587))) (vI (offE es ((y / 1000000000000000000 / 86400)+40587))),_,_,_,_] (fun _=>[(7,vI (offV es ((y / 1000000000000000000 / 86400)+40587)))]) (s:=⟨mv3,fa3 0,ld31 3 sh3,bi3,s_leap (g:=g) (u:=u) (x:=x) (es:=es) Tryz.func54 (fun _ h=>h) (fun _ h=>h) (h:=fun D env ac wd hA hL=>⟨_,offset_l hL ((y / 1000000000000000000 / 86400)+40587),rfl⟩),mv3,xt3,xt3,mv3⟩) (k:=fun E11 ac wd H_=>?_)
 refine fq H_ 6 [[0],[1],[1,2],[1,2,3],r_ 5,r_ 6,r_ 7] [_,_,vI (3506716800+(offV es ((y / 1000000000000000000 / 86400)+40587))),_,_,none,_] (fun _=>[(5,vI 0)]) (S:=[⟨1,5,fun _=>[vI (hi (y+((3506716800+(offV es ((y / 1000000000000000000 / 86400)+40587)))*1000000000000000000))),.int .u64 (lo (y+((3506716800+(offV es ((y / 1000000000000000000 / 86400)+40587)))*1000000000000000000)))]⟩]) (s:=⟨ld3b 0 sh27,mv3,bi3,cl3 Tryz.func53 ((msec_any (3506716800+(offV es ((y / 1000000000000000000 / 86400)+40587))) (by omega) (by omega))),cl3 Tryz.func58 ((mplus_any y ((3506716800+(offV es ((y / 1000000000000000000 / 86400)+40587)))*1000000000000000000) hz (by unfold InW;omega) (by unfold InW;omega))),se3 1 sh27,mv3⟩) (k:=fun E12 ac wd H_=>?_)
 refine lvCT3 (v:=vW (y+((3506716800+(offV es ((y / 1000000000000000000 / 86400)+40587)))*1000000000000000000))) Tryz.results24 H_ 1 (loadGc sh27 rfl ⟨rfl,rfl,trivial⟩) ?_
 exact ⟨by first | (rw [hard_out hp hM hN];done) | (rw [hard_out hp hM hN];rfl),H_.st.nowT,H_.st.gr⟩
end Go.Proofs.YtailjojebdmnnaaGreat
namespace Go.Proofs.YtailjojebdmnnaaGreat
open Go.RowKit
attribute [local go_sem] vN bT bF rS vW vM vL vT2 vT3 vP vI execOp Act.eval evC bigF vB hi_zero lo_zero Tryz.underlying24 Tryz.underlying27 Tryz.underlying47
end Go.Proofs.YtailjojebdmnnaaGreat
namespace Go.Proofs.YtailjojebdmnnaaGreat
open Go.RowKit
attribute [local go_sem] vN bT bF rS vW vM vL vT2 vT3 vP vI execOp Act.eval evC bigF vB hi_zero lo_zero Tryz.underlying24 Tryz.underlying27 Tryz.underlying44 Tryz.underlying47
theorem m_sm {z:Int} (h:InW z):Sm z:=by unfold InW at h;unfold Sm;omega
theorem ans26_s:vT2 (vW (msN ansT 3585513610500000000000000000)) (vI (msE ansT 3585513610500000000000000000))=vT2 (vW 78796800000000000000000000) (vI 0):=by
 rw [show msN ansT 3585513610500000000000000000=78796800000000000000000000 by decide +kernel,show msE ansT 3585513610500000000000000000=0 by decide +kernel]
theorem ans26_h:vT2 (vW (mhV ansT 78796800000000000000000000)) (vI (mhE ansT 78796800000000000000000000))=vT2 (vW 3585513610500000000000000000) (vI 0):=by
 rw [show mhV ansT 78796800000000000000000000=3585513610500000000000000000 by decide +kernel,show mhE ansT 78796800000000000000000000=0 by decide +kernel]
theorem ans26_m:smM ansT 3585513610500000000000000000 ansT.length=1:=by decide +kernel
theorem ans26_i:smI ansT 3585513610500000000000000000 1=true:=by decide +kernel
theorem ans26_o:smO ansT 1-smO ansT (1-1)=1:=by decide +kernel
theorem m_wd {x y:Int} (h:x=y):vT2 (vW x) (.bool true)=vT2 (vW y) (.bool true):=by rw [h]
theorem answers26_any  : Ret 6 #[] (.bool true):=by
 intro w0
 have hst:=St.start w0 (Θ:=fun _=>True) (fun _ _=>trivial)
 refine en_ Tryz.func6 hst 83 [] (fun ac H_=>?_)
 replace H_:=H_.facts
 refine fq0 H_ 0 [[0]] [_] (s:=mv3) (k:=fun E1 ac wd H_=>?_)
 refine fq H_ 9 [[0],[1],[0,1,2],r_ 4,r_ 5,r_ 6,r_ 7,r_ 6++[7],r_ 7++[8],r_ 10] [K_ (.agg #[vI 2272060800,vI 10]),K_ (.agg #[vI 2287785600,vI 11]),KE_ fun env=>.slice ((sA (env 2))) 2 2,KE_ fun env=>.agg #[vI 0,vI 0,.slice ((sA (env 2))) 2 2],KE_ fun env=>vT2 (vP (ptrB (tp (env 4) 0)) 0) (vI 0),_,_,_,_,_] (fun E2=>[(1,vP (ptrB (tp (E2 4) 0)) 0),(2,vI 0)]) (F:=[(2,fun env w=>EntL w (env 2) ansT),(4,fun env w=>NewL w (env 4) 0 0 ansT w0.heap.size)]) (s:=⟨bd32,bd32,s_bsE rfl rfl (fun _=>wanted_none rfl _) ansT 2 rfl #[vI 2272060800,vI 10,vI 2287785600,vI 11] ans_cs rfl rfl rfl rfl (fun {D env ac wd} hA=>by have e14:ac.tmps[14]? = some (.agg #[vI 2272060800,vI 10]):=hA.g rfl;have e15:ac.tmps[15]? = some (.agg #[vI 2287785600,vI 11]):=hA.g rfl;simp [go_sem,e14,e15,Tryz.underlying22]),bd31,s_factT rfl rfl rfl Tryz.func4 (by kernel_rfl) rfl (fun _=>wanted_none rfl _) (fun v w=>NewL w v 0 0 ansT w0.heap.size) newLF rfl rfl leT rfl (fun v w h=>h.form) (fun v w w' hk h=>h.keep hk) (fun {D env ac wd} hA=>⟨_,hA.args (vs:=[.agg #[vI 0,vI 0,.slice ((sA (env 2))) 2 2]]) rfl,lnew_yes hA.j.st.gr.size (At.ent hA 2 rfl (by decide) rfl rfl rfl) (by simp [I64]) (by simp [I64]) ansT_64 ansT_ok⟩),mv3,xt3,xt3,mv3,mv3⟩) (k:=fun E2 ac wd H_=>?_)
 replace H_:=Cur.exInF H_ 1 rfl;generalize ptrB (tp (E2 4) 0)=g at H_
 refine fq H_ 11 (tri 8++[r_ 7++[8],[9],r_ 8++[9,10],r_ 12]) [KE_ fun env=>bigF 3585513610 (env 0),KE_ fun env=>bigF 1000000000000000000 (env 1),KE_ fun env=>bigF (3585513610*1000000000000000000) (env 2),KE_ fun env=>bigF 500000000000000000 (env 3),KE_ fun env=>bigF ((3585513610*1000000000000000000)+500000000000000000) (env 4),_,_,_,_,_,none,_] (fun E3=>[(3,vP (pb E3 9) 0)]) (W:=[{ i:=9,T:=27,c0:=[vI 0,.int .u64 0],s:=some 10,c1:=fun _=>[vI (hi (3585513610500000000000000000)),.int .u64 (lo (3585513610500000000000000000))] }]) (F:=[(0,fun env w=>BigX (some g) w (env 0) 3585513610),(1,fun env w=>BigX (some g) w (env 1) 1000000000000000000),(2,fun env w=>BigX (some g) w (env 2) (3585513610*1000000000000000000)),(3,fun env w=>BigX (some g) w (env 3) 500000000000000000),(4,fun env w=>BigX (some g) w (env 4) ((3585513610*1000000000000000000)+500000000000000000))]) (s:=⟨cf_ Tryz.func15 (fun v w=>BigX (some g) w v 3585513610) (bigF 3585513610) (h:=fun _ env _ wd hA=>⟨_,toG (hA.j.st.exb g rfl).1 (Int_any wd 3585513610 (by omega) (by omega)),rfl⟩),cf_ Tryz.func15 (fun v w=>BigX (some g) w v 1000000000000000000) (bigF 1000000000000000000) (h:=fun _ env _ wd hA=>⟨_,toG (hA.j.st.exb g rfl).1 (Int_any wd 1000000000000000000 (by omega) (by omega)),rfl⟩),cf_ Tryz.func23 (fun v w=>BigX (some g) w v (3585513610*1000000000000000000)) (bigF (3585513610*1000000000000000000)) (h:=fun _ env _ wd hA=>⟨_,toG (hA.j.st.exb g rfl).1 (Mul_any wd (decide (3585513610 < 0)) (bA (env 0)) (bC (env 0)) 3585513610 rfl (At.big hA 0 rfl rfl rfl) (by unfold Sm;omega) (decide (1000000000000000000 < 0)) (bA (env 1)) (bC (env 1)) 1000000000000000000 rfl (At.big hA 1 rfl rfl rfl) (by unfold Sm;omega)),rfl⟩),cf_ Tryz.func15 (fun v w=>BigX (some g) w v 500000000000000000) (bigF 500000000000000000) (h:=fun _ env _ wd hA=>⟨_,toG (hA.j.st.exb g rfl).1 (Int_any wd 500000000000000000 (by omega) (by omega)),rfl⟩),cf_ Tryz.func22 (fun v w=>BigX (some g) w v ((3585513610*1000000000000000000)+500000000000000000)) (bigF ((3585513610*1000000000000000000)+500000000000000000)) (h:=fun _ env _ wd hA=>⟨_,toG (hA.j.st.exb g rfl).1 (Add_any wd (decide (3585513610*1000000000000000000 < 0)) (bA (env 2)) (bC (env 2)) (3585513610*1000000000000000000) rfl (At.big hA 2 rfl rfl rfl) (by unfold Sm;omega) (decide (500000000000000000 < 0)) (bA (env 3)) (bC (env 3)) 500000000000000000 rfl (At.big hA 3 rfl rfl rfl) (by unfold Sm;omega)),rfl⟩),cw3e Tryz.func21 fun env wd hA=>m_res_eq (Wide_yes wd (decide ((3585513610*1000000000000000000)+500000000000000000 < 0)) (bA (env 4)) (bC (env 4)) ((3585513610*1000000000000000000)+500000000000000000) rfl (At.big hA 4 rfl rfl rfl)  (by omega) (by omega)) (m_wd (y:=3585513610500000000000000000) (by omega)),mv3,xt3,xt3,al_ 0,sw3 0 9 sh27,mv3⟩) (k:=fun E3 ac wd H_=>?_)
 refine fq H_ 8 [[0],[1],[0,1,2],r_ 4,r_ 5,[0,1,2,3,5],[6],[0,1,2,3,4,6,7],r_ 9] [_,_,vT2 (vW 78796800000000000000000000) (vI 0),_,_,_,_,none,_] (fun E4=>[(5,vP (pb E4 6) 0),(6,vI 0)]) (W:=[{ i:=6,T:=27,c0:=[vI 0,.int .u64 0],s:=some 7,c1:=fun _=>[vI (hi (78796800000000000000000000)),.int .u64 (lo (78796800000000000000000000))] }]) (s:=⟨mv3,ld3b 0 sh27,s_leap (g:=g) (u:=0) (x:=0) (es:=ansT) Tryz.func7 (fun _ h=>h) (fun _ h=>h) (h:=fun D env ac wd hA hL=>⟨_,LeapC.eq (mSoft_l _ g 0 0 ansT hL 3585513610500000000000000000 (by unfold InW;omega)) ans26_s,rfl⟩),mv3,xt3,xt3,al_ 1,sw3 1 6 sh27,mv3⟩) (k:=fun E4 ac wd H_=>?_)
 refine fq H_ 9 (tri 6++[[0,1,2,3,4,6],[7],r_ 6++[7,8],r_ 10]) [KE_ fun env=>bigF 78796800 (env 0),KE_ fun env=>bigF 1000000000000000000 (env 1),KE_ fun env=>bigF (78796800*1000000000000000000) (env 2),_,_,_,_,_,none,_] (fun E5=>[(7,vP (pb E5 7) 0)]) (W:=[{ i:=7,T:=27,c0:=[vI 0,.int .u64 0],s:=some 8,c1:=fun _=>[vI (hi (78796800000000000000000000)),.int .u64 (lo (78796800000000000000000000))] }]) (F:=[(0,fun env w=>BigX (some g) w (env 0) 78796800),(1,fun env w=>BigX (some g) w (env 1) 1000000000000000000),(2,fun env w=>BigX (some g) w (env 2) (78796800*1000000000000000000))]) (s:=⟨cf_ Tryz.func15 (fun v w=>BigX (some g) w v 78796800) (bigF 78796800) (h:=fun _ env _ wd hA=>⟨_,toG (hA.j.st.exb g rfl).1 (Int_any wd 78796800 (by omega) (by omega)),rfl⟩),cf_ Tryz.func15 (fun v w=>BigX (some g) w v 1000000000000000000) (bigF 1000000000000000000) (h:=fun _ env _ wd hA=>⟨_,toG (hA.j.st.exb g rfl).1 (Int_any wd 1000000000000000000 (by omega) (by omega)),rfl⟩),cf_ Tryz.func23 (fun v w=>BigX (some g) w v (78796800*1000000000000000000)) (bigF (78796800*1000000000000000000)) (h:=fun _ env _ wd hA=>⟨_,toG (hA.j.st.exb g rfl).1 (Mul_any wd (decide (78796800 < 0)) (bA (env 0)) (bC (env 0)) 78796800 rfl (At.big hA 0 rfl rfl rfl) (by unfold Sm;omega) (decide (1000000000000000000 < 0)) (bA (env 1)) (bC (env 1)) 1000000000000000000 rfl (At.big hA 1 rfl rfl rfl) (by unfold Sm;omega)),rfl⟩),cw3e Tryz.func21 fun env wd hA=>m_res_eq (Wide_yes wd (decide (78796800*1000000000000000000 < 0)) (bA (env 2)) (bC (env 2)) (78796800*1000000000000000000) rfl (At.big hA 2 rfl rfl rfl)  (by omega) (by omega)) (m_wd (y:=78796800000000000000000000) (by omega)),mv3,xt3,xt3,al_ 2,sw3 2 7 sh27,mv3⟩) (k:=fun E5 ac wd H_=>?_)
 refine fq H_ 8 [[0],[1],[0,1,2],r_ 4,r_ 5,[0,1,2,3,5],[6],[0,1,2,3,4,6,7],r_ 9] [_,_,_,_,_,_,_,none,_] (fun E6=>[(9,vP (pb E6 6) 0),(10,bT)]) (W:=[{ i:=6,T:=47,c0:=[vI 0,.int .u64 0,vI 0,.int .u64 0,vI 0,.int .u64 0,vI 0],s:=some 7,c1:=fun _=>[vI (hi (smS ansT 1*1000000000000000000)),.int .u64 (lo (smS ansT 1*1000000000000000000)),vI (hi (smE ansT 1*1000000000000000000)),.int .u64 (lo (smE ansT 1*1000000000000000000)),vI (hi (smB ansT 1*1000000000000000000)),.int .u64 (lo (smB ansT 1*1000000000000000000)),vI (smO ansT 1-smO ansT (1-1))] }]) (s:=⟨mv3,ld3b 0 sh27,cw3 Tryz.func11 fun wd hA=>m_res_eq (mat_any wd g 0 0 ansT (hA.thO rfl) 3585513610500000000000000000 (by unfold InW;omega)) (atR_in ans26_m ans26_i),mv3,xt3,xt3,al_ 3,sw3 3 6 sh47,mv3⟩) (k:=fun E6 ac wd H_=>?_)
 refine fq H_ 8 [[0],[1],[0,1,2],r_ 4,r_ 5,[0,1,2,3,5],[6],[0,1,2,3,4,6,7],r_ 9] [_,_,vT2 (vW 3585513610500000000000000000) (vI 0),_,_,_,_,none,_] (fun E7=>[(11,vP (pb E7 6) 0),(12,vI 0)]) (W:=[{ i:=6,T:=27,c0:=[vI 0,.int .u64 0],s:=some 7,c1:=fun _=>[vI (hi (3585513610500000000000000000)),.int .u64 (lo (3585513610500000000000000000))] }]) (s:=⟨mv3,ld3b 1 sh27,s_leap (g:=g) (u:=0) (x:=0) (es:=ansT) Tryz.func24 (fun _ h=>h) (fun _ h=>h) (h:=fun D env ac wd hA hL=>⟨_,LeapC.eq (mHard_l _ g 0 0 ansT hL 78796800000000000000000000 (by unfold InW;omega)) ans26_h,rfl⟩),mv3,xt3,xt3,al_ 4,sw3 4 6 sh27,mv3⟩) (k:=fun E7 ac wd H_=>?_)
 refine fq1 H_ 28 (tri 8++[r_ 7++[8],r_ 10,r_ 11,r_ 12,r_ 13,r_ 14,r_ 15,r_ 16,r_ 17,r_ 18,r_ 19,r_ 20,r_ 21,r_ 22,r_ 23,r_ 24,r_ 25,r_ 24++[25],r_ 27,r_ 28,r_ 29]) [_,bT,_,_,bT,bT,_,_,_,bT,bT,_,_,bT,_,_,_,bT,bT,_,_,bT,bT,_,_,_,bT,bT,_] (fun _=>[(0,bT)]) (s:=⟨mv3,bi3 (h:=by intro env w;(first | (simp [go_sem];done) | (simp [go_sem];rfl))),mv3,gm3,bi3 (h:=by intro env w;(first | (simp [go_sem];done) | (simp [go_sem];rfl))),pk3 (h:=by intro env w;(first | (simp [go_sem];done) | (simp [go_sem];rfl))),mv3,ld3b 1 sh27,ld3b 2 sh27,bi3 (h:=by intro env w;(first | (simp [go_sem];done) | (simp [go_sem];rfl))),pk3 (h:=by intro env w;(first | (simp [go_sem];done) | (simp [go_sem];rfl))),mv3,gm3,pk3,mv3,fa3 6,ld31 3 sh3,bi3 (h:=by intro env w;(first | (simp [go_sem];done) | (simp [go_sem];exact ans26_o))),pk3 (h:=by intro env w;(first | (simp [go_sem];done) | (simp [go_sem];exact ans26_o))),mv3,gm3,bi3 (h:=by intro env w;(first | (simp [go_sem];done) | (simp [go_sem];rfl))),pk3 (h:=by intro env w;(first | (simp [go_sem];done) | (simp [go_sem];rfl))),mv3,ld3b 4 sh27,ld3b 0 sh27,bi3 (h:=by intro env w;(first | (simp [go_sem];done) | (simp [go_sem];rfl))),pk3 (h:=by intro env w;(first | (simp [go_sem];done) | (simp [go_sem];rfl))),mv3⟩) (k:=fun E8 ac wd H_=>?_)
 refine lvT3 Tryz.results6 H_ ?_
 exact ⟨rfl,H_.st.below⟩
end Go.Proofs.YtailjojebdmnnaaGreat
namespace Go.Proofs.YtailjojebdmnnaaGreat
open Go.RowKit
attribute [local go_sem] vN bT bF rS vW vM vL vT2 vT3 vP vI execOp Act.eval evC bigF vB hi_zero lo_zero
theorem soft_bd {es:List (Int × Int)} (hp:okPre es es.length=true) (hn:0 < es.length) {z:Int} (hz:firZ es≤z):hd0 es≤softZ es z∧softZ es z≤z+86401*1000000000000000000:=by
  obtain ⟨f0,f1,f2,f3,f4⟩:=fir_in hp hn
  obtain ⟨a1,a2⟩:=smM_spec es z es.length
  unfold softZ
  generalize smM es z es.length=m at *
  have hF:firZ es=(smD es 0*86400+smO es 0)*1000000000000000000:=rfl
  unfold hd0
  rcases a1 with rfl | ⟨a3,a4,a5⟩
  · unfold smV smI
    simp only [Nat.lt_irrefl,decide_false,Bool.false_and,Bool.false_eq_true,if_false]
    omega
  · have hb:=win_in hp a3 a4
    have hg:=smV_ge hp a3 a4 a5
    have hd:smD es 0+1≤smD es m:=by
      have:=(day_mono hp 0 m (by omega)).1
      rw [Nat.zero_add] at this
      unfold smD;omega
    have hB:smB es m=(smD es m-1)*86400+43200-3506716800:=rfl
    refine ⟨by omega,?_⟩
    cases hI:smI es z m
    · have ho:=okPre_num hp (i:=m) a4
      have:smV es z m=z-(3506716800+smO es m)*1000000000000000000:=by unfold smV;rw [hI];rfl
      have:0≤smO es m:=ho.2.2.1
      omega
    · have:=hg.2.2 hI
      have hS:smS es m=(smD es m-1)*86400+43200+smO es (m-1):=rfl
      have ho:=(okPre_num hp (i:=m-1) (by omega)).2.2.1
      have:0≤smO es (m-1):=ho
      omega
theorem msE_ok {es:List (Int × Int)} {z:Int} (h:msE es z=0):firZ es≤z ∧ -1099511627776≤z / 1000000000000000000 / 86400∧z / 1000000000000000000 / 86400≤1099511627776∧msN es z=softZ es z:=by
 refine ⟨?_,?_,?_,by unfold msN;rw [if_pos h]⟩ <;> unfold msE at h <;> (split at h;omega;split at h)
 all_goals first | omega | (rename_i h1 h2;have:=wth_iff.1 h2;omega)
theorem msN_in {es:List (Int × Int)} (hp:okPre es es.length=true) (hn:0 < es.length) {z:Int} (hz:InW z):InW (msN es z):=by
  by_cases h:msE es z=0
  · obtain ⟨h1,h2,h3,h4⟩:=msE_ok h
    have hb:=soft_bd hp hn h1
    obtain ⟨f0,f1,f2,f3,f4⟩:=fir_in hp hn
    have hH:hd0 es=(smD es 0*86400-3506716800)*1000000000000000000:=rfl
    rw [h4];unfold InW;omega
  · unfold msN InW;rw [if_neg h];omega
end Go.Proofs.YtailjojebdmnnaaGreat
