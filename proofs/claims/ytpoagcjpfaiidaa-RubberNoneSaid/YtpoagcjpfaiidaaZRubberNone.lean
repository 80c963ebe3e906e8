/- RubberNone: the law returns true, and its arguments read behind the call as they read before it. No condition. (printed by rows.py) -/
import Derived.Test.YtpoagcjpfaiidaaRows
import Derived.Test.YtpoagcjpfaiidaaZ9
set_option maxRecDepth 100000
set_option maxHeartbeats 8000000
set_option linter.unusedVariables false
set_option linter.unusedSimpArgs false
namespace Go.Proofs.Ytpoagcjpfaiidaa
open Go.RowKit Go.ChangeShapes Go.WideShapes Go.ChangeAt
theorem rubberNone_lifted (os:Os) (started:os.Started) (H:Type) (enc:TypeId × Value→H) :
    ReturnsInHanded {} Try.checked os 3 .any (Rows.rubberNoneSpec.pre6 enc Try.prog Try.f3 Rows.rubberNoneRow.domain false) (Rows.rubberNoneSpec.post enc Try.prog Try.f3 false true false false):=by
  refine returnsInHanded_of_change_sized (C:=Try.checked) own_knob started (by kernel_rfl) Try.func3
    (ChangeSpec.witness6 (enc:=enc) (C:=Try.checked) false ⟨#[],#[.agg #[.slice none 0 0,.int .i64 0,.int .i64 0],.agg #[.int .i64 0,.int .i64 0,.int .i64 0],.agg #[.int .i64 0,.int .u64 0]],[]⟩ 8 (by kernel_rfl) (by kernel_rfl) (by kernel_rfl) (by kernel_rfl)) ?_
  intro W base args ds gs before hval0 hW hcnd hsz0 _
  have hval:∀ (j:Nat) t v,Try.f3.params[j]? = some t→args[j]? = some v→Value.okWide Try.prog W .any base t v:=hval0
  have hW':=hW
  obtain ⟨p,q,hA0,hV,rfl,hfz,hnd⟩:=hW
  have hA:DataW.TrodAll enc Try.prog W 0 (fun _=>true) true Try.f3.params.toList args.toList ds p:=hA0
  have hsz:(DataW.weightsEach Try.prog (Try.f3.params.toList ++ Rows.rubberNoneSpec.plain.varTypes Try.prog) (ds ++ gs)).all (fun k=>decide (k≤reachBytes))=true:=hsz0
  clear hsz0
  rw [Try.params3] at hA hval hsz
  obtain ⟨v0,vs0,d0,ds0,p0,q0,hargs,rfl,rfl,h0,r0⟩:=trodAll_cons hA
  obtain ⟨v1,vs1,d1,ds1,p1,q1,rfl,rfl,rfl,h1,r1⟩:=trodAll_cons r0
  obtain ⟨v2,vs2,d2,ds2,p2,q2,rfl,rfl,rfl,h2,r2⟩:=trodAll_cons r1
  obtain ⟨rfl,rfl,rfl⟩:=trodAll_nil r2
  obtain rfl:args = #[v0,v1,v2]:=by cases args;simp_all
  obtain ⟨rfl,rfl⟩:=trodVars_none hV
  have k0:=h0
  have lt0:∀ x∈p0,x.block < W.heap.size:=by obtain ⟨m,hm⟩:=k0;exact DataW.trod_lt m _ _ _ hm
  obtain ⟨A0,c0,l0,y0,o0,rfl,hS0,hy0,ho0⟩:=open_rates (hval 0 24 v0 rfl rfl) h0
  have k1:=h1
  have lt1:∀ x∈p1,x.block < W.heap.size:=by obtain ⟨m,hm⟩:=k1;exact DataW.trod_lt m _ _ _ hm
  obtain ⟨d1_,s1_,a1_,rfl,hd1,hs1,ha1⟩:=open_label (hval 1 26 v1 rfl rfl) h1
  have k2:=h2
  have lt2:∀ x∈p2,x.block < W.heap.size:=by obtain ⟨m,hm⟩:=k2;exact DataW.trod_lt m _ _ _ hm
  obtain ⟨z2,rfl,hz2⟩:=open_wide (hval 2 29 v2 rfl rfl) h2
  clear hA0 hval0
  refine (rubberNone_walk W A0 c0 l0 hS0 y0 o0 hy0.1 (by have:=hy0.2;omega) (rates_reach hsz (hval 0 24 _ rfl rfl) k0) d1_ s1_ a1_ hd1.1 (by have:=hd1.2;omega) hs1.1 (by have:=hs1.2;omega) ha1.1 (by have:=ha1.2;omega) z2 hz2 ).mono fun e W' ⟨he,bel⟩=>?_
  subst he
  exact ⟨_,rfl,_,_,_,[],_,[],hW',trodAll_mk1 (shut_bool Try.underlying4 _),(trodAll_cons_mk (Below.trod laidOut (by kernel_rfl) (of_decide_eq_true (by kernel_rfl)) k0 bel lt0) (trodAll_cons_mk (Below.trod laidOut (by kernel_rfl) (of_decide_eq_true (by kernel_rfl)) k1 bel lt1) (trodAll_cons_mk (Below.trod laidOut (by kernel_rfl) (of_decide_eq_true (by kernel_rfl)) k2 bel lt2) trodAll_mk0))),rfl,bel.frame _,fun h=>by cases h⟩
theorem rubberNone_holds:Rows.RubberNoneSaid:=
  OpenClaim.holds_of_wide 3 Try.f3 rfl rfl rfl rfl rfl rfl rfl ⟨rfl,rfl,rfl,rfl,rfl⟩ rfl rfl rfl rfl rfl (by kernel_rfl) Try.func3 (by kernel_rfl)
    (of_decide_eq_true (by kernel_rfl)) (by unfold Func.isWrapper;first | (rw [if_pos (by decide +kernel)];kernel_rfl) | (rw [if_neg (by decide +kernel)];exact ⟨rfl,rfl⟩))
    (fun os started H enc _=>rubberNone_lifted os started H enc)
#print axioms rubberNone_holds
end Go.Proofs.Ytpoagcjpfaiidaa
