/- Texts D4, D5, D6, D7, L16, U1, Q8, U2, E1, E2, E3, E4, F1, Q9, U3, P16 of one proof, one behind the other; what nothing here names is left out. -/
import Derived.Test.YtailjojebdmnnaaGreatZ2
import Derived.Defers
import Derived.Laws.Pointers
import Derived.Laws.LoneSync
import Derived.RegionTactic
import Derived.RegionCalls
import Derived.Deep.Onto
import Derived.Shelf.SlSorted.Search
import Derived.Test.YtailjojebdmnnaaGreatZ5
import Derived.Test.YtailjojebdmnnaaGreatZ4
import Derived.Test.YtailjojebdmnnaaGreatZ6
import Derived.Test.YtailjojebdmnnaaGreatZ3
import Derived.IntWalk
set_option maxRecDepth 100000
set_option maxHeartbeats 8000000
set_option linter.unusedVariables false
set_option linter.unusedSimpArgs false
namespace Go.Proofs.YtailjojebdmnnaaGreat
open Go.RowKit
theorem disable (w:World):(callFunc 119 #[]).run Tryz.prog w = .ok (.value (.tuple #[])) w:=run_call_mark0 Tryz.func119 (by kernel_rfl) (by kernel_rfl) (by kernel_rfl) .disable (by kernel_rfl) w
theorem enable (w:World):(callFunc 121 #[]).run Tryz.prog w = .ok (.value (.tuple #[])) w:=run_call_mark0 Tryz.func121 (by kernel_rfl) (by kernel_rfl) (by kernel_rfl) .enable (by kernel_rfl) w
theorem acquire (a:Addr) (w:World):(callFunc 122 #[.pointer (some a)]).run Tryz.prog w = .ok (.value (.tuple #[])) w:=run_call_marked Tryz.func122 (by kernel_rfl) (by kernel_rfl) (by kernel_rfl) .acquire (by kernel_rfl) a w
theorem releaseMerge (a:Addr) (w:World):(callFunc 124 #[.pointer (some a)]).run Tryz.prog w = .ok (.value (.tuple #[])) w:=run_call_marked Tryz.func124 (by kernel_rfl) (by kernel_rfl) (by kernel_rfl) .releaseMerge (by kernel_rfl) a w
theorem store_deferred (a:Addr) (x:Value) (u:FrameMode) (w:World) (hc:w.cell? a=some x) (hz:w.frozen? a=false) :
    CallsD Tryz.prog 110 #[.pointer (some a),.bool true] u w fun e u' w'=>u'=u∧(e = .returned (.tuple #[])∧w'=w.drew.setCell a (.int .u32 1)):=by
  have hc':w.drew.cell? a=some x:=by go_simp
  have hz':w.drew.frozen? a=false:=by go_simp
  have hst:=run_call_store (P:=Tryz.prog) Tryz.func116 (by kernel_rfl) (by kernel_rfl) (by kernel_rfl) (by kernel_rfl) (k:=.u32) (y:=1) hc' hz'
  go_enter_d Tryz.func110,Tryz.ntmps110
  go_wp2
  go_region_calls
  all_goals (go_end0;exact ⟨rfl,rfl⟩)
theorem unlock_deferred (a:Addr) (u:FrameMode) (w:World) (hc:w.cell? a=some (.int .i32 1)) (hz:w.frozen? a=false) :
    CallsD Tryz.prog 109 #[.pointer (some a)] u w fun e u' w'=>u'=u∧(e = .returned (.tuple #[])∧w'=w.setCell a (.int .i32 0)):=by
  have hd:=disable
  have he:=enable
  have hr:=releaseMerge
  have hadd:=run_call_add (P:=Tryz.prog) Tryz.func125 (by kernel_rfl) (by kernel_rfl) (by kernel_rfl) .i32 (by kernel_rfl) (y:=-1) (s:=0) hc hz (by simp [go_sem];rfl)
  have hcv:=run_convert_to_unsafe (P:=Tryz.prog) (src:=182) (dst:=186) Tryz.underlying182 Tryz.underlying186 (by kernel_rfl) hc
  go_enter_d Tryz.func109,Tryz.ntmps109
  go_wp2
  go_end0
  go_wp2
  go_end0
  exact ⟨rfl,rfl⟩
theorem lock_free (a:Addr) (w:World) (hc:w.cell? a=some (.int .i32 0)) (hz:w.frozen? a=false) :
    Calls Tryz.prog 108 #[.pointer (some a)] w fun e w'=>e = .returned (.tuple #[])∧w'=w.setCell a (.int .i32 1):=by
  have hd:=disable
  have he:=enable
  have ha:=acquire
  have hcas:=run_call_cas_hit (P:=Tryz.prog) Tryz.func120 (by kernel_rfl) (by kernel_rfl) (by kernel_rfl) .i32 (by kernel_rfl) (y:=1) hc hz
  have hc':(w.setCell a (.int .i32 1)).cell? a=some (.int .i32 1):=World.cell?_setCell_same w a _ hc
  have hcv:=run_convert_to_unsafe (P:=Tryz.prog) (src:=182) (dst:=186) Tryz.underlying182 Tryz.underlying186 (by kernel_rfl) hc'
  go_enter Tryz.func108,Tryz.ntmps108
  go_wp2
  first | go_end0 | (simp only [Exit.inBlock,Exit.then];refine bodyPost_ret (results_none rfl _ _ _) rfl ?_) | refine bodyPost_ret (results_none rfl _ _ _) rfl ?_
  go_wp2
  go_end0
  exact ⟨rfl,rfl⟩
theorem slow_any (g ge:Nat) (u x a7:Value) (es:List (Int × Int)) (w:World) (hok:okPre es es.length=true)
    (hg:Blk w g 78 #[u,x,.slice (some ⟨ge,0,none⟩) es.length es.length,.int .u32 0,.int .i32 0,.int .u32 0,.slice none 0 0,a7]) (he:Blk w ge 44 (es.flatMap entC).toArray) :
    Calls Tryz.prog 99 #[.pointer (some ⟨g,3,none⟩),.func (.func 71) #[.pointer (some ⟨g,0,none⟩)] #[]] w fun e w'=>e = .returned (.tuple #[])∧∃ mv,Blk w' g 78 #[u,x,.slice (some ⟨ge,0,none⟩) es.length es.length,.int .u32 1,.int .i32 0,.int .u32 0,mv,a7] ∧
      w'.ownsRow w.heap.size 104 3 mv es.length (es.flatMap markC)∧w.grownBy w' (some g):=by
  have h4:=hg.cell 4
  have f4:=hg.frozen 4
  simp at h4
  have hg1:=hg.set_ 4 (.int .i32 1)
  have hgl:=hg.lt
  have hge:g≠ge:=by
    intro h;subst h
    unfold Blk at he hg
    rw [he] at hg
    simp at hg
  have he1:=he.far (p:=⟨g,4,none⟩) (Ne.symm hge) (.int .i32 1)
  have hgr:w.grownBy (w.setCell ⟨g,4,none⟩ (.int .i32 1)) (some g):=gr_set (World.grownBy.refl w _) (.inl rfl) _
  have hsz1:(w.setCell ⟨g,4,none⟩ (.int .i32 1)).heap.size=w.heap.size:=by simp [World.setCell]
  have hl:=run_call_load (P:=Tryz.prog) Tryz.func107 (by kernel_rfl) (by kernel_rfl) (by kernel_rfl) .u32 (by kernel_rfl) (w:=w.setCell ⟨g,4,none⟩ (.int .i32 1)) (a:=⟨g,3,none⟩) (x:=0) (by have:=hg1.cell 3;simpa using this)
  have hmk:=make_any g ge u x (.int .u32 0) (.int .i32 1) (.int .u32 0) a7 es (w.setCell ⟨g,4,none⟩ (.int .i32 1)) hok (by simpa using hg1) he1
  rw [hsz1] at hmk
  have hlock:=lock_free ⟨g,4,none⟩ w h4 f4
  have HG1:=Lib.hid hg1
  have HE:=Lib.hid he1
  have HGR:=Lib.hid hgr
  have HMK:=Lib.hid hmk
  have HL:=Lib.hid hlock
  clear hg hg1 he he1 hgr hmk hlock h4 f4 hok hsz1
  have hnot:∀ (x:Bool) (w:World),(Op.unary .not (.bool x)).run Tryz.prog w = .ok (.bool (!x)) w:=fun _ _=>rfl
  go_enter_defers Tryz.func99,Tryz.ntmps99
  go_wp2_with (go_at_call 108;refine HL.out.mono ?_;rintro e w' ⟨rfl,rfl⟩)
  generalize w.setCell ⟨g,4,none⟩ (.int .i32 1)=w1 at *
  go_wp2_with (first | (go_at_call 71;refine HMK.out.mono ?_;rintro e w2 ⟨rfl,mv,hm1,hm2,hm3⟩) | (go_at_call 98;go_in))
  have k3:=hm1.cell 3
  have z3:=hm1.frozen 3
  simp at k3
  have p1:=(hm1.drew).set_ 3 (.int .u32 1)
  have k4:=p1.cell 4
  have z4:=p1.frozen 4
  simp at k4
  have p2:=p1.set_ 4 (.int .i32 0)
  have q2:=ownsRow_setCell_below (ownsRow_setCell_below hm2.drew (a:=⟨g,3,none⟩) hgl (.int .u32 1)) (a:=⟨g,4,none⟩) hgl (.int .i32 0)
  have r2:w.grownBy ((w2.drew.setCell ⟨g,3,none⟩ (.int .u32 1)).setCell ⟨g,4,none⟩ (.int .i32 0)) (some g):=gr_set (gr_set (gr_dr (gr_tr HGR.out hm3 (.inl rfl))) (.inl rfl) _) (.inl rfl) _
  refine leaves_cons (f:=110) (args:=#[.pointer (some ⟨g,3,none⟩),.bool true]) (by simp) (by simp [go_sem]) ?_
  refine (store_deferred ⟨g,3,none⟩ (.int .u32 0) .returning _ ?_ ?_).mono ?_
  · exact k3
  · exact z3
  rintro e u' w'' ⟨rfl,rfl,rfl⟩
  refine leaves_cons (f:=109) (args:=#[.pointer (some ⟨g,4,none⟩)]) (by simp [settle]) (by simp [go_sem]) ?_
  refine (unlock_deferred ⟨g,4,none⟩ _ _ ?_ ?_).mono ?_
  · exact k4
  · exact z4
  rintro e u' w'' ⟨rfl,rfl,rfl⟩
  simp [Leaves,settle,results,Tryz.results99]
  exact ⟨mv,by simpa using p2,q2,r2⟩
def marksOf (w:World) (B:Nat) (es:List (Int × Int)) (d:Int) (mv:Value):Prop:=
 (d=0∧mv = .slice none 0 0)∨(d=1∧w.ownsRow B 104 3 mv es.length (es.flatMap markC))
def IsL (w:World) (g:Nat) (u x:Int) (es:List (Int × Int)) (q:Int):Prop:=
  okT u x es=true∧∃ ge d mv,g≠ge∧Blk w g 78 #[.int .i64 u,.int .i64 x,.slice (some ⟨ge,0,none⟩) es.length es.length,.int .u32 d,.int .i32 0,.int .u32 0,mv,.int .i64 q] ∧
    Blk w ge 44 (es.flatMap entC).toArray∧marksOf w 0 es d mv
def IsLM (w:World) (g:Nat) (u x:Int) (es:List (Int × Int)) (q:Int) (mv:Value):Prop:=
  okT u x es=true∧∃ ge,g≠ge∧Blk w g 78 #[.int .i64 u,.int .i64 x,.slice (some ⟨ge,0,none⟩) es.length es.length,.int .u32 1,.int .i32 0,.int .u32 0,mv,.int .i64 q] ∧
    Blk w ge 44 (es.flatMap entC).toArray∧w.ownsRow 0 104 3 mv es.length (es.flatMap markC)
end Go.Proofs.YtailjojebdmnnaaGreat
namespace Go.Proofs.YtailjojebdmnnaaGreat
open Go.RowKit
theorem do_any (g ge:Nat) (u x a7 mv:Value) (d:Int) (es:List (Int × Int)) (w:World) (hok:okPre es es.length=true)
    (hg:Blk w g 78 #[u,x,.slice (some ⟨ge,0,none⟩) es.length es.length,.int .u32 d,.int .i32 0,.int .u32 0,mv,a7]) (he:Blk w ge 44 (es.flatMap entC).toArray) (hm:marksOf w 0 es d mv) :
    Calls Tryz.prog 70 #[.pointer (some ⟨g,3,none⟩),.func (.func 71) #[.pointer (some ⟨g,0,none⟩)] #[]] w fun e w'=>e = .returned (.tuple #[])∧∃ mv',Blk w' g 78 #[u,x,.slice (some ⟨ge,0,none⟩) es.length es.length,.int .u32 1,.int .i32 0,.int .u32 0,mv',a7] ∧
      w'.ownsRow 0 104 3 mv' es.length (es.flatMap markC)∧w.grownBy w' (some g):=by
  have hnot:∀ (x:Bool) (w:World),(Op.unary .not (.bool x)).run Tryz.prog w = .ok (.bool (!x)) w:=fun _ _=>rfl
  have h3:=hg.cell 3
  simp at h3
  rcases hm with ⟨rfl,rfl⟩ | ⟨rfl,hown⟩
  · have hl:=run_call_load (P:=Tryz.prog) Tryz.func107 (by kernel_rfl) (by kernel_rfl) (by kernel_rfl) .u32 (by kernel_rfl) h3
    have hs:=slow_any g ge u x a7 es w hok hg he
    have HS:=Lib.hid hs
    clear hs hg he hok
    go_enter Tryz.func70,Tryz.ntmps70
    go_wp2_with (first | (go_at_call 99;refine HS.out.mono ?_;rintro e w2 ⟨rfl,mv,hm1,hm2,hm3⟩) | (go_at_call 98;go_in))
    go_end0
    exact ⟨rfl,mv,hm1,hm2.mono (Nat.zero_le _),hm3⟩
  · have hl:=run_call_load (P:=Tryz.prog) Tryz.func107 (by kernel_rfl) (by kernel_rfl) (by kernel_rfl) .u32 (by kernel_rfl) h3
    have HG:=Lib.hid hg
    have HO:=Lib.hid hown
    clear hg hown he hok
    go_enter Tryz.func70,Tryz.ntmps70
    go_wp2
    go_end0
    exact ⟨rfl,mv,HG.out,HO.out,World.grownBy.refl _ _⟩
theorem okT_pre {u x:Int} {es:List (Int × Int)} (h:okT u x es=true):okPre es es.length=true∧0 < es.length∧es.length≤64:=by
 simp only [okT,Bool.and_eq_true,Bool.not_eq_true',List.isEmpty_eq_false_iff] at h
 exact ⟨h.1.1.1,List.length_pos_iff.2 h.1.1.2,okPre_len h.1.1.1⟩
theorem all_any (g:Nat) (u x q:Int) (es:List (Int × Int)) (w:World) (h:IsL w g u x es q) :
    Calls Tryz.prog 40 #[.pointer (some ⟨g,0,none⟩)] w fun e w'=>∃ mv,e = .returned mv∧IsLM w' g u x es q mv∧w.grownBy w' (some g):=by
  obtain ⟨hok,ge,d,mv,hlt,hg,he,hm⟩:=h
  have hp:=(okT_pre hok).1
  have hd:=do_any g ge (.int .i64 u) (.int .i64 x) (.int .i64 q) mv d es w hp hg he hm
  have HD:=Lib.hid hd
  have HE:=Lib.hid he
  have HOK:=Lib.hid hok
  have hgl:=hg.lt
  have hfn:∀ (fn:Fn) (first cap:Array Value) (w:World),(Instr.makeFunc fn first cap).run Tryz.prog w = .ok (.func fn first cap) w:=fun _ _ _ _=>rfl
  clear hd he hok hg hm hp
  go_enter Tryz.func40,Tryz.ntmps40
  go_wp2_with (go_at_call 70;refine HD.out.mono ?_;rintro e w2 ⟨rfl,mv',hm1,hm2,hm3⟩;have k6:=hm1.cell 6;simp at k6;have HM1:=Lib.hid hm1;clear hm1)
  go_ret
  exact ⟨mv',rfl,⟨HOK.out,ge,hlt,HM1.out,HE.out.grown hm3 (by simp;omega),hm2⟩,hm3⟩
theorem IsLM.isL {w:World} {g:Nat} {u x q:Int} {es:List (Int × Int)} {mv:Value} (h:IsLM w g u x es q mv):IsL w g u x es q:=by
 obtain ⟨hok,ge,hlt,hg,he,ho⟩:=h
 exact ⟨hok,ge,1,mv,hlt,hg,he,.inr ⟨rfl,ho⟩⟩
def search_ren:Go.Shelf.Ren:=⟨fun | 16=>80 | n=>n,fun | 3=>3 | 4=>4 | 35=>146 | 38=>138 | n=>n,fun n=>n⟩
theorem search_lays:SlLaysO.n16 Tryz.prog search_ren:={ mixed:=by kernel_rfl,f16:=Tryz.func80.trans (congrArg some (by kernel_rfl)),t3:=Tryz.underlying3,a3:=Tryz.isAgg3,z3:=Tryz.sizeOf3,v3:=Tryz.zeroValue3,t4:=Tryz.underlying4,a4:=Tryz.isAgg4,z4:=Tryz.sizeOf4,v4:=Tryz.zeroValue4,t35:=Tryz.underlying146,a35:=Tryz.isAgg146,z35:=Tryz.sizeOf146,v35:=Tryz.zeroValue146,t38:=Tryz.underlying138,a38:=Tryz.isAgg138,z38:=Tryz.sizeOf138,v38:=Tryz.zeroValue138 }
theorem grow_below (w:World) (q:Nat) (os:Array Obj):Below w.heap.size w (Go.Sort.grow (w.drewN q) os):=below_grown_sl w.heap.size w q os (Nat.le_refl _)
theorem search_any (g:Nat) (cb:Array Value) (n:Nat) (p:Nat→Bool) (w:World) (eg:∀ args w,(callFunc g args).run Tryz.prog w = .ok (.enter g args) w) (hsz:n < 4611686018427387904)
    (hf:∀ (W:World),Below w.heap.size w W→∀ i:Nat,i < n→Calls Tryz.prog g (#[.int .i64 i] ++ cb) W fun e w'=>e = .returned (.bool (p i))∧∃ q,w'=W.drewN q)
    (hmono:∀ a b,a≤b→b < n→p a=true→p b=true) :
    Calls Tryz.prog 80 #[.int .i64 n,.func (.func g) #[] cb] w fun e w'=>e = .returned (.int .i64 ((List.range n).countP (fun i=>!p i):Nat))∧Below w.heap.size w w':=by
  have h:=Any.sort_Search search_lays g cb n p w eg hsz (fun m os i hi=>(hf _ (grow_below w m os) i hi).mono (fun e w' ⟨h1,q,h2⟩=>⟨h1,q,#[],by rw [h2];exact (Go.Sort.grow_empty _).symm⟩)) hmono
  exact h.mono (fun e w' ⟨h1,q,os,h2⟩=>⟨h1,by rw [h2];exact grow_below w q os⟩)
end Go.Proofs.YtailjojebdmnnaaGreat
namespace Go.Proofs.YtailjojebdmnnaaGreat
open Go.RowKit
def MarksAt (w:World) (gm:Nat) (es:List (Int × Int)):Prop:=
 ∀ i,i < es.length→w.cell? ⟨gm,i*3,none⟩=some (.int .i64 (dayOf (es.getD i (0,0))))∧w.cell? ⟨gm,i*3+1,none⟩=some (.int .i64 (es.getD i (0,0)).2)∧w.cell? ⟨gm,i*3+2,none⟩=some (.int .i64 (startOf (es.getD i (0,0))))
theorem MarksAt.below {w w':World} {B gm:Nat} {es:List (Int × Int)} (h:MarksAt w gm es) (hb:Below B w w') (hg:gm < B):MarksAt w' gm es:=by
 intro i hi
 rw [hb.cell (p:=⟨gm,_,none⟩) hg,hb.cell (p:=⟨gm,_,none⟩) hg,hb.cell (p:=⟨gm,_,none⟩) hg]
 exact h i hi
theorem IsLM.marks {w:World} {g:Nat} {u x q:Int} {es:List (Int × Int)} {mv:Value} (h:IsLM w g u x es q mv) :
    ∃ gm cap,mv = .slice (some ⟨gm,0,none⟩) es.length cap∧gm < w.heap.size∧es.length≤cap∧MarksAt w gm es:=by
  obtain ⟨hok,ge,hlt,hg,he,ho⟩:=h
  have hp:=okT_pre hok
  have hcap:∀ cap g',mv = .slice (some ⟨g',0,none⟩) es.length cap→es.length≤cap:=by
    intro cap g' e
    rcases ho.2 with ⟨rfl,h0⟩ | ⟨g2,cap2,cur,e2,_,_,h3,_⟩
    · cases e
    · rw [e2] at e;simp only [Value.slice.injEq] at e;omega
  obtain ⟨gm,cap,rfl,_,hlm⟩:=ho.form hp.2.1
  refine ⟨gm,cap,rfl,hlm,hcap cap gm rfl,fun i hi=>?_⟩
  have h1:es[i]? = some (es.getD i (0,0)):=by simp [List.getD_eq_getElem?_getD,List.getElem?_eq_getElem hi]
  have hc:=fun j (v:Value) hj=>ho.cells (g:=gm) rfl (i*3+j) v hj
  simp only [ad_add,Nat.zero_add] at hc
  exact ⟨hc 0 _ (by rw [flat_get markC 3 markC_len es i 0 _ h1 (by omega)];rfl),hc 1 _ (by rw [flat_get markC 3 markC_len es i 1 _ h1 (by omega)];rfl),hc 2 _ (by rw [flat_get markC 3 markC_len es i 2 _ h1 (by omega)];rfl)⟩
theorem IsLM.below {w w':World} {g:Nat} {u x q:Int} {es:List (Int × Int)} {mv:Value} (h:IsLM w g u x es q mv) (hb:Below w.heap.size w w'):IsLM w' g u x es q mv:=by
 obtain ⟨hok,ge,hlt,hg,he,ho⟩:=h
 exact ⟨hok,ge,hlt,hg.below hb hg.lt,he.below hb he.lt,ho.kept (row:=none) ⟨hb.os,hb.tape,hb.output,hb.size,fun i hi _=>hb.block i hi⟩ (by cases mv.ownBlock <;> simp)⟩
theorem IsL.below {w w':World} {g:Nat} {u x q:Int} {es:List (Int × Int)} (h:IsL w g u x es q) (hb:Below w.heap.size w w'):IsL w' g u x es q:=by
  obtain ⟨hok,ge,d,mv,hlt,hg,he,hm⟩:=h
  refine ⟨hok,ge,d,mv,hlt,hg.below hb hg.lt,he.below hb he.lt,?_⟩
  rcases hm with ⟨h1,h2⟩ | ⟨h1,ho⟩
  · exact .inl ⟨h1,h2⟩
  · exact .inr ⟨h1,ho.kept (row:=none) ⟨hb.os,hb.tape,hb.output,hb.size,fun i hi _=>hb.block i hi⟩ (by cases mv.ownBlock <;> simp)⟩
theorem off1_any (day:Int) (i n cap gm bm bd:Nat) (es:List (Int × Int)) (W:World) (hn:n=es.length) (hi:i < n) (hc:n≤cap)
    (hm:W.cell? ⟨bm,0,none⟩=some (.slice (some ⟨gm,0,none⟩) n cap)) (hd:W.cell? ⟨bd,0,none⟩=some (.int .i64 day)) (hM:MarksAt W gm es) :
    Calls Tryz.prog 81 (#[.int .i64 i] ++ #[.pointer (some ⟨bm,0,none⟩),.pointer (some ⟨bd,0,none⟩)]) W fun e w'=>e = .returned (.bool (decide (day < dayOf (es.getD i (0,0)))))∧∃ q,w'=W.drewN q:=by
  have c:=(hM i (by omega)).1
  generalize dayOf (es.getD i (0,0))=D at *
  have i1:(0:Int)≤(i:Int):=by omega
  have i2:(i:Int) < (n:Int):=by omega
  clear hM hn
  go_enter Tryz.func81,Tryz.ntmps81
  go_wp2
  go_quiet (fail)
  go_wp2
  go_ret
  exact ⟨rfl,_,rfl⟩
theorem at1_any (s:Int) (i n cap gm bm bd:Nat) (es:List (Int × Int)) (W:World) (hn:n=es.length) (hi:i < n) (hc:n≤cap)
    (hm:W.cell? ⟨bm,0,none⟩=some (.slice (some ⟨gm,0,none⟩) n cap)) (hd:W.cell? ⟨bd,0,none⟩=some (.int .i64 s)) (hM:MarksAt W gm es) :
    Calls Tryz.prog 92 (#[.int .i64 i] ++ #[.pointer (some ⟨bm,0,none⟩),.pointer (some ⟨bd,0,none⟩)]) W fun e w'=>e = .returned (.bool (decide (s < startOf (es.getD i (0,0)))))∧∃ q,w'=W.drewN q:=by
  have c:=(hM i (by omega)).2.2
  generalize startOf (es.getD i (0,0))=D at *
  have i1:(0:Int)≤(i:Int):=by omega
  have i2:(i:Int) < (n:Int):=by omega
  clear hM hn
  go_enter Tryz.func92,Tryz.ntmps92
  go_wp2
  go_quiet (fail)
  go_wp2
  go_ret
  exact ⟨rfl,_,rfl⟩
theorem count_any (g:Nat) (u x q:Int) (es:List (Int × Int)) (w:World) (h:IsL w g u x es q) :
    Calls Tryz.prog 79 #[.pointer (some ⟨g,0,none⟩)] w fun e w'=>e = .returned (.bool true)∧IsL w' g u x es (wrap64 (q+1))∧w.grownBy w' (some g):=by
  obtain ⟨hok,ge,d,mv,hlt,hg,he,hm⟩:=h
  have h7:=hg.cell 7
  have z7:=hg.frozen 7
  simp at h7
  have hadd:=run_call_add (P:=Tryz.prog) Tryz.func111 (by kernel_rfl) (by kernel_rfl) (by kernel_rfl) .i64 (by kernel_rfl) (y:=1) (s:=wrap64 (q+1)) h7 z7 (by simp [go_sem,IntKind.wrap_i64,wrap64])
  have hg2:=hg.set_ 7 (.int .i64 (wrap64 (q+1)))
  have he2:=he.far (p:=⟨g,7,none⟩) (by simp;omega) (.int .i64 (wrap64 (q+1)))
  have hgr:w.grownBy (w.setCell ⟨g,7,none⟩ (.int .i64 (wrap64 (q+1)))) (some g):=gr_set (World.grownBy.refl w _) (.inl rfl) _
  have hL:IsL (w.setCell ⟨g,7,none⟩ (.int .i64 (wrap64 (q+1)))) g u x es (wrap64 (q+1)):=by
    refine ⟨hok,ge,d,mv,hlt,by simpa using hg2,he2,?_⟩
    rcases hm with ⟨h1,h2⟩ | ⟨h1,ho⟩
    · exact .inl ⟨h1,h2⟩
    · refine .inr ⟨h1,ho.kept hgr ?_⟩
      rcases ho.2 with ⟨rfl,h0⟩ | ⟨gm,cap,cur,rfl,_,hh,_⟩
      · exact .inl rfl
      · refine .inr fun e=>?_
        simp only [Value.ownBlock,Option.some.injEq] at e
        subst e
        unfold Blk at hg
        rw [hg] at hh
        simp at hh
  have HL:=Lib.hid hL
  have HGR:=Lib.hid hgr
  clear hL hgr hg hg2 he he2 hm hok
  go_enter Tryz.func79,Tryz.ntmps79
  go_wp2
  go_ret
  exact ⟨rfl,HL.out,HGR.out⟩
def cnt (f:Int × Int→Int) (es:List (Int × Int)) (d:Int):Nat:=(List.range es.length).countP fun i=>!decide (d < f (es.getD i (0,0)))
def cntC (es:List (Int × Int)) (d:Int):Nat:=(List.range es.length).countP fun i=>!decide (d≤dayOf (es.getD i (0,0))-1)
theorem cnt_le (f:Int × Int→Int) (es:List (Int × Int)) (d:Int):cnt f es d≤es.length:=by
 have:=List.countP_le_length (l:=List.range es.length) (p:=fun i=>!decide (d < f (es.getD i (0,0))));simpa [cnt] using this
theorem cntC_le (es:List (Int × Int)) (d:Int):cntC es d≤es.length:=by
 have:=List.countP_le_length (l:=List.range es.length) (p:=fun i=>!decide (d≤dayOf (es.getD i (0,0))-1));simpa [cntC] using this
theorem okE_step {es:List (Int × Int)} {k:Nat} (hk:k+1 < es.length) (h:okE (es.take (k+1)) (es.getD (k+1) (0,0))=true):(es.getD k (0,0)).1 < (es.getD (k+1) (0,0)).1∧((es.getD (k+1) (0,0)).2=(es.getD k (0,0)).2+1∨(es.getD (k+1) (0,0)).2=(es.getD k (0,0)).2-1):=by
 rw [take_snoc' es k (0,0) (by omega),okE_last] at h
 simp at h
 obtain ⟨_,h2⟩:=h
 simp only [List.getD_eq_getElem?_getD] at *
 omega
theorem day_step {es:List (Int × Int)} (h:okPre es es.length=true) {k:Nat} (hk:k+1 < es.length):dayOf (es.getD k (0,0)) < dayOf (es.getD (k+1) (0,0))∧startOf (es.getD k (0,0)) < startOf (es.getD (k+1) (0,0)):=by
 have h1:=okE_step hk (okPre_at h hk)
 have h2:=okPre_num h (i:=k) (by omega)
 have h3:=okPre_num h (i:=k+1) (by omega)
 unfold startOf dayOf
 omega
theorem day_mono {es:List (Int × Int)} (h:okPre es es.length=true):∀ (a d:Nat),a+d < es.length→dayOf (es.getD a (0,0))+d≤dayOf (es.getD (a+d) (0,0))∧startOf (es.getD a (0,0))+d≤startOf (es.getD (a+d) (0,0))
  | a,0,_=>by simp
  | a,d+1,hd=>by
    have h1:=day_mono h a d (by omega)
    have h2:=day_step h (k:=a+d) (by omega)
    rw [show a+(d+1)=a+d+1 by omega]
    omega
theorem day_le {es:List (Int × Int)} (h:okPre es es.length=true) {a b:Nat} (hab:a≤b) (hb:b < es.length):dayOf (es.getD a (0,0))≤dayOf (es.getD b (0,0))∧startOf (es.getD a (0,0))≤startOf (es.getD b (0,0)):=by
 have:=day_mono h a (b-a) (by omega)
 rw [show a+(b-a)=b by omega] at this
 omega
theorem gcell {W w1:World} {g:Nat} (h:W.grownBy w1 (some g)):∀ b o,b < W.heap.size→b≠g→w1.cell? ⟨b,o,none⟩=W.cell? ⟨b,o,none⟩:=fun b o hb hne=>World.cell?_of_block (h.block b hb (by simpa using hne))
def offV (es:List (Int × Int)) (day:Int):Int:=if cnt dayOf es day=0 then 0 else (es.getD (cnt dayOf es day-1) (0,0)).2
def offE (es:List (Int × Int)) (day:Int):Int:=if cnt dayOf es day=0 then 8 else 0
theorem offset_any (g:Nat) (u x q day:Int) (es:List (Int × Int)) (w:World) (h:IsL w g u x es q) :
    Calls Tryz.prog 54 #[.pointer (some ⟨g,0,none⟩),.int .i64 day] w fun e w'=>e = .returned (.tuple #[.int .i64 (offV es day),.int .i64 (offE es day)])∧IsL w' g u x es (wrap64 (q+1))∧w.grownBy w' (some g):=by
  have hok:=okT_pre h.1
  obtain ⟨hp,hn0,hn64⟩:=hok
  have hgl:g < w.heap.size:=by obtain ⟨_,_,_,_,_,hg,_⟩:=h;exact hg.lt
  have hL0:=h.below (w':=w.alloc (.cells #[.int .i64 day] 3)) (below_al (Below.refl _ _) _)
  have hcount:=count_any g u x q es _ hL0
  have HC:=Lib.hid hcount
  have HP:=Lib.hid hp
  have hnot:∀ (x:Bool) (w:World),(Op.unary .not (.bool x)).run Tryz.prog w = .ok (.bool (!x)) w:=fun _ _=>rfl
  have hfn:∀ (fn:Fn) (first cap:Array Value) (w:World),(Instr.makeFunc fn first cap).run Tryz.prog w = .ok (.func fn first cap) w:=fun _ _ _ _=>rfl
  clear hcount hp h hL0
  go_enter Tryz.func54,Tryz.ntmps54
  go_wp2_with fail
  refine HC.out.mono ?_
  rintro e w1 ⟨rfl,hL1,hg1⟩
  have k1:w1.cell? ⟨w.heap.size,0,none⟩=some (.int .i64 day):=(gcell hg1 w.heap.size 0 (by simp) (by omega)).trans (by simp)
  have s1:=hg1.size
  have l1:w.heap.size < w1.heap.size:=by simp at s1;omega
  have hall:=all_any g u x (wrap64 (q+1)) es w1 hL1
  have HA:=Lib.hid hall
  have HG1:=Lib.hid hg1
  clear hL1 hg1 hall s1
  go_wp2_with fail
  refine HA.out.mono ?_
  rintro e w2 ⟨mv,rfl,hM2,hg2⟩
  obtain ⟨gm,cap,rfl,hgm,hcap,hMA⟩:=hM2.marks
  have k2:w2.cell? ⟨w.heap.size,0,none⟩=some (.int .i64 day):=(gcell hg2 w.heap.size 0 l1 (by omega)).trans k1
  have s2:=hg2.size
  have l2:w.heap.size < w2.heap.size:=by omega
  have l2':¬ w.heap.size=w2.heap.size:=by omega
  have HG2:=Lib.hid hg2
  have HM2:=Lib.hid hM2
  have HMA:=Lib.hid hMA
  have k3:(w2.alloc (.cells #[.slice (some ⟨gm,0,none⟩) es.length cap] 73)).cell? ⟨w2.heap.size,0,none⟩=some (.slice (some ⟨gm,0,none⟩) es.length cap):=by simp
  have k4:(w2.alloc (.cells #[.slice (some ⟨gm,0,none⟩) es.length cap] 73)).cell? ⟨w.heap.size,0,none⟩=some (.int .i64 day):=by rw [World.cell?_alloc_lt _ _ _ l2];exact k2
  have hsr:=search_any 81 #[.pointer (some ⟨w2.heap.size,0,none⟩),.pointer (some ⟨w.heap.size,0,none⟩)] es.length (fun i=>decide (day < dayOf (es.getD i (0,0)))) (w2.alloc (.cells #[.slice (some ⟨gm,0,none⟩) es.length cap] 73)) Tryz.call81 (by omega)
    (fun W hW i hi=>off1_any day i es.length cap gm w2.heap.size w.heap.size es W rfl hi hcap ((hW.cell (by simp)).trans k3) ((hW.cell (by simp;omega)).trans k4) (HMA.out.below (below_to (below_al (Below.refl _ _) _) hW) hgm))
    (fun a b hab hb h=>by have:=(day_le HP.out hab hb).1;simp only [decide_eq_true_eq] at h ⊢;omega)
  change Calls _ _ _ _ (fun e w'=>e = .returned (.int .i64 ((cnt dayOf es day:Nat):Int))∧_) at hsr
  have HSR:=Lib.hid hsr
  clear hsr hg2 hM2 hMA s2
  go_wp2_with fail
  refine HSR.out.mono ?_
  rintro e w3 ⟨rfl,hb3⟩
  have k5:w3.cell? ⟨w2.heap.size,0,none⟩=some (.slice (some ⟨gm,0,none⟩) es.length cap):=(hb3.cell (by simp)).trans k3
  have hMA3:=HMA.out.below (below_to (below_al (Below.refl _ _) _) hb3) hgm
  have hLM3:=HM2.out.below (below_to (below_al (Below.refl _ _) _) hb3)
  have hgr:w.grownBy w3 (some g):=gr_bel (gr_al (gr_tr (gr_tr (gr_al (World.grownBy.refl w _) _) HG1.out (.inl rfl)) HG2.out (.inl rfl)) _) hb3
  have hL3:IsL w3 g u x es (wrap64 (q+1)):=hLM3.isL
  have HGR:=Lib.hid hgr
  have HL3:=Lib.hid hL3
  have hcl:=cnt_le dayOf es day
  by_cases h0:cnt dayOf es day=0
  · have hv:offV es day=0:=by simp [offV,h0]
    have he:offE es day=8:=by simp [offE,h0]
    rw [h0]
    have HV:=Lib.hid hv
    have HE:=Lib.hid he
    clear hgr hL3 hMA3 hLM3 hb3 hv he k1 k2 k4
    go_wp2
    go_ret2
    exact ⟨by rw [HV.out,HE.out];(try rw [List.getD_eq_getElem?_getD]);rfl,HL3.out,HGR.out⟩
  · have hv:offV es day=(es.getD (cnt dayOf es day-1) (0,0)).2:=by simp [offV,h0]
    have he:offE es day=0:=by simp [offE,h0]
    obtain ⟨m,hm⟩:∃ m,cnt dayOf es day=m+1:=⟨cnt dayOf es day-1,by omega⟩
    rw [hm] at hcl hv ⊢
    rw [show m+1-1=m by omega] at hv
    have HV:=Lib.hid hv
    have HE:=Lib.hid he
    have c0:=(hMA3 m (by omega)).2.1
    have hmi:(m:Int) < (es.length:Int):=by omega
    clear hgr hL3 hMA3 hLM3 hb3 hv he k1 k2 k4 hm h0
    go_wp2
    go_ret2
    exact ⟨by rw [HV.out,HE.out];(try rw [List.getD_eq_getElem?_getD]);rfl,HL3.out,HGR.out⟩
def day0 (es:List (Int × Int)):Int:=dayOf (es.getD 0 (0,0))
theorem first_any (g:Nat) (u x q:Int) (es:List (Int × Int)) (w:World) (h:IsL w g u x es q) :
    Calls Tryz.prog 18 #[.pointer (some ⟨g,0,none⟩)] w fun e w'=>e = .returned (.int .i64 (day0 es))∧IsL w' g u x es q∧w.grownBy w' (some g):=by
  have hok:=okT_pre h.1
  obtain ⟨hp,hn0,hn64⟩:=hok
  have hall:=all_any g u x q es w h
  have HA:=Lib.hid hall
  clear hall h hp
  go_enter Tryz.func18,Tryz.ntmps18
  go_wp2_with fail
  refine HA.out.mono ?_
  rintro e w2 ⟨mv,rfl,hM2,hg2⟩
  obtain ⟨gm,cap,rfl,hgm,hcap,hMA⟩:=hM2.marks
  have c0:=(hMA 0 hn0).1
  rw [Nat.zero_mul] at c0
  have HL2:=Lib.hid hM2.isL
  have HG2:=Lib.hid hg2
  have i1:(0:Int) < (es.length:Int):=by omega
  clear hM2 hMA hg2
  obtain ⟨D,hD⟩:∃ D,D=day0 es:=⟨_,rfl⟩
  rw [← show D=dayOf (es.getD 0 (0,0)) from hD] at c0
  have HD:=Lib.hid hD
  clear hD
  go_wp2
  go_ret
  exact ⟨by rw [← HD.out];rfl,HL2.out,HG2.out⟩
theorem gr_dr_isL {w:World} {g:Nat} {u x q:Int} {es:List (Int × Int)} (h:IsL w g u x es q) (n:Nat):IsL (w.drewN n) g u x es q:=h.below (below_drN (Below.refl _ _) n)
def chgV (es:List (Int × Int)) (day:Int):Int:=
 if cntC es day=0 then 0 else if cntC es day=es.length then 0 else if dayOf (es.getD (cntC es day) (0,0))-1=day then (es.getD (cntC es day) (0,0)).2-(es.getD (cntC es day-1) (0,0)).2 else 0
theorem chgV_bd {es:List (Int × Int)} (h:okPre es es.length=true) (day:Int):-1≤chgV es day∧chgV es day≤1:=by
  unfold chgV
  split
  · omega
  · split
    · omega
    · split
      · have hc:=cntC_le es day
        rename_i h0 h1 _
        have hk:cntC es day-1+1=cntC es day:=by omega
        have:=okE_step (es:=es) (k:=cntC es day-1) (by omega) (by rw [hk];exact okPre_at h (by omega))
        rw [hk] at this
        omega
      · omega
end Go.Proofs.YtailjojebdmnnaaGreat
namespace Go.Proofs.YtailjojebdmnnaaGreat
open Go.RowKit
def atV (es:List (Int × Int)) (s:Int):Int:=if cnt startOf es s=0 then 0 else (es.getD (cnt startOf es s-1) (0,0)).2
def atU (es:List (Int × Int)) (s:Int):Int:=if cnt startOf es s=0 then 0 else if cnt startOf es s=es.length then 4611686018427387904 else dayOf (es.getD (cnt startOf es s) (0,0))
def atE (es:List (Int × Int)) (s:Int):Int:=if cnt startOf es s=0 then 8 else 0
theorem at_any (g:Nat) (u x q s:Int) (es:List (Int × Int)) (w:World) (h:IsL w g u x es q) :
    Calls Tryz.prog 60 #[.pointer (some ⟨g,0,none⟩),.int .i64 s] w fun e w'=>e = .returned (.tuple #[.int .i64 (atV es s),.int .i64 (atU es s),.int .i64 (atE es s)])∧IsL w' g u x es (wrap64 (q+1))∧w.grownBy w' (some g):=by
  have hok:=okT_pre h.1
  obtain ⟨hp,hn0,hn64⟩:=hok
  have hgl:g < w.heap.size:=by obtain ⟨_,_,_,_,_,hg,_⟩:=h;exact hg.lt
  have hL0:=h.below (w':=w.alloc (.cells #[.int .i64 s] 3)) (below_al (Below.refl _ _) _)
  have hcount:=count_any g u x q es _ hL0
  have HC:=Lib.hid hcount
  have HP:=Lib.hid hp
  have hnot:∀ (x:Bool) (w:World),(Op.unary .not (.bool x)).run Tryz.prog w = .ok (.bool (!x)) w:=fun _ _=>rfl
  have hfn:∀ (fn:Fn) (first cap:Array Value) (w:World),(Instr.makeFunc fn first cap).run Tryz.prog w = .ok (.func fn first cap) w:=fun _ _ _ _=>rfl
  clear hcount hp h hL0
  go_enter Tryz.func60,Tryz.ntmps60
  go_wp2_with fail
  refine HC.out.mono ?_
  rintro e w1 ⟨rfl,hL1,hg1⟩
  have k1:w1.cell? ⟨w.heap.size,0,none⟩=some (.int .i64 s):=(gcell hg1 w.heap.size 0 (by simp) (by omega)).trans (by simp)
  have s1:=hg1.size
  have l1:w.heap.size < w1.heap.size:=by simp at s1;omega
  have hall:=all_any g u x (wrap64 (q+1)) es w1 hL1
  have HA:=Lib.hid hall
  have HG1:=Lib.hid hg1
  clear hL1 hg1 hall s1
  go_wp2_with fail
  refine HA.out.mono ?_
  rintro e w2 ⟨mv,rfl,hM2,hg2⟩
  obtain ⟨gm,cap,rfl,hgm,hcap,hMA⟩:=hM2.marks
  have k2:w2.cell? ⟨w.heap.size,0,none⟩=some (.int .i64 s):=(gcell hg2 w.heap.size 0 l1 (by omega)).trans k1
  have s2:=hg2.size
  have l2:w.heap.size < w2.heap.size:=by omega
  have l2':¬ w.heap.size=w2.heap.size:=by omega
  have HG2:=Lib.hid hg2
  have HM2:=Lib.hid hM2
  have HMA:=Lib.hid hMA
  have k3:(w2.alloc (.cells #[.slice (some ⟨gm,0,none⟩) es.length cap] 73)).cell? ⟨w2.heap.size,0,none⟩=some (.slice (some ⟨gm,0,none⟩) es.length cap):=by simp
  have k4:(w2.alloc (.cells #[.slice (some ⟨gm,0,none⟩) es.length cap] 73)).cell? ⟨w.heap.size,0,none⟩=some (.int .i64 s):=by rw [World.cell?_alloc_lt _ _ _ l2];exact k2
  have hsr:=search_any 92 #[.pointer (some ⟨w2.heap.size,0,none⟩),.pointer (some ⟨w.heap.size,0,none⟩)] es.length (fun i=>decide (s < startOf (es.getD i (0,0)))) (w2.alloc (.cells #[.slice (some ⟨gm,0,none⟩) es.length cap] 73)) Tryz.call92 (by omega)
    (fun W hW i hi=>at1_any s i es.length cap gm w2.heap.size w.heap.size es W rfl hi hcap ((hW.cell (by simp)).trans k3) ((hW.cell (by simp;omega)).trans k4) (HMA.out.below (below_to (below_al (Below.refl _ _) _) hW) hgm))
    (fun a b hab hb h=>by have:=(day_le HP.out hab hb).2;simp only [decide_eq_true_eq] at h ⊢;omega)
  change Calls _ _ _ _ (fun e w'=>e = .returned (.int .i64 ((cnt startOf es s:Nat):Int))∧_) at hsr
  have HSR:=Lib.hid hsr
  clear hsr hg2 hM2 hMA s2
  go_wp2_with fail
  refine HSR.out.mono ?_
  rintro e w3 ⟨rfl,hb3⟩
  have k5:w3.cell? ⟨w2.heap.size,0,none⟩=some (.slice (some ⟨gm,0,none⟩) es.length cap):=(hb3.cell (by simp)).trans k3
  have hMA3:=HMA.out.below (below_to (below_al (Below.refl _ _) _) hb3) hgm
  have hLM3:=HM2.out.below (below_to (below_al (Below.refl _ _) _) hb3)
  have hgr:w.grownBy w3 (some g):=gr_bel (gr_al (gr_tr (gr_tr (gr_al (World.grownBy.refl w _) _) HG1.out (.inl rfl)) HG2.out (.inl rfl)) _) hb3
  have hL3:IsL w3 g u x es (wrap64 (q+1)):=hLM3.isL
  have HGR:=Lib.hid hgr
  have HL3:=Lib.hid hL3
  have hcl:=cnt_le startOf es s
  by_cases h0:cnt startOf es s=0
  · have hv:atV es s=0:=by simp [atV,h0]
    have hu:atU es s=0:=by simp [atU,h0]
    have he:atE es s=8:=by simp [atE,h0]
    rw [h0]
    have HV:=Lib.hid hv
    have HU:=Lib.hid hu
    have HE:=Lib.hid he
    clear hgr hL3 hMA3 hLM3 hb3 hv hu he k1 k2 k4
    go_wp2
    go_ret3
    exact ⟨by rw [HV.out,HU.out,HE.out];rfl,HL3.out,HGR.out⟩
  have he:atE es s=0:=by simp [atE,h0]
  have hv:atV es s=(es.getD (cnt startOf es s-1) (0,0)).2:=by simp [atV,h0]
  obtain ⟨m,hm⟩:∃ m,cnt startOf es s=m+1:=⟨cnt startOf es s-1,by omega⟩
  have c0:=(hMA3 m (by omega)).2.1
  rw [hm,show m+1-1=m by omega] at hv
  obtain ⟨oa,hoa⟩:∃ D,D=(es.getD m (0,0)).2:=⟨_,rfl⟩
  rw [← hoa] at c0 hv
  have g1:((m:Int)+1 == 0)=false:=by rw [beq_eq_false_iff_ne];omega
  have i0:(0:Int)≤(m:Int):=by omega
  have i3:(m:Int) < (es.length:Int):=by omega
  have hw3:IntKind.i64.wrap ((m:Int)+1-1)=(m:Int):=by rw [show (m:Int)+1-1=m by omega];exact IntWalk.i64_in _ (by omega)
  have HE:=Lib.hid he
  have HV:=Lib.hid hv
  by_cases h1:cnt startOf es s=es.length
  · have hu:atU es s=4611686018427387904:=by simp only [atU];rw [if_neg h0,if_pos h1]
    have HU:=Lib.hid hu
    have g2:((m:Int)+1 == (es.length:Int))=true:=by rw [beq_iff_eq];omega
    rw [hm,show ((m+1:Nat):Int)=(m:Int)+1 by omega]
    clear hgr hL3 hMA3 hLM3 hb3 hv hu he k1 k2 k4 hm h0 h1 hoa hcl
    go_wp2
    go_ret3
    exact ⟨by rw [HV.out,HU.out,HE.out];rfl,HL3.out,HGR.out⟩
  · have hmi:m+1 < es.length:=by omega
    have c1:=(hMA3 (m+1) hmi).1
    have hu:atU es s=dayOf (es.getD (m+1) (0,0)):=by simp only [atU];rw [if_neg h0,if_neg h1,hm]
    obtain ⟨D,hD⟩:∃ D,D=dayOf (es.getD (m+1) (0,0)):=⟨_,rfl⟩
    rw [← hD] at c1 hu
    have HU:=Lib.hid hu
    have g2:((m:Int)+1 == (es.length:Int))=false:=by rw [beq_eq_false_iff_ne];omega
    have i1:(0:Int)≤(m:Int)+1:=by omega
    have i2:(m:Int)+1 < (es.length:Int):=by omega
    rw [hm,show ((m+1:Nat):Int)=(m:Int)+1 by omega]
    clear hgr hL3 hMA3 hLM3 hb3 hv hu he k1 k2 k4 hm h0 h1 hoa hcl hD
    go_wp2
    go_quiet (fail)
    go_wp2
    go_ret3
    exact ⟨by rw [HV.out,HU.out,HE.out];rfl,gr_dr_isL HL3.out _,gr_drN HGR.out _⟩
def NewPost (u x:Int) (es:List (Int × Int)) (w:World) (e:Ending) (w':World):Prop:=
 ∃ g,e = .returned (.tuple #[.pointer (some ⟨g,0,none⟩),.int .i64 0])∧IsL w' g u x es 0∧w.heap.size≤g∧Below w.heap.size w w'
theorem new_yes (v:Value) (es:List (Int × Int)) (u x:Int) (w:World) (hv:Ents w w.heap.size v es) (hu:I64 u) (hx:I64 x) (hes:∀ i,I64 (es.getD i (0,0)).1∧I64 (es.getD i (0,0)).2) (hok:okT u x es=true) :
    Calls Tryz.prog 4 #[.agg #[.int .i64 u,.int .i64 x,v]] w (NewPost u x es w):=by
  have hv0:Ents (w.alloc (.cells #[.int .i64 u,.int .i64 x,v] 24)) (w.alloc (.cells #[.int .i64 u,.int .i64 x,v] 24)).heap.size v es:=(hv.below (below_al (Below.refl _ _) _)).mono (by simp)
  have hch:=check_any v es u x _ hv0 hu hx hes
  have HCH:=Lib.hid hch
  have HV0:=Lib.hid hv0
  have HOK:=Lib.hid hok
  obtain ⟨A,c,rfl,_⟩:=hv
  generalize es.length=n at *
  have HL64:=Lib.hid (okT_pre hok).2.2
  clear hch hv0 hok
  go_enter Tryz.func4,Tryz.ntmps4
  go_wp2_with fail
  refine HCH.out.mono ?_
  rintro e w1 ⟨m,rfl,hb1⟩
  obtain ⟨hcl,hfr⟩:=bcell hb1
  have hz:=hb1.size
  rw [HOK.out]
  have k0:w1.cell? ⟨w.heap.size,0,none⟩=some (.int .i64 u):=(hcl _ _ (by simp)).trans (by simp)
  have k1:w1.cell? ⟨w.heap.size,1,none⟩=some (.int .i64 x):=(hcl _ _ (by simp)).trans (by simp)
  have k2:w1.cell? ⟨w.heap.size,2,none⟩=some (.slice A n c):=(hcl _ _ (by simp)).trans (by simp)
  have hv1:Ents w1 w1.heap.size (.slice A n c) es:=(HV0.out.below hb1).mono hz
  have HOW:=Lib.hid (own_any (.slice A n c) es u x w1 hv1 HL64.out)
  have HB1:=Lib.hid (below_to (below_al (Below.refl w.heap.size w) _) hb1)
  have he0:errT true=0:=rfl
  simp only [World.size_alloc] at hz
  clear hcl hfr hb1 hv1
  rw [he0]
  clear he0
  go_wp2_with fail
  refine HOW.out.mono ?_
  rintro e w2 ⟨ge,rfl,hBk,hge,hb2⟩
  have HBK:=Lib.hid hBk
  have HB2:=Lib.hid hb2
  have hs2:=hb2.size
  clear hBk hb2
  go_wp2
  go_ret2
  have hbk:Blk (w2.alloc (.cells #[.int .i64 u,.int .i64 x,.slice (some ⟨ge,0,none⟩) es.length es.length,.int .u32 0,.int .i32 0,.int .u32 0,.slice none 0 0,.int .i64 0] 78)) w2.heap.size 78 #[.int .i64 u,.int .i64 x,.slice (some ⟨ge,0,none⟩) es.length es.length,.int .u32 0,.int .i32 0,.int .u32 0,.slice none 0 0,.int .i64 0]:=Blk.new w2 _ _
  have hlt:=HBK.out.lt
  have hl:=HB1.out.size
  exact ⟨w2.heap.size,rfl,⟨HOK.out,ge,0,_,by omega,hbk,HBK.out.alloc _,.inl ⟨rfl,rfl⟩⟩,by omega,below_al (below_to HB1.out HB2.out) _⟩
theorem new_no (v:Value) (es:List (Int × Int)) (u x:Int) (w:World) (hv:Ents w w.heap.size v es) (hu:I64 u) (hx:I64 x) (hes:∀ i,I64 (es.getD i (0,0)).1∧I64 (es.getD i (0,0)).2) (hok:okT u x es=false) :
    Calls Tryz.prog 4 #[.agg #[.int .i64 u,.int .i64 x,v]] w fun e w'=>e = .returned (.tuple #[.pointer none,.int .i64 10])∧Below w.heap.size w w':=by
  have hv0:Ents (w.alloc (.cells #[.int .i64 u,.int .i64 x,v] 24)) (w.alloc (.cells #[.int .i64 u,.int .i64 x,v] 24)).heap.size v es:=(hv.below (below_al (Below.refl _ _) _)).mono (by simp)
  have hch:=check_any v es u x _ hv0 hu hx hes
  have HCH:=Lib.hid hch
  have HOK:=Lib.hid hok
  obtain ⟨A,c,rfl,_⟩:=hv
  generalize es.length=n at *
  clear hch hv0 hok
  go_enter Tryz.func4,Tryz.ntmps4
  go_wp2_with fail
  refine HCH.out.mono ?_
  rintro e w1 ⟨m,rfl,hb1⟩
  rw [HOK.out]
  have HB1:=Lib.hid (below_to (below_al (Below.refl w.heap.size w) _) hb1)
  have he0:errT false=10:=rfl
  clear hb1
  rw [he0]
  clear he0
  go_wp2
  go_ret2
  exact ⟨rfl,HB1.out⟩
def TablePost (g:Nat) (u x q:Int) (es:List (Int × Int)) (w:World) (e:Ending) (w':World):Prop:=
 ∃ ge,e = .returned (.agg #[.int .i64 u,.int .i64 x,.slice (some ⟨ge,0,none⟩) es.length es.length])∧Blk w' ge 44 (es.flatMap entC).toArray∧w.heap.size≤ge∧Below w.heap.size w w'
theorem table_any (g:Nat) (u x q:Int) (es:List (Int × Int)) (w:World) (h:IsL w g u x es q) :
    Calls Tryz.prog 69 #[.pointer (some ⟨g,0,none⟩)] w (TablePost g u x q es w):=by
  obtain ⟨hok,ge,d,mv,hlt,hg,he,hm⟩:=h
  have c0:=hg.cell 0
  have c1:=hg.cell 1
  have c2:=hg.cell 2
  simp at c0 c1 c2
  have hgl:=hg.lt
  have hp:=okT_pre hok
  have hents:Ents w w.heap.size (.slice (some ⟨ge,0,none⟩) es.length es.length) es:=he.ents (Nat.le_refl _) (by omega) he.lt
  have HEN:=Lib.hid hents
  obtain ⟨hp1,hp2,hp3⟩:=hp
  clear hg he hm hok hents hp1
  go_enter Tryz.func69,Tryz.ntmps69
  go_wp2_with fail
  have hb0:Below w.heap.size w (w.alloc (.cells #[.int .i64 0,.int .i64 0,.slice none 0 0] 24)):=(by repeat (first | exact Below.refl _ _ | assumption | refine below_al ?_ _ | refine below_dr ?_ | refine below_drN ?_ _ | refine below_set ?_ (by simp;try omega) _ | (refine below_to ?_ (by assumption))))
  refine (own_any _ es u x _ ((HEN.out.below hb0).mono (by simp)) hp3).mono ?_
  rintro e w2 ⟨gf,rfl,hbk,hgf,hb2⟩
  have bk:=(Blk.new w 24 #[.int .i64 0,.int .i64 0,.slice none 0 0]).below hb2 (by simp)
  have d0:=bk.cell 0
  have d1:=bk.cell 1
  have d2:=bk.cell 2
  have f0:=bk.frozen 0
  have f1:=bk.frozen 1
  have f2:=bk.frozen 2
  simp at d0 d1 d2
  have HBK:=Lib.hid hbk
  have HB:=Lib.hid (below_to hb0 hb2)
  simp only [World.size_alloc] at hgf
  have hgf2:¬ gf=w.heap.size:=by omega
  clear bk hbk hb2 hb0 c0 c1 c2 hp2 hp3
  go_wp2
  refine bodyPost_ret (v:=?_) (by simp [results,Tryz.results69,go_sem, *];rfl) rfl ⟨gf,rfl,?_,by omega,?_⟩
  · exact ((HBK.out.far (p:=⟨_,0,none⟩) (by simp;omega) _).far (p:=⟨_,1,none⟩) (by simp;omega) _).far (p:=⟨_,2,none⟩) (by simp;omega) _
  · have:=HB.out
    exact (by repeat (first | exact Below.refl _ _ | assumption | refine below_al ?_ _ | refine below_dr ?_ | refine below_drN ?_ _ | refine below_set ?_ (by simp;try omega) _ | (refine below_to ?_ (by assumption))))
end Go.Proofs.YtailjojebdmnnaaGreat
namespace Go.Proofs.YtailjojebdmnnaaGreat
open Go.RowKit
abbrev leT:List TypeId:=[78,44,104]
def IsLx (w:World) (g:Nat) (u x:Int) (es:List (Int × Int)):Prop:=∃ q,IsL w g u x es q
theorem ownsRow_keep {w w':World} {B:Nat} {T:TypeId} {k n:Nat} {v:Value} {cs:List Value} (h:w.ownsRow B T k v n cs) (hk:∀ (b:Nat) (cur:Array Value),w.heap[b]? = some (Obj.cells cur T (0,0))→w'.heap[b]? = w.heap[b]?):w'.ownsRow B T k v n cs:=by
  refine ⟨h.1,?_⟩
  rcases h.2 with h2 | ⟨g,cap,cur,rfl,hB,hh,r⟩
  · exact .inl h2
  · exact .inr ⟨g,cap,cur,rfl,hB,by rw [hk g cur hh];exact hh,r⟩
theorem IsL.keepT {w w':World} {g:Nat} {u x q:Int} {es:List (Int × Int)} (h:IsL w g u x es q) (hg:w'.heap[g]? = w.heap[g]?) (hk:KeepT leT (some g) w w'):IsL w' g u x es q:=by
  obtain ⟨hok,ge,d,mv,hne,hb,he,hm⟩:=h
  unfold Blk at hb he
  refine ⟨hok,ge,d,mv,hne,by unfold Blk;rw [hg];exact hb,by unfold Blk;rw [hk ge _ _ _ he rfl (by simp;exact hne)];exact he,?_⟩
  rcases hm with hm | ⟨hd,hm⟩
  · exact .inl hm
  · refine .inr ⟨hd,ownsRow_keep hm (fun b cur hb'=>hk b _ _ _ hb' rfl (fun e=>?_))⟩
    obtain rfl:=Option.some.inj e
    rw [hb] at hb'
    simp at hb'
theorem IsLx.keepT {w w':World} {g:Nat} {u x:Int} {es:List (Int × Int)} (h:IsLx w g u x es) (hg:w'.heap[g]? = w.heap[g]?) (hk:KeepT leT (some g) w w'):IsLx w' g u x es:=by
 obtain ⟨q,h⟩:=h
 exact ⟨q,h.keepT hg hk⟩
theorem IsLx.lt {w:World} {g:Nat} {u x:Int} {es:List (Int × Int)} (h:IsLx w g u x es):g < w.heap.size:=by
 obtain ⟨q,_,_,_,_,_,hg,_⟩:=h;exact hg.lt
theorem St.startL (w:World) {g:Nat} {u x:Int} {es:List (Int × Int)} (h:IsLx w g u x es):St w (some g) (some g) w (mem []) (fun _=>True) (fun w=>IsLx w g u x es):=
 ⟨⟨rfl,rfl,rfl,Nat.le_refl _,fun _ _ _=>rfl⟩,fun m m' e e' h=>(by simp [mem] at h),fun m e h=>(by simp [mem] at h),fun k hk=>(by obtain rfl:=Option.some.inj hk;exact ⟨h.lt,fun m e hm=>by simp [mem] at hm,.inr rfl⟩),fun _ _=>trivial,fun w' ha=>h.keepT (ha.2 g h.lt (fun m e hm=>by simp [mem] at hm) (by simp)) (fun b cur T fz hb _ _=>ha.2 b (lt_of_some hb) (fun m e hm=>by simp [mem] at hm) (by simp))⟩
section
variable {R:Reg} {Q:Exit→Act→World→Prop} {i:Nat} {o:Oper} {P:Program}
def LeapC (P:Program) (f:FuncId) (vs:List Value) (w:World) (g:Nat) (u x:Int) (es:List (Int × Int)) (v:Value):Prop:=Calls P f vs.toArray w fun e w'=>e = .returned v∧IsLx w' g u x es∧w.grownBy w' (some g)
theorem s_leap {V:Env→Value} {f:FuncId} {fn:Func} {ps:Array Operand} {ts:Array TypeId} (hfn:P.funcs[f]? = some fn) {g:Nat} {u x:Int} {es:List (Int × Int)} (hΘ:∀ w,R.Θ w→IsLx w g u x es) (hΘ':∀ w,IsLx w g u x es→R.Θ w) (ho:R.ops[i]? = some o:=by rfl) (hf:free' R i=true:=by rfl) (hop:o.op = .call { callee:=.value (.func f),args:=ps,argTypes:=ts }:=by rfl) (hname:(fn.name == "runtime.NumGoroutine")=false:=by kernel_rfl) (hb:fn.body.isSome=true:=by rfl) (hV:R.v? i=some V:=by rfl)
    (hw:∀ D env a w,At R i D env a w→Region.wanted o (yielded R.ops a.tmps)=true:=by intro D env a w hA;first | exact wanted_none rfl _ | exact hA.gy rfl rfl rfl) (hx:R.ex=some g:=by rfl) (hth:R.th=none:=by rfl) (hT:tFree leT R=true:=by rfl) (hn:noF R i=true:=by rfl) (hr:∀ env x,V (restr (R.cl.getD i []) (upd env i x))=V env:=by intros;rfl)
    (h:∀ D env a w,At R i D env a w→IsLx w g u x es→∃ vs:List Value,LeapC P f vs w g u x es (V env)∧ps.toList.map (opAt R i env)=vs.map some):SR P Q R i:=
  s_callx ho hf hop hfn hname hb (fun {D env a w} hA=>by
    have hL:IsLx w g u x es:=hΘ w (by have:=hA.j.st.nowT;unfold Reg.tht at this;rw [hth] at this;exact this)
    obtain ⟨vs,h1,h2⟩:=h D env a w hA hL
    refine ⟨hw _ _ _ _ hA,vs.toArray,hA.args h2,h1.mono ?_⟩
    rintro e w' ⟨rfl,hL',hg⟩
    refine ⟨_,rfl,?_,fun w'' _=>f_val hA.ok ho hV hn hr _ w''⟩
    refine hA.j.st.callg hx hg (fun w'' ha=>?_)
    have hst':=hA.j.st.callg hx hg (Θ':=fun _=>True) (fun _ _=>trivial)
    unfold Reg.tht
    rw [hth]
    refine hΘ' w'' (hL'.keepT ?_ ?_)
    · obtain ⟨k1,k2,_⟩:=hst'.exb g hx
      exact ha.2 g k1 (fun m e hm=>k2 m e hm) (by simp)
    · have:=apart_keepT (Ts:=leT) hT hst' (.inr rfl) ha
      rw [hx] at this
      exact this)
end
def NewL (w:World) (v:Value) (u x:Int) (es:List (Int × Int)) (B:Nat):Prop:=v = .tuple #[vP (ptrB (tp v 0)) 0,vI 0]∧IsLx w (ptrB (tp v 0)) u x es∧B≤ptrB (tp v 0)
theorem Cur.exInL {n:Nat} {w0:World} {Θ:World→Prop} {L:Slots} {M:List Ent} {a:Act} {w:World} {v:Value} {u x:Int} {es:List (Int × Int)} (h:Cur n w0 none none (Facts [fun w=>NewL w v u x es w0.heap.size]) Θ L M a w):Cur n w0 none (some (ptrB (tp v 0))) (Facts []) (fun w=>IsLx w (ptrB (tp v 0)) u x es) L M a w:=by
  have hN:=fun w' (ha:Apart (mem M) none w w')=>(show NewL w' v u x es w0.heap.size from (h.st.psi w' ha).get 0 rfl)
  have h0:=hN w (Apart.refl _ _ _)
  refine ⟨h.sz,h.df,⟨h.st.gr,h.st.nod,h.st.own,fun g' hg'=>?_,fun _ _ φ hφ=>(by cases hφ),fun w' ha=>(hN w' ha).2.1⟩,h.sl⟩
  obtain rfl:=Option.some.inj hg'
  refine ⟨h0.2.1.lt,fun m e hm he=>?_,.inl h0.2.2⟩
  have hlt:=h0.2.1.lt
  have h3:=(hN { w with heap:=w.heap.setIfInBounds (ptrB (tp v 0)) (.map #[] 0) } ⟨by simp,fun k hk hM _=>by
    show (w.heap.setIfInBounds _ _)[k]? = _
    rw [Array.getElem?_setIfInBounds_ne (fun e'=>hM m e hm (by rw [he,e']))]⟩).2.1
  obtain ⟨q,_,ge,d,mv,_,hb,_⟩:=h3
  unfold Blk at hb
  rw [show ({ w with heap:=w.heap.setIfInBounds (ptrB (tp v 0)) (.map #[] 0) }:World).heap=w.heap.setIfInBounds (ptrB (tp v 0)) (.map #[] 0) from rfl,Array.getElem?_setIfInBounds_self_of_lt hlt] at hb
  cases hb
end Go.Proofs.YtailjojebdmnnaaGreat
namespace Go.Proofs.YtailjojebdmnnaaGreat
open Go.RowKit
attribute [local go_sem] vN bT bF rS vW vM vL vT2 vT3 vP vI execOp Act.eval evC bigF vB hi_zero lo_zero
theorem uin_any (n:Int):Ret 94 #[vI n] (.bool (wthn n (-1099511627776) 1099511627776)):=by
 intro w0
 have hst:=St.start w0 (Θ:=fun _=>True) (fun _ _=>trivial)
 refine en_ Tryz.func94 hst 9 [(0,vI n)] (fun ac H_=>?_)
 refine gq0 H_ 0 [[0]] [_] (s:=mv3) (k:=fun E1 ac wd H_=>?_)
 by_cases h:-1099511627776≤n
 refine gq1 H_ 6 (tri 7) [_,bT,_,_,K_ (.bool (decide (n≤1099511627776))),K_ (.bool (decide (n≤1099511627776))),_] (fun _=>[(2,.bool (decide (n≤1099511627776)))]) (s:=⟨mv3,bi3 (h:=by intro env w;simp [go_sem,h]),mv3,gm3,bi3,pk3,mv3⟩) (k:=fun E2 ac wd H_=>?_)
 refine lvT3 Tryz.results94 H_ ?_
 exact ⟨by simp [wthn,h],H_.st.below⟩
 refine gq1 H_ 6 (tri 7) [_,bF,_,_,_,bF,_] (fun _=>[(2,bF)]) (s:=⟨mv3,bi3 (h:=by intro env w;simp [go_sem,h]),mv3,off_,off_,pk3,mv3⟩) (k:=fun E2 ac wd H_=>?_)
 refine lvT3 Tryz.results94 H_ ?_
 exact ⟨by simp [wthn,h],H_.st.below⟩
theorem fit_tup {z:Int} (h:InW z):vT2 (vW (fitV z)) (vI (fitE z))=vT2 (vW z) (vI 0):=by rw [(fit_yes h).1,(fit_yes h).2]
theorem floor_dm (n:Int):∃ q m,n.tdiv 86400=q∧n.tmod 86400=m ∧ -86400 < m∧m < 86400∧n=86400*q+m∧(0≤n→0≤m)∧(n≤0→m≤0):=by
  refine ⟨_,_,rfl,rfl,?_,?_,(Int.mul_tdiv_add_tmod n 86400).symm,fun h=>Int.tmod_nonneg 86400 h,fun h=>?_⟩
  · rcases Int.le_total 0 n with h | h
    · have:=Int.tmod_nonneg 86400 h;omega
    · have h1:n = -(-n):=by omega
      rw [h1,Int.neg_tmod]
      have:=Int.tmod_lt_of_pos (-n) (b:=86400) (by omega)
      omega
  · exact Int.tmod_lt_of_pos n (by omega)
  · have h1:n = -(-n):=by omega
    rw [h1,Int.neg_tmod]
    have:=Int.tmod_nonneg 86400 (a:=-n) (by omega)
    omega
theorem ufloor_any (n:Int) (h0:-9223372036854775808≤n) (h1:n < 9223372036854775808):Ret 93 #[vI n,vI 86400] (vI (n / 86400)):=by
 obtain ⟨q,m,hq,hm,m0,m1,e,m2,m3⟩:=floor_dm n
 intro w0
 have hst:=St.start w0 (Θ:=fun _=>True) (fun _ _=>trivial)
 refine en_ Tryz.func93 hst 16 [(0,vI n),(1,vI 86400)] (fun ac H_=>?_)
 refine gq0 H_ 0 [[0]] [_] (s:=mv3) (k:=fun E1 ac wd H_=>?_)
 refine gq1 H_ 3 [[0],[1],[0,1,2],r_ 4] [_,_,vI q,_] (fun _=>[(5,vI q)]) (s:=⟨mv3,mv3,bi3 (h:=by intro env w;(first | (simp [go_sem,hq];done) | (simp [go_sem,hq];exact IntWalk.i64_in _ (by omega)))),mv3⟩) (k:=fun E2 ac wd H_=>?_)
 by_cases hm0:m < 0
 refine gq1 H_ 3 [[0],[1],[0,1,2],r_ 4] [_,_,vI m,bT] (fun _=>[(12,bT)]) (s:=⟨mv3,mv3,bi3 (h:=by intro env w;(first | (simp [go_sem,hm];done) | (simp [go_sem,hm];exact IntWalk.i64_in _ (by omega)))),bi3 (h:=by intro env w;simp [go_sem,hm0];first | done | omega)⟩) (k:=fun E3 ac wd H_=>?_)
 refine cT3 H_ ?_
 refine gq1 H_ 2 (tri 3) [_,vI (q-1),_] (fun _=>[(5,vI (q-1))]) (s:=⟨mv3,bi3,mv3⟩) (k:=fun E4 ac wd H_=>?_)
 refine gq1 H_ 1 [[0],[0,1]] [_,_] (fun _=>[(4,vI (q-1))]) (s:=⟨mv3,mv3⟩) (k:=fun E5 ac wd H_=>?_)
 refine lvT3 Tryz.results93 H_ ?_
 have e:n / 86400=q-1:=by omega
 exact ⟨by rw [e],H_.st.below⟩
 refine gq1 H_ 3 [[0],[1],[0,1,2],r_ 4] [_,_,vI m,bF] (fun _=>[(12,bF)]) (s:=⟨mv3,mv3,bi3 (h:=by intro env w;(first | (simp [go_sem,hm];done) | (simp [go_sem,hm];exact IntWalk.i64_in _ (by omega)))),bi3 (h:=by intro env w;simp [go_sem,hm0];first | done | omega)⟩) (k:=fun E3 ac wd H_=>?_)
 refine cF3 H_ ?_
 refine gq1 H_ 1 [[0],[0,1]] [_,_] (fun _=>[(4,vI q)]) (s:=⟨mv3,mv3⟩) (k:=fun E4 ac wd H_=>?_)
 refine lvT3 Tryz.results93 H_ ?_
 have e:n / 86400=q:=by omega
 exact ⟨by rw [e],H_.st.below⟩
end Go.Proofs.YtailjojebdmnnaaGreat
namespace Go.Proofs.YtailjojebdmnnaaGreat
open Go.RowKit
theorem IsLx.ok {w:World} {g:Nat} {u x:Int} {es:List (Int × Int)} (h:IsLx w g u x es):okT u x es=true:=by obtain ⟨q,hok,_⟩:=h;exact hok
theorem LeapC.eq {P:Program} {f:FuncId} {vs:List Value} {w:World} {g:Nat} {u x:Int} {es:List (Int × Int)} {v v':Value} (h:LeapC P f vs w g u x es v) (e:v=v'):LeapC P f vs w g u x es v':=e▸h
section
variable {w:World} {g:Nat} {u x:Int} {es:List (Int × Int)}
theorem offset_l (h:IsLx w g u x es) (day:Int):LeapC Tryz.prog 54 [vP g 0,vI day] w g u x es (vT2 (vI (offV es day)) (vI (offE es day))):=by
 obtain ⟨q,h⟩:=h
 exact (offset_any g u x q day es w h).mono (fun e w' h=>⟨h.1,⟨_,h.2.1⟩,h.2.2⟩)
theorem at_l (h:IsLx w g u x es) (s:Int):LeapC Tryz.prog 60 [vP g 0,vI s] w g u x es (vT3 (vI (atV es s)) (vI (atU es s)) (vI (atE es s))):=by
 obtain ⟨q,h⟩:=h
 exact (at_any g u x q s es w h).mono (fun e w' h=>⟨h.1,⟨_,h.2.1⟩,h.2.2⟩)
end
theorem u_res_eq {P:Program} {f:FuncId} {args:Array Value} {w0:World} {v v':Value} (h:Calls P f args w0 fun e w'=>e = .returned v∧Below w0.heap.size w0 w') (e:v=v'):Calls P f args w0 fun e w'=>e = .returned v'∧Below w0.heap.size w0 w':=by subst e;exact h
def whyU (es:List (Int × Int)) (d s a:Int):Int:=if formB s a=false then 1 else if wthn d (-1099511627776) 1099511627776=false then 2 else if d < day0 es then 8 else if 86400+chgV es d≤s then 6 else 0
def taiU (es:List (Int × Int)) (d s a:Int):Int:=if whyU es d s a=0 then (d*86400+s+offV es d)*1000000000000000000+a else 0
def labR (es:List (Int × Int)) (z s r o U:Int):Int × Int × Int × Int:=
 if s < -9223372036854775808∨9223372036854775808≤s then (if z < 0 then (8,0,0,0) else (2,0,0,0))
 else if cnt startOf es s=0 then (8,0,0,0)
 else if U≤(s-o) / 86400 then (if wthn (U-1) (-1099511627776) 1099511627776=true then (0,U-1,s-o-(s-o) / 86400*86400+86400,r) else (2,0,0,0))
 else if wthn ((s-o) / 86400) (-1099511627776) 1099511627776=true then (0,(s-o) / 86400,s-o-(s-o) / 86400*86400,r) else (2,0,0,0)
def labUt (es:List (Int × Int)) (z:Int):Int × Int × Int × Int:=labR es z (z / 1000000000000000000) (z % 1000000000000000000) (atV es (z / 1000000000000000000)) (atU es (z / 1000000000000000000))
theorem at_no {es:List (Int × Int)} {s:Int} (h:cnt startOf es s=0):vT3 (vI (atV es s)) (vI (atU es s)) (vI (atE es s))=vT3 (vI 0) (vI 0) (vI 8):=by unfold atV atU atE;rw [if_pos h,if_pos h,if_pos h]
theorem at_yes {es:List (Int × Int)} {s o U:Int} (h:¬ cnt startOf es s=0) (ho:atV es s=o) (hU:atU es s=U):vT3 (vI (atV es s)) (vI (atU es s)) (vI (atE es s))=vT3 (vI o) (vI U) (vI 0):=by rw [ho,hU];unfold atE;rw [if_neg h]
theorem div_eq3 {a b c d:Int} (h1:a=c) (h2:b=d):vT3 (vW a) (vW b) (vI 0)=vT3 (vW c) (vW d) (vI 0):=by rw [h1,h2]
theorem whyU_ok {es:List (Int × Int)} {d s a:Int} (h:whyU es d s a=0):0≤s∧s≤86400∧0≤a∧a < 1000000000000000000 ∧ -1099511627776≤d∧d≤1099511627776∧day0 es≤d∧s < 86400+chgV es d:=by
  unfold whyU at h
  split at h
  · omega
  split at h
  · omega
  split at h
  · omega
  split at h
  · omega
  rename_i h1 h2 h3 h4
  simp [formB,wthn] at h1 h2
  omega
theorem u_off_bd {es:List (Int × Int)} (h:okPre es es.length=true) (d:Int):0≤offV es d∧offV es d≤1000:=by
  unfold offV
  split
  · omega
  · have h1:=cnt_le dayOf es d
    have:=okPre_num h (i:=cnt dayOf es d-1) (by omega)
    omega
theorem at_bd {es:List (Int × Int)} (h:okPre es es.length=true) {s:Int} (hc:¬ cnt startOf es s=0):0≤atV es s∧atV es s≤1000∧15000≤atU es s∧atU es s≤4611686018427387904:=by
  have h1:=cnt_le startOf es s
  have h2:=okPre_num h (i:=cnt startOf es s-1) (by omega)
  unfold atV atU
  rw [if_neg hc,if_neg hc]
  refine ⟨by omega,by omega,?_⟩
  split
  · omega
  · have h3:=okPre_num h (i:=cnt startOf es s) (by omega)
    unfold dayOf
    omega
end Go.Proofs.YtailjojebdmnnaaGreat
namespace Go.Proofs.YtailjojebdmnnaaGreat
open Go.RowKit
attribute [local go_sem] vN bT bF rS vW vM vL vT2 vT3 vP vI execOp Act.eval evC bigF vB hi_zero lo_zero Tryz.underlying27 Tryz.underlying39
theorem at_ge {es:List (Int × Int)} (h:okPre es es.length=true) {s:Int} (hc:¬ cnt startOf es s=0):1000000000≤s:=by
  have h1:=cnt_le startOf es s
  have h2:=okPre_num h (i:=0) (by omega)
  have h3:startOf (es.getD 0 (0,0))≤s:=by
    refine Int.not_lt.1 fun hlt=>hc ?_
    unfold cnt
    rw [List.countP_eq_zero]
    intro i hi
    have hi':=List.mem_range.1 hi
    have:=(day_le h (a:=0) (b:=i) (by omega) hi').2
    simp only [Bool.not_eq_true',decide_eq_true_eq,Bool.not_eq_true,Bool.not_eq_false']
    simp
    simp only [List.getD_eq_getElem?_getD] at *
    omega
  unfold startOf dayOf at h3
  omega
theorem ulabel_core (w0:World) (g:Nat) (u x:Int) (es:List (Int × Int)) (hL:IsLx w0 g u x es) (z:Int) (hz:InW z) (s r o U:Int) (hs:z / 1000000000000000000=s) (hr:z % 1000000000000000000=r) (ho:atV es s=o) (hU:atU es s=U):LeapC Tryz.prog 61 [vP g 0,vW z] w0 g u x es (vT2 (vL ((labR es z s r o U).2.1) ((labR es z s r o U).2.2.1) ((labR es z s r o U).2.2.2)) (vI ((labR es z s r o U).1))):=by
 unfold LeapC
 have hsw:InW s:=by unfold InW at *;omega
 have hr0:0≤r:=by omega
 have hr1:r < 1000000000000000000:=by omega
 have hst:=St.startL w0 hL
 refine en_ Tryz.func61 hst 85 [(0,vP g 0),(1,vW z)] (fun ac H_=>?_)
 refine gq H_ 2 [[0],[1],[2]] [_,_,_] (fun E1=>[(3,vP (pb E1 0) 0),(4,vP (pb E1 1) 0)]) (W:=[{ i:=0,T:=27,c0:=[vI (hi (z)),.int .u64 (lo (z))] },{ i:=1,T:=39,c0:=[vI 0,vI 0,vI 0] }]) (s:=⟨bx3 0,al_ 1,mv3⟩) (k:=fun E1 ac wd H_=>?_)
 refine gq1 H_ 1 [[0],[0,1]] [_,bF] (fun _=>[(18,bF)]) (s:=⟨mv3,bi3⟩) (k:=fun E2 ac wd H_=>?_)
 refine cF3 H_ ?_
 refine gq H_ 11 [[0],[1],[0,1,2],r_ 4,r_ 5,[0,1,2,3,5],[0,1,2,3,6],[7],[8],[0,1,2,3,4,7,8,9],r_ 6++[7,8,9,10],r_ 12] [_,_,_,_,_,_,_,_,_,none,none,_] (fun E3=>[(6,vP (pb E3 7) 0),(7,vP (pb E3 8) 0)]) (W:=[{ i:=7,T:=27,c0:=[vI 0,.int .u64 0],s:=some 9,c1:=fun _=>[vI (hi (s)),.int .u64 (lo (s))] },{ i:=8,T:=27,c0:=[vI 0,.int .u64 0],s:=some 10,c1:=fun _=>[vI (hi (r)),.int .u64 (lo (r))] }]) (s:=⟨ld3b 0 sh27,cl3 Tryz.func31 ((of_any 1000000000000000000 (by omega) (by omega))),cl3 Tryz.func82 ((Ret.eq (wdiv_any z 1000000000000000000 hz (by unfold InW;omega) (by omega)) (div_eq3 hs hr))),mv3,xt3,xt3,xt3,al_ 2,al_ 3,sw3 2 7 sh27,sw3 3 8 sh27,mv3⟩) (k:=fun E3 ac wd H_=>?_)
 by_cases h64:s < -9223372036854775808∨9223372036854775808≤s
 refine gq1 H_ 6 (tri 4++[[0,1,2,4],[0,1,2,3,5],r_ 7]) [_,_,_,_,_,_,_] (fun _=>[(9,vI 0),(10,vI 2)]) (s:=⟨ld3b 2 sh27,cl3 Tryz.func83 ((wint_no s hsw h64)),mv3,xt3,xt3,mv3,mv3⟩) (k:=fun E4 ac wd H_=>?_)
 by_cases hz0:z < 0
 refine gq1 H_ 7 (tri 8) [_,bT,_,_,_,bT,bT,_] (fun _=>[(32,bT)]) (s:=⟨mv3,bi3,mv3,fa3 0,ld31 0 sh2,bi3 (h:=by intro env w;simp [go_sem,hi_neg,hz0]),pk3 (h:=by intro env w;simp [go_sem,hi_neg,hz0]),mv3⟩) (k:=fun E5 ac wd H_=>?_)
 refine cT3 H_ ?_
 refine gq H_ 2 (tri 3) [vL 0 0 0,none,_] (fun _=>[(5,vI 8)]) (S:=[⟨1,1,fun _=>[vI 0,vI 0,vI 0]⟩]) (s:=⟨bd30,se3 1 sh39,mv3⟩) (k:=fun E6 ac wd H_=>?_)
 refine lvCT3 (v:=vL 0 0 0) Tryz.results61 H_ 1 (loadGc sh39 rfl ⟨rfl,rfl,rfl,trivial⟩) ?_
 have e:labR es z s r o U=(8,0,0,0):=by unfold labR;rw [if_pos h64,if_pos hz0]
 exact ⟨by rw [e],H_.st.nowT,H_.st.gr⟩
 refine gq1 H_ 7 (tri 8) [_,bT,_,_,_,bF,bF,_] (fun _=>[(32,bF)]) (s:=⟨mv3,bi3,mv3,fa3 0,ld31 0 sh2,bi3 (h:=by intro env w;simp [go_sem,hi_neg,hz0]),pk3 (h:=by intro env w;simp [go_sem,hi_neg,hz0]),mv3⟩) (k:=fun E5 ac wd H_=>?_)
 refine cF3 H_ ?_
 refine gq1 H_ 2 (tri 3) [_,bT,_] (fun _=>[(41,bT)]) (s:=⟨mv3,bi3,mv3⟩) (k:=fun E6 ac wd H_=>?_)
 refine cT3 H_ ?_
 refine gq H_ 2 (tri 3) [vL 0 0 0,none,_] (fun _=>[(5,vI 2)]) (S:=[⟨1,1,fun _=>[vI 0,vI 0,vI 0]⟩]) (s:=⟨bd30,se3 1 sh39,mv3⟩) (k:=fun E7 ac wd H_=>?_)
 refine lvCT3 (v:=vL 0 0 0) Tryz.results61 H_ 1 (loadGc sh39 rfl ⟨rfl,rfl,rfl,trivial⟩) ?_
 have e:labR es z s r o U=(2,0,0,0):=by unfold labR;rw [if_pos h64,if_neg hz0]
 exact ⟨by rw [e],H_.st.nowT,H_.st.gr⟩
 refine gq1 H_ 6 (tri 4++[[0,1,2,4],[0,1,2,3,5],r_ 7]) [_,_,_,_,_,_,_] (fun _=>[(9,vI s),(10,vI 0)]) (s:=⟨ld3b 2 sh27,cl3 Tryz.func83 ((wint_yes s (by omega) (by omega))),mv3,xt3,xt3,mv3,mv3⟩) (k:=fun E4 ac wd H_=>?_)
 refine gq1 H_ 7 (tri 8) [_,bF,_,_,_,_,bF,_] (fun _=>[(32,bF)]) (s:=⟨mv3,bi3,mv3,off_,off_,off_,pk3,mv3⟩) (k:=fun E5 ac wd H_=>?_)
 refine cF3 H_ ?_
 refine gq1 H_ 2 (tri 3) [_,bF,_] (fun _=>[(41,bF)]) (s:=⟨mv3,bi3,mv3⟩) (k:=fun E6 ac wd H_=>?_)
 refine cF3 H_ ?_
 by_cases hc:cnt startOf es s=0
 refine gq1 H_ 9 [[0],[1],[0,1,2],r_ 4,r_ 5,[0,1,2,3,5],[0,1,2,3,6],[0,1,2,3,4,7],r_ 6++[7,8],r_ 10] [_,_,vT3 (vI 0) (vI 0) (vI 8),_,_,_,_,_,_,_] (fun _=>[(10,vI 8),(11,vI 0),(12,vI 0)]) (s:=⟨mv3,mv3,s_leap (g:=g) (u:=u) (x:=x) (es:=es) Tryz.func60 (fun _ h=>h) (fun _ h=>h) (h:=fun D env ac wd hA hL=>⟨_,LeapC.eq (at_l hL s) (at_no hc),rfl⟩),mv3,xt3,xt3,xt3,mv3,mv3,mv3⟩) (k:=fun E7 ac wd H_=>?_)
 refine gq1 H_ 1 [[0],[0,1]] [_,bT] (fun _=>[(53,bT)]) (s:=⟨mv3,bi3⟩) (k:=fun E8 ac wd H_=>?_)
 refine cT3 H_ ?_
 refine gq H_ 3 [[0],[1],[0,2],r_ 4] [vL 0 0 0,_,none,_] (fun _=>[(5,vI 8)]) (S:=[⟨1,2,fun _=>[vI 0,vI 0,vI 0]⟩]) (s:=⟨bd30,mv3,se3 1 sh39,mv3⟩) (k:=fun E9 ac wd H_=>?_)
 refine lvCT3 (v:=vL 0 0 0) Tryz.results61 H_ 1 (loadGc sh39 rfl ⟨rfl,rfl,rfl,trivial⟩) ?_
 have e:labR es z s r o U=(8,0,0,0):=by unfold labR;rw [if_neg h64,if_pos hc]
 exact ⟨by rw [e],H_.st.nowT,H_.st.gr⟩
 have hb:=at_bd (okT_pre hL.ok).1 hc;rw [ho,hU] at hb;obtain ⟨b0,b1,b2,b3⟩:=hb;have hs0:=at_ge (okT_pre hL.ok).1 hc
 refine gq1 H_ 9 [[0],[1],[0,1,2],r_ 4,r_ 5,[0,1,2,3,5],[0,1,2,3,6],[0,1,2,3,4,7],r_ 6++[7,8],r_ 10] [_,_,vT3 (vI o) (vI U) (vI 0),_,_,_,_,_,_,_] (fun _=>[(10,vI 0),(11,vI o),(12,vI U)]) (s:=⟨mv3,mv3,s_leap (g:=g) (u:=u) (x:=x) (es:=es) Tryz.func60 (fun _ h=>h) (fun _ h=>h) (h:=fun D env ac wd hA hL=>⟨_,LeapC.eq (at_l hL s) (at_yes hc ho hU),rfl⟩),mv3,xt3,xt3,xt3,mv3,mv3,mv3⟩) (k:=fun E7 ac wd H_=>?_)
 refine gq1 H_ 1 [[0],[0,1]] [_,bF] (fun _=>[(53,bF)]) (s:=⟨mv3,bi3⟩) (k:=fun E8 ac wd H_=>?_)
 refine cF3 H_ ?_
 refine gq1 H_ 3 [[0],[1],[0,1,2],r_ 4] [_,_,vI (s-o),_] (fun _=>[(9,vI (s-o))]) (s:=⟨mv3,mv3,bi3,mv3⟩) (k:=fun E9 ac wd H_=>?_)
 refine gq1 H_ 2 (tri 3) [_,_,_] (fun _=>[(13,vI ((s-o) / 86400))]) (s:=⟨mv3,cl3 Tryz.func93 ((ufloor_any (s-o) (by omega) (by omega))),mv3⟩) (k:=fun E10 ac wd H_=>?_)
 refine gq1 H_ 4 [[0],[1],[1,2],r_ 4,r_ 5] [_,_,vI (((s-o) / 86400)*86400),vI ((s-o)-(((s-o) / 86400)*86400)),_] (fun _=>[(14,vI ((s-o)-(((s-o) / 86400)*86400)))]) (s:=⟨mv3,mv3,bi3,bi3,mv3⟩) (k:=fun E11 ac wd H_=>?_)
 by_cases hq:U≤(s-o) / 86400
 refine gq1 H_ 2 [[0],[1],[0,1,2]] [_,_,bT] (fun _=>[(67,bT)]) (s:=⟨mv3,mv3,bi3 (h:=by intro env w;simp [go_sem,hq])⟩) (k:=fun E12 ac wd H_=>?_)
 refine cT3 H_ ?_
 refine gq1 H_ 5 [[0],[0,1],[2],[2,3],[0,1,4],r_ 6] [_,vI (U-1),_,vI (((s-o)-(((s-o) / 86400)*86400))+86400),_,_] (fun _=>[(13,vI (U-1)),(14,vI (((s-o)-(((s-o) / 86400)*86400))+86400))]) (s:=⟨mv3,bi3,mv3,bi3,mv3,mv3⟩) (k:=fun E13 ac wd H_=>?_)
 cases hin:wthn (U-1) (-1099511627776) 1099511627776
 refine gq1 H_ 2 (tri 3) [_,_,bT] (fun _=>[(74,bT)]) (s:=⟨mv3,cl3 Tryz.func94 (((uin_any (U-1)).eq (congrArg Value.bool hin))),un3⟩) (k:=fun E14 ac wd H_=>?_)
 refine cT3 H_ ?_
 refine gq H_ 2 (tri 3) [vL 0 0 0,none,_] (fun _=>[(5,vI 2)]) (S:=[⟨1,1,fun _=>[vI 0,vI 0,vI 0]⟩]) (s:=⟨bd30,se3 1 sh39,mv3⟩) (k:=fun E15 ac wd H_=>?_)
 refine lvCT3 (v:=vL 0 0 0) Tryz.results61 H_ 1 (loadGc sh39 rfl ⟨rfl,rfl,rfl,trivial⟩) ?_
 have e:labR es z s r o U=(2,0,0,0):=by unfold labR;rw [if_neg h64,if_neg hc,if_pos hq,if_neg (by rw [hin];exact Bool.false_ne_true)]
 exact ⟨by rw [e],H_.st.nowT,H_.st.gr⟩
 refine gq1 H_ 2 (tri 3) [_,_,bF] (fun _=>[(74,bF)]) (s:=⟨mv3,cl3 Tryz.func94 (((uin_any (U-1)).eq (congrArg Value.bool hin))),un3⟩) (k:=fun E14 ac wd H_=>?_)
 refine cF3 H_ ?_
 refine gq1 H_ 6 (tri 4++[[0,1,2,4],[0,1,2,3,5],r_ 7]) [_,_,_,_,_,_,_] (fun _=>[(15,vI r)]) (s:=⟨ld3b 3 sh27,cl3 Tryz.func83 ((wint_yes r (by omega) (by omega))),mv3,xt3,xt3,mv3,mv3⟩) (k:=fun E15 ac wd H_=>?_)
 refine gq H_ 5 [[0],[1],[2],r_ 4,r_ 5,r_ 6] [_,_,_,vL (U-1) (((s-o)-(((s-o) / 86400)*86400))+86400) r,none,_] (fun _=>[(5,vI 0)]) (S:=[⟨1,4,fun _=>[vI (U-1),vI (((s-o)-(((s-o) / 86400)*86400))+86400),vI r]⟩]) (s:=⟨mv3,mv3,mv3,bd33,se3 1 sh39,mv3⟩) (k:=fun E16 ac wd H_=>?_)
 refine lvCT3 (v:=vL (U-1) (((s-o)-(((s-o) / 86400)*86400))+86400) r) Tryz.results61 H_ 1 (loadGc sh39 rfl ⟨rfl,rfl,rfl,trivial⟩) ?_
 have e:labR es z s r o U=(0,U-1,((s-o)-(((s-o) / 86400)*86400))+86400,r):=by unfold labR;rw [if_neg h64,if_neg hc,if_pos hq,if_pos hin]
 exact ⟨by rw [e],H_.st.nowT,H_.st.gr⟩
 refine gq1 H_ 2 [[0],[1],[0,1,2]] [_,_,bF] (fun _=>[(67,bF)]) (s:=⟨mv3,mv3,bi3 (h:=by intro env w;simp [go_sem,hq])⟩) (k:=fun E12 ac wd H_=>?_)
 refine cF3 H_ ?_
 cases hin:wthn ((s-o) / 86400) (-1099511627776) 1099511627776
 refine gq1 H_ 2 (tri 3) [_,_,bT] (fun _=>[(74,bT)]) (s:=⟨mv3,cl3 Tryz.func94 (((uin_any ((s-o) / 86400)).eq (congrArg Value.bool hin))),un3⟩) (k:=fun E13 ac wd H_=>?_)
 refine cT3 H_ ?_
 refine gq H_ 2 (tri 3) [vL 0 0 0,none,_] (fun _=>[(5,vI 2)]) (S:=[⟨1,1,fun _=>[vI 0,vI 0,vI 0]⟩]) (s:=⟨bd30,se3 1 sh39,mv3⟩) (k:=fun E14 ac wd H_=>?_)
 refine lvCT3 (v:=vL 0 0 0) Tryz.results61 H_ 1 (loadGc sh39 rfl ⟨rfl,rfl,rfl,trivial⟩) ?_
 have e:labR es z s r o U=(2,0,0,0):=by unfold labR;rw [if_neg h64,if_neg hc,if_neg hq,if_neg (by rw [hin];exact Bool.false_ne_true)]
 exact ⟨by rw [e],H_.st.nowT,H_.st.gr⟩
 refine gq1 H_ 2 (tri 3) [_,_,bF] (fun _=>[(74,bF)]) (s:=⟨mv3,cl3 Tryz.func94 (((uin_any ((s-o) / 86400)).eq (congrArg Value.bool hin))),un3⟩) (k:=fun E13 ac wd H_=>?_)
 refine cF3 H_ ?_
 refine gq1 H_ 6 (tri 4++[[0,1,2,4],[0,1,2,3,5],r_ 7]) [_,_,_,_,_,_,_] (fun _=>[(15,vI r)]) (s:=⟨ld3b 3 sh27,cl3 Tryz.func83 ((wint_yes r (by omega) (by omega))),mv3,xt3,xt3,mv3,mv3⟩) (k:=fun E14 ac wd H_=>?_)
 refine gq H_ 5 [[0],[1],[2],r_ 4,r_ 5,r_ 6] [_,_,_,vL ((s-o) / 86400) ((s-o)-(((s-o) / 86400)*86400)) r,none,_] (fun _=>[(5,vI 0)]) (S:=[⟨1,4,fun _=>[vI ((s-o) / 86400),vI ((s-o)-(((s-o) / 86400)*86400)),vI r]⟩]) (s:=⟨mv3,mv3,mv3,bd33,se3 1 sh39,mv3⟩) (k:=fun E15 ac wd H_=>?_)
 refine lvCT3 (v:=vL ((s-o) / 86400) ((s-o)-(((s-o) / 86400)*86400)) r) Tryz.results61 H_ 1 (loadGc sh39 rfl ⟨rfl,rfl,rfl,trivial⟩) ?_
 have e:labR es z s r o U=(0,(s-o) / 86400,(s-o)-(((s-o) / 86400)*86400),r):=by unfold labR;rw [if_neg h64,if_neg hc,if_neg hq,if_pos hin]
 exact ⟨by rw [e],H_.st.nowT,H_.st.gr⟩
theorem ulabel_l (w0:World) (g:Nat) (u x:Int) (es:List (Int × Int)) (hL:IsLx w0 g u x es) (z:Int) (hz:InW z):LeapC Tryz.prog 61 [vP g 0,vW z] w0 g u x es (vT2 (vL (labUt es z).2.1 (labUt es z).2.2.1 (labUt es z).2.2.2) (vI (labUt es z).1)):=ulabel_core w0 g u x es hL z hz _ _ _ _ rfl rfl rfl rfl
end Go.Proofs.YtailjojebdmnnaaGreat
namespace Go.Proofs.YtailjojebdmnnaaGreat
open Go.RowKit
theorem mono_cnt (p:Nat→Bool):∀ n:Nat,(∀ a b,a≤b→b < n→p a=true→p b=true)→∀ i,i < n→(p i=false↔i < (List.range n).countP (fun i=>!p i))
  | 0,_,i,hi=>absurd hi (Nat.not_lt_zero _)
  | n+1,hm,i,hi=>by
    have hle:(List.range n).countP (fun i=>!p i)≤n:=by have:=List.countP_le_length (l:=List.range n) (p:=fun i=>!p i);simpa using this
    rw [List.range_succ,List.countP_append,List.countP_singleton]
    have ih:=mono_cnt p n (fun a b h1 h2 h3=>hm a b h1 (by omega) h3)
    cases hn:p n with
    | true =>
      simp only [Bool.not_true,Bool.false_eq_true,if_false,Nat.add_zero]
      by_cases h:i < n
      · exact ih i h
      · obtain rfl:i=n:=by omega
        rw [hn];simp;omega
    | false =>
      simp only [Bool.not_false,if_true]
      have hall:∀ j,j < n→p j=false:=fun j hj=>by
        cases h:p j with
        | false=>rfl
        | true=>have:=hm j n (by omega) (by omega) h;rw [hn] at this;cases this
      have hc:(List.range n).countP (fun i=>!p i)=n:=by
        rw [List.countP_eq_length.2 (fun a ha=>by rw [hall a (by simpa using ha)];rfl)];simp
      rw [hc]
      by_cases h:i < n
      · rw [hall i h];simp;omega
      · obtain rfl:i=n:=by omega
        rw [hn];simp
theorem cnt_day {es:List (Int × Int)} (h:okPre es es.length=true) (d:Int) {i:Nat} (hi:i < es.length):dayOf (es.getD i (0,0))≤d↔i < cnt dayOf es d:=by
 have:=mono_cnt (fun i=>decide (d < dayOf (es.getD i (0,0)))) es.length (fun a b hab hb hh=>by have:=(day_le h hab hb).1;simp only [decide_eq_true_eq] at hh ⊢;omega) i hi
 simp only [decide_eq_false_iff_not] at this
 unfold cnt;rw [← this];omega
theorem cnt_start {es:List (Int × Int)} (h:okPre es es.length=true) (d:Int) {i:Nat} (hi:i < es.length):startOf (es.getD i (0,0))≤d↔i < cnt startOf es d:=by
 have:=mono_cnt (fun i=>decide (d < startOf (es.getD i (0,0)))) es.length (fun a b hab hb hh=>by have:=(day_le h hab hb).2;simp only [decide_eq_true_eq] at hh ⊢;omega) i hi
 simp only [decide_eq_false_iff_not] at this
 unfold cnt;rw [← this];omega
theorem cnt_chg {es:List (Int × Int)} (h:okPre es es.length=true) (d:Int) {i:Nat} (hi:i < es.length):dayOf (es.getD i (0,0))-1 < d↔i < cntC es d:=by
 have:=mono_cnt (fun i=>decide (d≤dayOf (es.getD i (0,0))-1)) es.length (fun a b hab hb hh=>by have:=(day_le h hab hb).1;simp only [decide_eq_true_eq] at hh ⊢;omega) i hi
 simp only [decide_eq_false_iff_not] at this
 unfold cntC;rw [← this];omega
theorem chg_found {es:List (Int × Int)} (h:okPre es es.length=true) (d:Int) {k:Nat} (hk:0 < k) (hn:k < es.length) (he:dayOf (es.getD k (0,0))-1=d):chgV es d=(es.getD k (0,0)).2-(es.getD (k-1) (0,0)).2:=by
 have h1:=cnt_chg h d hn
 have h2:=cnt_chg h d (i:=k-1) (by omega)
 have h3:=(day_step h (k:=k-1) (by omega)).1
 rw [show k-1+1=k by omega] at h3
 have hc:cntC es d=k:=by omega
 simp only [chgV]
 rw [if_neg (by omega),if_neg (by omega),hc,if_pos he]
theorem chg_none {es:List (Int × Int)} (d:Int) (hne:∀ j,0 < j→j < es.length→dayOf (es.getD j (0,0))-1≠d):chgV es d=0:=by
  have hc:=cntC_le es d
  simp only [chgV]
  split
  · rfl
  · split
    · rfl
    · rw [if_neg (hne _ (by omega) (by omega))]
theorem Ents.get {w:World} {B:Nat} {b off n c:Nat} {es:List (Int × Int)} (h:Ents w B (.slice (some ⟨b,off,none⟩) n c) es) (hn:n=es.length) (i:Nat) (hi:i < n) :
    w.cell? ⟨b,off+i*2,none⟩=some (.int .i64 (es.getD i (0,0)).1)∧w.cell? ⟨b,off+i*2+1,none⟩=some (.int .i64 (es.getD i (0,0)).2):=by
  obtain ⟨A',c',e',h1',h2',h3'⟩:=h
  simp only [Value.slice.injEq] at e'
  obtain ⟨rfl,hx,rfl⟩:=e'
  obtain ⟨b',off',hA',hb',hcell'⟩:=h3' (by omega)
  simp only [Option.some.injEq,Addr.mk.injEq] at hA'
  obtain ⟨rfl,rfl,hx2⟩:=hA'
  exact hcell' i (by omega)
theorem rday_any (a o:Int) (h0:0≤a) (h1:a≤1125899906842624) (w:World) :
    Calls Tryz.prog 9 #[.agg #[.int .i64 a,.int .i64 o]] w fun e w'=>e = .returned (.int .i64 (dayOf (a,o)))∧Below w.heap.size w w':=by
  go_enter Tryz.func9,Tryz.ntmps9
  go_wp2
  go_ret
  exact ⟨rfl,(by repeat (first | exact Below.refl _ _ | assumption | refine below_al ?_ _ | refine below_dr ?_ | refine below_drN ?_ _ | refine below_set ?_ (by simp;try omega) _ | (refine below_to ?_ (by assumption))))⟩
end Go.Proofs.YtailjojebdmnnaaGreat
namespace Go.Proofs.YtailjojebdmnnaaGreat
open Go.RowKit
end Go.Proofs.YtailjojebdmnnaaGreat
namespace Go.Proofs.YtailjojebdmnnaaGreat
open Go.RowKit
end Go.Proofs.YtailjojebdmnnaaGreat
namespace Go.Proofs.YtailjojebdmnnaaGreat
open Go.RowKit
end Go.Proofs.YtailjojebdmnnaaGreat
namespace Go.Proofs.YtailjojebdmnnaaGreat
open Go.RowKit
def ansT:List (Int × Int):=[(2272060800,10),(2287785600,11)]
theorem ansT_ok:okT 0 0 ansT=true:=by decide +kernel
theorem ansT_64:∀ i,I64 (ansT.getD i (0,0)).1∧I64 (ansT.getD i (0,0)).2:=by
  intro i
  match i with
  | 0=>simp [ansT,I64]
  | 1=>simp [ansT,I64]
  | i+2=>simp [ansT,I64]
end Go.Proofs.YtailjojebdmnnaaGreat
namespace Go.Proofs.YtailjojebdmnnaaGreat
open Go.RowKit
def newLF (v:Value):Value:=.tuple #[vP (ptrB (tp v 0)) 0,vI 0]
theorem NewL.form {w:World} {v:Value} {u x:Int} {es:List (Int × Int)} {B:Nat} (h:NewL w v u x es B):v=newLF v:=h.1
theorem NewL.keep {w w':World} {v:Value} {u x:Int} {es:List (Int × Int)} {B:Nat} (h:NewL w v u x es B) (hk:KeepT leT none w w'):NewL w' v u x es B:=by
 refine ⟨h.1,h.2.1.keepT ?_ (fun b cur T fz hb hT _=>hk b cur T fz hb hT (by simp)),h.2.2⟩
 obtain ⟨q,_,ge,d,mv,_,hb,_⟩:=h.2.1
 unfold Blk at hb
 exact hk _ _ _ _ hb rfl (by simp)
theorem lnew_yes {B:Nat} {w:World} (hB:B≤w.heap.size) {v:Value} {es:List (Int × Int)} (hv:Ents w w.heap.size v es) {u x:Int} (hu:I64 u) (hx:I64 x) (hes:∀ i,I64 (es.getD i (0,0)).1∧I64 (es.getD i (0,0)).2) (hok:okT u x es=true) :
    Calls Tryz.prog 4 #[.agg #[vI u,vI x,v]] w fun e w'=>∃ v',e = .returned v'∧Below w.heap.size w w'∧NewL w' v' u x es B:=by
  refine (new_yes v es u x w hv hu hx hes hok).mono ?_
  rintro e w' ⟨g,rfl,hL,hg,hb⟩
  exact ⟨_,rfl,hb,rfl,⟨_,hL⟩,Nat.le_trans hB hg⟩
def EntL (w:World) (v:Value) (es:List (Int × Int)):Prop:=∃ b,v = .slice (some ⟨b,0,none⟩) es.length es.length∧w.heap[b]? = some (Obj.cells (es.flatMap entC).toArray 44 (0,0))
def entF (n:Nat) (v:Value):Value:=.slice (sA v) n n
theorem EntL.form {w:World} {v:Value} {es:List (Int × Int)} (h:EntL w v es):v=entF es.length v:=by obtain ⟨b,rfl,_⟩:=h;rfl
theorem EntL.keep {w w':World} {v:Value} {es:List (Int × Int)} (h:EntL w v es) (hk:KeepT [44] none w w'):EntL w' v es:=by
 obtain ⟨b,rfl,hb⟩:=h
 exact ⟨b,rfl,(hk _ _ _ _ hb rfl (by simp)).trans hb⟩
theorem EntL.ents {w:World} {v:Value} {es:List (Int × Int)} (h:EntL w v es) (hl:es.length≤9223372036854775807):Ents w w.heap.size v es:=by
 obtain ⟨b,rfl,hb⟩:=h
 exact Blk.ents (g:=b) (t:=44) hb (Nat.le_refl _) hl (lt_of_some hb)
theorem At.ent {R:Reg} {i:Nat} {D:Nat→Bool} {env:Env} {a:Act} {w:World} (h:At R i D env a w) (j:Nat) {n:Nat} {es:List (Int × Int)} (hn:es.length=n) (hl:n≤9223372036854775807) (hj:((R.cl.getD i []).contains j && !(j == i))=true) (hs:((R.cl.getD j []).contains j)=true) (hF:R.F.filter (fun p=>Nat.beq p.1 j)=[(j,fun env w=>EntL w (env j) es)]):Ents w w.heap.size (.slice (sA (env j)) n n) es:=by
 subst hn
 have h1:EntL w (env j) es:=h.fact j (φ:=fun v w=>EntL w v es) hj hs hF
 have h2:=h1.ents hl
 rw [h1.form] at h2
 exact h2
section
variable {P:Program} {R:Reg} {Q:Exit→Act→World→Prop} {i:Nat} {o:Oper}
theorem s_bsE (ho:R.ops[i]? = some o) (hf:free' R i=true) (hw:∀ {D env a w},At R i D env a w→Region.wanted o (yielded R.ops a.tmps)=true) (es:List (Int × Int)) (n:Nat) (hn:es.length=n) (cs:Array Value) (hcs:(es.flatMap entC).toArray=cs) (hV:R.v? i=some fun env=>entF n (env i)) (hF:R.F.filter (fun p=>Nat.beq p.1 i)=[(i,fun env w=>EntL w (env i) es)]) (hint:tFree [44] R=true) (hx:R.ex=none)
    (hrun:∀ {D env a w},At R i D env a w→(execOp a.eval o).run P w = .ok (.value (.slice (some ⟨w.heap.size,0,none⟩) n n)) (w.alloc (.cells cs 44 (0,0)))):SR P Q R i:=
  s_gen ho hf (fun {D env a w} hA K hK=>by
    subst hn
    subst hcs
    rw [if_pos (hw hA)]
    unfold Oper.wp
    rw [hrun hA]
    have hs':=hA.j.st.call (w':=w.alloc (.cells (es.flatMap entC).toArray 44 (0,0))) ⟨rfl,rfl,rfl,by simp,fun k hk=>Below.heap_alloc _ _ _ hk⟩
    have hkt:=fun w'' (ha:Apart (R.mem _ _) none _ w'')=>apart_keepT (w':=w'') hint hs' (.inl hx.symm) ha
    rw [hx] at hkt
    refine hK _ _ hs' (fun w'' ha=>f_fact (φ:=fun v w=>EntL w v es) (form:=entF es.length) hV (fun v w h=>h.form) hF hA.ok ho (EntL.keep ⟨w.heap.size,rfl,heap_alloc_new w _⟩ (hkt w'' (by rw [hx] at ha;exact ha)))))
end
theorem Cur.exInF {n:Nat} {w0:World} {Θ:World→Prop} {L:Slots} {M:List Ent} {a:Act} {w:World} {v:Value} {u x:Int} {es:List (Int × Int)} {Fs:List (World→Prop)} (h:Cur n w0 none none (Facts Fs) Θ L M a w) (k:Nat) (hk:Fs[k]? = some (fun w=>NewL w v u x es w0.heap.size)):Cur n w0 none (some (ptrB (tp v 0))) (Facts []) (fun w=>IsLx w (ptrB (tp v 0)) u x es) L M a w:=
  Cur.exInL (v:=v) ⟨h.sz,h.df,h.st.mono (fun _ hF φ hφ=>by
    obtain rfl:=List.mem_singleton.1 hφ
    exact hF.get k hk) (fun _ h=>h),h.sl⟩
theorem Ents.gn {w w':World} {v:Value} {es:List (Int × Int)} (h:Ents w w.heap.size v es) (hg:w.grownBy w' none):Ents w' w'.heap.size v es:=
 (h.below ⟨hg.os,hg.tape,hg.output,hg.size,fun i hi=>hg.block i hi (by simp)⟩).mono hg.size
theorem ans_cs:(ansT.flatMap entC).toArray = #[vI 2272060800,vI 10,vI 2287785600,vI 11]:=rfl
end Go.Proofs.YtailjojebdmnnaaGreat
namespace Go.Proofs.YtailjojebdmnnaaGreat
open Go.RowKit
attribute [local go_sem] vN bT bF rS vW vM vL vT2 vT3 vP vI execOp Act.eval evC bigF vB hi_zero lo_zero Tryz.underlying27 Tryz.underlying39
end Go.Proofs.YtailjojebdmnnaaGreat
namespace Go.Proofs.YtailjojebdmnnaaGreat
open Go.RowKit
section
variable {es:List (Int × Int)} (h:okPre es es.length=true) (hn:0 < es.length)
include h
theorem off_step {k:Nat} (hk:k+1 < es.length):(es.getD (k+1) (0,0)).2=(es.getD k (0,0)).2+1∨(es.getD (k+1) (0,0)).2=(es.getD k (0,0)).2-1:=(okE_step hk (okPre_at h hk)).2
theorem cnt_is (d:Int) {k:Nat} (hk:k≤es.length) (h1:0 < k→dayOf (es.getD (k-1) (0,0))≤d) (h2:k < es.length→d < dayOf (es.getD k (0,0))):cnt dayOf es d=k:=by
  have hle:=cnt_le dayOf es d
  rcases Nat.lt_trichotomy (cnt dayOf es d) k with hl | he | hg
  · have e1:=(cnt_day h d (i:=k-1) (by omega)).1 (h1 (by omega));omega
  · exact he
  · have e1:=(cnt_day h d (i:=k) (by omega)).2 hg;have:=h2 (by omega);omega
theorem cnt_isS (s:Int) {k:Nat} (hk:k≤es.length) (h1:0 < k→startOf (es.getD (k-1) (0,0))≤s) (h2:k < es.length→s < startOf (es.getD k (0,0))):cnt startOf es s=k:=by
  have hle:=cnt_le startOf es s
  rcases Nat.lt_trichotomy (cnt startOf es s) k with hl | he | hg
  · have e1:=(cnt_start h s (i:=k-1) (by omega)).1 (h1 (by omega));omega
  · exact he
  · have e1:=(cnt_start h s (i:=k) (by omega)).2 hg;have:=h2 (by omega);omega
theorem chg_at (d:Int) {k:Nat} (hc:cnt dayOf es d=k) (hk0:0 < k):(k < es.length→dayOf (es.getD k (0,0))-1=d→chgV es d=(es.getD k (0,0)).2-(es.getD (k-1) (0,0)).2)∧((k < es.length→dayOf (es.getD k (0,0))-1≠d)→chgV es d=0):=by
  refine ⟨fun hk he=>chg_found h d hk0 hk he,fun hne=>chg_none d fun j hj hjn he=>?_⟩
  have e1:=cnt_day h d hjn
  rcases Nat.lt_trichotomy j k with hl | he' | hg
  · have:=e1.2 (by omega);omega
  · subst he';exact hne hjn he
  · have e2:=cnt_day h d (i:=j-1) (by omega)
    have e3:=(day_step h (k:=j-1) (by omega)).1
    rw [show j-1+1=j by omega] at e3
    have:¬ dayOf (es.getD (j-1) (0,0))≤d:=fun hh=>by have:=e2.1 hh;omega
    omega
include hn
theorem day0_le (d:Int) (hd:day0 es≤d):0 < cnt dayOf es d:=(cnt_day h d hn).1 hd
omit hn in
theorem utc_forth {z:Int} (hz:(labUt es z).1=0):whyU es (labUt es z).2.1 (labUt es z).2.2.1 (labUt es z).2.2.2=0∧taiU es (labUt es z).2.1 (labUt es z).2.2.1 (labUt es z).2.2.2=z:=by
  obtain ⟨s,hs⟩:∃ s,z / 1000000000000000000=s:=⟨_,rfl⟩
  obtain ⟨r,hr⟩:∃ r,z % 1000000000000000000=r:=⟨_,rfl⟩
  obtain ⟨k,hc⟩:∃ k,cnt startOf es s=k:=⟨_,rfl⟩
  have hkn:=cnt_le startOf es s
  unfold labUt at hz ⊢
  rw [hs,hr] at hz ⊢
  obtain ⟨R,hR⟩:∃ R,labR es z s r (atV es s) (atU es s)=R:=⟨_,rfl⟩
  rw [hR] at hz ⊢
  unfold labR at hR
  split at hR
  · split at hR <;> (subst hR;simp at hz)
  rename_i h64
  split at hR
  · subst hR;simp at hz
  rename_i hcz
  have hk0:0 < k:=by omega
  rw [hc] at hkn
  have d1:=(cnt_start h s (i:=k-1) (by omega)).2 (by omega)
  have hb:=okPre_num h (i:=k-1) (by omega)
  have hV:atV es s=(es.getD (k-1) (0,0)).2:=by unfold atV;rw [if_neg hcz,hc]
  obtain ⟨o,eo⟩:∃ o,(es.getD (k-1) (0,0)).2=o:=⟨_,rfl⟩
  obtain ⟨D1,eD1⟩:∃ D1,dayOf (es.getD (k-1) (0,0))=D1:=⟨_,rfl⟩
  have hD0:day0 es≤D1:=by rw [← eD1];exact (day_le h (Nat.zero_le _) (by omega)).1
  have hS1:startOf (es.getD (k-1) (0,0))=D1*86400+o:=by unfold startOf;rw [eD1,eo]
  rw [hV,eo] at hR
  rw [hS1] at d1
  rw [eo] at hb
  have hnext:k < es.length→∃ D2 o2,dayOf (es.getD k (0,0))=D2∧(es.getD k (0,0)).2=o2∧D1 < D2∧s < D2*86400+o2∧(o2=o+1∨o2=o-1):=by
    intro hk
    have e3:=fun hh=>(cnt_start h s hk).1 hh
    have e4:=off_step h (k:=k-1) (by omega)
    have e5:=(day_step h (k:=k-1) (by omega)).1
    rw [show k-1+1=k by omega] at e4 e5
    rw [eo] at e4
    rw [eD1] at e5
    refine ⟨_,_,rfl,rfl,e5,?_,e4⟩
    refine Int.not_le.1 fun hh=>?_
    have:=e3 hh
    omega
  have main:∀ d c:Int,D1≤d→(k < es.length→d < dayOf (es.getD k (0,0)))→wthn d (-1099511627776) 1099511627776=true→0≤c→c≤86400→(d*86400+c+o=s)→c < 86400+chgV es d→whyU es d c r=0∧taiU es d c r=z:=by
    intro d c hd hd2 hin hc0 hc1 he hlen
    have hcd:cnt dayOf es d=k:=cnt_is h d hkn (fun _=>by rw [eD1];exact hd) hd2
    have hf:formB c r=true:=by simp [formB,wthn];omega
    have hw:whyU es d c r=0:=by
      unfold whyU
      rw [hf,hin,if_neg (by simp),if_neg (by simp),if_neg (by omega),if_neg (by omega)]
    have ho:offV es d=o:=by unfold offV;rw [if_neg (by omega),hcd,eo]
    refine ⟨hw,?_⟩
    unfold taiU
    rw [if_pos hw,ho]
    omega
  by_cases hk:k < es.length
  · obtain ⟨D2,o2,e3,e4,e5,e6,e7⟩:=hnext hk
    have hU:atU es s=D2:=by unfold atU;rw [if_neg hcz,if_neg (by omega),hc];exact e3
    rw [hU] at hR
    rw [e3] at main
    split at hR
    · rename_i hq
      split at hR
      · rename_i hin
        subst hR
        have hcd:cnt dayOf es (D2-1)=k:=cnt_is h _ hkn (fun _=>by rw [eD1];omega) (fun _=>by rw [e3];omega)
        have hch:=(chg_at h _ hcd hk0).1 hk (by rw [e3])
        rw [e4,eo] at hch
        exact main (D2-1) (s-o-(s-o) / 86400*86400+86400) (by omega) (fun _=>by omega) hin (by omega) (by omega) (by omega) (by omega)
      · subst hR;simp at hz
    · rename_i hq
      split at hR
      · rename_i hin
        subst hR
        have hcd:cnt dayOf es ((s-o) / 86400)=k:=cnt_is h _ hkn (fun _=>by rw [eD1];omega) (fun _=>by rw [e3];omega)
        obtain ⟨c1,c2⟩:=chg_at h _ hcd hk0
        refine main ((s-o) / 86400) (s-o-(s-o) / 86400*86400) (by omega) (fun _=>by omega) hin (by omega) (by omega) (by omega) ?_
        by_cases hD:D2-1=(s-o) / 86400
        · have:=c1 hk (by rw [e3];exact hD)
          rw [e4,eo] at this
          omega
        · have:=c2 (fun _=>by rw [e3];exact hD)
          omega
      · subst hR;simp at hz
  · have hU:atU es s=4611686018427387904:=by unfold atU;rw [if_neg hcz,if_pos (by omega)]
    rw [hU,if_neg (by omega)] at hR
    split at hR
    · rename_i hin
      subst hR
      have hcd:cnt dayOf es ((s-o) / 86400)=k:=cnt_is h _ hkn (fun _=>by rw [eD1];omega) (fun hh=>absurd hh hk)
      have:=(chg_at h _ hcd hk0).2 (fun hh=>absurd hh hk)
      exact main ((s-o) / 86400) (s-o-(s-o) / 86400*86400) (by omega) (fun hh=>absurd hh hk) hin (by omega) (by omega) (by omega) (by omega)
    · subst hR;simp at hz
end
end Go.Proofs.YtailjojebdmnnaaGreat
