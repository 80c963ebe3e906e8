/- Texts D1, D2, D3, K1, C1, C2, C3, C4, C5, C6, C7, C8, C9, C10, C11 of one proof, one behind the other; what nothing here names is left out. -/
import Derived.Test.YtailjojebdmnnaaGreatZ1
import Derived.Laws.CopyOwn
import Derived.Laws.MakeOwn
import Derived.Deep.AppendLies
import Derived.Deep.RegionLaw
import Derived.StillTailTactics
import Derived.Lib.EndianBits
import Derived.Deep.RegionWith
import Derived.Shelf.Bits.Mul64
import Derived.Shelf.Small.Bits
import Derived.Lib.ItoaNum
set_option maxRecDepth 100000
set_option maxHeartbeats 8000000
set_option linter.unusedVariables false
set_option linter.unusedSimpArgs false
namespace Go.Proofs.YtailjojebdmnnaaGreat
open Go.RowKit
def Ents (w:World) (B:Nat) (v:Value) (es:List (Int × Int)):Prop:=
  ∃ A c,v = .slice A es.length c∧es.length≤c∧c≤9223372036854775807∧(0 < es.length→∃ b off,A=some ⟨b,off,none⟩∧b < B ∧
    ∀ i,i < es.length→w.cell? ⟨b,off+i*2,none⟩=some (.int .i64 (es.getD i (0,0)).1)∧w.cell? ⟨b,off+i*2+1,none⟩=some (.int .i64 (es.getD i (0,0)).2))
def I64 (x:Int):Prop:=-9223372036854775808≤x∧x≤9223372036854775807
def inB (n m:Int):Bool:=decide (0≤n) && decide (n≤m)
def okE (es:List (Int × Int)) (e:Int × Int):Bool:=
  decide (es.length < 64) && inB e.1 1125899906842624 && (e.1 % 86400 == 0) && inB e.2 1000 &&
    match es.getLast? with
    | none=>true
    | some l=>decide (l.1 < e.1) && (e.2-l.2 == 1 || e.2-l.2 == -1)
theorem within_any (n m:Int) (w:World) :
    Calls Tryz.prog 39 #[.int .i64 n,.int .i64 m] w fun e w'=>e = .returned (.bool (inB n m))∧w=w':=by
  by_cases h:0≤n
  · go_enter Tryz.func39,Tryz.ntmps39
    go_wp2
    go_ret
    exact ⟨by simp [inB,h],rfl⟩
  · go_enter Tryz.func39,Tryz.ntmps39
    go_wp2
    go_ret
    exact ⟨ret_b (by simp [inB];omega),rfl⟩
theorem okE_last (ds:List (Int × Int)) (l e:Int × Int):okE (ds ++ [l]) e=(decide (ds.length+1 < 64) && inB e.1 1125899906842624 && (e.1 % 86400 == 0) && inB e.2 1000 && (decide (l.1 < e.1) && (e.2-l.2 == 1 || e.2-l.2 == -1))):=by simp [okE]
theorem behind_any (v:Value) (es:List (Int × Int)) (a o:Int) (w:World) (B:Nat) (hB:B≤w.heap.size) (hv:Ents w B v es) (ha:I64 a) (ho:I64 o) (hes:∀ x∈es,0≤x.2∧x.2≤1000) :
    Calls Tryz.prog 38 #[v,.agg #[.int .i64 a,.int .i64 o]] w fun e w'=>e = .returned (.bool (okE es (a,o)))∧Below w.heap.size w w':=by
  obtain ⟨A,c,rfl,hc,hc2,hcells⟩:=hv
  unfold I64 at ha ho
  obtain ⟨ha0,ha1⟩:=ha
  obtain ⟨ho0,ho1⟩:=ho
  by_cases c1:es.length < 64
  case neg =>
    have h1:(64:Int)≤(es.length:Int):=by omega
    have hr:okE es (a,o)=false:=by simp [okE,c1]
    rw [hr];clear hr hcells c1 hes
    generalize es.length=n at *
    go_enter Tryz.func38,Tryz.ntmps38
    go_wp2_with ((go_at_call 39;refine (within_any _ _ _).mono ?_;rintro e w' ⟨rfl,rfl⟩))
    go_ret
    exact ⟨rfl,(by repeat (first | exact Below.refl _ _ | assumption | refine below_al ?_ _ | refine below_dr ?_ | refine below_drN ?_ _ | refine below_set ?_ (by simp;try omega) _ | (refine below_to ?_ (by assumption))))⟩
  have h1:¬ (64:Int)≤(es.length:Int):=by omega
  cases c2:inB a 1125899906842624
  case false =>
    have hr:okE es (a,o)=false:=by simp [okE,c2]
    rw [hr];clear hr hcells c1 hes
    generalize es.length=n at *
    go_enter Tryz.func38,Tryz.ntmps38
    go_wp2_with ((go_at_call 39;refine (within_any _ _ _).mono ?_;rintro e w' ⟨rfl,rfl⟩))
    go_ret
    exact ⟨rfl,(by repeat (first | exact Below.refl _ _ | assumption | refine below_al ?_ _ | refine below_dr ?_ | refine below_drN ?_ _ | refine below_set ?_ (by simp;try omega) _ | (refine below_to ?_ (by assumption))))⟩
  have c2':0≤a∧a≤1125899906842624:=by simpa [inB] using c2
  obtain ⟨a0,a1⟩:=c2'
  by_cases c3:a % 86400=0
  case neg =>
    have hr:okE es (a,o)=false:=by simp [okE,c3]
    have h3:(a % 86400 != 0)=true:=by simpa using c3
    rw [hr];clear hr hcells c1 hes c3
    generalize es.length=n at *
    go_enter Tryz.func38,Tryz.ntmps38
    go_wp2_with ((go_at_call 39;refine (within_any _ _ _).mono ?_;rintro e w' ⟨rfl,rfl⟩))
    go_ret
    exact ⟨rfl,(by repeat (first | exact Below.refl _ _ | assumption | refine below_al ?_ _ | refine below_dr ?_ | refine below_drN ?_ _ | refine below_set ?_ (by simp;try omega) _ | (refine below_to ?_ (by assumption))))⟩
  have h3:(a % 86400 != 0)=false:=by simpa using c3
  cases c4:inB o 1000
  case false =>
    have hr:okE es (a,o)=false:=by simp [okE,c4]
    rw [hr];clear hr hcells c1 hes c3
    generalize es.length=n at *
    go_enter Tryz.func38,Tryz.ntmps38
    go_wp2_with ((go_at_call 39;refine (within_any _ _ _).mono ?_;rintro e w' ⟨rfl,rfl⟩))
    go_ret
    exact ⟨rfl,(by repeat (first | exact Below.refl _ _ | assumption | refine below_al ?_ _ | refine below_dr ?_ | refine below_drN ?_ _ | refine below_set ?_ (by simp;try omega) _ | (refine below_to ?_ (by assumption))))⟩
  have c4':0≤o∧o≤1000:=by simpa [inB] using c4
  obtain ⟨o0,o1⟩:=c4'
  rcases List.eq_nil_or_concat es with rfl | ⟨ds,l,rfl⟩
  · have hr:okE [] (a,o)=true:=by simp [okE,c2,c3,c4]
    rw [hr];clear hr hcells c1 hes c3
    simp only [List.length_nil] at *
    go_enter Tryz.func38,Tryz.ntmps38
    go_wp2_with ((go_at_call 39;refine (within_any _ _ _).mono ?_;rintro e w' ⟨rfl,rfl⟩))
    go_ret
    exact ⟨rfl,(by repeat (first | exact Below.refl _ _ | assumption | refine below_al ?_ _ | refine below_dr ?_ | refine below_drN ?_ _ | refine below_set ?_ (by simp;try omega) _ | (refine below_to ?_ (by assumption))))⟩
  · rw [List.concat_eq_append] at *
    obtain ⟨la,lo'⟩:=l
    have hl:=hes (la,lo') (by simp)
    obtain ⟨hl0,hl1⟩:=hl
    have hl0':0≤lo':=hl0
    have hl1':lo'≤1000:=hl1
    obtain ⟨b,off,rfl,hb,hcell⟩:=hcells (by simp)
    have hcc:=hcell ds.length (by simp)
    simp only [List.getD_eq_getElem?_getD,List.getElem?_concat_length,Option.getD_some] at hcc
    obtain ⟨k0,k1⟩:=hcc
    have hfin:okE (ds ++ [(la,lo')]) (a,o)=(decide (la < a) && (o-lo' == 1 || o-lo' == -1)):=by
      rw [okE_last];simp only [c2,c4];simp only [List.length_append,List.length_cons,List.length_nil] at c1;simp [c3];omega
    rw [hfin]
    clear hfin hcell hcells hes hl0 hl1 c3
    have hlen:(ds ++ [(la,lo')]).length=ds.length+1:=by simp
    rw [hlen] at h1 hc c1 ⊢
    clear hlen
    generalize ds.length=n at *
    have hbl:b < w.heap.size:=by omega
    go_enter Tryz.func38,Tryz.ntmps38
    go_wp2_with ((go_at_call 39;refine (within_any _ _ _).mono ?_;rintro e w' ⟨rfl,rfl⟩))
    all_goals go_ret
    all_goals refine ⟨ret_b ?_,(by repeat (first | exact Below.refl _ _ | assumption | refine below_al ?_ _ | refine below_dr ?_ | refine below_drN ?_ _ | refine below_set ?_ (by simp;try omega) _ | (refine below_to ?_ (by assumption))))⟩
    all_goals (rw [Bool.eq_iff_iff];simp;try omega)
theorem Ents.take {w:World} {B:Nat} {A:Option Addr} {c:Nat} {es:List (Int × Int)} (h:Ents w B (.slice A es.length c) es) (k:Nat) (hk:k≤es.length):Ents w B (.slice A k c) (es.take k):=by
 obtain ⟨A',c',e,h1,h2,h3⟩:=h
 simp only [Value.slice.injEq] at e
 obtain ⟨rfl,_,rfl⟩:=e
 have hl:(es.take k).length=k:=by simp;omega
 refine ⟨A,c,by rw [hl],by omega,h2,fun hp=>?_⟩
 obtain ⟨b,off,hA,hb,hc⟩:=h3 (by omega)
 refine ⟨b,off,hA,hb,fun i hi=>?_⟩
 have hik:i < k:=by omega
 have:=hc i (by omega)
 rw [show (es.take k).getD i (0,0)=es.getD i (0,0) by simp [List.getD_eq_getElem?_getD,List.getElem?_take,hik]]
 exact this
theorem Ents.below {w w':World} {B:Nat} {v:Value} {es:List (Int × Int)} (h:Ents w B v es) (hb:Below B w w'):Ents w' B v es:=by
 obtain ⟨A,c,e,h1,h2,h3⟩:=h
 refine ⟨A,c,e,h1,h2,fun hp=>?_⟩
 obtain ⟨b,off,hA,hbB,hc⟩:=h3 hp
 refine ⟨b,off,hA,hbB,fun i hi=>?_⟩
 rw [hb.cell (p:=⟨b,_,none⟩) hbB,hb.cell (p:=⟨b,_,none⟩) hbB]
 exact hc i hi
theorem Ents.mono {w:World} {B B':Nat} {v:Value} {es:List (Int × Int)} (h:Ents w B v es) (hB:B≤B'):Ents w B' v es:=by
 obtain ⟨A,c,e,h1,h2,h3⟩:=h
 refine ⟨A,c,e,h1,h2,fun hp=>?_⟩
 obtain ⟨b,off,hA,hbB,hc⟩:=h3 hp
 exact ⟨b,off,hA,by omega,hc⟩
def okPre (es:List (Int × Int)) (k:Nat):Bool:=(List.range k).all fun i=>okE (es.take i) (es.getD i (0,0))
def okT (u x:Int) (es:List (Int × Int)):Bool:=okPre es es.length && !es.isEmpty && inB u 999999999999999999 && inB x 999999999999999999
def errT (b:Bool):Int:=if b then 0 else 10
theorem okPre_zero (es:List (Int × Int)):okPre es 0=true:=rfl
theorem okPre_succ (es:List (Int × Int)) (k:Nat):okPre es (k+1)=(okPre es k && okE (es.take k) (es.getD k (0,0))):=by
 unfold okPre;rw [List.range_succ,List.all_append];simp
theorem okPre_mono {es:List (Int × Int)} {k n:Nat} (h:okPre es n=true) (hk:k≤n):okPre es k=true:=by
 unfold okPre at *;rw [List.all_eq_true] at *;intro i hi;exact h i (by simp at *;omega)
theorem okPre_at {es:List (Int × Int)} {k i:Nat} (h:okPre es k=true) (hi:i < k):okE (es.take i) (es.getD i (0,0))=true:=by
 unfold okPre at h;rw [List.all_eq_true] at h;exact h i (by simpa using hi)
theorem okE_off {es:List (Int × Int)} {e:Int × Int} (h:okE es e=true):0≤e.2∧e.2≤1000∧0≤e.1∧e.1≤1125899906842624∧e.1 % 86400=0∧es.length < 64:=by
 simp [okE,inB] at h;omega
theorem okPre_off {es:List (Int × Int)} {k:Nat} (h:okPre es k=true) (hk:k≤es.length):∀ x∈es.take k,0≤x.2∧x.2≤1000:=by
 intro x hx
 obtain ⟨i,hi,rfl⟩:=List.mem_iff_getElem.1 hx
 have hik:i < k:=by simp at hi;omega
 have:=okE_off (okPre_at h hik)
 rw [List.getD_eq_getElem?_getD,List.getElem?_eq_getElem (by omega)] at this
 simp only [List.getElem_take]
 exact ⟨this.1,this.2.1⟩
def CheckPost (b:Bool) (w:World) (e:Ending) (w':World):Prop:=∃ m:Int,e = .returned (.tuple #[.int .i64 m,.int .i64 (errT b)])∧Below w.heap.size w w'
theorem check_any (v:Value) (es:List (Int × Int)) (u x:Int) (w:World) (hv:Ents w w.heap.size v es) (hu:I64 u) (hx:I64 x) (hes:∀ i,I64 (es.getD i (0,0)).1∧I64 (es.getD i (0,0)).2) :
    Calls Tryz.prog 16 #[.agg #[.int .i64 u,.int .i64 x,v]] w (CheckPost (okT u x es) w):=by
  have hv':=hv
  obtain ⟨A,c,rfl,hc,hc2,hcells⟩:=hv
  obtain ⟨n,hn⟩:∃ n,n=es.length:=⟨_,rfl⟩
  rw [← hn] at hc hcells hv' ⊢
  have hw:=Below.refl (w.heap.size+1) (w.alloc (.cells #[.int .i64 u,.int .i64 x,.slice A n c] 24))
  have HN:=Lib.hid hn
  clear hn
  have hw0:Below w.heap.size w (w.alloc (.cells #[.int .i64 u,.int .i64 x,.slice A n c] 24)):=below_al (Below.refl _ _) _
  have q0:(w.alloc (.cells #[.int .i64 u,.int .i64 x,.slice A n c] 24)).cell? ⟨w.heap.size,2,none⟩=some (.slice A n c):=by simp
  have q1:(w.alloc (.cells #[.int .i64 u,.int .i64 x,.slice A n c] 24)).cell? ⟨w.heap.size,0,none⟩=some (.int .i64 u):=by simp
  have q2:(w.alloc (.cells #[.int .i64 u,.int .i64 x,.slice A n c] 24)).cell? ⟨w.heap.size,1,none⟩=some (.int .i64 x):=by simp
  have hv1:Ents (w.alloc (.cells #[.int .i64 u,.int .i64 x,.slice A n c] 24)) (w.heap.size+1) (.slice A n c) es:=(hv'.below (below_al (Below.refl _ _) _)).mono (by omega)
  have s1:(w.alloc (.cells #[.int .i64 u,.int .i64 x,.slice A n c] 24)).heap.size=w.heap.size+1:=by simp
  have HV:=Lib.hid hv1
  have HS:=Lib.hid hes
  clear hv1 hv' hes
  go_enter Tryz.func16,Tryz.ntmps16
  go_wp2
  generalize (w.alloc (.cells #[.int .i64 u,.int .i64 x,.slice A n c] 24))=w1 at *
  go_loopw [9] (fun i wr=>∃ k:Nat,k≤n∧i = .int .i64 k∧Hid (okPre es k=true)∧Below (w.heap.size+1) w1 wr) (fun i _=>n-(intOf i).toNat)
  case atStart=>exact ⟨0,Nat.zero_le _,rfl,okPre_zero es,hw⟩
  case round =>
    obtain ⟨k,hk,rfl,hok,hbw⟩:=hrel
    have hsz:=hbw.size
    have r0:wr.cell? ⟨w.heap.size,2,none⟩=some (.slice A n c):=(hbw.cell (p:=⟨_,2,none⟩) (by simp)).trans q0
    have r1:wr.cell? ⟨w.heap.size,0,none⟩=some (.int .i64 u):=(hbw.cell (p:=⟨_,0,none⟩) (by simp)).trans q1
    have r2:wr.cell? ⟨w.heap.size,1,none⟩=some (.int .i64 x):=(hbw.cell (p:=⟨_,1,none⟩) (by simp)).trans q2
    by_cases hlt:k < n
    · obtain ⟨b,off,rfl,hb,hcell⟩:=hcells (by omega)
      obtain ⟨⟨a,o⟩,he⟩:∃ e,e=es.getD k (0,0):=⟨_,rfl⟩
      have hev:=(HV.out.below hbw)
      have hek:Ents wr (w.heap.size+1) (.slice (some ⟨b,off,none⟩) k c) (es.take k):=by
        rw [show (Value.slice (some ⟨b,off,none⟩) n c) = .slice (some ⟨b,off,none⟩) es.length c by rw [HN.out]] at hev
        exact hev.take k (by rw [← HN.out];omega)
      obtain ⟨A',c',e',h1',h2',h3'⟩:=hev
      simp only [Value.slice.injEq] at e'
      obtain ⟨rfl,hx1,rfl⟩:=e'
      clear hx1
      obtain ⟨b',off',hA',hb',hcell'⟩:=h3' (by rw [← HN.out];omega)
      simp only [Option.some.injEq,Addr.mk.injEq] at hA'
      obtain ⟨rfl,rfl,hx2⟩:=hA'
      clear hx2
      have hc':=hcell' k (by rw [← HN.out];omega)
      have ho:=HS.out k
      rw [← he] at hc' ho
      obtain ⟨c0,c1⟩:=hc'
      have hoff:=okPre_off hok.out (by rw [← HN.out];omega)
      have hcall:=fun W (hB:w.heap.size+1≤W.heap.size) (hE:Ents W (w.heap.size+1) (.slice (some ⟨b,off,none⟩) k c) (es.take k))=>behind_any (.slice (some ⟨b,off,none⟩) k c) (es.take k) a o W (w.heap.size+1) hB hE ho.1 ho.2 hoff
      have hokE:okPre es (k+1)=okE (es.take k) (a,o):=by rw [okPre_succ,hok.out,← he];simp
      have HC:=Lib.hid hcall
      have HE:=Lib.hid he
      have HEK:=Lib.hid hek
      have HOK:=Lib.hid hokE
      have HOFF:=Lib.hid hoff
      clear hcall he hek hokE h3' hcell' hcell h2' h1' hcells hoff ho
      go_wp2
      have i1:(0:Int)≤(k:Int):=by omega
      have i3:w.heap.size < wr.heap.size:=by omega
      have i4:w.heap.size < wr.heap.size+1:=by omega
      have i2:(k:Int)≤(c:Int):=by omega
      have e0:(wr.alloc (.cells #[.int .i64 a,.int .i64 o] 44)).cell? ⟨w.heap.size,2,none⟩=some (.slice (some ⟨b,off,none⟩) n c):=by rw [World.cell?_alloc_lt _ _ _ (by simp;omega)];exact r0
      go_region_held3 (fun w'=>w'.cell? ⟨w.heap.size,2,none⟩=some (.slice (some ⟨b,off,none⟩) n c)∧w'.cell? ⟨wr.heap.size,0,none⟩=some (.int .i64 a)∧w'.cell? ⟨wr.heap.size,1,none⟩=some (.int .i64 o)) (go_keep)
        (first | (go_at_call 38;refine (HC.out _ ?c1 ?c2).mono ?_;(case c1=>simp;omega);(case c2=>exact HEK.out.below (Below.mono (B:=wr.heap.size) (by repeat (first | exact Below.refl _ _ | assumption | refine below_al ?_ _ | refine below_dr ?_ | refine below_drN ?_ _ | refine below_set ?_ (by simp;try omega) _ | (refine below_to ?_ (by assumption)))) (by omega)));rintro e w' ⟨rfl,hb1⟩;obtain ⟨hcl,hfr⟩:=bcell hb1))
      have hbw':Below (w.heap.size+1) w1 w':=hbw.trans ((Below.drew ((Below.refl _ _).alloc (by omega) _)).trans (hb1.mono (by simp;omega)))
      have hbb:Below w.heap.size w w':=hw0.trans (hbw'.mono (by omega))
      have HBB:=Lib.hid hbb
      have HBW:=Lib.hid hbw'
      clear hbb hbw' hb1
      cases hE:okE (es.take k) (a,o)
      · have hT:okT u x es=false:=by
          have h1:okPre es (k+1)=false:=HOK.out.trans hE
          have h2:okPre es es.length=false:=by
            cases h3:okPre es es.length with
            | false=>rfl
            | true=>rw [okPre_mono h3 (by rw [← HN.out];omega)] at h1;cases h1
          simp [okT,h2]
        have HT:=Lib.hid hT
        clear hT
        go_wp2
        go_ret2
        exact ⟨k,by rw [HT.out];rfl,HBB.out⟩
      · have h1:okPre es (k+1)=true:=HOK.out.trans hE
        have H1:=Lib.hid h1
        clear h1
        go_wp2
        go_roundw
        case rel=>exact ⟨k+1,by omega,by go_num,H1.out,HBW.out⟩
        case measure=>simp [intOf];omega
    · obtain rfl:k=n:=by omega
      have hbb:Below w.heap.size w wr:=hw0.trans (hbw.mono (by omega))
      have HBB:=Lib.hid hbb
      have hT:okT u x es=(!es.isEmpty && inB u 999999999999999999 && inB x 999999999999999999):=by
        unfold okT;rw [← HN.out,hok.out];simp
      have HT:=Lib.hid hT
      clear hT hbb hbw
      by_cases hk0:k=0
      · subst hk0
        have he:es.isEmpty=true:=by rw [List.isEmpty_iff,← List.length_eq_zero_iff];exact HN.out.symm
        have HE:=Lib.hid he
        clear he
        go_wp2_with ((go_at_call 39;refine (within_any _ _ _).mono ?_;rintro e w' ⟨rfl,rfl⟩))
        go_ret2
        exact ⟨_,by rw [HT.out,HE.out];rfl,HBB.out⟩
      · have he:es.isEmpty=false:=by rw [Bool.eq_false_iff];intro h;rw [List.isEmpty_iff,← List.length_eq_zero_iff] at h;exact hk0 (HN.out.trans h)
        have hk1:((k:Int) == 0)=false:=by simp;omega
        have HE:=Lib.hid he
        clear he
        cases h1:inB u 999999999999999999
        · go_wp2_with ((go_at_call 39;refine (within_any _ _ _).mono ?_;rintro e w' ⟨rfl,rfl⟩))
          go_ret2
          exact ⟨_,by rw [HT.out,HE.out,h1];rfl,HBB.out⟩
        · cases h2:inB x 999999999999999999
          · go_wp2_with ((go_at_call 39;refine (within_any _ _ _).mono ?_;rintro e w' ⟨rfl,rfl⟩))
            go_ret2
            exact ⟨_,by rw [HT.out,HE.out,h1,h2];rfl,HBB.out⟩
          · go_wp2_with ((go_at_call 39;refine (within_any _ _ _).mono ?_;rintro e w' ⟨rfl,rfl⟩))
            go_ret2
            exact ⟨_,by rw [HT.out,HE.out,h1,h2];rfl,HBB.out⟩
end Go.Proofs.YtailjojebdmnnaaGreat
namespace Go.Proofs.YtailjojebdmnnaaGreat
open Go.RowKit
theorem flat_len {α:Type} (f:α→List Value) (k:Nat) (hf:∀ x,(f x).length=k):∀ xs:List α,(xs.flatMap f).length=xs.length*k
  | []=>by simp
  | x :: xs=>by rw [List.flatMap_cons,List.length_append,hf,flat_len f k hf xs,List.length_cons,Nat.add_mul];omega
theorem flat_get {α:Type} (f:α→List Value) (k:Nat) (hf:∀ x,(f x).length=k):∀ (xs:List α) (i j:Nat) (x:α),xs[i]? = some x→j < k→(xs.flatMap f)[i*k+j]? = (f x)[j]?
  | [],i,j,x,h,_=>by simp at h
  | y :: ys,0,j,x,h,hj=>by
    simp only [List.getElem?_cons_zero,Option.some.injEq] at h
    subst h
    rw [List.flatMap_cons,Nat.zero_mul,Nat.zero_add,List.getElem?_append_left (by rw [hf];exact hj)]
  | y :: ys,i+1,j,x,h,hj=>by
    rw [List.flatMap_cons,List.getElem?_append_right (by rw [hf,Nat.add_mul];omega),hf,show (i+1)*k+j-k=i*k+j by rw [Nat.add_mul];omega]
    exact flat_get f k hf ys i j x (by simpa using h) hj
def entC (e:Int × Int):List Value:=[.int .i64 e.1,.int .i64 e.2]
theorem entC_len (e:Int × Int):(entC e).length=2:=rfl
theorem ad_add (b o j:Nat):(⟨b,o,none⟩:Addr).add j=⟨b,o+j,none⟩:=by unfold Addr.add;split <;> simp_all
def Blk (w:World) (g:Nat) (t:TypeId) (cs:Array Value):Prop:=w.heap[g]? = some (.cells cs t (0,0))
theorem Blk.lt {w:World} {g:Nat} {t:TypeId} {cs:Array Value} (h:Blk w g t cs):g < w.heap.size:=by
  rcases Nat.lt_or_ge g w.heap.size with hlt | hge
  · exact hlt
  · unfold Blk at h;rw [Array.getElem?_eq_none hge] at h;cases h
theorem Blk.cell {w:World} {g:Nat} {t:TypeId} {cs:Array Value} (h:Blk w g t cs) (i:Nat):w.cell? ⟨g,i,none⟩=cs[i]?:=cell_of_row w g i cs t (0,0) h
theorem Blk.frozen {w:World} {g:Nat} {t:TypeId} {cs:Array Value} (h:Blk w g t cs) (i:Nat):w.frozen? ⟨g,i,none⟩=false:=by
 unfold Blk at h;simp [World.frozen?,h]
theorem Blk.new (w:World) (t:TypeId) (cs:Array Value):Blk (w.alloc (.cells cs t)) w.heap.size t cs:=heap_alloc_new w _
theorem Blk.below {w w':World} {B g:Nat} {t:TypeId} {cs:Array Value} (h:Blk w g t cs) (hb:Below B w w') (hg:g < B):Blk w' g t cs:=(hb.block g hg).trans h
theorem Blk.grown {w w':World} {g:Nat} {t:TypeId} {cs:Array Value} {row:Option Nat} (h:Blk w g t cs) (hb:w.grownBy w' row) (hg:some g≠row):Blk w' g t cs:=(hb.block g h.lt hg).trans h
theorem Blk.set_ {w:World} {g:Nat} {t:TypeId} {cs:Array Value} (h:Blk w g t cs) (i:Nat) (u:Value):Blk (w.setCell ⟨g,i,none⟩ u) g t (cs.setIfInBounds i u):=by
 unfold Blk at h ⊢
 simp [World.setCell,Array.getElem?_modify,h]
theorem Blk.alloc {w:World} {g:Nat} {t:TypeId} {cs:Array Value} (h:Blk w g t cs) (o:Obj):Blk (w.alloc o) g t cs:=(Below.heap_alloc w o g h.lt).trans h
theorem Blk.drew {w:World} {g:Nat} {t:TypeId} {cs:Array Value} (h:Blk w g t cs):Blk w.drew g t cs:=h
theorem Blk.drewN {w:World} {g:Nat} {t:TypeId} {cs:Array Value} (h:Blk w g t cs) (n:Nat):Blk (w.drewN n) g t cs:=h
theorem Blk.far {w:World} {g:Nat} {t:TypeId} {cs:Array Value} (h:Blk w g t cs) {p:Addr} (hp:g≠p.block) (u:Value):Blk (w.setCell p u) g t cs:=(Below.heap_setCell w p u g hp).trans h
theorem Blk.ents {w:World} {g:Nat} {t:TypeId} {es:List (Int × Int)} {c:Nat} (h:Blk w g t (es.flatMap entC).toArray) (hc:es.length≤c) (hc2:c≤9223372036854775807) {B:Nat} (hB:g < B):Ents w B (.slice (some ⟨g,0,none⟩) es.length c) es:=by
 refine ⟨_,_,rfl,hc,hc2,fun hp=>⟨g,0,rfl,hB,fun i hi=>?_⟩⟩
 have h1:es[i]? = some (es.getD i (0,0)):=by simp [List.getD_eq_getElem?_getD,List.getElem?_eq_getElem hi]
 have a0:=flat_get entC 2 entC_len es i 0 _ h1 (by omega)
 have a1:=flat_get entC 2 entC_len es i 1 _ h1 (by omega)
 rw [h.cell,h.cell]
 simp only [List.getElem?_toArray,Nat.zero_add]
 exact ⟨a0,a1⟩
theorem Ents.cells {w:World} {B:Nat} {A:Option Addr} {n c:Nat} {es:List (Int × Int)} (h:Ents w B (.slice A n c) es) (hp:0 < n):∃ ad,A=some ad∧∀ j v,(es.flatMap entC)[j]? = some v→w.cell? (ad.add j)=some v:=by
  obtain ⟨A',c',e,h1,h2,h3⟩:=h
  simp only [Value.slice.injEq] at e
  obtain ⟨rfl,rfl,rfl⟩:=e
  obtain ⟨b,off,rfl,hb,hc⟩:=h3 hp
  refine ⟨_,rfl,fun j v hj=>?_⟩
  rw [ad_add]
  have hjl:j < es.length*2:=by rw [← flat_len entC 2 entC_len es];exact (List.getElem?_eq_some_iff.1 hj).1
  have hi:j / 2 < es.length:=by omega
  have h1:es[j / 2]? = some (es.getD (j / 2) (0,0)):=by simp [List.getD_eq_getElem?_getD,List.getElem?_eq_getElem hi]
  have h5:=flat_get entC 2 entC_len es (j / 2) (j % 2) _ h1 (by omega)
  rw [show j / 2*2+j % 2=j by omega,hj] at h5
  obtain ⟨c0,c1⟩:=hc (j / 2) hi
  rcases Nat.mod_two_eq_zero_or_one j with hm | hm
  · rw [hm] at h5;simp only [entC,List.getElem?_cons_zero] at h5
    rw [show off+j=off+j / 2*2 by omega,c0,h5]
  · rw [hm] at h5;simp only [entC,List.getElem?_cons_succ,List.getElem?_cons_zero] at h5
    rw [show off+j=off+j / 2*2+1 by omega,c1,h5]
theorem run_copy_whole {P:Program} (w:World) (dT sT ty elem:TypeId) (k g dCap:Nat) (A:Option Addr) (n sCap:Nat) (cur:Array Value) (t:TypeId) (cs:List Value)
    (hu:P.underlying dT=some (.slice elem)) (hs:(P.info? elem).map (·.size)=some k)
    (hg:w.heap[g]? = some (.cells cur t (0,0))) (hn:cs.length=n*k) (hcur:cur.size=n*k) (hk:0 < k)
    (hsrc:0 < n→∃ ad,A=some ad∧∀ j v,cs[j]? = some v→w.cell? (ad.add j)=some v) (h1:∀ v∈cs,v.oneCell'=true) :
    (Builtin.copy_ #[dT,sT] ty #[.slice (some ⟨g,0,none⟩) n dCap,.slice A n sCap]).run P w = .ok (goInt n) (w.setRow g cs.toArray):=by
  have hst:=run_storeCells_at P g 0 t cs 0 cur w hg (by simp;omega) h1
  have hst':(storeCells ⟨g,0,none⟩ cs).run P w = .ok () (w.setRow g cs.toArray):=by
    rw [hst];congr 3
    simp only [Nat.add_zero,Nat.zero_add,List.take_zero,List.nil_append]
    rw [List.drop_eq_nil_of_le (by simp;omega),List.append_nil]
  cases hq:P.info? elem with
  | none=>simp [hq] at hs
  | some i =>
    have hi:i.size=k:=by simpa [hq] using hs
    rcases Nat.eq_zero_or_pos n with h0 | h0
    · subst h0
      have hnil:cs=[]:=List.eq_nil_of_length_eq_zero (by simpa using hn)
      subst hnil
      have hl:=run_loadCells_list (P:=P) w ⟨0,0,none⟩ [] (by simp)
      cases A with
      | none=>simp [Builtin.copy_,run_underlying hu,Builtin.lenOf,Builtin.firstCells,sizeOf,typeInfo,hq,hst']
      | some a =>
        have hl:=run_loadCells_list (P:=P) w a [] (by simp)
        simp at hl
        simp [Builtin.copy_,run_underlying hu,Builtin.lenOf,Builtin.firstCells,sizeOf,typeInfo,hq,hl,hst']
    · obtain ⟨ad,rfl,hc⟩:=hsrc h0
      have hl:=run_loadCells_list (P:=P) w ad cs hc
      rw [hn] at hl
      simp [Builtin.copy_,run_underlying hu,Builtin.lenOf,Builtin.firstCells,sizeOf,typeInfo,hq,hi,hl,hst']
theorem run_make_rowN {P:Program} (t e:TypeId) (i:TypeInfo) (z:Value) (ht:P.underlying t=some (.slice e)) (hi:P.info? e=some i) (hz:i.zero=some z)
    (kl kc:IntKind) (n c:Nat) (hnc:n≤c) (hbytes:i.bytes*c≤281474976710656) (h63:c≤9223372036854775807) (w:World) :
    (Instr.makeSlice t (.int kl (n:Int)) (.int kc (c:Int))).run P w = .ok (.slice (some ⟨w.heap.size,0,none⟩) n c) (w.alloc (.cells (madeCells z.cells (c*i.size)) e)):=by
  have hb:(i.bytes:Int)*(c:Int)≤281474976710656:=by
    have h:((i.bytes*c:Nat):Int)≤281474976710656:=by omega
    rwa [Int.natCast_mul] at h
  have hr:=run_make (P:=P) w t e i z ht hi hz kl kc n c (by omega) (by omega) hb (by omega)
  simp only [Int.toNat_natCast] at hr
  exact hr
theorem entry_info:∃ i,Tryz.prog.info? 44=some i∧i.zero=some (.agg #[.int .i64 0,.int .i64 0])∧i.size=2∧i.bytes=16:=
 info_parts (show (Tryz.prog.info? 44).map (fun i=>(i.zero,i.size,i.bytes))=some (some (.agg #[.int .i64 0,.int .i64 0]),2,16) by kernel_rfl)
def OwnPost (u x:Int) (es:List (Int × Int)) (w:World) (e:Ending) (w':World):Prop:=
 ∃ g,e = .returned (.agg #[.int .i64 u,.int .i64 x,.slice (some ⟨g,0,none⟩) es.length es.length])∧Blk w' g 44 (es.flatMap entC).toArray∧w.heap.size≤g∧Below w.heap.size w w'
theorem own_any (v:Value) (es:List (Int × Int)) (u x:Int) (w:World) (hv:Ents w w.heap.size v es) (hn64:es.length≤64) :
    Calls Tryz.prog 17 #[.agg #[.int .i64 u,.int .i64 x,v]] w (OwnPost u x es w):=by
  have hv':=hv
  obtain ⟨A,c,rfl,hc,hc2,hcells⟩:=hv
  clear hcells
  obtain ⟨n,hn⟩:∃ n,n=es.length:=⟨_,rfl⟩
  rw [← hn] at hc hv' hn64 ⊢
  have HN:=Lib.hid hn
  clear hn
  obtain ⟨i0,hi,hz0,hz1,hz2⟩:=entry_info
  have hmk:=fun W=>run_make_rowN (P:=Tryz.prog) 22 44 i0 _ Tryz.underlying22 hi hz0 .i64 .i64 n n (Nat.le_refl _) (by rw [hz2];omega) (by omega) W
  rw [hz1] at hmk
  obtain ⟨mc,hmc⟩:∃ mc,mc=madeCells (Value.agg #[.int .i64 0,.int .i64 0]).cells (n*2):=⟨_,rfl⟩
  rw [← hmc] at hmk
  have HMC:=Lib.hid hmc
  clear hmc
  have HI:=Lib.hid hi
  have HE:=Lib.hid hv'
  clear hi hz0 hz1 hz2 hv' hc hc2
  have hsz:(Tryz.prog.info? 44).map (·.size)=some 2:=by kernel_rfl
  have HSZ:=Lib.hid hsz
  clear hsz
  go_enter Tryz.func17,Tryz.ntmps17
  go_wp2_with fail
  have hlen:(es.flatMap entC).length=n*2:=by rw [flat_len entC 2 entC_len,HN.out]
  have h1:∀ v∈es.flatMap entC,v.oneCell'=true:=by
    intro v hv
    obtain ⟨e,_,he⟩:=List.mem_flatMap.1 hv
    simp only [entC,List.mem_cons,List.not_mem_nil,or_false] at he
    rcases he with rfl | rfl <;> rfl
  have hcp:=fun (W:World) (hg:W.heap[w.heap.size+1+1]? = some (.cells mc 44 (0,0))) (hE:Ents W w.heap.size (.slice A n c) es) =>
    run_copy_whole (P:=Tryz.prog) W 22 22 3 44 2 (w.heap.size+1+1) n A n c mc 44 (es.flatMap entC) Tryz.underlying22 HSZ.out hg hlen (by rw [HMC.out,size_madeCells]) (by omega) (fun hp=>hE.cells hp) h1
  have hb3:Below w.heap.size w (((w.alloc (.cells #[.int .i64 u,.int .i64 x,.slice A n c] 24)).alloc (.cells #[.int .i64 0,.int .i64 0,.slice none 0 0] 24)).alloc (.cells mc 44)):=(by repeat (first | exact Below.refl _ _ | assumption | refine below_al ?_ _ | refine below_dr ?_ | refine below_drN ?_ _ | refine below_set ?_ (by simp;try omega) _ | (refine below_to ?_ (by assumption))))
  have k0:Blk (((w.alloc (.cells #[.int .i64 u,.int .i64 x,.slice A n c] 24)).alloc (.cells #[.int .i64 0,.int .i64 0,.slice none 0 0] 24)).alloc (.cells mc 44)) w.heap.size 24 #[.int .i64 u,.int .i64 x,.slice A n c]:=by
    unfold Blk;rw [Below.heap_alloc _ _ _ (by simp;omega),Below.heap_alloc _ _ _ (by simp)];exact heap_alloc_new w _
  have k1:Blk (((w.alloc (.cells #[.int .i64 u,.int .i64 x,.slice A n c] 24)).alloc (.cells #[.int .i64 0,.int .i64 0,.slice none 0 0] 24)).alloc (.cells mc 44)) (w.heap.size+1) 24 #[.int .i64 0,.int .i64 0,.slice none 0 0]:=by
    unfold Blk;rw [Below.heap_alloc _ _ _ (by simp)];have:=heap_alloc_new (w.alloc (.cells #[.int .i64 u,.int .i64 x,.slice A n c] 24)) (.cells #[.int .i64 0,.int .i64 0,.slice none 0 0] 24);simpa using this
  have k2:(((w.alloc (.cells #[.int .i64 u,.int .i64 x,.slice A n c] 24)).alloc (.cells #[.int .i64 0,.int .i64 0,.slice none 0 0] 24)).alloc (.cells mc 44)).heap[w.heap.size+1+1]? = some (.cells mc 44 (0,0)):=by
    have:=heap_alloc_new ((w.alloc (.cells #[.int .i64 u,.int .i64 x,.slice A n c] 24)).alloc (.cells #[.int .i64 0,.int .i64 0,.slice none 0 0] 24)) (.cells mc 44);simpa using this
  generalize (((w.alloc (.cells #[.int .i64 u,.int .i64 x,.slice A n c] 24)).alloc (.cells #[.int .i64 0,.int .i64 0,.slice none 0 0] 24)).alloc (.cells mc 44))=W at *
  rw [hcp W k2 (HE.out.below hb3)]
  have hb4:Below w.heap.size w (W.setRow (w.heap.size+1+1) (es.flatMap entC).toArray):=below_setRow hb3 (by omega) _
  have j0:Blk (W.setRow (w.heap.size+1+1) (es.flatMap entC).toArray) w.heap.size 24 #[.int .i64 u,.int .i64 x,.slice A n c]:=(setRow_other W _ _ _ (by omega)).trans k0
  have j1:Blk (W.setRow (w.heap.size+1+1) (es.flatMap entC).toArray) (w.heap.size+1) 24 #[.int .i64 0,.int .i64 0,.slice none 0 0]:=(setRow_other W _ _ _ (by omega)).trans k1
  have j2:Blk (W.setRow (w.heap.size+1+1) (es.flatMap entC).toArray) (w.heap.size+1+1) 44 (es.flatMap entC).toArray:=setRow_heap W _ _ _ _ _ k2
  generalize W.setRow (w.heap.size+1+1) (es.flatMap entC).toArray=W3 at *
  have c0:=j0.cell 0
  have c1:=j0.cell 1
  have c2:=j0.cell 2
  have d0:=j1.cell 0
  have d1:=j1.cell 1
  have d2:=j1.cell 2
  have f2:=j0.frozen 2
  have g0:=j1.frozen 0
  have g1:=j1.frozen 1
  have g2:=j1.frozen 2
  simp at c0 c1 c2 d0 d1 d2
  have HB4:=Lib.hid hb4
  have HJ2:=Lib.hid j2
  clear hcp k0 k1 k2 hb3 hb4 j0 j1 j2 h1 hlen
  go_wp2
  refine bodyPost_ret (v:=?_) (by simp [results,Tryz.results17,go_sem, *];rfl) rfl ⟨w.heap.size+1+1,by rw [← HN.out],?_,by omega,?_⟩
  · exact (((HJ2.out.far (p:=⟨_,2,none⟩) (by simp;omega) _).far (p:=⟨_,0,none⟩) (by simp) _).far (p:=⟨_,1,none⟩) (by simp) _).far (p:=⟨_,2,none⟩) (by simp) _
  · have:=HB4.out
    exact (by repeat (first | exact Below.refl _ _ | assumption | refine below_al ?_ _ | refine below_dr ?_ | refine below_drN ?_ _ | refine below_set ?_ (by simp;try omega) _ | (refine below_to ?_ (by assumption))))
end Go.Proofs.YtailjojebdmnnaaGreat
namespace Go.Proofs.YtailjojebdmnnaaGreat
open Go.RowKit
def dayOf (e:Int × Int):Int:=15020+e.1 / 86400
def startOf (e:Int × Int):Int:=dayOf e*86400+e.2
def markC (e:Int × Int):List Value:=[.int .i64 (dayOf e),.int .i64 e.2,.int .i64 (startOf e)]
theorem markC_len (e:Int × Int):(markC e).length=3:=rfl
theorem okPre_len {es:List (Int × Int)} (h:okPre es es.length=true):es.length≤64:=by
  rcases Nat.eq_zero_or_pos es.length with h0 | h0
  · omega
  · have:=okE_off (okPre_at h (show es.length-1 < es.length by omega))
    have h2:=this.2.2.2.2.2
    rw [List.length_take] at h2
    omega
theorem okPre_num {es:List (Int × Int)} (h:okPre es es.length=true) {i:Nat} (hi:i < es.length):0≤(es.getD i (0,0)).1∧(es.getD i (0,0)).1≤1125899906842624∧0≤(es.getD i (0,0)).2∧(es.getD i (0,0)).2≤1000∧(es.getD i (0,0)).1 % 86400=0:=by
 have:=okE_off (okPre_at h hi)
 omega
theorem mark_info:∃ i,Tryz.prog.info? 104=some i∧i.zero=some (.agg #[.int .i64 0,.int .i64 0,.int .i64 0])∧i.size=3∧i.bytes=24:=
 info_parts (show (Tryz.prog.info? 104).map (fun i=>(i.zero,i.size,i.bytes))=some (some (.agg #[.int .i64 0,.int .i64 0,.int .i64 0]),3,24) by kernel_rfl)
theorem take_snoc' {α:Type} (l:List α) (k:Nat) (d:α) (h:k < l.length):l.take (k+1)=l.take k ++ [l.getD k d]:=by
 rw [List.take_succ_eq_append_getElem h,List.getD_eq_getElem?_getD,List.getElem?_eq_getElem h];rfl
theorem gr_al {w W:World} {r:Option Nat} (h:w.grownBy W r) (o:Obj):w.grownBy (W.alloc o) r:=
 ⟨h.os,h.tape,h.output,Nat.le_trans h.size (by simp),fun i hi hne=>(Below.heap_alloc W o i (Nat.lt_of_lt_of_le hi h.size)).trans (h.block i hi hne)⟩
theorem gr_dr {w W:World} {r:Option Nat} (h:w.grownBy W r):w.grownBy W.drew r:=⟨h.os,h.tape,h.output,h.size,h.block⟩
theorem gr_drN {w W:World} {r:Option Nat} (h:w.grownBy W r) (n:Nat):w.grownBy (W.drewN n) r:=⟨h.os,h.tape,h.output,h.size,h.block⟩
theorem gr_set {w W:World} {g:Nat} (h:w.grownBy W (some g)) {p:Addr} (hp:p.block=g∨w.heap.size≤p.block) (u:Value):w.grownBy (W.setCell p u) (some g):=
  ⟨h.os,h.tape,h.output,by simpa [World.setCell] using h.size,fun i hi hne=>(Below.heap_setCell W p u i (by
    rintro rfl
    rcases hp with hp | hp
    · exact hne (by rw [hp])
    · omega)).trans (h.block i hi hne)⟩
theorem gr_bel {w W W':World} {r:Option Nat} (h:w.grownBy W r) (k:Below W.heap.size W W'):w.grownBy W' r:=
 ⟨k.os.trans h.os,k.tape.trans h.tape,k.output.trans h.output,Nat.le_trans h.size k.size,fun i hi hne=>(k.block i (Nat.lt_of_lt_of_le hi h.size)).trans (h.block i hi hne)⟩
theorem gr_tr {w W W':World} {r r':Option Nat} (h:w.grownBy W r) (k:W.grownBy W' r') (hr:r'=r∨r'=none∨∀ i,r'=some i→w.heap.size≤i):w.grownBy W' r:=
  ⟨k.os.trans h.os,k.tape.trans h.tape,k.output.trans h.output,Nat.le_trans h.size k.size,fun i hi hne=>(k.block i (Nat.lt_of_lt_of_le hi h.size) (by
    rcases hr with rfl | rfl | hr
    · exact hne
    · simp
    · intro e;have:=hr i e.symm;omega)).trans (h.block i hi hne)⟩
theorem make_any (g ge:Nat) (u x:Value) (a3 a4 a5 a7:Value) (es:List (Int × Int)) (w:World) (hok:okPre es es.length=true)
    (hg:Blk w g 78 #[u,x,.slice (some ⟨ge,0,none⟩) es.length es.length,a3,a4,a5,.slice none 0 0,a7]) (he:Blk w ge 44 (es.flatMap entC).toArray) :
    Calls Tryz.prog 71 #[.pointer (some ⟨g,0,none⟩)] w fun e w'=>e = .returned (.tuple #[])∧∃ mv,Blk w' g 78 #[u,x,.slice (some ⟨ge,0,none⟩) es.length es.length,a3,a4,a5,mv,a7] ∧
      w'.ownsRow w.heap.size 104 3 mv es.length (es.flatMap markC)∧w.grownBy w' (some g):=by
  have hlen:=okPre_len hok
  have hnum:=fun i (hi:i < es.length)=>okPre_num hok hi
  have hent:=he.ents (c:=es.length) (Nat.le_refl _) (by omega) he.lt
  obtain ⟨n,hn⟩:∃ n,n=es.length:=⟨_,rfl⟩
  rw [← hn] at hg hlen hnum hent ⊢
  have HN:=Lib.hid hn
  have HNUM:=Lib.hid hnum
  clear hn hok hnum
  have c2:=hg.cell 2
  simp at c2
  obtain ⟨i0,hi0,hz0,hz1,hz2⟩:=mark_info
  have HI0:=Lib.hid hi0
  have HZ0:=Lib.hid hz0
  have HZ1:=Lib.hid hz1
  have HZ2:=Lib.hid hz2
  have hgl:=hg.lt
  have hel:=he.lt
  clear hi0 hz0 hz1 hz2
  have HE:=Lib.hid he
  have HG:=Lib.hid hg
  have HT:=Lib.hid hent
  clear he hg hent
  go_enter Tryz.func71,Tryz.ntmps71
  go_wp2
  go_loopw [11] (fun i wr=>∃ (k:Nat) (mv:Value),k≤n∧i = .int .i64 k∧Hid (Blk wr g 78 #[u,x,.slice (some ⟨ge,0,none⟩) n n,a3,a4,a5,mv,a7])∧Hid (wr.ownsRow w.heap.size 104 3 mv k ((es.take k).flatMap markC))∧Hid (w.grownBy wr (some g))) (fun i _=>n-(intOf i).toNat)
  case atStart=>exact ⟨0,_,Nat.zero_le _,rfl,HG.out,by rw [List.take_zero];exact World.ownsRow_nil _ _ _ _,World.grownBy.refl w _⟩
  case round =>
    obtain ⟨k,mv,hk,rfl,hB,hO,hW⟩:=hrel
    by_cases hlt:k < n
    · have hN:=HNUM.out k hlt
      obtain ⟨⟨a,o⟩,hE⟩:∃ e,e=es.getD k (0,0):=⟨_,rfl⟩
      rw [← hE] at hN
      obtain ⟨n0,n1,n2,n3,n4⟩:=hN
      simp only at n0 n1 n2 n3 n4
      obtain ⟨A',c',e',h1',h2',h3'⟩:=HT.out
      simp only [Value.slice.injEq] at e'
      obtain ⟨rfl,hx1,rfl⟩:=e'
      clear hx1 h1' h2'
      obtain ⟨b',off',hA',hb',hcell'⟩:=h3' (by rw [← HN.out];omega)
      simp only [Option.some.injEq,Addr.mk.injEq] at hA'
      obtain ⟨rfl,rfl,hx2⟩:=hA'
      clear hx2 h3'
      have hc':=hcell' k (by rw [← HN.out];omega)
      clear hcell'
      rw [← hE] at hc'
      obtain ⟨e0,e1⟩:=hc'
      have hge:g≠ge:=by
        intro h;subst h
        have h1:=HE.out;have h2:=HG.out
        unfold Blk at h1 h2
        rw [h1] at h2
        simp at h2
      have f0:wr.cell? ⟨ge,0+k*2,none⟩=some (.int .i64 a):=(World.cell?_of_block (hW.out.block ge hel (by simp;omega))).trans e0
      have f1:wr.cell? ⟨ge,0+k*2+1,none⟩=some (.int .i64 o):=(World.cell?_of_block (hW.out.block ge hel (by simp;omega))).trans e1
      rw [Nat.zero_add] at f0 f1
      have c6:=hB.out.cell 6
      simp at c6
      have z6:=hB.out.frozen 6
      have hwsz:=hW.out.size
      have hgr:g < wr.heap.size:=by omega
      have HE':=Lib.hid hE
      have HN4:=Lib.hid n4
      clear hE e0 e1 n4
      go_wp2
      have hw1:IntKind.i64.wrap ((15020+a / 86400)*86400)=(15020+a / 86400)*86400:=IntWalk.i64_in _ (by omega)
      have hw2:IntKind.i64.wrap ((15020+a / 86400)*86400+o)=(15020+a / 86400)*86400+o:=IntWalk.i64_in _ (by omega)
      have hnews:∀ j u,([.int .i64 (15020+a / 86400),.int .i64 o,.int .i64 ((15020+a / 86400)*86400+o)]:List Value)[j]? = some u→(((wr.alloc (.cells #[.int .i64 a,.int .i64 o] 44)).alloc (.cells #[.int .i64 (15020+a / 86400),.int .i64 o,.int .i64 ((15020+a / 86400)*86400+o)] 104)).drew).cell? ((⟨wr.heap.size+1,0,none⟩:Addr).add j)=some u:=by
        have:=World.news_of_block (heap_alloc_new (wr.alloc (.cells #[.int .i64 a,.int .i64 o] 44)) (.cells #[.int .i64 (15020+a / 86400),.int .i64 o,.int .i64 ((15020+a / 86400)*86400+o)] 104))
        intro j u hj
        have h2:=this j u hj
        simpa using h2
      have hne:some g≠mv.ownBlock:=fun e=>by have:=hO.out.lt g e.symm;omega
      have HNEWS:=Lib.hid hnews
      clear hnews
      go_region_law
        (refine step_append_lies _ (by rfl) _ _ _ (by rfl) w.heap.size 104 i0 _ 3 24 Tryz.underlying73 HI0.out HZ0.out HZ1.out HZ2.out rfl (by omega) mv k ((es.take k).flatMap markC) (by rfl) (((hO.out.alloc _).alloc _).drew)
          (⟨wr.heap.size+1,0,none⟩:Addr) 1 1 [.int .i64 (15020+a / 86400),.int .i64 o,.int .i64 ((15020+a / 86400)*86400+o)] (by rfl) (by rfl) HNEWS.out (by simp [Value.oneCell'])
          (by omega) (by unfold maxLen;omega) (by omega) (by simp;omega) (wr.heap.size+1+1) (by simp) ?_;intro gg cap w1 hown1 hgrow hat hlt1;have hB1:=(((hB.out.alloc _).alloc _).drew).grown hgrow hne;have y6:=hB1.cell 6;have yz6:=hB1.frozen 6;simp at y6)
      all_goals
        have m1:=hB1.set_ 6 (.slice (some ⟨gg,0,none⟩) (k+1) cap)
        have m2:=ownsRow_setCell_below hown1 (a:=⟨g,6,none⟩) hgl (.slice (some ⟨gg,0,none⟩) (k+1) cap)
        have m3:w.grownBy (w1.setCell ⟨g,6,none⟩ (.slice (some ⟨gg,0,none⟩) (k+1) cap)) (some g):=
          gr_set (gr_tr (gr_dr (gr_al (gr_al hW.out _) _)) hgrow (.inr (.inr fun i hi=>(hO.out.lt i hi).1))) (.inl rfl) _
        have M1:=Lib.hid m1
        have M2:=Lib.hid m2
        have M3:=Lib.hid m3
        clear m1 m2 m3 hown1 hgrow hat hlt1 hB1
        go_wp2
        go_roundw
        case rel =>
          refine ⟨k+1,_,by omega,by go_num,M1.out,?_,M3.out⟩
          have:=M2.out
          rw [take_snoc' es k (0,0) (by rw [← HN.out];omega),List.flatMap_append,← HE'.out]
          exact this
        case measure=>simp [intOf];omega
    · obtain rfl:k=n:=by omega
      go_wp2
      go_end0
      refine ⟨rfl,mv,hB.out,?_,hW.out⟩
      have:=hO.out
      rw [HN.out,List.take_length] at this
      rw [HN.out]
      exact this
end Go.Proofs.YtailjojebdmnnaaGreat
namespace Go.Proofs.YtailjojebdmnnaaGreat
structure KS (U u Y y1 y0:Int):Prop where
 hY:Y=y1*4294967296+y0
 y10:2147483648≤y1
 y11:y1 < 4294967296
 y00:0≤y0
 y01:y0 < 4294967296
 U0:0≤U
 U1:U < Y
 u0:0≤u
 u1:u < 4294967296
namespace KS
variable {U u Y y1 y0 q r:Int}
theorem Ypos (h:KS U u Y y1 y0):0 < Y:=by have:=h.hY;have:=h.y10;have:=h.y00;omega
theorem mulY (h:KS U u Y y1 y0) (hq:q*y1+r=U):q*Y=(U-r)*4294967296+q*y0:=by
 rw [h.hY,Int.mul_add,← hq,Int.add_sub_cancel,← Int.mul_assoc]
theorem exit1 (h:KS U u Y y1 y0) (hq:q*y1+r=U) (hle:q*y0≤4294967296*r+u) (hQ:(U*4294967296+u) / Y≤q):q=(U*4294967296+u) / Y:=by
 have h1:=h.mulY hq
 have:q≤(U*4294967296+u) / Y:=Int.le_ediv_of_mul_le h.Ypos (by rw [h1,Int.sub_mul];omega)
 omega
theorem step1 (h:KS U u Y y1 y0) (hB:4294967296≤q):(U*4294967296+u) / Y≤q-1:=by
 have:=h.u1
 have:=h.U1
 have:(U*4294967296+u) / Y < 4294967296:=Int.ediv_lt_of_lt_mul h.Ypos (by omega)
 omega
theorem step2 (h:KS U u Y y1 y0) (hq:q*y1+r=U) (hgt:4294967296*r+u < q*y0):(U*4294967296+u) / Y≤q-1:=by
 have h1:=h.mulY hq
 have:(U*4294967296+u) / Y < q:=Int.ediv_lt_of_lt_mul h.Ypos (by rw [h1,Int.sub_mul];omega)
 omega
theorem exit2 (h:KS U u Y y1 y0) (hq:q*y1+r=U) (hr:4294967296≤r) (hB:q≤4294967296) (hQ:(U*4294967296+u) / Y≤q):q=(U*4294967296+u) / Y:=by
 have h0:q*y0≤4294967296*y0:=Int.mul_le_mul_of_nonneg_right hB h.y00
 have:=h.y01;have:=h.u0
 exact h.exit1 hq (by omega) hQ
theorem first (h:KS U u Y y1 y0):(U*4294967296+u) / Y≤U / y1∧U / y1≤4294967297∧0≤U / y1∧U / y1*y1+U % y1=U∧0≤U % y1∧U % y1 < y1:=by
  have p1:0 < y1:=by have:=h.y10;omega
  have hm:U / y1*y1+U % y1=U:=by rw [Int.mul_comm];exact Int.mul_ediv_add_emod U y1
  refine ⟨?_,?_,Int.ediv_nonneg h.U0 (by omega),hm,Int.emod_nonneg _ (by omega),Int.emod_lt_of_pos _ p1⟩
  · apply Int.le_ediv_of_mul_le p1
    have h1:(U*4294967296+u) / Y*Y≤U*4294967296+u:=Int.ediv_mul_le _ (by have:=h.Ypos;omega)
    have hQ0:0≤(U*4294967296+u) / Y:=Int.ediv_nonneg (by have:=h.U0;have:=h.u0;omega) (by have:=h.Ypos;omega)
    generalize (U*4294967296+u) / Y=Q at *
    have h2:Q*Y=Q*y1*4294967296+Q*y0:=by rw [h.hY,Int.mul_add,← Int.mul_assoc]
    have h3:0≤Q*y0:=Int.mul_nonneg hQ0 h.y00
    have:=h.u1
    omega
  · have:U / y1 < 4294967298:=by
      apply Int.ediv_lt_of_lt_mul p1
      have:=h.U1;have:=h.hY;have:=h.y01;have:=h.y10
      omega
    omega
theorem nonneg (h:KS U u Y y1 y0):0≤(U*4294967296+u) / Y∧(U*4294967296+u) / Y < 4294967296:=by
 have:=h.u1;have:=h.U1;have:=h.u0;have:=h.U0
 exact ⟨Int.ediv_nonneg (by omega) (by have:=h.Ypos;omega),Int.ediv_lt_of_lt_mul h.Ypos (by omega)⟩
theorem rest (h:KS U u Y y1 y0):0≤U*4294967296+u-(U*4294967296+u) / Y*Y∧U*4294967296+u-(U*4294967296+u) / Y*Y < Y:=by
 have h1:=Int.mul_ediv_add_emod (U*4294967296+u) Y
 have h2:=Int.emod_nonneg (U*4294967296+u) (show Y≠0 by have:=h.Ypos;omega)
 have h3:=Int.emod_lt_of_pos (U*4294967296+u) h.Ypos
 rw [Int.mul_comm] at h1
 omega
theorem two (h:KS U u Y y1 y0) {u':Int} (u0':0≤u') (u1':u' < 4294967296):∃ h2:KS (U*4294967296+u-(U*4294967296+u) / Y*Y) u' Y y1 y0,True:=
 ⟨⟨h.hY,h.y10,h.y11,h.y00,h.y01,h.rest.1,h.rest.2,u0',u1'⟩,trivial⟩
end KS
def KI (U u Y y1 q r:Int):Prop:=q*y1+r=U∧0≤r∧r < 4294967296∧(U*4294967296+u) / Y≤q∧0≤q∧q≤4294967297
theorem shifted {h l y K M:Int} (hK:1≤K) (hKM:K*M=18446744073709551616) (h0:0≤h) (hy:h < y) (l0:0≤l) (l1:l < 18446744073709551616) :
    0≤h*K+l / M∧h*K+l / M < y*K∧(h*18446744073709551616+l)*K=(h*K+l / M)*18446744073709551616+l % M*K∧0≤l % M*K∧l % M*K < 18446744073709551616∧l*K % 18446744073709551616=l % M*K∧0≤l / M∧l / M < K:=by
  have hM:0 < M:=by
    rcases Int.lt_or_le 0 M with h | h
    · exact h
    · have:K*M≤0:=Int.mul_nonpos_of_nonneg_of_nonpos (by omega) h
      omega
  have a1:0≤l / M:=Int.ediv_nonneg l0 (by omega)
  have a2:l / M < K:=Int.ediv_lt_of_lt_mul hM (by omega)
  have a3:0≤h*K:=Int.mul_nonneg h0 (by omega)
  have a4:(h+1)*K≤y*K:=Int.mul_le_mul_of_nonneg_right (by omega) (by omega)
  rw [Int.add_mul] at a4
  have a5:0≤l % M:=Int.emod_nonneg _ (by omega)
  have a6:l % M < M:=Int.emod_lt_of_pos _ hM
  have a7:0≤l % M*K:=Int.mul_nonneg a5 (by omega)
  have a8:(l % M+1)*K≤M*K:=Int.mul_le_mul_of_nonneg_right (by omega) (by omega)
  rw [Int.add_mul,Int.mul_comm M K,hKM] at a8
  have a9:l*K=l / M*18446744073709551616+l % M*K:=by
    have e:=Int.mul_ediv_add_emod l M
    calc l*K=(M*(l / M)+l % M)*K:=by rw [e]
      _=l / M*(K*M)+l % M*K:=by rw [Int.add_mul];congr 1;ac_rfl
      _=_:=by rw [hKM]
  refine ⟨by omega,by omega,?_,a7,by omega,by omega,a1,a2⟩
  rw [Int.add_mul,a9,Int.add_mul]
  have:h*18446744073709551616*K=h*K*18446744073709551616:=by ac_rfl
  omega
theorem knuth_end {U L Y h l y K q1 q0 R1 R0 u1 u0:Int} (hK:1≤K) (y0:0 < y) (hY:Y=y*K) (hN:(h*18446744073709551616+l)*K=U*18446744073709551616+L) (hL:L=u1*4294967296+u0)
    (h1:R1=U*4294967296+u1-q1*Y) (h0:R0=R1*4294967296+u0-q0*Y) (r0:0≤R0) (r1:R0 < Y) :
    (h*18446744073709551616+l) / y=q1*4294967296+q0∧(h*18446744073709551616+l) % y=R0 / K:=by
  have e:(h*18446744073709551616+l)*K=(q1*4294967296+q0)*Y+R0:=by
    rw [hN,hL,h0,h1,Int.add_mul]
    have:q1*4294967296*Y=q1*Y*4294967296:=by ac_rfl
    omega
  obtain ⟨N,hNN⟩:∃ N,N=h*18446744073709551616+l:=⟨_,rfl⟩
  obtain ⟨q,hq⟩:∃ q,q=q1*4294967296+q0:=⟨_,rfl⟩
  rw [← hNN,← hq] at e ⊢
  have hd:R0=(N-q*y)*K:=by rw [Int.sub_mul,e,hY,← Int.mul_assoc];omega
  have hr:R0 / K=N-q*y:=by rw [hd,Int.mul_ediv_cancel _ (by omega)]
  rw [hr]
  have c0:0≤N-q*y:=by
    rcases Int.lt_or_le (N-q*y) 0 with hneg | h
    · have:(N-q*y)*K≤(-1)*K:=Int.mul_le_mul_of_nonneg_right (by omega) (by omega)
      omega
    · exact h
  have c1:N-q*y < y:=by
    rcases Int.lt_or_le (N-q*y) y with h | hge
    · exact h
    · have:y*K≤(N-q*y)*K:=Int.mul_le_mul_of_nonneg_right hge (by omega)
      omega
  have hdiv:N / y=q:=by
    have:N=(N-q*y)+y*q:=by rw [Int.mul_comm y q];omega
    rw [this,Int.add_mul_ediv_left _ _ (by omega),Int.ediv_eq_zero_of_lt c0 c1,Int.zero_add]
  refine ⟨hdiv,?_⟩
  rw [Int.emod_def,hdiv,Int.mul_comm]
end Go.Proofs.YtailjojebdmnnaaGreat
namespace Go.Proofs.YtailjojebdmnnaaGreat
open Go.RowKit
theorem of_any (n:Int) (h0:-9223372036854775808≤n) (h1:n < 9223372036854775808) (w:World) :
    Calls Tryz.prog 31 #[.int .i64 n] w fun e w'=>e = .returned (.agg #[.int .i64 (hi (n)),.int .u64 (lo (n))])∧Below w.heap.size w w':=by
  go_enter Tryz.func31,Tryz.ntmps31
  go_wp2
  refine bodyPost_ret (v:=?_) (by simp [results,Tryz.results31,go_sem];rfl) rfl ⟨ret_1 ?_ ?_,below_al (Below.refl _ _) _⟩
  · unfold hi;omega
  · simp only [IntKind.wrap_u64];unfold lo;omega
theorem bits_any (z:Int) (w:World) :
    Calls Tryz.prog 66 #[.agg #[.int .i64 (hi (z)),.int .u64 (lo (z))]] w fun e w'=>e = .returned (.agg #[.int .u64 (hi (z % 340282366920938463463374607431768211456)),.int .u64 (lo (z % 340282366920938463463374607431768211456))])∧Below w.heap.size w w':=by
  go_enter Tryz.func66,Tryz.ntmps66
  go_wp2
  refine bodyPost_ret (v:=?_) (by simp [results,Tryz.results66,go_sem];rfl) rfl ⟨ret_1 ?_ ?_,below_al (below_al (Below.refl _ _) _) _⟩
  · simp only [IntKind.wrap_u64];unfold hi;omega
  · unfold lo;omega
def sgn (z:Int):Int:=if z < 170141183460469231731687303715884105728 then z else z-340282366920938463463374607431768211456
theorem sgn_in {z:Int} (h:InM z):InW (sgn z):=by unfold InM at h;unfold InW sgn;split <;> omega
theorem mod_in (z:Int):InM (z % 340282366920938463463374607431768211456):=by unfold InM;omega
theorem from_any (z:Int) (hz:InM z) (w:World) :
    Calls Tryz.prog 67 #[.agg #[.int .u64 (hi (z)),.int .u64 (lo (z))]] w fun e w'=>e = .returned (.agg #[.int .i64 (hi (sgn z)),.int .u64 (lo (sgn z))])∧Below w.heap.size w w':=by
  have hh:=inM_hi hz
  go_enter Tryz.func67,Tryz.ntmps67
  go_wp2
  refine bodyPost_ret (v:=?_) (by simp [results,Tryz.results67,go_sem];rfl) rfl ⟨ret_1 ?_ ?_,below_al (below_al (Below.refl _ _) _) _⟩
  · unfold wrap64 hi sgn;unfold InM at hz;split <;> omega
  · unfold lo sgn;split <;> omega
theorem ladd_lo (a b:Int):(lo a+lo b) % 18446744073709551616=lo ((a+b) % 340282366920938463463374607431768211456):=by unfold lo;omega
theorem ladd_hi (a b:Int):(hi a+hi b+(lo a+lo b) / 18446744073709551616) % 18446744073709551616=hi ((a+b) % 340282366920938463463374607431768211456):=by unfold lo hi;omega
theorem ladd_c {a b:Int} (ha:InM a) (hb:InM b):((hi a+hi b+(lo a+lo b) / 18446744073709551616) / 18446744073709551616 == 1)=decide (340282366920938463463374607431768211456≤a+b):=by
 unfold InM at ha hb
 rw [Bool.eq_iff_iff,beq_iff_eq,decide_eq_true_iff];unfold lo hi;omega
theorem ladd_any (a b:Int) (ha:InM a) (hb:InM b) (w:World) :
    Calls Tryz.prog 65 #[.agg #[.int .u64 (hi (a)),.int .u64 (lo (a))],.agg #[.int .u64 (hi (b)),.int .u64 (lo (b))]] w fun e w'=>e = .returned (.tuple #[.agg #[.int .u64 (hi ((a+b) % 340282366920938463463374607431768211456)),.int .u64 (lo ((a+b) % 340282366920938463463374607431768211456))],.bool (decide (340282366920938463463374607431768211456≤a+b))])∧Below w.heap.size w w':=by
  have h1:=add64 (lo a) (lo b) 0 (lo0 a) (lo0 b) (by omega) (by omega)
  have h2:=add64 (hi a) (hi b) ((lo a+lo b) / 18446744073709551616) (inM_hi ha).1 (inM_hi hb).1 (by have:=lo0 a;have:=lo0 b;omega) (by have:=lo1 a;have:=lo1 b;omega)
  simp only [Int.add_zero] at h1
  go_enter Tryz.func65,Tryz.ntmps65
  go_wp2
  refine bodyPost_ret (v:=?_) (by simp [results,Tryz.results65,go_sem];rfl) rfl ⟨ret_2 (ladd_hi a b) (ladd_lo a b) (congrArg Value.bool (ladd_c ha hb)),below_al (below_al (below_al (Below.refl _ _) _) _) _⟩
theorem lsub_lo (a b:Int):(lo a-lo b) % 18446744073709551616=lo ((a-b) % 340282366920938463463374607431768211456):=by unfold lo;omega
theorem lsub_hi (a b:Int):(hi a-hi b-bor (lo a) (lo b) 0) % 18446744073709551616=hi ((a-b) % 340282366920938463463374607431768211456):=by unfold bor lo hi;split <;> omega
theorem lsub_c {a b:Int} (ha:InM a) (hb:InM b):(bor (hi a) (hi b) (bor (lo a) (lo b) 0) == 1)=decide (a < b):=by
 unfold InM at ha hb
 rw [Bool.eq_iff_iff,beq_iff_eq,decide_eq_true_iff];unfold bor;unfold lo hi;split <;> split <;> omega
theorem lsub_any (a b:Int) (ha:InM a) (hb:InM b) (w:World) :
    Calls Tryz.prog 91 #[.agg #[.int .u64 (hi (a)),.int .u64 (lo (a))],.agg #[.int .u64 (hi (b)),.int .u64 (lo (b))]] w fun e w'=>e = .returned (.tuple #[.agg #[.int .u64 (hi ((a-b) % 340282366920938463463374607431768211456)),.int .u64 (lo ((a-b) % 340282366920938463463374607431768211456))],.bool (decide (a < b))])∧Below w.heap.size w w':=by
  have h1:=sub64 (lo a) (lo b) 0 (lo0 a) (lo0 b) (lo1 a) (lo1 b) (by omega) (by omega)
  have hbb:=bor_le (lo a) (lo b) 0
  have h2:=sub64 (hi a) (hi b) (bor (lo a) (lo b) 0) (inM_hi ha).1 (inM_hi hb).1 (inM_hi ha).2 (inM_hi hb).2 hbb.1 hbb.2
  clear hbb
  go_enter Tryz.func91,Tryz.ntmps91
  go_wp2
  refine bodyPost_ret (v:=?_) (by simp [results,Tryz.results91,go_sem];rfl) rfl ⟨ret_2 (lsub_hi a b) (lsub_lo a b) (congrArg Value.bool (lsub_c ha hb)),below_al (below_al (below_al (Below.refl _ _) _) _) _⟩
theorem int_eq_of {a b:Int} (h1:hi a=hi b) (h2:lo a=lo b):a=b:=by rw [← hilo a,← hilo b,h1,h2]
def cmp3 (a b:Int):Int:=if a=b then 0 else if a < b then -1 else 1
theorem lcmp_any (a b:Int) (ha:InM a) (hb:InM b) (w:World) :
    Calls Tryz.prog 103 #[.agg #[.int .u64 (hi (a)),.int .u64 (lo (a))],.agg #[.int .u64 (hi (b)),.int .u64 (lo (b))]] w fun e w'=>e = .returned (.int .i64 (cmp3 a b))∧Below w.heap.size w w':=by
  go_enter Tryz.func103,Tryz.ntmps103
  go_wp2
  all_goals (go_ret;refine ⟨ret_i ?_,(by repeat (first | exact Below.refl _ _ | assumption | refine below_al ?_ _ | refine below_dr ?_ | refine below_drN ?_ _ | refine below_set ?_ (by simp;try omega) _ | (refine below_to ?_ (by assumption))))⟩;clear ha hb;simp only [cmp3];(try unfold hi at *);(try unfold lo at *);(repeat' split) <;> omega)
theorem or_bit (x y:Int) (h0:0≤x) (h1:x < 18446744073709551616) (h2:x % 2=0) (y0:0≤y) (y1:y≤1):bits .or .u64 x y=x+y:=
 bits_join .u64 64 (by decide) wraps_u64 1 x y h0 (by omega) h1 y0 (by omega) (by omega)
theorem ldouble_any (a bit:Int) (ha:InM a) (h0:0≤bit) (h1:bit≤1) (w:World) :
    Calls Tryz.prog 105 #[.agg #[.int .u64 (hi (a)),.int .u64 (lo (a))],.int .u64 bit] w fun e w'=>e = .returned (.tuple #[.agg #[.int .u64 (hi ((2*a+bit) % 340282366920938463463374607431768211456)),.int .u64 (lo ((2*a+bit) % 340282366920938463463374607431768211456))],.bool (decide (340282366920938463463374607431768211456≤2*a+bit))])∧Below w.heap.size w w':=by
  go_enter Tryz.func105,Tryz.ntmps105
  go_wp2
  go_region
  obtain ⟨hh0,hh1⟩:=inM_hi ha
  have hl0:=lo0 a
  have hl1:=lo1 a
  rw [IntKind.wrap_u64,IntKind.wrap_u64,or_bit _ (lo a / 9223372036854775808) (by omega) (by omega) (by omega) (by omega) (by omega),or_bit _ bit (by omega) (by omega) (by omega) (by omega) (by omega)]
  go_wp2
  refine bodyPost_ret (v:=?_) (by simp [results,Tryz.results105,go_sem];rfl) rfl ⟨ret_2 ?_ ?_ (congrArg Value.bool ?_),(by repeat (first | exact Below.refl _ _ | assumption | refine below_al ?_ _ | refine below_dr ?_ | refine below_drN ?_ _ | refine below_set ?_ (by simp;try omega) _ | (refine below_to ?_ (by assumption))))⟩
  · unfold hi lo;omega
  · unfold lo;omega
  · rw [Bool.eq_iff_iff,beq_iff_eq,decide_eq_true_iff];unfold InM at ha;unfold hi;omega
end Go.Proofs.YtailjojebdmnnaaGreat
namespace Go.Proofs.YtailjojebdmnnaaGreat
open Go.RowKit
def mul64_ren:Go.Shelf.Ren:=⟨fun | 264=>112 | n=>n,fun | 53=>25 | 46=>138 | n=>n,fun n=>n⟩
theorem mul64_lays:Lays.n264 Tryz.prog mul64_ren:={ mixed:=by kernel_rfl,f264:=Tryz.func112.trans (congrArg some (by kernel_rfl)),t53:=Tryz.underlying25,a53:=Tryz.isAgg25,z53:=Tryz.sizeOf25,v53:=Tryz.zeroValue25,t46:=Tryz.underlying138,a46:=Tryz.isAgg138,z46:=Tryz.sizeOf138,v46:=Tryz.zeroValue138 }
theorem mul64 (x y:Int) (hx:0≤x) (hy:0≤y) (hx1:x < 18446744073709551616) (hy1:y < 18446744073709551616) (w:World) :
    Calls Tryz.prog 112 #[.int .u64 x,.int .u64 y] w fun e w'=>e = .returned (.tuple #[.int .u64 (x*y / 18446744073709551616),.int .u64 (x*y % 18446744073709551616)])∧w'=w:=by
  obtain ⟨x,rfl⟩:=Int.eq_ofNat_of_zero_le hx
  obtain ⟨y,rfl⟩:=Int.eq_ofNat_of_zero_le hy
  have h:=Any.bits_Mul64 mul64_lays x y (by omega) (by omega) w
  simp only [Int.natCast_mul,Int.natCast_ediv,Int.natCast_emod] at h
  exact h
def V4 (x0 x1 x2 x3:Int):Int:=x0+x1*18446744073709551616+x2*340282366920938463463374607431768211456+x3*6277101735386680763835789423207666416102355444464034512896
def U64 (x:Int):Prop:=0≤x∧x < 18446744073709551616
def wcs (x0 x1 x2 x3:Int):Array Value:=#[.int .u64 x0,.int .u64 x1,.int .u64 x2,.int .u64 x3]
def WPost (g:Nat) (v:Int) (w w':World):Prop:=∃ y0 y1 y2 y3,U64 y0∧U64 y1∧U64 y2∧U64 y3∧V4 y0 y1 y2 y3=v∧Blk w' g 162 (wcs y0 y1 y2 y3)∧w.grownBy w' (some g)
def LoopI (g:Nat) (T:Int) (w0:World) (cv iv:Value) (wr:World):Prop:=∃ y0 y1 z2 z3 c n:Int,cv = .int .u64 c∧iv = .int .i64 n∧U64 y0∧U64 y1∧U64 z2∧U64 z3∧0≤c∧c≤1 ∧
 ((n=2∧V4 y0 y1 z2 z3+c*340282366920938463463374607431768211456=T)∨(n=3∧V4 y0 y1 z2 z3+c*6277101735386680763835789423207666416102355444464034512896=T)∨(n=4∧V4 y0 y1 z2 z3+c*115792089237316195423570985008687907853269984665640564039457584007913129639936=T))∧Blk wr g 162 (wcs y0 y1 z2 z3)∧w0.grownBy wr (some g)
theorem wadd0_any (g:Nat) (x0 x1 x2 x3 a b:Int) (hx0:U64 x0) (hx1:U64 x1) (hx2:U64 x2) (hx3:U64 x3) (w:World) (hb:Blk w g 162 (wcs x0 x1 x2 x3)) (ha:U64 a) (hbb:U64 b) (hfit:V4 x0 x1 x2 x3+a*b*1 < 115792089237316195423570985008687907853269984665640564039457584007913129639936) :
    Calls Tryz.prog 102 #[.pointer (some ⟨g,0,none⟩),.int .u64 a,.int .u64 b,.int .i64 0] w fun e w'=>e = .returned (.tuple #[])∧WPost g (V4 x0 x1 x2 x3+a*b*1) w w':=by
  have c0:=hb.cell 0
  have f0:=hb.frozen 0
  simp [wcs] at c0
  obtain ⟨ph,hph⟩:∃ ph,ph=a*b / 18446744073709551616:=⟨_,rfl⟩
  obtain ⟨pl,hpl⟩:∃ pl,pl=a*b % 18446744073709551616:=⟨_,rfl⟩
  have hm:=mul64 a b ha.1 hbb.1 ha.2 hbb.2
  rw [← hph,← hpl] at hm
  have hp:a*b=ph*18446744073709551616+pl:=by omega
  have hab:0≤a*b:=Int.mul_nonneg ha.1 hbb.1
  have hab2:a*b≤18446744073709551615*18446744073709551615:=Int.mul_le_mul (by have:=ha.2;omega) (by have:=hbb.2;omega) hbb.1 (by omega)
  rw [hp] at hab hab2 hfit ⊢
  have hpl0:U64 pl:=by constructor <;> omega
  have hph0:U64 ph:=by obtain ⟨_,_⟩:=hpl0;constructor <;> omega
  obtain ⟨T,hT⟩:∃ T,T=V4 x0 x1 x2 x3+(ph*18446744073709551616+pl)*1:=⟨_,rfl⟩
  rw [← hT] at hfit ⊢
  obtain ⟨pl0,pl1⟩:=hpl0
  obtain ⟨ph0,ph1⟩:=hph0
  obtain ⟨y0,hy0⟩:∃ y0,y0=(x0+pl) % 18446744073709551616:=⟨_,rfl⟩
  obtain ⟨k1,hk1⟩:∃ k1,k1=(x0+pl) / 18446744073709551616:=⟨_,rfl⟩
  obtain ⟨y1,hy1⟩:∃ y1,y1=(x1+ph+k1) % 18446744073709551616:=⟨_,rfl⟩
  obtain ⟨k2,hk2⟩:∃ k2,k2=(x1+ph+k1) / 18446744073709551616:=⟨_,rfl⟩
  have hxA:=hx0
  have hxB:=hx1
  obtain ⟨xA0,xA1⟩:=hxA
  obtain ⟨xB0,xB1⟩:=hxB
  have h1:=add64 x0 pl 0 (by omega) (by omega) (by omega) (by omega)
  simp only [Int.add_zero] at h1
  rw [← hy0,← hk1] at h1
  have h2:=add64 x1 ph k1 (by omega) (by omega) (by omega) (by omega)
  rw [← hy1,← hk2] at h2
  have hb1:=(hb.set_ 0 (.int .u64 y0)).drew
  simp [wcs] at hb1
  have hg1:w.grownBy (w.setCell ⟨g,0,none⟩ (.int .u64 y0)).drew (some g):=gr_dr (gr_set (World.grownBy.refl w _) (.inl rfl) _)
  have hI0:V4 y0 y1 x2 x3+k2*340282366920938463463374607431768211456=T:=by rw [hT];unfold V4;omega
  have q0:U64 y0:=⟨by omega,by omega⟩
  have q1:U64 y1:=⟨by omega,by omega⟩
  have q2:0≤k2∧k2≤1:=by omega
  have HM:=Lib.hid hm
  have HB:=Lib.hid hb1
  have HG:=Lib.hid hg1
  clear hm hp hpl hph hb hab hab2 ha hbb hb1 hg1 hT hy0 hk1 hy1 hk2
  go_enter Tryz.func102,Tryz.ntmps102
  go_wp2_with fail
  refine (HM.out _).mono ?_
  rintro e w1 ⟨rfl,rfl⟩
  go_wp2_with fail
  go_region_with (fail)
  go_wp2_with fail
  have hb1:=HB.out
  have hg1:=HG.out
  obtain ⟨w2,hw2⟩:∃ w2,w2=(w1.setCell ⟨g,0,none⟩ (.int .u64 y0)).drew:=⟨_,rfl⟩
  rw [← hw2] at hb1 hg1 ⊢
  clear hw2
  have c1:=hb1.cell 1
  have f1:=hb1.frozen 1
  simp at c1
  have hb2:=(hb1.set_ 1 (.int .u64 y1)).drew
  simp at hb2
  have hg2:w1.grownBy (w2.setCell ⟨g,1,none⟩ (.int .u64 y1)).drew (some g):=gr_dr (gr_set hg1 (.inl rfl) _)
  have HB2:=Lib.hid hb2
  have HG2:=Lib.hid hg2
  clear hb1 hg1 hb2 hg2 c0 f0
  go_region_with (fail)
  go_wp2_with fail
  have HI0:=Lib.hid (show LoopI g T w1 (Value.int .u64 k2) (Value.int .i64 2) (w2.setCell ⟨g,1,none⟩ (.int .u64 y1)).drew from
    ⟨y0,y1,x2,x3,k2,2,rfl,rfl,q0,q1,hx2,hx3,q2.1,q2.2,.inl ⟨rfl,hI0⟩,HB2.out,HG2.out⟩)
  obtain ⟨w3,hw3⟩:∃ w3,w3=(w2.setCell ⟨g,1,none⟩ (.int .u64 y1)).drew:=⟨_,rfl⟩
  rw [← hw3] at HI0 ⊢
  clear hw3 HB2 HG2 HB HG c1 f1 h1 h2 hI0 q0 q1 q2
  go_loopw [10,11] (fun c i wr=>Hid (LoopI g T w1 c i wr)) (fun _ i _=>4-(intOf i).toNat)
  case atStart=>exact HI0
  case round =>
    obtain ⟨y0,y1,z2,z3,c,n,rfl,rfl,hy0,hy1,hz2,hz3,hc0,hc1,hn,hbk,hgr⟩:=hrel.out
    clear hrel HI0
    have hz2':=hz2
    have hz3':=hz3
    obtain ⟨z20,z21⟩:=hz2'
    obtain ⟨z30,z31⟩:=hz3'
    rcases hn with ⟨rfl,hI⟩ | ⟨rfl,hI⟩ | ⟨rfl,hI⟩
    · skip
      obtain ⟨r0,hr0⟩:∃ r,r=(z2+c) % 18446744073709551616:=⟨_,rfl⟩
      obtain ⟨d0,hd0⟩:∃ d,d=(z2+c) / 18446744073709551616:=⟨_,rfl⟩
      have cz:=hbk.cell 2
      have fz:=hbk.frozen 2
      simp [wcs] at cz
      have hs:=(hbk.set_ 2 (.int .u64 r0)).drew
      simp [wcs] at hs
      have hgs:w1.grownBy (wr.setCell ⟨g,2,none⟩ (.int .u64 r0)).drew (some g):=gr_dr (gr_set hgr (.inl rfl) _)
      have h3:=add64 z2 0 c (by omega) (by omega) (by omega) (by omega)
      simp only [Int.add_zero] at h3
      rw [← hr0,← hd0] at h3
      have HR:=Lib.hid (show LoopI g T w1 (Value.int .u64 d0) (Value.int .i64 3) (wr.setCell ⟨g,2,none⟩ (.int .u64 r0)).drew from
        ⟨y0,y1,r0,z3,d0,3,rfl,rfl,hy0,hy1,⟨by omega,by omega⟩,hz3,by omega,by omega,.inr (.inl ⟨rfl,?_⟩),hs,hgs⟩)
      rotate_left
      · unfold V4 at hI ⊢;omega
      clear hs hgs hbk hgr hr0 hd0 hI
      go_wp2_with fail
      go_region_with (fail)
      go_wp2
      go_roundw
      case rel=>exact HR.out
      case measure=>simp [intOf]
    · skip
      obtain ⟨r0,hr0⟩:∃ r,r=(z3+c) % 18446744073709551616:=⟨_,rfl⟩
      obtain ⟨d0,hd0⟩:∃ d,d=(z3+c) / 18446744073709551616:=⟨_,rfl⟩
      have cz:=hbk.cell 3
      have fz:=hbk.frozen 3
      simp [wcs] at cz
      have hs:=(hbk.set_ 3 (.int .u64 r0)).drew
      simp [wcs] at hs
      have hgs:w1.grownBy (wr.setCell ⟨g,3,none⟩ (.int .u64 r0)).drew (some g):=gr_dr (gr_set hgr (.inl rfl) _)
      have h3:=add64 z3 0 c (by omega) (by omega) (by omega) (by omega)
      simp only [Int.add_zero] at h3
      rw [← hr0,← hd0] at h3
      have HR:=Lib.hid (show LoopI g T w1 (Value.int .u64 d0) (Value.int .i64 4) (wr.setCell ⟨g,3,none⟩ (.int .u64 r0)).drew from
        ⟨y0,y1,z2,r0,d0,4,rfl,rfl,hy0,hy1,hz2,⟨by omega,by omega⟩,by omega,by omega,.inr (.inr ⟨rfl,?_⟩),hs,hgs⟩)
      rotate_left
      · unfold V4 at hI ⊢;omega
      clear hs hgs hbk hgr hr0 hd0 hI
      go_wp2_with fail
      go_region_with (fail)
      go_wp2
      go_roundw
      case rel=>exact HR.out
      case measure=>simp [intOf]
    · have hpost:WPost g T w1 wr:=⟨y0,y1,z2,z3,hy0,hy1,hz2,hz3,by obtain ⟨_,_⟩:=hy0;obtain ⟨_,_⟩:=hy1;unfold V4 at hI ⊢;omega,hbk,hgr⟩
      have HP:=Lib.hid hpost
      clear hpost hI hbk hgr
      go_wp2
      go_end0
      exact ⟨rfl,HP.out⟩
theorem wadd1_any (g:Nat) (x0 x1 x2 x3 a b:Int) (hx0:U64 x0) (hx1:U64 x1) (hx2:U64 x2) (hx3:U64 x3) (w:World) (hb:Blk w g 162 (wcs x0 x1 x2 x3)) (ha:U64 a) (hbb:U64 b) (hfit:V4 x0 x1 x2 x3+a*b*18446744073709551616 < 115792089237316195423570985008687907853269984665640564039457584007913129639936) :
    Calls Tryz.prog 102 #[.pointer (some ⟨g,0,none⟩),.int .u64 a,.int .u64 b,.int .i64 1] w fun e w'=>e = .returned (.tuple #[])∧WPost g (V4 x0 x1 x2 x3+a*b*18446744073709551616) w w':=by
  have c0:=hb.cell 1
  have f0:=hb.frozen 1
  simp [wcs] at c0
  obtain ⟨ph,hph⟩:∃ ph,ph=a*b / 18446744073709551616:=⟨_,rfl⟩
  obtain ⟨pl,hpl⟩:∃ pl,pl=a*b % 18446744073709551616:=⟨_,rfl⟩
  have hm:=mul64 a b ha.1 hbb.1 ha.2 hbb.2
  rw [← hph,← hpl] at hm
  have hp:a*b=ph*18446744073709551616+pl:=by omega
  have hab:0≤a*b:=Int.mul_nonneg ha.1 hbb.1
  have hab2:a*b≤18446744073709551615*18446744073709551615:=Int.mul_le_mul (by have:=ha.2;omega) (by have:=hbb.2;omega) hbb.1 (by omega)
  rw [hp] at hab hab2 hfit ⊢
  have hpl0:U64 pl:=by constructor <;> omega
  have hph0:U64 ph:=by obtain ⟨_,_⟩:=hpl0;constructor <;> omega
  obtain ⟨T,hT⟩:∃ T,T=V4 x0 x1 x2 x3+(ph*18446744073709551616+pl)*18446744073709551616:=⟨_,rfl⟩
  rw [← hT] at hfit ⊢
  obtain ⟨pl0,pl1⟩:=hpl0
  obtain ⟨ph0,ph1⟩:=hph0
  obtain ⟨y0,hy0⟩:∃ y0,y0=(x1+pl) % 18446744073709551616:=⟨_,rfl⟩
  obtain ⟨k1,hk1⟩:∃ k1,k1=(x1+pl) / 18446744073709551616:=⟨_,rfl⟩
  obtain ⟨y1,hy1⟩:∃ y1,y1=(x2+ph+k1) % 18446744073709551616:=⟨_,rfl⟩
  obtain ⟨k2,hk2⟩:∃ k2,k2=(x2+ph+k1) / 18446744073709551616:=⟨_,rfl⟩
  have hxA:=hx1
  have hxB:=hx2
  obtain ⟨xA0,xA1⟩:=hxA
  obtain ⟨xB0,xB1⟩:=hxB
  have h1:=add64 x1 pl 0 (by omega) (by omega) (by omega) (by omega)
  simp only [Int.add_zero] at h1
  rw [← hy0,← hk1] at h1
  have h2:=add64 x2 ph k1 (by omega) (by omega) (by omega) (by omega)
  rw [← hy1,← hk2] at h2
  have hb1:=(hb.set_ 1 (.int .u64 y0)).drew
  simp [wcs] at hb1
  have hg1:w.grownBy (w.setCell ⟨g,1,none⟩ (.int .u64 y0)).drew (some g):=gr_dr (gr_set (World.grownBy.refl w _) (.inl rfl) _)
  have hI0:V4 x0 y0 y1 x3+k2*6277101735386680763835789423207666416102355444464034512896=T:=by rw [hT];unfold V4;omega
  have q0:U64 y0:=⟨by omega,by omega⟩
  have q1:U64 y1:=⟨by omega,by omega⟩
  have q2:0≤k2∧k2≤1:=by omega
  have HM:=Lib.hid hm
  have HB:=Lib.hid hb1
  have HG:=Lib.hid hg1
  clear hm hp hpl hph hb hab hab2 ha hbb hb1 hg1 hT hy0 hk1 hy1 hk2
  go_enter Tryz.func102,Tryz.ntmps102
  go_wp2_with fail
  refine (HM.out _).mono ?_
  rintro e w1 ⟨rfl,rfl⟩
  go_wp2_with fail
  go_region_with (fail)
  go_wp2_with fail
  have hb1:=HB.out
  have hg1:=HG.out
  obtain ⟨w2,hw2⟩:∃ w2,w2=(w1.setCell ⟨g,1,none⟩ (.int .u64 y0)).drew:=⟨_,rfl⟩
  rw [← hw2] at hb1 hg1 ⊢
  clear hw2
  have c1:=hb1.cell 2
  have f1:=hb1.frozen 2
  simp at c1
  have hb2:=(hb1.set_ 2 (.int .u64 y1)).drew
  simp at hb2
  have hg2:w1.grownBy (w2.setCell ⟨g,2,none⟩ (.int .u64 y1)).drew (some g):=gr_dr (gr_set hg1 (.inl rfl) _)
  have HB2:=Lib.hid hb2
  have HG2:=Lib.hid hg2
  clear hb1 hg1 hb2 hg2 c0 f0
  go_region_with (fail)
  go_wp2_with fail
  have HI0:=Lib.hid (show LoopI g T w1 (Value.int .u64 k2) (Value.int .i64 3) (w2.setCell ⟨g,2,none⟩ (.int .u64 y1)).drew from
    ⟨x0,y0,y1,x3,k2,3,rfl,rfl,hx0,q0,q1,hx3,q2.1,q2.2,.inr (.inl ⟨rfl,hI0⟩),HB2.out,HG2.out⟩)
  obtain ⟨w3,hw3⟩:∃ w3,w3=(w2.setCell ⟨g,2,none⟩ (.int .u64 y1)).drew:=⟨_,rfl⟩
  rw [← hw3] at HI0 ⊢
  clear hw3 HB2 HG2 HB HG c1 f1 h1 h2 hI0 q0 q1 q2
  go_loopw [10,11] (fun c i wr=>Hid (LoopI g T w1 c i wr)) (fun _ i _=>4-(intOf i).toNat)
  case atStart=>exact HI0
  case round =>
    obtain ⟨y0,y1,z2,z3,c,n,rfl,rfl,hy0,hy1,hz2,hz3,hc0,hc1,hn,hbk,hgr⟩:=hrel.out
    clear hrel HI0
    have hz2':=hz2
    have hz3':=hz3
    obtain ⟨z20,z21⟩:=hz2'
    obtain ⟨z30,z31⟩:=hz3'
    rcases hn with ⟨rfl,hI⟩ | ⟨rfl,hI⟩ | ⟨rfl,hI⟩
    · skip
      obtain ⟨r0,hr0⟩:∃ r,r=(z2+c) % 18446744073709551616:=⟨_,rfl⟩
      obtain ⟨d0,hd0⟩:∃ d,d=(z2+c) / 18446744073709551616:=⟨_,rfl⟩
      have cz:=hbk.cell 2
      have fz:=hbk.frozen 2
      simp [wcs] at cz
      have hs:=(hbk.set_ 2 (.int .u64 r0)).drew
      simp [wcs] at hs
      have hgs:w1.grownBy (wr.setCell ⟨g,2,none⟩ (.int .u64 r0)).drew (some g):=gr_dr (gr_set hgr (.inl rfl) _)
      have h3:=add64 z2 0 c (by omega) (by omega) (by omega) (by omega)
      simp only [Int.add_zero] at h3
      rw [← hr0,← hd0] at h3
      have HR:=Lib.hid (show LoopI g T w1 (Value.int .u64 d0) (Value.int .i64 3) (wr.setCell ⟨g,2,none⟩ (.int .u64 r0)).drew from
        ⟨y0,y1,r0,z3,d0,3,rfl,rfl,hy0,hy1,⟨by omega,by omega⟩,hz3,by omega,by omega,.inr (.inl ⟨rfl,?_⟩),hs,hgs⟩)
      rotate_left
      · unfold V4 at hI ⊢;omega
      clear hs hgs hbk hgr hr0 hd0 hI
      go_wp2_with fail
      go_region_with (fail)
      go_wp2
      go_roundw
      case rel=>exact HR.out
      case measure=>simp [intOf]
    · skip
      obtain ⟨r0,hr0⟩:∃ r,r=(z3+c) % 18446744073709551616:=⟨_,rfl⟩
      obtain ⟨d0,hd0⟩:∃ d,d=(z3+c) / 18446744073709551616:=⟨_,rfl⟩
      have cz:=hbk.cell 3
      have fz:=hbk.frozen 3
      simp [wcs] at cz
      have hs:=(hbk.set_ 3 (.int .u64 r0)).drew
      simp [wcs] at hs
      have hgs:w1.grownBy (wr.setCell ⟨g,3,none⟩ (.int .u64 r0)).drew (some g):=gr_dr (gr_set hgr (.inl rfl) _)
      have h3:=add64 z3 0 c (by omega) (by omega) (by omega) (by omega)
      simp only [Int.add_zero] at h3
      rw [← hr0,← hd0] at h3
      have HR:=Lib.hid (show LoopI g T w1 (Value.int .u64 d0) (Value.int .i64 4) (wr.setCell ⟨g,3,none⟩ (.int .u64 r0)).drew from
        ⟨y0,y1,z2,r0,d0,4,rfl,rfl,hy0,hy1,hz2,⟨by omega,by omega⟩,by omega,by omega,.inr (.inr ⟨rfl,?_⟩),hs,hgs⟩)
      rotate_left
      · unfold V4 at hI ⊢;omega
      clear hs hgs hbk hgr hr0 hd0 hI
      go_wp2_with fail
      go_region_with (fail)
      go_wp2
      go_roundw
      case rel=>exact HR.out
      case measure=>simp [intOf]
    · have hpost:WPost g T w1 wr:=⟨y0,y1,z2,z3,hy0,hy1,hz2,hz3,by obtain ⟨_,_⟩:=hy0;obtain ⟨_,_⟩:=hy1;unfold V4 at hI ⊢;omega,hbk,hgr⟩
      have HP:=Lib.hid hpost
      clear hpost hI hbk hgr
      go_wp2
      go_end0
      exact ⟨rfl,HP.out⟩
theorem wadd2_any (g:Nat) (x0 x1 x2 x3 a b:Int) (hx0:U64 x0) (hx1:U64 x1) (hx2:U64 x2) (hx3:U64 x3) (w:World) (hb:Blk w g 162 (wcs x0 x1 x2 x3)) (ha:U64 a) (hbb:U64 b) (hfit:V4 x0 x1 x2 x3+a*b*340282366920938463463374607431768211456 < 115792089237316195423570985008687907853269984665640564039457584007913129639936) :
    Calls Tryz.prog 102 #[.pointer (some ⟨g,0,none⟩),.int .u64 a,.int .u64 b,.int .i64 2] w fun e w'=>e = .returned (.tuple #[])∧WPost g (V4 x0 x1 x2 x3+a*b*340282366920938463463374607431768211456) w w':=by
  have c0:=hb.cell 2
  have f0:=hb.frozen 2
  simp [wcs] at c0
  obtain ⟨ph,hph⟩:∃ ph,ph=a*b / 18446744073709551616:=⟨_,rfl⟩
  obtain ⟨pl,hpl⟩:∃ pl,pl=a*b % 18446744073709551616:=⟨_,rfl⟩
  have hm:=mul64 a b ha.1 hbb.1 ha.2 hbb.2
  rw [← hph,← hpl] at hm
  have hp:a*b=ph*18446744073709551616+pl:=by omega
  have hab:0≤a*b:=Int.mul_nonneg ha.1 hbb.1
  have hab2:a*b≤18446744073709551615*18446744073709551615:=Int.mul_le_mul (by have:=ha.2;omega) (by have:=hbb.2;omega) hbb.1 (by omega)
  rw [hp] at hab hab2 hfit ⊢
  have hpl0:U64 pl:=by constructor <;> omega
  have hph0:U64 ph:=by obtain ⟨_,_⟩:=hpl0;constructor <;> omega
  obtain ⟨T,hT⟩:∃ T,T=V4 x0 x1 x2 x3+(ph*18446744073709551616+pl)*340282366920938463463374607431768211456:=⟨_,rfl⟩
  rw [← hT] at hfit ⊢
  obtain ⟨pl0,pl1⟩:=hpl0
  obtain ⟨ph0,ph1⟩:=hph0
  obtain ⟨y0,hy0⟩:∃ y0,y0=(x2+pl) % 18446744073709551616:=⟨_,rfl⟩
  obtain ⟨k1,hk1⟩:∃ k1,k1=(x2+pl) / 18446744073709551616:=⟨_,rfl⟩
  obtain ⟨y1,hy1⟩:∃ y1,y1=(x3+ph+k1) % 18446744073709551616:=⟨_,rfl⟩
  obtain ⟨k2,hk2⟩:∃ k2,k2=(x3+ph+k1) / 18446744073709551616:=⟨_,rfl⟩
  have hxA:=hx2
  have hxB:=hx3
  obtain ⟨xA0,xA1⟩:=hxA
  obtain ⟨xB0,xB1⟩:=hxB
  have h1:=add64 x2 pl 0 (by omega) (by omega) (by omega) (by omega)
  simp only [Int.add_zero] at h1
  rw [← hy0,← hk1] at h1
  have h2:=add64 x3 ph k1 (by omega) (by omega) (by omega) (by omega)
  rw [← hy1,← hk2] at h2
  have hb1:=(hb.set_ 2 (.int .u64 y0)).drew
  simp [wcs] at hb1
  have hg1:w.grownBy (w.setCell ⟨g,2,none⟩ (.int .u64 y0)).drew (some g):=gr_dr (gr_set (World.grownBy.refl w _) (.inl rfl) _)
  have hI0:V4 x0 x1 y0 y1+k2*115792089237316195423570985008687907853269984665640564039457584007913129639936=T:=by rw [hT];unfold V4;omega
  have q0:U64 y0:=⟨by omega,by omega⟩
  have q1:U64 y1:=⟨by omega,by omega⟩
  have q2:0≤k2∧k2≤1:=by omega
  have HM:=Lib.hid hm
  have HB:=Lib.hid hb1
  have HG:=Lib.hid hg1
  clear hm hp hpl hph hb hab hab2 ha hbb hb1 hg1 hT hy0 hk1 hy1 hk2
  go_enter Tryz.func102,Tryz.ntmps102
  go_wp2_with fail
  refine (HM.out _).mono ?_
  rintro e w1 ⟨rfl,rfl⟩
  go_wp2_with fail
  go_region_with (fail)
  go_wp2_with fail
  have hb1:=HB.out
  have hg1:=HG.out
  obtain ⟨w2,hw2⟩:∃ w2,w2=(w1.setCell ⟨g,2,none⟩ (.int .u64 y0)).drew:=⟨_,rfl⟩
  rw [← hw2] at hb1 hg1 ⊢
  clear hw2
  have c1:=hb1.cell 3
  have f1:=hb1.frozen 3
  simp at c1
  have hb2:=(hb1.set_ 3 (.int .u64 y1)).drew
  simp at hb2
  have hg2:w1.grownBy (w2.setCell ⟨g,3,none⟩ (.int .u64 y1)).drew (some g):=gr_dr (gr_set hg1 (.inl rfl) _)
  have HB2:=Lib.hid hb2
  have HG2:=Lib.hid hg2
  clear hb1 hg1 hb2 hg2 c0 f0
  go_region_with (fail)
  go_wp2_with fail
  have HI0:=Lib.hid (show LoopI g T w1 (Value.int .u64 k2) (Value.int .i64 4) (w2.setCell ⟨g,3,none⟩ (.int .u64 y1)).drew from
    ⟨x0,x1,y0,y1,k2,4,rfl,rfl,hx0,hx1,q0,q1,q2.1,q2.2,.inr (.inr ⟨rfl,hI0⟩),HB2.out,HG2.out⟩)
  obtain ⟨w3,hw3⟩:∃ w3,w3=(w2.setCell ⟨g,3,none⟩ (.int .u64 y1)).drew:=⟨_,rfl⟩
  rw [← hw3] at HI0 ⊢
  clear hw3 HB2 HG2 HB HG c1 f1 h1 h2 hI0 q0 q1 q2
  go_loopw [10,11] (fun c i wr=>Hid (LoopI g T w1 c i wr)) (fun _ i _=>4-(intOf i).toNat)
  case atStart=>exact HI0
  case round =>
    obtain ⟨y0,y1,z2,z3,c,n,rfl,rfl,hy0,hy1,hz2,hz3,hc0,hc1,hn,hbk,hgr⟩:=hrel.out
    clear hrel HI0
    have hz2':=hz2
    have hz3':=hz3
    obtain ⟨z20,z21⟩:=hz2'
    obtain ⟨z30,z31⟩:=hz3'
    rcases hn with ⟨rfl,hI⟩ | ⟨rfl,hI⟩ | ⟨rfl,hI⟩
    · skip
      obtain ⟨r0,hr0⟩:∃ r,r=(z2+c) % 18446744073709551616:=⟨_,rfl⟩
      obtain ⟨d0,hd0⟩:∃ d,d=(z2+c) / 18446744073709551616:=⟨_,rfl⟩
      have cz:=hbk.cell 2
      have fz:=hbk.frozen 2
      simp [wcs] at cz
      have hs:=(hbk.set_ 2 (.int .u64 r0)).drew
      simp [wcs] at hs
      have hgs:w1.grownBy (wr.setCell ⟨g,2,none⟩ (.int .u64 r0)).drew (some g):=gr_dr (gr_set hgr (.inl rfl) _)
      have h3:=add64 z2 0 c (by omega) (by omega) (by omega) (by omega)
      simp only [Int.add_zero] at h3
      rw [← hr0,← hd0] at h3
      have HR:=Lib.hid (show LoopI g T w1 (Value.int .u64 d0) (Value.int .i64 3) (wr.setCell ⟨g,2,none⟩ (.int .u64 r0)).drew from
        ⟨y0,y1,r0,z3,d0,3,rfl,rfl,hy0,hy1,⟨by omega,by omega⟩,hz3,by omega,by omega,.inr (.inl ⟨rfl,?_⟩),hs,hgs⟩)
      rotate_left
      · unfold V4 at hI ⊢;omega
      clear hs hgs hbk hgr hr0 hd0 hI
      go_wp2_with fail
      go_region_with (fail)
      go_wp2
      go_roundw
      case rel=>exact HR.out
      case measure=>simp [intOf]
    · skip
      obtain ⟨r0,hr0⟩:∃ r,r=(z3+c) % 18446744073709551616:=⟨_,rfl⟩
      obtain ⟨d0,hd0⟩:∃ d,d=(z3+c) / 18446744073709551616:=⟨_,rfl⟩
      have cz:=hbk.cell 3
      have fz:=hbk.frozen 3
      simp [wcs] at cz
      have hs:=(hbk.set_ 3 (.int .u64 r0)).drew
      simp [wcs] at hs
      have hgs:w1.grownBy (wr.setCell ⟨g,3,none⟩ (.int .u64 r0)).drew (some g):=gr_dr (gr_set hgr (.inl rfl) _)
      have h3:=add64 z3 0 c (by omega) (by omega) (by omega) (by omega)
      simp only [Int.add_zero] at h3
      rw [← hr0,← hd0] at h3
      have HR:=Lib.hid (show LoopI g T w1 (Value.int .u64 d0) (Value.int .i64 4) (wr.setCell ⟨g,3,none⟩ (.int .u64 r0)).drew from
        ⟨y0,y1,z2,r0,d0,4,rfl,rfl,hy0,hy1,hz2,⟨by omega,by omega⟩,by omega,by omega,.inr (.inr ⟨rfl,?_⟩),hs,hgs⟩)
      rotate_left
      · unfold V4 at hI ⊢;omega
      clear hs hgs hbk hgr hr0 hd0 hI
      go_wp2_with fail
      go_region_with (fail)
      go_wp2
      go_roundw
      case rel=>exact HR.out
      case measure=>simp [intOf]
    · have hpost:WPost g T w1 wr:=⟨y0,y1,z2,z3,hy0,hy1,hz2,hz3,by obtain ⟨_,_⟩:=hy0;obtain ⟨_,_⟩:=hy1;unfold V4 at hI ⊢;omega,hbk,hgr⟩
      have HP:=Lib.hid hpost
      clear hpost hI hbk hgr
      go_wp2
      go_end0
      exact ⟨rfl,HP.out⟩
end Go.Proofs.YtailjojebdmnnaaGreat
namespace Go.Proofs.YtailjojebdmnnaaGreat
open Go.RowKit
theorem V4_hi {y0 y1 y2 y3 p:Int} (h0:U64 y0) (h1:U64 y1) (h2:U64 y2) (h3:U64 y3) (h:V4 y0 y1 y2 y3=p) :
    y3=hi (p / 340282366920938463463374607431768211456)∧y2=lo (p / 340282366920938463463374607431768211456)∧y1=hi (p % 340282366920938463463374607431768211456)∧y0=lo (p % 340282366920938463463374607431768211456):=by
  obtain ⟨_,_⟩:=h0;obtain ⟨_,_⟩:=h1;obtain ⟨_,_⟩:=h2;obtain ⟨_,_⟩:=h3
  unfold V4 at h;unfold hi lo;omega
theorem wadd_post {g:Nat} {v v':Int} {w w':World} (h:v=v') (k:WPost g v w w'):WPost g v' w w':=h▸k
def MW (w W:World) (ah al bh bl:Int):Prop:=
 Blk W w.heap.size 133 #[.int .u64 ah,.int .u64 al]∧Blk W (w.heap.size+1) 133 #[.int .u64 bh,.int .u64 bl] ∧
 Blk W (w.heap.size+1+1) 133 #[.int .u64 0,.int .u64 0]∧Blk W (w.heap.size+1+1+1) 133 #[.int .u64 0,.int .u64 0]∧Below w.heap.size w W
theorem MW.gr {w W W':World} {ah al bh bl:Int} (h:MW w W ah al bh bl) (hg:W.grownBy W' (some (w.heap.size+1+1+1+1))):MW w W' ah al bh bl:=by
 obtain ⟨h0,h1,h2,h3,h4⟩:=h
 exact ⟨h0.grown hg (by simp;omega),h1.grown hg (by simp),h2.grown hg (by simp),h3.grown hg (by simp),h4.grown hg h4.size (fun k hk=>by simp only [Option.some.injEq] at hk;omega)⟩
theorem MW.cells {w W:World} {ah al bh bl:Int} (h:MW w W ah al bh bl):W.cell? ⟨w.heap.size,0,none⟩=some (.int .u64 ah)∧W.cell? ⟨w.heap.size,1,none⟩=some (.int .u64 al) ∧
    W.cell? ⟨w.heap.size+1,0,none⟩=some (.int .u64 bh)∧W.cell? ⟨w.heap.size+1,1,none⟩=some (.int .u64 bl):=by
  obtain ⟨h0,h1,h2,h3,h4⟩:=h
  exact ⟨by rw [h0.cell];rfl,by rw [h0.cell];rfl,by rw [h1.cell];rfl,by rw [h1.cell];rfl⟩
theorem MW.mk (w:World) (ah al bh bl:Int):MW w (((((w.alloc (.cells #[.int .u64 ah,.int .u64 al] 133)).alloc (.cells #[.int .u64 bh,.int .u64 bl] 133)).alloc (.cells #[.int .u64 0,.int .u64 0] 133)).alloc (.cells #[.int .u64 0,.int .u64 0] 133)).alloc (.cells #[.int .u64 0,.int .u64 0,.int .u64 0,.int .u64 0] 162)) ah al bh bl:=by
  refine ⟨?_,?_,?_,?_,(by repeat (first | exact Below.refl _ _ | assumption | refine below_al ?_ _ | refine below_dr ?_ | refine below_drN ?_ _ | refine below_set ?_ (by simp;try omega) _ | (refine below_to ?_ (by assumption))))⟩
  · exact ((((Blk.new w _ _).alloc _).alloc _).alloc _).alloc _
  · exact ((((by simpa using Blk.new (w.alloc _) 133 #[.int .u64 bh,.int .u64 bl]:Blk ((w.alloc (.cells #[.int .u64 ah,.int .u64 al] 133)).alloc (.cells #[.int .u64 bh,.int .u64 bl] 133)) (w.heap.size+1) 133 #[.int .u64 bh,.int .u64 bl])).alloc _).alloc _).alloc _
  · exact ((by simpa using Blk.new ((w.alloc (.cells #[.int .u64 ah,.int .u64 al] 133)).alloc (.cells #[.int .u64 bh,.int .u64 bl] 133)) 133 #[.int .u64 0,.int .u64 0]:Blk (((w.alloc (.cells #[.int .u64 ah,.int .u64 al] 133)).alloc (.cells #[.int .u64 bh,.int .u64 bl] 133)).alloc (.cells #[.int .u64 0,.int .u64 0] 133)) (w.heap.size+1+1) 133 #[.int .u64 0,.int .u64 0]).alloc _).alloc _
  · exact ((by simpa using Blk.new (((w.alloc (.cells #[.int .u64 ah,.int .u64 al] 133)).alloc (.cells #[.int .u64 bh,.int .u64 bl] 133)).alloc (.cells #[.int .u64 0,.int .u64 0] 133)) 133 #[.int .u64 0,.int .u64 0]:Blk ((((w.alloc (.cells #[.int .u64 ah,.int .u64 al] 133)).alloc (.cells #[.int .u64 bh,.int .u64 bl] 133)).alloc (.cells #[.int .u64 0,.int .u64 0] 133)).alloc (.cells #[.int .u64 0,.int .u64 0] 133)) (w.heap.size+1+1+1) 133 #[.int .u64 0,.int .u64 0])).alloc _
theorem lmul_any (a b:Int) (ha:InM a) (hb:InM b) (w:World) :
    Calls Tryz.prog 86 #[.agg #[.int .u64 (hi (a)),.int .u64 (lo (a))],.agg #[.int .u64 (hi (b)),.int .u64 (lo (b))]] w fun e w'=>e = .returned (.tuple #[.agg #[.int .u64 (hi (a*b / 340282366920938463463374607431768211456)),.int .u64 (lo (a*b / 340282366920938463463374607431768211456))],.agg #[.int .u64 (hi (a*b % 340282366920938463463374607431768211456)),.int .u64 (lo (a*b % 340282366920938463463374607431768211456))]])∧Below w.heap.size w w':=by
  obtain ⟨ah,hah⟩:∃ x,x=hi a:=⟨_,rfl⟩
  obtain ⟨al,hal⟩:∃ x,x=lo a:=⟨_,rfl⟩
  obtain ⟨bh,hbh⟩:∃ x,x=hi b:=⟨_,rfl⟩
  obtain ⟨bl,hbl⟩:∃ x,x=lo b:=⟨_,rfl⟩
  have u1:U64 ah:=by rw [hah];exact inM_hi ha
  have u2:U64 al:=by rw [hal];exact ⟨lo0 a,lo1 a⟩
  have u3:U64 bh:=by rw [hbh];exact inM_hi hb
  have u4:U64 bl:=by rw [hbl];exact ⟨lo0 b,lo1 b⟩
  have ea:a=ah*18446744073709551616+al:=by rw [hah,hal];exact (hilo a).symm
  have eb:b=bh*18446744073709551616+bl:=by rw [hbh,hbl];exact (hilo b).symm
  have hlt:a*b < 115792089237316195423570985008687907853269984665640564039457584007913129639936:=by
    have:a*b≤340282366920938463463374607431768211455*340282366920938463463374607431768211455:=Int.mul_le_mul (by have:=ha.2;omega) (by have:=hb.2;omega) hb.1 (by omega)
    omega
  have n0:0≤al*bl:=Int.mul_nonneg u2.1 u4.1
  have n1:0≤al*bh:=Int.mul_nonneg u2.1 u3.1
  have n2:0≤ah*bl:=Int.mul_nonneg u1.1 u4.1
  have n3:0≤ah*bh:=Int.mul_nonneg u1.1 u3.1
  have hexp:a*b=al*bl+(al*bh)*18446744073709551616+(ah*bl)*18446744073709551616+(ah*bh)*340282366920938463463374607431768211456:=by
    rw [ea,eb]
    simp only [Int.add_mul,Int.mul_add]
    have e1:ah*18446744073709551616*(bh*18446744073709551616)=(ah*bh)*340282366920938463463374607431768211456:=by
      rw [show (340282366920938463463374607431768211456:Int)=18446744073709551616*18446744073709551616 by rfl];ac_rfl
    have e2:ah*18446744073709551616*bl=ah*bl*18446744073709551616:=by ac_rfl
    have e3:al*(bh*18446744073709551616)=al*bh*18446744073709551616:=by ac_rfl
    rw [e1,e2,e3]
    omega
  rw [← hah,← hal,← hbh,← hbl]
  obtain ⟨P,hP⟩:∃ P,P=a*b:=⟨_,rfl⟩
  rw [← hP]
  rw [← hP] at hlt hexp
  obtain ⟨p0,hp0⟩:∃ p,p=al*bl:=⟨_,rfl⟩
  obtain ⟨p1,hp1⟩:∃ p,p=al*bh:=⟨_,rfl⟩
  obtain ⟨p2,hp2⟩:∃ p,p=ah*bl:=⟨_,rfl⟩
  obtain ⟨p3,hp3⟩:∃ p,p=ah*bh:=⟨_,rfl⟩
  rw [← hp0,← hp1,← hp2,← hp3] at hexp
  rw [← hp0] at n0
  rw [← hp1] at n1
  rw [← hp2] at n2
  rw [← hp3] at n3
  have U1:=Lib.hid u1
  have U2:=Lib.hid u2
  have U3:=Lib.hid u3
  have U4:=Lib.hid u4
  have HE:=Lib.hid hexp
  have H0:=Lib.hid hp0
  have H1:=Lib.hid hp1
  have H2:=Lib.hid hp2
  have H3:=Lib.hid hp3
  clear hah hal hbh hbl u1 u2 u3 u4 ea eb hP ha hb hp0 hp1 hp2 hp3 hexp
  have hz:U64 0:=⟨by omega,by omega⟩
  have hblk0:Blk (((((w.alloc (.cells #[.int .u64 ah,.int .u64 al] 133)).alloc (.cells #[.int .u64 bh,.int .u64 bl] 133)).alloc (.cells #[.int .u64 0,.int .u64 0] 133)).alloc (.cells #[.int .u64 0,.int .u64 0] 133)).alloc (.cells #[.int .u64 0,.int .u64 0,.int .u64 0,.int .u64 0] 162)) (w.heap.size+1+1+1+1) 162 (wcs 0 0 0 0):=by
    simpa [wcs] using Blk.new ((((w.alloc (.cells #[.int .u64 ah,.int .u64 al] 133)).alloc (.cells #[.int .u64 bh,.int .u64 bl] 133)).alloc (.cells #[.int .u64 0,.int .u64 0] 133)).alloc (.cells #[.int .u64 0,.int .u64 0] 133)) 162 (wcs 0 0 0 0)
  have HBK:=Lib.hid hblk0
  have HMW:=Lib.hid (MW.mk w ah al bh bl)
  have HP0:0≤p0∧p0≤P:=by have:=HE.out;omega
  clear hblk0
  go_enter Tryz.func86,Tryz.ntmps86
  go_wp2_with fail
  refine (wadd0_any _ 0 0 0 0 al bl hz hz hz hz _ HBK.out U2.out U4.out (by rw [← H0.out];have:=HE.out;simp [V4];omega)).mono ?_
  rintro e w1 ⟨rfl,hw1⟩
  obtain ⟨y0,y1,y2,y3,g0,g1,g2,g3,hv,hbk,hgr⟩:=wadd_post (v':=p0) (by simp [V4];rw [H0.out]) hw1
  have HM1:=Lib.hid (HMW.out.gr hgr)
  obtain ⟨k0,k1,k2,k3⟩:=HM1.out.cells
  have HV1:=Lib.hid hv
  have HC1:=Lib.hid (wadd1_any _ y0 y1 y2 y3 al bh g0 g1 g2 g3 _ hbk U2.out U3.out (by rw [← H1.out,hv];have:=HE.out;omega))
  clear hw1 hv hbk hgr HBK HMW
  go_wp2_with fail
  refine HC1.out.mono ?_
  rintro e w2 ⟨rfl,hw2⟩
  obtain ⟨y0,y1,y2,y3,g0,g1,g2,g3,hv,hbk,hgr⟩:=wadd_post (v':=p0+p1*18446744073709551616) (by rw [HV1.out,H1.out]) hw2
  have HM2:=Lib.hid (HM1.out.gr hgr)
  obtain ⟨k0,k1,k2,k3⟩:=HM2.out.cells
  have HV2:=Lib.hid hv
  have HC2:=Lib.hid (wadd1_any _ y0 y1 y2 y3 ah bl g0 g1 g2 g3 _ hbk U1.out U4.out (by rw [← H2.out,hv];have:=HE.out;omega))
  clear hw2 hv hbk hgr HM1 HC1
  go_wp2_with fail
  refine HC2.out.mono ?_
  rintro e w3 ⟨rfl,hw3⟩
  obtain ⟨y0,y1,y2,y3,g0,g1,g2,g3,hv,hbk,hgr⟩:=wadd_post (v':=p0+p1*18446744073709551616+p2*18446744073709551616) (by rw [HV2.out,H2.out]) hw3
  have HM3:=Lib.hid (HM2.out.gr hgr)
  obtain ⟨k0,k1,k2,k3⟩:=HM3.out.cells
  have HV3:=Lib.hid hv
  have HC3:=Lib.hid (wadd2_any _ y0 y1 y2 y3 ah bh g0 g1 g2 g3 _ hbk U1.out U3.out (by rw [← H3.out,hv];have:=HE.out;omega))
  clear hw3 hv hbk hgr HM2 HC2
  go_wp2_with fail
  refine HC3.out.mono ?_
  rintro e w4 ⟨rfl,hw4⟩
  obtain ⟨y0,y1,y2,y3,g0,g1,g2,g3,hv,hbk,hgr⟩:=wadd_post (v':=P) (by rw [HV3.out,← H3.out,HE.out]) hw4
  have HM4:=Lib.hid (HM3.out.gr hgr)
  obtain ⟨e3,e2,e1,e0⟩:=V4_hi g0 g1 g2 g3 hv
  have c0:=hbk.cell 0
  have c1:=hbk.cell 1
  have c2:=hbk.cell 2
  have c3:=hbk.cell 3
  simp [wcs] at c0 c1 c2 c3
  have j20:=HM4.out.2.2.1.cell 0
  have j21:=HM4.out.2.2.1.cell 1
  have j30:=HM4.out.2.2.2.1.cell 0
  have j31:=HM4.out.2.2.2.1.cell 1
  have f20:=HM4.out.2.2.1.frozen 0
  have f21:=HM4.out.2.2.1.frozen 1
  have f30:=HM4.out.2.2.2.1.frozen 0
  have f31:=HM4.out.2.2.2.1.frozen 1
  simp at j20 j21 j30 j31
  have HE3:=Lib.hid e3
  have HE2:=Lib.hid e2
  have HE1:=Lib.hid e1
  have HE0:=Lib.hid e0
  clear hw4 hv hbk hgr HM3 HC3 e0 e1 e2 e3 k0 k1 k2 k3
  go_wp2_with fail
  go_region
  have HB:=HM4.out.2.2.2.2
  rw [HE0.out,HE1.out,HE2.out,HE3.out]
  go_wp2
  clear HE0 HE1 HE2 HE3 HP0 c0 c1 c2 c3 hlt n0 n1 n2 n3 g0 g1 g2 g3
  refine bodyPost_ret (v:=?_) (by simp [results,Tryz.results86,go_sem, *];rfl) rfl ⟨rfl,(by repeat (first | exact Below.refl _ _ | assumption | refine below_al ?_ _ | refine below_dr ?_ | refine below_drN ?_ _ | refine below_set ?_ (by simp;try omega) _ | (refine below_to ?_ (by assumption))))⟩
end Go.Proofs.YtailjojebdmnnaaGreat
namespace Go.Proofs.YtailjojebdmnnaaGreat
open Go.RowKit
def lz_ren:Go.Shelf.Ren:=⟨fun | 134=>118 | 129=>127 | n=>n,fun | 3=>3 | 4=>4 | 5=>5 | 9=>9 | 53=>25 | 46=>138 | n=>n,fun n=>n⟩
theorem lz_lays:Lays.n134 Tryz.prog lz_ren:={ mixed:=by kernel_rfl,f134:=Tryz.func118.trans (congrArg some (by kernel_rfl)),f129:=Tryz.func127.trans (congrArg some (by kernel_rfl)),t53:=Tryz.underlying25,a53:=Tryz.isAgg25,z53:=Tryz.sizeOf25,v53:=Tryz.zeroValue25,t46:=Tryz.underlying138,a46:=Tryz.isAgg138,z46:=Tryz.sizeOf138,v46:=Tryz.zeroValue138,t3:=Tryz.underlying3,a3:=Tryz.isAgg3,z3:=Tryz.sizeOf3,v3:=Tryz.zeroValue3,t4:=Tryz.underlying4,a4:=Tryz.isAgg4,z4:=Tryz.sizeOf4,v4:=Tryz.zeroValue4,t5:=Tryz.underlying5,a5:=Tryz.isAgg5,z5:=Tryz.sizeOf5,v5:=Tryz.zeroValue5,t9:=Tryz.underlying9,a9:=Tryz.isAgg9,z9:=Tryz.sizeOf9,v9:=Tryz.zeroValue9 }
theorem lead {y:Int} (h0:0 < y) (h1:y < 18446744073709551616):∃ s:Nat,s≤63∧(64:Int)-(Lib.bitLen y.toNat:Int)=(s:Int)∧9223372036854775808≤y*2 ^ s∧y*2 ^ s < 18446744073709551616∧(2:Int) ^ s*2 ^ (64-s)=18446744073709551616∧(1:Int)≤2 ^ s:=by
  obtain ⟨n,rfl⟩:=Int.eq_ofNat_of_zero_le (Int.le_of_lt h0)
  obtain ⟨b1,b2,b3⟩:=Lib.bitLenAux_bounds 64 n (by omega) (by omega)
  have b4:Lib.bitLenAux 64 n≤64:=Lib.bitLenAux_le 64 n 64 (by omega)
  change 1≤Lib.bitLen n at b1
  change 2 ^ (Lib.bitLen n-1)≤n at b2
  change n < 2 ^ Lib.bitLen n at b3
  change Lib.bitLen n≤64 at b4
  rw [show ((n:Int)).toNat=n by simp]
  generalize Lib.bitLen n=L at *
  have e1:(2:Nat) ^ (L-1)*2 ^ (64-L)=2 ^ 63:=by rw [← Nat.pow_add];congr 1;omega
  have e2:(2:Nat) ^ L*2 ^ (64-L)=2 ^ 64:=by rw [← Nat.pow_add];congr 1;omega
  have p:0 < (2:Nat) ^ (64-L):=Nat.pow_pos (by omega)
  have c1:2 ^ (L-1)*2 ^ (64-L)≤n*2 ^ (64-L):=Nat.mul_le_mul_right _ b2
  have c2:n*2 ^ (64-L) < 2 ^ L*2 ^ (64-L):=Nat.mul_lt_mul_of_pos_right b3 p
  have e3:(2:Nat) ^ (64-L)*2 ^ (64-(64-L))=2 ^ 64:=by rw [← Nat.pow_add];congr 1;omega
  refine ⟨64-L,by omega,by omega,?_,?_,?_,?_⟩
  · have:((9223372036854775808:Nat):Int)≤((n*2 ^ (64-L):Nat):Int):=Int.ofNat_le.2 (by rw [e1] at c1;exact c1)
    simpa using this
  · have:((n*2 ^ (64-L):Nat):Int) < ((18446744073709551616:Nat):Int):=Int.ofNat_lt.2 (by rw [e2] at c2;exact c2)
    simpa using this
  · have:(((2:Nat) ^ (64-L)*2 ^ (64-(64-L)):Nat):Int)=((18446744073709551616:Nat):Int):=by rw [e3]
    simpa using this
  · have:((1:Nat):Int)≤(((2:Nat) ^ (64-L):Nat):Int):=Int.ofNat_le.2 p
    simpa using this
theorem and_low (x:Int) (h0:0≤x) (h1:x < 18446744073709551616):bits .and .u64 x 4294967295=x % 4294967296:=by
 obtain ⟨n,rfl⟩:=Int.eq_ofNat_of_zero_le h0
 have h:=bits_and_u64_nat n 4294967295 (by omega) (by omega)
 have e:n &&& 4294967295=n % 4294967296:=Nat.and_two_pow_sub_one_eq_mod n 32
 rw [e] at h
 simpa using h
theorem or_high (x y:Int) (s:Nat) (h0:0≤x) (h1:x < 18446744073709551616) (h2:x % 2 ^ s=0) (y0:0≤y) (y1:y < 2 ^ s) (y2:y < 18446744073709551616):bits .or .u64 x y=x+y:=
 bits_join .u64 64 (by decide) wraps_u64 s x y h0 h2 h1 y0 y1 y2
theorem div64_any (h l y:Int) (h0:0≤h) (hy:h < y) (hy1:y < 18446744073709551616) (l0:0≤l) (l1:l < 18446744073709551616) (w:World) :
    Calls Tryz.prog 113 #[.int .u64 h,.int .u64 l,.int .u64 y] w fun e w'=>e = .returned (.tuple #[.int .u64 ((h*18446744073709551616+l) / y),.int .u64 ((h*18446744073709551616+l) % y)])∧Below w.heap.size w w':=by
  by_cases hh:h=0
  · subst hh
    have q1:Int.tdiv l y=l / y:=Int.tdiv_eq_ediv_of_nonneg l0
    have q2:Int.tmod l y=l % y:=Int.tmod_eq_emod_of_nonneg l0
    have y0:y≠0:=by omega
    have y1:¬ y≤0:=by omega
    have w0:IntKind.u64.wrap (l / y)=l / y:=by
      rw [IntKind.wrap_u64]
      have a1:0≤l / y:=Int.ediv_nonneg l0 (by omega)
      have a2:l / y≤l:=Int.ediv_le_self _ l0
      omega
    go_enter Tryz.func113,Tryz.ntmps113
    go_wp2_with fail
    go_region
    go_wp2
    go_ret2
    exact ⟨by simp,(by repeat (first | exact Below.refl _ _ | assumption | refine below_al ?_ _ | refine below_dr ?_ | refine below_drN ?_ _ | refine below_set ?_ (by simp;try omega) _ | (refine below_to ?_ (by assumption))))⟩
  have hz:=Any.bits_LeadingZeros64 lz_lays y w (by omega) (by omega)
  change Calls Tryz.prog 118 _ _ _ at hz
  obtain ⟨s,hs,e0,hY0,hY1,hKM,hK⟩:=lead (y:=y) (by omega) hy1
  rw [e0] at hz
  have HZ:=Lib.hid hz
  obtain ⟨a0,a1,a2,a3,a4,a5,a6,a7⟩:=shifted hK hKM h0 hy l0 l1
  have hhk:0≤h*2 ^ s∧h*2 ^ s < 18446744073709551616:=⟨Int.mul_nonneg h0 (by omega),by omega⟩
  obtain ⟨Y,e1⟩:∃ Y,IntKind.u64.wrap (y*2 ^ s)=Y:=⟨_,rfl⟩
  obtain ⟨y1,e2⟩:∃ y1,Y / 4294967296=y1:=⟨_,rfl⟩
  obtain ⟨y0,e3⟩:∃ y0,bits .and .u64 Y 4294967295=y0:=⟨_,rfl⟩
  obtain ⟨HK,e4⟩:∃ HK,IntKind.u64.wrap (h*2 ^ s)=HK:=⟨_,rfl⟩
  obtain ⟨LM,e5⟩:∃ LM,l / 2 ^ (64-s)=LM:=⟨_,rfl⟩
  obtain ⟨U,e6⟩:∃ U,bits .or .u64 HK LM=U:=⟨_,rfl⟩
  obtain ⟨L,e7⟩:∃ L,IntKind.u64.wrap (l*2 ^ s)=L:=⟨_,rfl⟩
  obtain ⟨u1,e8⟩:∃ u1,L / 4294967296=u1:=⟨_,rfl⟩
  obtain ⟨u0,e9⟩:∃ u0,bits .and .u64 L 4294967295=u0:=⟨_,rfl⟩
  have f1:Y=y*2 ^ s:=by rw [← e1,IntKind.wrap_u64];omega
  have f3:y0=Y % 4294967296:=by rw [← e3,and_low Y (by omega) (by omega)]
  have f4:HK=h*2 ^ s:=by rw [← e4,IntKind.wrap_u64];omega
  have f6:U=h*2 ^ s+l / 2 ^ (64-s):=by rw [← e6,f4,← e5,or_high _ _ s hhk.1 hhk.2 (Int.mul_emod_left _ _) a6 a7 (by omega)]
  have f7:L=l % 2 ^ (64-s)*2 ^ s:=by rw [← e7,IntKind.wrap_u64,a5]
  have f9:u0=L % 4294967296:=by rw [← e9,and_low L (by omega) (by omega)]
  have hKS:KS U u1 Y y1 y0:=⟨by omega,by omega,by omega,by omega,by omega,by omega,by omega,by omega,by omega⟩
  have HN:=Lib.hid (show (h*18446744073709551616+l)*2 ^ s=U*18446744073709551616+L by rw [f6,f7];exact a2)
  have HL:=Lib.hid (show L=u1*4294967296+u0 by omega)
  have HY:=Lib.hid f1
  have HK1:=Lib.hid hK
  have hu0:0≤u0∧u0 < 4294967296:=by omega
  obtain ⟨g1,g2,g3,g4,g5,g6⟩:=hKS.first
  obtain ⟨q,e10⟩:∃ q,U / y1=q:=⟨_,rfl⟩
  obtain ⟨r,hr⟩:∃ r,r=U % y1:=⟨_,rfl⟩
  rw [e10,← hr] at g4
  rw [← hr] at g5 g6
  rw [e10] at g1 g2 g3
  have b1:=hKS.y11
  have b0:=hKS.U0
  have bu:=hKS.U1
  have bY:=hKS.hY
  have by10:=hKS.y10
  have ew:IntKind.u64.wrap q=q:=by rw [IntKind.wrap_u64];omega
  have e11:IntKind.u64.wrap (q*y1)=q*y1:=by rw [IntKind.wrap_u64];have:0≤q*y1:=Int.mul_nonneg g3 (by omega);omega
  have e12:IntKind.u64.wrap (U-q*y1)=r:=by rw [IntKind.wrap_u64];omega
  have y1z:y1≠0:=by omega
  have KI1:=Lib.hid (show KI U u1 Y y1 q r from ⟨g4,g5,by omega,g1,g3,g2⟩)
  have KS1:=Lib.hid hKS
  have HU0:=Lib.hid hu0
  have yz:y≠0:=by omega
  have yh:¬ y≤h:=by omega
  have tq:Int.tdiv U y1=U / y1:=Int.tdiv_eq_ediv_of_nonneg b0
  have HEY:=Lib.hid (show 0≤y∧0 < y by omega)
  clear hz e0 hY0 hY1 hKM hK a0 a1 a2 a3 a4 a5 a6 a7 hhk f1 f3 f4 f6 f7 f9 hKS hu0 g1 g2 g3 g4 g5 g6 hr b1 b0 bu bY by10
  go_enter Tryz.func113,Tryz.ntmps113
  go_wp2_with fail
  refine HZ.out.mono ?_
  rintro e w1 ⟨rfl,rfl⟩
  go_wp2_with fail
  go_loopw [15,16] (fun a b wr=>∃ q r:Int,a = .int .u64 q∧b = .int .u64 r∧Hid (KI U u1 Y y1 q r)∧w1=wr) (fun a _ _=>(intOf a).toNat)
  case atStart=>exact ⟨q,r,rfl,rfl,KI1,rfl⟩
  case round =>
    obtain ⟨qa,r,rfl,rfl,hki,rfl⟩:=hrel
    obtain ⟨i1,i2,i3,i4,i5,i6⟩:=hki.out
    have b10:=KS1.out.y10
    have b11:=KS1.out.y11
    have b00:=KS1.out.y00
    have b01:=KS1.out.y01
    have bu0:=KS1.out.u0
    have bu1:=KS1.out.u1
    have w1':IntKind.u64.wrap (4294967296*r)=4294967296*r:=by rw [IntKind.wrap_u64];omega
    have w2':IntKind.u64.wrap (4294967296*r+u1)=4294967296*r+u1:=by rw [IntKind.wrap_u64];omega
    by_cases hqB:4294967296≤qa
    · have hQ':=KS1.out.step1 hqB
      have hqp:=KS1.out.nonneg
      have hq1:1≤qa:=by omega
      have w4:IntKind.u64.wrap (r+y1)=r+y1:=by rw [IntKind.wrap_u64];omega
      by_cases hbr:4294967296≤r+y1
      · have hq_:=KS1.out.exit2 (q:=qa-1) (r:=r+y1) (by rw [Int.sub_mul];omega) hbr (by omega) hQ'
        obtain ⟨qa',hq'⟩:∃ q',q'=qa-1:=⟨_,rfl⟩
        have w3:IntKind.u64.wrap (qa-1)=qa':=by rw [hq',IntKind.wrap_u64];omega
        rw [← hq'] at hq_
        have hq:=Lib.hid hq_
        clear hq_ hq' i1 i2 i3 i4 i5 i6 hQ' b10 b11 b00 b01 bu0 bu1 hqp
        have hr1:=KS1.out.rest
        rw [← hq.out] at hr1
        have hn1:=KS1.out.nonneg
        rw [← hq.out] at hn1
        have HQ1:=Lib.hid hn1
        have hYlt:Y < 18446744073709551616:=by have:=KS1.out.hY;have:=KS1.out.y11;have:=KS1.out.y01;omega
        obtain ⟨UB,e13⟩:∃ x,IntKind.u64.wrap (U*4294967296)=x:=⟨_,rfl⟩
        obtain ⟨UB1,e14⟩:∃ x,IntKind.u64.wrap (UB+u1)=x:=⟨_,rfl⟩
        obtain ⟨qY,e15⟩:∃ x,IntKind.u64.wrap (qa'*Y)=x:=⟨_,rfl⟩
        obtain ⟨R1,e16⟩:∃ x,IntKind.u64.wrap (UB1-qY)=x:=⟨_,rfl⟩
        have hR1:R1=U*4294967296+u1-qa'*Y:=by
          rw [IntKind.wrap_u64] at e13 e14 e15 e16
          omega
        have HR1:=Lib.hid hR1
        obtain ⟨KS2',_⟩:=KS1.out.two HU0.out.1 HU0.out.2
        rw [← hq.out,← hR1] at KS2'
        have HR1b:=Lib.hid (show 0≤R1∧R1 < Y by rw [hR1];exact hr1)
        obtain ⟨g1,g2,g3,g4,g5,g6⟩:=KS2'.first
        obtain ⟨q0,e17⟩:∃ q,R1 / y1=q:=⟨_,rfl⟩
        obtain ⟨r0,hr⟩:∃ r,r=R1 % y1:=⟨_,rfl⟩
        rw [e17,← hr] at g4
        rw [← hr] at g5 g6
        rw [e17] at g1 g2 g3
        have b1:=KS2'.y11
        have b0:=KS2'.U0
        have bu:=KS2'.U1
        have e18:IntKind.u64.wrap (q0*y1)=q0*y1:=by rw [IntKind.wrap_u64];have:0≤q0*y1:=Int.mul_nonneg g3 (by omega);omega
        have e19:IntKind.u64.wrap (R1-q0*y1)=r0:=by rw [IntKind.wrap_u64];omega
        have e20:IntKind.u64.wrap q0=q0:=by rw [IntKind.wrap_u64];omega
        have tq2:Int.tdiv R1 y1=R1 / y1:=Int.tdiv_eq_ediv_of_nonneg b0
        have KI2:=Lib.hid (show KI R1 u0 Y y1 q0 r0 from ⟨g4,g5,by omega,g1,g3,g2⟩)
        have KS2:=Lib.hid KS2'
        clear hr1 hn1 hYlt hR1 KS2' g1 g2 g3 g4 g5 g6 hr b1 b0 bu
        go_wp2_with fail
        go_loopw [18,16] (fun a b wr=>∃ q r:Int,a = .int .u64 q∧b = .int .u64 r∧Hid (KI R1 u0 Y y1 q r)∧w1=wr) (fun a _ _=>(intOf a).toNat)
        case atStart=>exact ⟨q0,r0,rfl,rfl,KI2,rfl⟩
        case round =>
          obtain ⟨qb,r,rfl,rfl,hki,rfl⟩:=hrel
          obtain ⟨i1,i2,i3,i4,i5,i6⟩:=hki.out
          have b10:=KS2.out.y10
          have b11:=KS2.out.y11
          have b00:=KS2.out.y00
          have b01:=KS2.out.y01
          have bu0:=KS2.out.u0
          have bu1:=KS2.out.u1
          have w1':IntKind.u64.wrap (4294967296*r)=4294967296*r:=by rw [IntKind.wrap_u64];omega
          have w2':IntKind.u64.wrap (4294967296*r+u0)=4294967296*r+u0:=by rw [IntKind.wrap_u64];omega
          by_cases hqB:4294967296≤qb
          · have hQ':=KS2.out.step1 hqB
            have hqp:=KS2.out.nonneg
            have hq1:1≤qb:=by omega
            have w4:IntKind.u64.wrap (r+y1)=r+y1:=by rw [IntKind.wrap_u64];omega
            by_cases hbr:4294967296≤r+y1
            · have hq_:=KS2.out.exit2 (q:=qb-1) (r:=r+y1) (by rw [Int.sub_mul];omega) hbr (by omega) hQ'
              obtain ⟨qb',hq'⟩:∃ q',q'=qb-1:=⟨_,rfl⟩
              have w3:IntKind.u64.wrap (qb-1)=qb':=by rw [hq',IntKind.wrap_u64];omega
              rw [← hq'] at hq_
              have hq:=Lib.hid hq_
              clear hq_ hq' i1 i2 i3 i4 i5 i6 hQ' b10 b11 b00 b01 bu0 bu1 hqp
              have hn2:=KS2.out.nonneg
              rw [← hq.out] at hn2
              have hn1:=HQ1.out
              have hr2:=KS2.out.rest
              rw [← hq.out] at hr2
              have hYlt:Y < 18446744073709551616:=by have:=KS2.out.hY;have:=KS2.out.y11;have:=KS2.out.y01;omega
              obtain ⟨RB,e21⟩:∃ x,IntKind.u64.wrap (R1*4294967296)=x:=⟨_,rfl⟩
              obtain ⟨RB1,e22⟩:∃ x,IntKind.u64.wrap (RB+u0)=x:=⟨_,rfl⟩
              obtain ⟨qY2,e23⟩:∃ x,IntKind.u64.wrap (qb'*Y)=x:=⟨_,rfl⟩
              obtain ⟨R0,e24⟩:∃ x,IntKind.u64.wrap (RB1-qY2)=x:=⟨_,rfl⟩
              have hR0:R0=R1*4294967296+u0-qb'*Y:=by
                rw [IntKind.wrap_u64] at e21 e22 e23 e24
                omega
              have e25:IntKind.u64.wrap (qa'*4294967296)=qa'*4294967296:=by rw [IntKind.wrap_u64];omega
              have e26:IntKind.u64.wrap (qa'*4294967296+qb')=qa'*4294967296+qb':=by rw [IntKind.wrap_u64];omega
              have hfin:=Lib.hid (knuth_end HK1.out HEY.out.2 HY.out HN.out HL.out HR1.out hR0 (by omega) (by omega))
              clear hn2 hn1 hr2 hYlt hR0
              go_wp2
              go_ret2
              rw [hfin.out.1,hfin.out.2]
              exact ⟨rfl,(by repeat (first | exact Below.refl _ _ | assumption | refine below_al ?_ _ | refine below_dr ?_ | refine below_drN ?_ _ | refine below_set ?_ (by simp;try omega) _ | (refine below_to ?_ (by assumption))))⟩
            · have hin:KI R1 u0 Y y1 (qb-1) (r+y1):=⟨by rw [Int.sub_mul];omega,by omega,by omega,hQ',by omega,by omega⟩
              have HIN:=Lib.hid hin
              have w3:IntKind.u64.wrap (qb-1)=qb-1:=by rw [IntKind.wrap_u64];omega
              clear hin i1 i2 i3 i4 i5 i6 hQ' b10 b11 b00 b01 bu0 bu1 hqp
              go_wp2
              go_roundw
              case rel=>exact ⟨qb-1,r+y1,rfl,rfl,HIN,by first | rfl | trivial⟩
              case measure=>simp [intOf];omega
          · have hm0:0≤qb*y0:=Int.mul_nonneg i5 b00
            have hm1:qb*y0≤4294967295*4294967295:=Int.mul_le_mul (by omega) (by omega) b00 (by omega)
            have w0':IntKind.u64.wrap (qb*y0)=qb*y0:=by rw [IntKind.wrap_u64];omega
            obtain ⟨qy,hqy⟩:∃ qy,qy=qb*y0:=⟨_,rfl⟩
            rw [← hqy] at hm0 hm1
            have w0':IntKind.u64.wrap (qb*y0)=qy:=by rw [w0',hqy]
            by_cases hgt:4294967296*r+u0 < qy
            · have hQ':=KS2.out.step2 i1 (by rw [← hqy];exact hgt)
              have hqp:=KS2.out.nonneg
              have HQY:=Lib.hid hqy
              clear hqy
              have hq1:1≤qb:=by omega
              have w4:IntKind.u64.wrap (r+y1)=r+y1:=by rw [IntKind.wrap_u64];omega
              by_cases hbr:4294967296≤r+y1
              · have hq_:=KS2.out.exit2 (q:=qb-1) (r:=r+y1) (by rw [Int.sub_mul];omega) hbr (by omega) hQ'
                obtain ⟨qb',hq'⟩:∃ q',q'=qb-1:=⟨_,rfl⟩
                have w3:IntKind.u64.wrap (qb-1)=qb':=by rw [hq',IntKind.wrap_u64];omega
                rw [← hq'] at hq_
                have hq:=Lib.hid hq_
                clear hq_ hq' i1 i2 i3 i4 i5 i6 hQ' b10 b11 b00 b01 bu0 bu1 hqp
                have hn2:=KS2.out.nonneg
                rw [← hq.out] at hn2
                have hn1:=HQ1.out
                have hr2:=KS2.out.rest
                rw [← hq.out] at hr2
                have hYlt:Y < 18446744073709551616:=by have:=KS2.out.hY;have:=KS2.out.y11;have:=KS2.out.y01;omega
                obtain ⟨RB,e21⟩:∃ x,IntKind.u64.wrap (R1*4294967296)=x:=⟨_,rfl⟩
                obtain ⟨RB1,e22⟩:∃ x,IntKind.u64.wrap (RB+u0)=x:=⟨_,rfl⟩
                obtain ⟨qY2,e23⟩:∃ x,IntKind.u64.wrap (qb'*Y)=x:=⟨_,rfl⟩
                obtain ⟨R0,e24⟩:∃ x,IntKind.u64.wrap (RB1-qY2)=x:=⟨_,rfl⟩
                have hR0:R0=R1*4294967296+u0-qb'*Y:=by
                  rw [IntKind.wrap_u64] at e21 e22 e23 e24
                  omega
                have e25:IntKind.u64.wrap (qa'*4294967296)=qa'*4294967296:=by rw [IntKind.wrap_u64];omega
                have e26:IntKind.u64.wrap (qa'*4294967296+qb')=qa'*4294967296+qb':=by rw [IntKind.wrap_u64];omega
                have hfin:=Lib.hid (knuth_end HK1.out HEY.out.2 HY.out HN.out HL.out HR1.out hR0 (by omega) (by omega))
                clear hn2 hn1 hr2 hYlt hR0
                go_wp2
                go_ret2
                rw [hfin.out.1,hfin.out.2]
                exact ⟨rfl,(by repeat (first | exact Below.refl _ _ | assumption | refine below_al ?_ _ | refine below_dr ?_ | refine below_drN ?_ _ | refine below_set ?_ (by simp;try omega) _ | (refine below_to ?_ (by assumption))))⟩
              · have hin:KI R1 u0 Y y1 (qb-1) (r+y1):=⟨by rw [Int.sub_mul];omega,by omega,by omega,hQ',by omega,by omega⟩
                have HIN:=Lib.hid hin
                have w3:IntKind.u64.wrap (qb-1)=qb-1:=by rw [IntKind.wrap_u64];omega
                clear hin i1 i2 i3 i4 i5 i6 hQ' b10 b11 b00 b01 bu0 bu1 hqp
                go_wp2
                go_roundw
                case rel=>exact ⟨qb-1,r+y1,rfl,rfl,HIN,by first | rfl | trivial⟩
                case measure=>simp [intOf];omega
            · have hq:=Lib.hid (KS2.out.exit1 i1 (by rw [← hqy];omega) i4)
              have HQY:=Lib.hid hqy
              clear hqy i1 i2 i3 i4 i5 i6 b10 b11 b00 b01 bu0 bu1
              have hn2:=KS2.out.nonneg
              rw [← hq.out] at hn2
              have hn1:=HQ1.out
              have hr2:=KS2.out.rest
              rw [← hq.out] at hr2
              have hYlt:Y < 18446744073709551616:=by have:=KS2.out.hY;have:=KS2.out.y11;have:=KS2.out.y01;omega
              obtain ⟨RB,e21⟩:∃ x,IntKind.u64.wrap (R1*4294967296)=x:=⟨_,rfl⟩
              obtain ⟨RB1,e22⟩:∃ x,IntKind.u64.wrap (RB+u0)=x:=⟨_,rfl⟩
              obtain ⟨qY2,e23⟩:∃ x,IntKind.u64.wrap (qb*Y)=x:=⟨_,rfl⟩
              obtain ⟨R0,e24⟩:∃ x,IntKind.u64.wrap (RB1-qY2)=x:=⟨_,rfl⟩
              have hR0:R0=R1*4294967296+u0-qb*Y:=by
                rw [IntKind.wrap_u64] at e21 e22 e23 e24
                omega
              have e25:IntKind.u64.wrap (qa'*4294967296)=qa'*4294967296:=by rw [IntKind.wrap_u64];omega
              have e26:IntKind.u64.wrap (qa'*4294967296+qb)=qa'*4294967296+qb:=by rw [IntKind.wrap_u64];omega
              have hfin:=Lib.hid (knuth_end HK1.out HEY.out.2 HY.out HN.out HL.out HR1.out hR0 (by omega) (by omega))
              clear hn2 hn1 hr2 hYlt hR0
              go_wp2
              go_ret2
              rw [hfin.out.1,hfin.out.2]
              exact ⟨rfl,(by repeat (first | exact Below.refl _ _ | assumption | refine below_al ?_ _ | refine below_dr ?_ | refine below_drN ?_ _ | refine below_set ?_ (by simp;try omega) _ | (refine below_to ?_ (by assumption))))⟩
      · have hin:KI U u1 Y y1 (qa-1) (r+y1):=⟨by rw [Int.sub_mul];omega,by omega,by omega,hQ',by omega,by omega⟩
        have HIN:=Lib.hid hin
        have w3:IntKind.u64.wrap (qa-1)=qa-1:=by rw [IntKind.wrap_u64];omega
        clear hin i1 i2 i3 i4 i5 i6 hQ' b10 b11 b00 b01 bu0 bu1 hqp
        go_wp2
        go_roundw
        case rel=>exact ⟨qa-1,r+y1,rfl,rfl,HIN,by first | rfl | trivial⟩
        case measure=>simp [intOf];omega
    · have hm0:0≤qa*y0:=Int.mul_nonneg i5 b00
      have hm1:qa*y0≤4294967295*4294967295:=Int.mul_le_mul (by omega) (by omega) b00 (by omega)
      have w0':IntKind.u64.wrap (qa*y0)=qa*y0:=by rw [IntKind.wrap_u64];omega
      obtain ⟨qy,hqy⟩:∃ qy,qy=qa*y0:=⟨_,rfl⟩
      rw [← hqy] at hm0 hm1
      have w0':IntKind.u64.wrap (qa*y0)=qy:=by rw [w0',hqy]
      by_cases hgt:4294967296*r+u1 < qy
      · have hQ':=KS1.out.step2 i1 (by rw [← hqy];exact hgt)
        have hqp:=KS1.out.nonneg
        have HQY:=Lib.hid hqy
        clear hqy
        have hq1:1≤qa:=by omega
        have w4:IntKind.u64.wrap (r+y1)=r+y1:=by rw [IntKind.wrap_u64];omega
        by_cases hbr:4294967296≤r+y1
        · have hq_:=KS1.out.exit2 (q:=qa-1) (r:=r+y1) (by rw [Int.sub_mul];omega) hbr (by omega) hQ'
          obtain ⟨qa',hq'⟩:∃ q',q'=qa-1:=⟨_,rfl⟩
          have w3:IntKind.u64.wrap (qa-1)=qa':=by rw [hq',IntKind.wrap_u64];omega
          rw [← hq'] at hq_
          have hq:=Lib.hid hq_
          clear hq_ hq' i1 i2 i3 i4 i5 i6 hQ' b10 b11 b00 b01 bu0 bu1 hqp
          have hr1:=KS1.out.rest
          rw [← hq.out] at hr1
          have hn1:=KS1.out.nonneg
          rw [← hq.out] at hn1
          have HQ1:=Lib.hid hn1
          have hYlt:Y < 18446744073709551616:=by have:=KS1.out.hY;have:=KS1.out.y11;have:=KS1.out.y01;omega
          obtain ⟨UB,e13⟩:∃ x,IntKind.u64.wrap (U*4294967296)=x:=⟨_,rfl⟩
          obtain ⟨UB1,e14⟩:∃ x,IntKind.u64.wrap (UB+u1)=x:=⟨_,rfl⟩
          obtain ⟨qY,e15⟩:∃ x,IntKind.u64.wrap (qa'*Y)=x:=⟨_,rfl⟩
          obtain ⟨R1,e16⟩:∃ x,IntKind.u64.wrap (UB1-qY)=x:=⟨_,rfl⟩
          have hR1:R1=U*4294967296+u1-qa'*Y:=by
            rw [IntKind.wrap_u64] at e13 e14 e15 e16
            omega
          have HR1:=Lib.hid hR1
          obtain ⟨KS2',_⟩:=KS1.out.two HU0.out.1 HU0.out.2
          rw [← hq.out,← hR1] at KS2'
          have HR1b:=Lib.hid (show 0≤R1∧R1 < Y by rw [hR1];exact hr1)
          obtain ⟨g1,g2,g3,g4,g5,g6⟩:=KS2'.first
          obtain ⟨q0,e17⟩:∃ q,R1 / y1=q:=⟨_,rfl⟩
          obtain ⟨r0,hr⟩:∃ r,r=R1 % y1:=⟨_,rfl⟩
          rw [e17,← hr] at g4
          rw [← hr] at g5 g6
          rw [e17] at g1 g2 g3
          have b1:=KS2'.y11
          have b0:=KS2'.U0
          have bu:=KS2'.U1
          have e18:IntKind.u64.wrap (q0*y1)=q0*y1:=by rw [IntKind.wrap_u64];have:0≤q0*y1:=Int.mul_nonneg g3 (by omega);omega
          have e19:IntKind.u64.wrap (R1-q0*y1)=r0:=by rw [IntKind.wrap_u64];omega
          have e20:IntKind.u64.wrap q0=q0:=by rw [IntKind.wrap_u64];omega
          have tq2:Int.tdiv R1 y1=R1 / y1:=Int.tdiv_eq_ediv_of_nonneg b0
          have KI2:=Lib.hid (show KI R1 u0 Y y1 q0 r0 from ⟨g4,g5,by omega,g1,g3,g2⟩)
          have KS2:=Lib.hid KS2'
          clear hr1 hn1 hYlt hR1 KS2' g1 g2 g3 g4 g5 g6 hr b1 b0 bu
          go_wp2_with fail
          go_loopw [18,16] (fun a b wr=>∃ q r:Int,a = .int .u64 q∧b = .int .u64 r∧Hid (KI R1 u0 Y y1 q r)∧w1=wr) (fun a _ _=>(intOf a).toNat)
          case atStart=>exact ⟨q0,r0,rfl,rfl,KI2,rfl⟩
          case round =>
            obtain ⟨qb,r,rfl,rfl,hki,rfl⟩:=hrel
            obtain ⟨i1,i2,i3,i4,i5,i6⟩:=hki.out
            have b10:=KS2.out.y10
            have b11:=KS2.out.y11
            have b00:=KS2.out.y00
            have b01:=KS2.out.y01
            have bu0:=KS2.out.u0
            have bu1:=KS2.out.u1
            have w1':IntKind.u64.wrap (4294967296*r)=4294967296*r:=by rw [IntKind.wrap_u64];omega
            have w2':IntKind.u64.wrap (4294967296*r+u0)=4294967296*r+u0:=by rw [IntKind.wrap_u64];omega
            by_cases hqB:4294967296≤qb
            · have hQ':=KS2.out.step1 hqB
              have hqp:=KS2.out.nonneg
              have hq1:1≤qb:=by omega
              have w4:IntKind.u64.wrap (r+y1)=r+y1:=by rw [IntKind.wrap_u64];omega
              by_cases hbr:4294967296≤r+y1
              · have hq_:=KS2.out.exit2 (q:=qb-1) (r:=r+y1) (by rw [Int.sub_mul];omega) hbr (by omega) hQ'
                obtain ⟨qb',hq'⟩:∃ q',q'=qb-1:=⟨_,rfl⟩
                have w3:IntKind.u64.wrap (qb-1)=qb':=by rw [hq',IntKind.wrap_u64];omega
                rw [← hq'] at hq_
                have hq:=Lib.hid hq_
                clear hq_ hq' i1 i2 i3 i4 i5 i6 hQ' b10 b11 b00 b01 bu0 bu1 hqp
                have hn2:=KS2.out.nonneg
                rw [← hq.out] at hn2
                have hn1:=HQ1.out
                have hr2:=KS2.out.rest
                rw [← hq.out] at hr2
                have hYlt:Y < 18446744073709551616:=by have:=KS2.out.hY;have:=KS2.out.y11;have:=KS2.out.y01;omega
                obtain ⟨RB,e21⟩:∃ x,IntKind.u64.wrap (R1*4294967296)=x:=⟨_,rfl⟩
                obtain ⟨RB1,e22⟩:∃ x,IntKind.u64.wrap (RB+u0)=x:=⟨_,rfl⟩
                obtain ⟨qY2,e23⟩:∃ x,IntKind.u64.wrap (qb'*Y)=x:=⟨_,rfl⟩
                obtain ⟨R0,e24⟩:∃ x,IntKind.u64.wrap (RB1-qY2)=x:=⟨_,rfl⟩
                have hR0:R0=R1*4294967296+u0-qb'*Y:=by
                  rw [IntKind.wrap_u64] at e21 e22 e23 e24
                  omega
                have e25:IntKind.u64.wrap (qa'*4294967296)=qa'*4294967296:=by rw [IntKind.wrap_u64];omega
                have e26:IntKind.u64.wrap (qa'*4294967296+qb')=qa'*4294967296+qb':=by rw [IntKind.wrap_u64];omega
                have hfin:=Lib.hid (knuth_end HK1.out HEY.out.2 HY.out HN.out HL.out HR1.out hR0 (by omega) (by omega))
                clear hn2 hn1 hr2 hYlt hR0
                go_wp2
                go_ret2
                rw [hfin.out.1,hfin.out.2]
                exact ⟨rfl,(by repeat (first | exact Below.refl _ _ | assumption | refine below_al ?_ _ | refine below_dr ?_ | refine below_drN ?_ _ | refine below_set ?_ (by simp;try omega) _ | (refine below_to ?_ (by assumption))))⟩
              · have hin:KI R1 u0 Y y1 (qb-1) (r+y1):=⟨by rw [Int.sub_mul];omega,by omega,by omega,hQ',by omega,by omega⟩
                have HIN:=Lib.hid hin
                have w3:IntKind.u64.wrap (qb-1)=qb-1:=by rw [IntKind.wrap_u64];omega
                clear hin i1 i2 i3 i4 i5 i6 hQ' b10 b11 b00 b01 bu0 bu1 hqp
                go_wp2
                go_roundw
                case rel=>exact ⟨qb-1,r+y1,rfl,rfl,HIN,by first | rfl | trivial⟩
                case measure=>simp [intOf];omega
            · have hm0:0≤qb*y0:=Int.mul_nonneg i5 b00
              have hm1:qb*y0≤4294967295*4294967295:=Int.mul_le_mul (by omega) (by omega) b00 (by omega)
              have w0':IntKind.u64.wrap (qb*y0)=qb*y0:=by rw [IntKind.wrap_u64];omega
              obtain ⟨qy,hqy⟩:∃ qy,qy=qb*y0:=⟨_,rfl⟩
              rw [← hqy] at hm0 hm1
              have w0':IntKind.u64.wrap (qb*y0)=qy:=by rw [w0',hqy]
              by_cases hgt:4294967296*r+u0 < qy
              · have hQ':=KS2.out.step2 i1 (by rw [← hqy];exact hgt)
                have hqp:=KS2.out.nonneg
                have HQY:=Lib.hid hqy
                clear hqy
                have hq1:1≤qb:=by omega
                have w4:IntKind.u64.wrap (r+y1)=r+y1:=by rw [IntKind.wrap_u64];omega
                by_cases hbr:4294967296≤r+y1
                · have hq_:=KS2.out.exit2 (q:=qb-1) (r:=r+y1) (by rw [Int.sub_mul];omega) hbr (by omega) hQ'
                  obtain ⟨qb',hq'⟩:∃ q',q'=qb-1:=⟨_,rfl⟩
                  have w3:IntKind.u64.wrap (qb-1)=qb':=by rw [hq',IntKind.wrap_u64];omega
                  rw [← hq'] at hq_
                  have hq:=Lib.hid hq_
                  clear hq_ hq' i1 i2 i3 i4 i5 i6 hQ' b10 b11 b00 b01 bu0 bu1 hqp
                  have hn2:=KS2.out.nonneg
                  rw [← hq.out] at hn2
                  have hn1:=HQ1.out
                  have hr2:=KS2.out.rest
                  rw [← hq.out] at hr2
                  have hYlt:Y < 18446744073709551616:=by have:=KS2.out.hY;have:=KS2.out.y11;have:=KS2.out.y01;omega
                  obtain ⟨RB,e21⟩:∃ x,IntKind.u64.wrap (R1*4294967296)=x:=⟨_,rfl⟩
                  obtain ⟨RB1,e22⟩:∃ x,IntKind.u64.wrap (RB+u0)=x:=⟨_,rfl⟩
                  obtain ⟨qY2,e23⟩:∃ x,IntKind.u64.wrap (qb'*Y)=x:=⟨_,rfl⟩
                  obtain ⟨R0,e24⟩:∃ x,IntKind.u64.wrap (RB1-qY2)=x:=⟨_,rfl⟩
                  have hR0:R0=R1*4294967296+u0-qb'*Y:=by
                    rw [IntKind.wrap_u64] at e21 e22 e23 e24
                    omega
                  have e25:IntKind.u64.wrap (qa'*4294967296)=qa'*4294967296:=by rw [IntKind.wrap_u64];omega
                  have e26:IntKind.u64.wrap (qa'*4294967296+qb')=qa'*4294967296+qb':=by rw [IntKind.wrap_u64];omega
                  have hfin:=Lib.hid (knuth_end HK1.out HEY.out.2 HY.out HN.out HL.out HR1.out hR0 (by omega) (by omega))
                  clear hn2 hn1 hr2 hYlt hR0
                  go_wp2
                  go_ret2
                  rw [hfin.out.1,hfin.out.2]
                  exact ⟨rfl,(by repeat (first | exact Below.refl _ _ | assumption | refine below_al ?_ _ | refine below_dr ?_ | refine below_drN ?_ _ | refine below_set ?_ (by simp;try omega) _ | (refine below_to ?_ (by assumption))))⟩
                · have hin:KI R1 u0 Y y1 (qb-1) (r+y1):=⟨by rw [Int.sub_mul];omega,by omega,by omega,hQ',by omega,by omega⟩
                  have HIN:=Lib.hid hin
                  have w3:IntKind.u64.wrap (qb-1)=qb-1:=by rw [IntKind.wrap_u64];omega
                  clear hin i1 i2 i3 i4 i5 i6 hQ' b10 b11 b00 b01 bu0 bu1 hqp
                  go_wp2
                  go_roundw
                  case rel=>exact ⟨qb-1,r+y1,rfl,rfl,HIN,by first | rfl | trivial⟩
                  case measure=>simp [intOf];omega
              · have hq:=Lib.hid (KS2.out.exit1 i1 (by rw [← hqy];omega) i4)
                have HQY:=Lib.hid hqy
                clear hqy i1 i2 i3 i4 i5 i6 b10 b11 b00 b01 bu0 bu1
                have hn2:=KS2.out.nonneg
                rw [← hq.out] at hn2
                have hn1:=HQ1.out
                have hr2:=KS2.out.rest
                rw [← hq.out] at hr2
                have hYlt:Y < 18446744073709551616:=by have:=KS2.out.hY;have:=KS2.out.y11;have:=KS2.out.y01;omega
                obtain ⟨RB,e21⟩:∃ x,IntKind.u64.wrap (R1*4294967296)=x:=⟨_,rfl⟩
                obtain ⟨RB1,e22⟩:∃ x,IntKind.u64.wrap (RB+u0)=x:=⟨_,rfl⟩
                obtain ⟨qY2,e23⟩:∃ x,IntKind.u64.wrap (qb*Y)=x:=⟨_,rfl⟩
                obtain ⟨R0,e24⟩:∃ x,IntKind.u64.wrap (RB1-qY2)=x:=⟨_,rfl⟩
                have hR0:R0=R1*4294967296+u0-qb*Y:=by
                  rw [IntKind.wrap_u64] at e21 e22 e23 e24
                  omega
                have e25:IntKind.u64.wrap (qa'*4294967296)=qa'*4294967296:=by rw [IntKind.wrap_u64];omega
                have e26:IntKind.u64.wrap (qa'*4294967296+qb)=qa'*4294967296+qb:=by rw [IntKind.wrap_u64];omega
                have hfin:=Lib.hid (knuth_end HK1.out HEY.out.2 HY.out HN.out HL.out HR1.out hR0 (by omega) (by omega))
                clear hn2 hn1 hr2 hYlt hR0
                go_wp2
                go_ret2
                rw [hfin.out.1,hfin.out.2]
                exact ⟨rfl,(by repeat (first | exact Below.refl _ _ | assumption | refine below_al ?_ _ | refine below_dr ?_ | refine below_drN ?_ _ | refine below_set ?_ (by simp;try omega) _ | (refine below_to ?_ (by assumption))))⟩
        · have hin:KI U u1 Y y1 (qa-1) (r+y1):=⟨by rw [Int.sub_mul];omega,by omega,by omega,hQ',by omega,by omega⟩
          have HIN:=Lib.hid hin
          have w3:IntKind.u64.wrap (qa-1)=qa-1:=by rw [IntKind.wrap_u64];omega
          clear hin i1 i2 i3 i4 i5 i6 hQ' b10 b11 b00 b01 bu0 bu1 hqp
          go_wp2
          go_roundw
          case rel=>exact ⟨qa-1,r+y1,rfl,rfl,HIN,by first | rfl | trivial⟩
          case measure=>simp [intOf];omega
      · have hq:=Lib.hid (KS1.out.exit1 i1 (by rw [← hqy];omega) i4)
        have HQY:=Lib.hid hqy
        clear hqy i1 i2 i3 i4 i5 i6 b10 b11 b00 b01 bu0 bu1
        have hr1:=KS1.out.rest
        rw [← hq.out] at hr1
        have hn1:=KS1.out.nonneg
        rw [← hq.out] at hn1
        have HQ1:=Lib.hid hn1
        have hYlt:Y < 18446744073709551616:=by have:=KS1.out.hY;have:=KS1.out.y11;have:=KS1.out.y01;omega
        obtain ⟨UB,e13⟩:∃ x,IntKind.u64.wrap (U*4294967296)=x:=⟨_,rfl⟩
        obtain ⟨UB1,e14⟩:∃ x,IntKind.u64.wrap (UB+u1)=x:=⟨_,rfl⟩
        obtain ⟨qY,e15⟩:∃ x,IntKind.u64.wrap (qa*Y)=x:=⟨_,rfl⟩
        obtain ⟨R1,e16⟩:∃ x,IntKind.u64.wrap (UB1-qY)=x:=⟨_,rfl⟩
        have hR1:R1=U*4294967296+u1-qa*Y:=by
          rw [IntKind.wrap_u64] at e13 e14 e15 e16
          omega
        have HR1:=Lib.hid hR1
        obtain ⟨KS2',_⟩:=KS1.out.two HU0.out.1 HU0.out.2
        rw [← hq.out,← hR1] at KS2'
        have HR1b:=Lib.hid (show 0≤R1∧R1 < Y by rw [hR1];exact hr1)
        obtain ⟨g1,g2,g3,g4,g5,g6⟩:=KS2'.first
        obtain ⟨q0,e17⟩:∃ q,R1 / y1=q:=⟨_,rfl⟩
        obtain ⟨r0,hr⟩:∃ r,r=R1 % y1:=⟨_,rfl⟩
        rw [e17,← hr] at g4
        rw [← hr] at g5 g6
        rw [e17] at g1 g2 g3
        have b1:=KS2'.y11
        have b0:=KS2'.U0
        have bu:=KS2'.U1
        have e18:IntKind.u64.wrap (q0*y1)=q0*y1:=by rw [IntKind.wrap_u64];have:0≤q0*y1:=Int.mul_nonneg g3 (by omega);omega
        have e19:IntKind.u64.wrap (R1-q0*y1)=r0:=by rw [IntKind.wrap_u64];omega
        have e20:IntKind.u64.wrap q0=q0:=by rw [IntKind.wrap_u64];omega
        have tq2:Int.tdiv R1 y1=R1 / y1:=Int.tdiv_eq_ediv_of_nonneg b0
        have KI2:=Lib.hid (show KI R1 u0 Y y1 q0 r0 from ⟨g4,g5,by omega,g1,g3,g2⟩)
        have KS2:=Lib.hid KS2'
        clear hr1 hn1 hYlt hR1 KS2' g1 g2 g3 g4 g5 g6 hr b1 b0 bu
        go_wp2_with fail
        go_loopw [18,16] (fun a b wr=>∃ q r:Int,a = .int .u64 q∧b = .int .u64 r∧Hid (KI R1 u0 Y y1 q r)∧w1=wr) (fun a _ _=>(intOf a).toNat)
        case atStart=>exact ⟨q0,r0,rfl,rfl,KI2,rfl⟩
        case round =>
          obtain ⟨qb,r,rfl,rfl,hki,rfl⟩:=hrel
          obtain ⟨i1,i2,i3,i4,i5,i6⟩:=hki.out
          have b10:=KS2.out.y10
          have b11:=KS2.out.y11
          have b00:=KS2.out.y00
          have b01:=KS2.out.y01
          have bu0:=KS2.out.u0
          have bu1:=KS2.out.u1
          have w1':IntKind.u64.wrap (4294967296*r)=4294967296*r:=by rw [IntKind.wrap_u64];omega
          have w2':IntKind.u64.wrap (4294967296*r+u0)=4294967296*r+u0:=by rw [IntKind.wrap_u64];omega
          by_cases hqB:4294967296≤qb
          · have hQ':=KS2.out.step1 hqB
            have hqp:=KS2.out.nonneg
            have hq1:1≤qb:=by omega
            have w4:IntKind.u64.wrap (r+y1)=r+y1:=by rw [IntKind.wrap_u64];omega
            by_cases hbr:4294967296≤r+y1
            · have hq_:=KS2.out.exit2 (q:=qb-1) (r:=r+y1) (by rw [Int.sub_mul];omega) hbr (by omega) hQ'
              obtain ⟨qb',hq'⟩:∃ q',q'=qb-1:=⟨_,rfl⟩
              have w3:IntKind.u64.wrap (qb-1)=qb':=by rw [hq',IntKind.wrap_u64];omega
              rw [← hq'] at hq_
              have hq:=Lib.hid hq_
              clear hq_ hq' i1 i2 i3 i4 i5 i6 hQ' b10 b11 b00 b01 bu0 bu1 hqp
              have hn2:=KS2.out.nonneg
              rw [← hq.out] at hn2
              have hn1:=HQ1.out
              have hr2:=KS2.out.rest
              rw [← hq.out] at hr2
              have hYlt:Y < 18446744073709551616:=by have:=KS2.out.hY;have:=KS2.out.y11;have:=KS2.out.y01;omega
              obtain ⟨RB,e21⟩:∃ x,IntKind.u64.wrap (R1*4294967296)=x:=⟨_,rfl⟩
              obtain ⟨RB1,e22⟩:∃ x,IntKind.u64.wrap (RB+u0)=x:=⟨_,rfl⟩
              obtain ⟨qY2,e23⟩:∃ x,IntKind.u64.wrap (qb'*Y)=x:=⟨_,rfl⟩
              obtain ⟨R0,e24⟩:∃ x,IntKind.u64.wrap (RB1-qY2)=x:=⟨_,rfl⟩
              have hR0:R0=R1*4294967296+u0-qb'*Y:=by
                rw [IntKind.wrap_u64] at e21 e22 e23 e24
                omega
              have e25:IntKind.u64.wrap (qa*4294967296)=qa*4294967296:=by rw [IntKind.wrap_u64];omega
              have e26:IntKind.u64.wrap (qa*4294967296+qb')=qa*4294967296+qb':=by rw [IntKind.wrap_u64];omega
              have hfin:=Lib.hid (knuth_end HK1.out HEY.out.2 HY.out HN.out HL.out HR1.out hR0 (by omega) (by omega))
              clear hn2 hn1 hr2 hYlt hR0
              go_wp2
              go_ret2
              rw [hfin.out.1,hfin.out.2]
              exact ⟨rfl,(by repeat (first | exact Below.refl _ _ | assumption | refine below_al ?_ _ | refine below_dr ?_ | refine below_drN ?_ _ | refine below_set ?_ (by simp;try omega) _ | (refine below_to ?_ (by assumption))))⟩
            · have hin:KI R1 u0 Y y1 (qb-1) (r+y1):=⟨by rw [Int.sub_mul];omega,by omega,by omega,hQ',by omega,by omega⟩
              have HIN:=Lib.hid hin
              have w3:IntKind.u64.wrap (qb-1)=qb-1:=by rw [IntKind.wrap_u64];omega
              clear hin i1 i2 i3 i4 i5 i6 hQ' b10 b11 b00 b01 bu0 bu1 hqp
              go_wp2
              go_roundw
              case rel=>exact ⟨qb-1,r+y1,rfl,rfl,HIN,by first | rfl | trivial⟩
              case measure=>simp [intOf];omega
          · have hm0:0≤qb*y0:=Int.mul_nonneg i5 b00
            have hm1:qb*y0≤4294967295*4294967295:=Int.mul_le_mul (by omega) (by omega) b00 (by omega)
            have w0':IntKind.u64.wrap (qb*y0)=qb*y0:=by rw [IntKind.wrap_u64];omega
            obtain ⟨qy,hqy⟩:∃ qy,qy=qb*y0:=⟨_,rfl⟩
            rw [← hqy] at hm0 hm1
            have w0':IntKind.u64.wrap (qb*y0)=qy:=by rw [w0',hqy]
            by_cases hgt:4294967296*r+u0 < qy
            · have hQ':=KS2.out.step2 i1 (by rw [← hqy];exact hgt)
              have hqp:=KS2.out.nonneg
              have HQY:=Lib.hid hqy
              clear hqy
              have hq1:1≤qb:=by omega
              have w4:IntKind.u64.wrap (r+y1)=r+y1:=by rw [IntKind.wrap_u64];omega
              by_cases hbr:4294967296≤r+y1
              · have hq_:=KS2.out.exit2 (q:=qb-1) (r:=r+y1) (by rw [Int.sub_mul];omega) hbr (by omega) hQ'
                obtain ⟨qb',hq'⟩:∃ q',q'=qb-1:=⟨_,rfl⟩
                have w3:IntKind.u64.wrap (qb-1)=qb':=by rw [hq',IntKind.wrap_u64];omega
                rw [← hq'] at hq_
                have hq:=Lib.hid hq_
                clear hq_ hq' i1 i2 i3 i4 i5 i6 hQ' b10 b11 b00 b01 bu0 bu1 hqp
                have hn2:=KS2.out.nonneg
                rw [← hq.out] at hn2
                have hn1:=HQ1.out
                have hr2:=KS2.out.rest
                rw [← hq.out] at hr2
                have hYlt:Y < 18446744073709551616:=by have:=KS2.out.hY;have:=KS2.out.y11;have:=KS2.out.y01;omega
                obtain ⟨RB,e21⟩:∃ x,IntKind.u64.wrap (R1*4294967296)=x:=⟨_,rfl⟩
                obtain ⟨RB1,e22⟩:∃ x,IntKind.u64.wrap (RB+u0)=x:=⟨_,rfl⟩
                obtain ⟨qY2,e23⟩:∃ x,IntKind.u64.wrap (qb'*Y)=x:=⟨_,rfl⟩
                obtain ⟨R0,e24⟩:∃ x,IntKind.u64.wrap (RB1-qY2)=x:=⟨_,rfl⟩
                have hR0:R0=R1*4294967296+u0-qb'*Y:=by
                  rw [IntKind.wrap_u64] at e21 e22 e23 e24
                  omega
                have e25:IntKind.u64.wrap (qa*4294967296)=qa*4294967296:=by rw [IntKind.wrap_u64];omega
                have e26:IntKind.u64.wrap (qa*4294967296+qb')=qa*4294967296+qb':=by rw [IntKind.wrap_u64];omega
                have hfin:=Lib.hid (knuth_end HK1.out HEY.out.2 HY.out HN.out HL.out HR1.out hR0 (by omega) (by omega))
                clear hn2 hn1 hr2 hYlt hR0
                go_wp2
                go_ret2
                rw [hfin.out.1,hfin.out.2]
                exact ⟨rfl,(by repeat (first | exact Below.refl _ _ | assumption | refine below_al ?_ _ | refine below_dr ?_ | refine below_drN ?_ _ | refine below_set ?_ (by simp;try omega) _ | (refine below_to ?_ (by assumption))))⟩
              · have hin:KI R1 u0 Y y1 (qb-1) (r+y1):=⟨by rw [Int.sub_mul];omega,by omega,by omega,hQ',by omega,by omega⟩
                have HIN:=Lib.hid hin
                have w3:IntKind.u64.wrap (qb-1)=qb-1:=by rw [IntKind.wrap_u64];omega
                clear hin i1 i2 i3 i4 i5 i6 hQ' b10 b11 b00 b01 bu0 bu1 hqp
                go_wp2
                go_roundw
                case rel=>exact ⟨qb-1,r+y1,rfl,rfl,HIN,by first | rfl | trivial⟩
                case measure=>simp [intOf];omega
            · have hq:=Lib.hid (KS2.out.exit1 i1 (by rw [← hqy];omega) i4)
              have HQY:=Lib.hid hqy
              clear hqy i1 i2 i3 i4 i5 i6 b10 b11 b00 b01 bu0 bu1
              have hn2:=KS2.out.nonneg
              rw [← hq.out] at hn2
              have hn1:=HQ1.out
              have hr2:=KS2.out.rest
              rw [← hq.out] at hr2
              have hYlt:Y < 18446744073709551616:=by have:=KS2.out.hY;have:=KS2.out.y11;have:=KS2.out.y01;omega
              obtain ⟨RB,e21⟩:∃ x,IntKind.u64.wrap (R1*4294967296)=x:=⟨_,rfl⟩
              obtain ⟨RB1,e22⟩:∃ x,IntKind.u64.wrap (RB+u0)=x:=⟨_,rfl⟩
              obtain ⟨qY2,e23⟩:∃ x,IntKind.u64.wrap (qb*Y)=x:=⟨_,rfl⟩
              obtain ⟨R0,e24⟩:∃ x,IntKind.u64.wrap (RB1-qY2)=x:=⟨_,rfl⟩
              have hR0:R0=R1*4294967296+u0-qb*Y:=by
                rw [IntKind.wrap_u64] at e21 e22 e23 e24
                omega
              have e25:IntKind.u64.wrap (qa*4294967296)=qa*4294967296:=by rw [IntKind.wrap_u64];omega
              have e26:IntKind.u64.wrap (qa*4294967296+qb)=qa*4294967296+qb:=by rw [IntKind.wrap_u64];omega
              have hfin:=Lib.hid (knuth_end HK1.out HEY.out.2 HY.out HN.out HL.out HR1.out hR0 (by omega) (by omega))
              clear hn2 hn1 hr2 hYlt hR0
              go_wp2
              go_ret2
              rw [hfin.out.1,hfin.out.2]
              exact ⟨rfl,(by repeat (first | exact Below.refl _ _ | assumption | refine below_al ?_ _ | refine below_dr ?_ | refine below_drN ?_ _ | refine below_set ?_ (by simp;try omega) _ | (refine below_to ?_ (by assumption))))⟩
end Go.Proofs.YtailjojebdmnnaaGreat
namespace Go.Proofs.YtailjojebdmnnaaGreat
open Go.RowKit
theorem blk1 (w:World) (o:Obj) (t:TypeId) (cs:Array Value):Blk ((w.alloc o).alloc (.cells cs t)) (w.heap.size+1) t cs:=by simpa using Blk.new (w.alloc o) t cs
theorem blk2 (w:World) (o o':Obj) (t:TypeId) (cs:Array Value):Blk (((w.alloc o).alloc o').alloc (.cells cs t)) (w.heap.size+1+1) t cs:=by simpa using blk1 (w.alloc o) o' t cs
theorem blk3 (w:World) (o o' o'':Obj) (t:TypeId) (cs:Array Value):Blk ((((w.alloc o).alloc o').alloc o'').alloc (.cells cs t)) (w.heap.size+1+1+1) t cs:=by simpa using blk2 (w.alloc o) o' o'' t cs
theorem blk4 (w:World) (o o' o'' o3:Obj) (t:TypeId) (cs:Array Value):Blk (((((w.alloc o).alloc o').alloc o'').alloc o3).alloc (.cells cs t)) (w.heap.size+1+1+1+1) t cs:=by simpa using blk3 (w.alloc o) o' o'' o3 t cs
theorem short_law {h l d:Int} (h0:0≤h) (hd:h < d) (hd1:d < 18446744073709551616) (lM:InM l) :
    InM ((h*340282366920938463463374607431768211456+l) / d) ∧
    (h*18446744073709551616+hi l) / d=hi ((h*340282366920938463463374607431768211456+l) / d) ∧
    ((h*18446744073709551616+hi l) % d*18446744073709551616+lo l) / d=lo ((h*340282366920938463463374607431768211456+l) / d) ∧
    ((h*18446744073709551616+hi l) % d*18446744073709551616+lo l) % d=(h*340282366920938463463374607431768211456+l) % d ∧
    0≤(h*18446744073709551616+hi l) % d∧(h*18446744073709551616+hi l) % d < d:=by
  have hh:=inM_hi lM
  have l0:=lo0 l
  have l1:=lo1 l
  have hl:=hilo l
  obtain ⟨a,ha⟩:∃ a,a=h*18446744073709551616+hi l:=⟨_,rfl⟩
  rw [← ha]
  have e1:=Int.mul_ediv_add_emod a d
  have r0:=Int.emod_nonneg a (show d≠0 by omega)
  have r1:=Int.emod_lt_of_pos a (show 0 < d by omega)
  have q0:0≤a / d:=Int.ediv_nonneg (by omega) (by omega)
  have q1:a / d < 18446744073709551616:=Int.ediv_lt_of_lt_mul (by omega) (by omega)
  obtain ⟨q,hq⟩:∃ q,q=a / d:=⟨_,rfl⟩
  obtain ⟨r,hr⟩:∃ r,r=a % d:=⟨_,rfl⟩
  rw [← hq,← hr] at e1
  rw [← hr] at r0 r1
  rw [← hq] at q0 q1
  rw [← hq,← hr]
  obtain ⟨b,hb⟩:∃ b,b=r*18446744073709551616+lo l:=⟨_,rfl⟩
  rw [← hb]
  have e2:=Int.mul_ediv_add_emod b d
  have s0:=Int.emod_nonneg b (show d≠0 by omega)
  have s1:=Int.emod_lt_of_pos b (show 0 < d by omega)
  have p0:0≤b / d:=Int.ediv_nonneg (by omega) (by omega)
  have p1:b / d < 18446744073709551616:=Int.ediv_lt_of_lt_mul (by omega) (by omega)
  obtain ⟨p,hp⟩:∃ p,p=b / d:=⟨_,rfl⟩
  obtain ⟨s,hs⟩:∃ s,s=b % d:=⟨_,rfl⟩
  rw [← hp,← hs] at e2
  rw [← hs] at s0 s1
  rw [← hp] at p0 p1
  rw [← hp,← hs]
  have eT:h*340282366920938463463374607431768211456+l=s+d*(q*18446744073709551616+p):=by
    rw [Int.mul_add,← Int.mul_assoc];omega
  have hQ:(h*340282366920938463463374607431768211456+l) / d=q*18446744073709551616+p:=by
    rw [eT,Int.add_mul_ediv_left _ _ (by omega),Int.ediv_eq_zero_of_lt s0 s1,Int.zero_add]
  have hR:(h*340282366920938463463374607431768211456+l) % d=s:=by
    rw [eT,Int.add_mul_emod_self_left,Int.emod_eq_of_lt s0 s1]
  rw [hQ,hR]
  refine ⟨by unfold InM;omega,by unfold hi;omega,by unfold lo;omega,rfl,r0,r1⟩
theorem short_any (h l d:Int) (h0:0≤h) (hd:h < d) (hd1:d < 18446744073709551616) (lM:InM l) (w:World) :
    Calls Tryz.prog 104 #[.agg #[.int .u64 (hi (h)),.int .u64 (lo (h))],.agg #[.int .u64 (hi (l)),.int .u64 (lo (l))],.int .u64 d] w fun e w'=>e = .returned (.tuple #[.agg #[.int .u64 (hi ((h*340282366920938463463374607431768211456+l) / d)),.int .u64 (lo ((h*340282366920938463463374607431768211456+l) / d))],.agg #[.int .u64 (hi ((h*340282366920938463463374607431768211456+l) % d)),.int .u64 (lo ((h*340282366920938463463374607431768211456+l) % d))]])∧Below w.heap.size w w':=by
  obtain ⟨k0,k1,k2,k3,k4,k5⟩:=short_law h0 hd hd1 lM
  have hh:=inM_hi lM
  have l0:=lo0 l
  have l1:=lo1 l
  have elo:lo h=h:=by unfold lo;omega
  rw [elo]
  have HD1:=Lib.hid (div64_any h (hi l) d h0 hd hd1 hh.1 hh.2)
  obtain ⟨r,hr⟩:∃ r,r=(h*18446744073709551616+hi l) % d:=⟨_,rfl⟩
  rw [← hr] at k2 k3 k4 k5
  have HD2:=Lib.hid (div64_any r (lo l) d k4 k5 hd1 l0 l1)
  rw [← hr,k1] at HD1
  rw [k2,k3] at HD2
  have hr':0≤(h*340282366920938463463374607431768211456+l) % d∧(h*340282366920938463463374607431768211456+l) % d < d:=⟨Int.emod_nonneg _ (by omega),Int.emod_lt_of_pos _ (by omega)⟩
  obtain ⟨R,hR⟩:∃ R,R=(h*340282366920938463463374607431768211456+l) % d:=⟨_,rfl⟩
  obtain ⟨Q,hQ⟩:∃ Q,Q=(h*340282366920938463463374607431768211456+l) / d:=⟨_,rfl⟩
  rw [← hR] at HD2 hr' ⊢
  rw [← hQ] at HD1 HD2 ⊢
  have eh:hi R=0:=by unfold hi;omega
  have el:lo R=R:=by unfold lo;omega
  rw [eh,el]
  clear k0 k1 k2 k3 k4 k5 hh l0 l1 elo hr hR hQ lM eh el
  go_enter Tryz.func104,Tryz.ntmps104
  go_wp2_with fail
  refine (HD1.out _).mono ?_
  rintro e w1 ⟨rfl,hb1⟩
  have hl1:=(((blk1 w (.cells #[.int .u64 (hi h),.int .u64 h] 133) 133 #[.int .u64 (hi l),.int .u64 (lo l)]).alloc (.cells #[.int .u64 0,.int .u64 0] 133)).alloc (.cells #[.int .u64 0,.int .u64 0] 133)).below hb1 (by simp)
  have hq1:=((blk2 w (.cells #[.int .u64 (hi h),.int .u64 h] 133) (.cells #[.int .u64 (hi l),.int .u64 (lo l)] 133) 133 #[.int .u64 0,.int .u64 0]).alloc (.cells #[.int .u64 0,.int .u64 0] 133)).below hb1 (by simp)
  have hr1:=(blk3 w (.cells #[.int .u64 (hi h),.int .u64 h] 133) (.cells #[.int .u64 (hi l),.int .u64 (lo l)] 133) (.cells #[.int .u64 0,.int .u64 0] 133) 133 #[.int .u64 0,.int .u64 0]).below hb1 (by simp)
  have HB1:=Lib.hid (below_to (by repeat (first | exact Below.refl _ _ | assumption | refine below_al ?_ _ | refine below_dr ?_ | refine below_drN ?_ _ | refine below_set ?_ (by simp;try omega) _ | (refine below_to ?_ (by assumption)))) hb1)
  have c0:=hl1.cell 1
  simp at c0
  have HQ1:=Lib.hid hq1
  have HR1:=Lib.hid hr1
  clear hb1 hl1 hq1 hr1
  go_wp2_with fail
  refine (HD2.out _).mono ?_
  rintro e w2 ⟨rfl,hb2⟩
  have HB2:=Lib.hid (below_to HB1.out hb2)
  have hq2:=HQ1.out.below hb2 HQ1.out.lt
  have hr2:=HR1.out.below hb2 HR1.out.lt
  have c20:=hq2.cell 0
  have c21:=hq2.cell 1
  have c30:=hr2.cell 0
  have c31:=hr2.cell 1
  have f20:=hq2.frozen 0
  have f21:=hq2.frozen 1
  have f30:=hr2.frozen 0
  have f31:=hr2.frozen 1
  simp at c20 c21 c30 c31
  clear hq2 hr2 hb2 c0
  go_wp2
  have HB:=HB2.out
  refine bodyPost_ret (v:=?_) (by simp [results,Tryz.results104,go_sem, *];rfl) rfl ⟨rfl,(by repeat (first | exact Below.refl _ _ | assumption | refine below_al ?_ _ | refine below_dr ?_ | refine below_drN ?_ _ | refine below_set ?_ (by simp;try omega) _ | (refine below_to ?_ (by assumption))))⟩
def DW (w W:World) (h l d q r:Int):Prop:=
 Blk W w.heap.size 133 #[.int .u64 (hi h),.int .u64 (lo h)]∧Blk W (w.heap.size+1) 133 #[.int .u64 (hi l),.int .u64 (lo l)]∧Blk W (w.heap.size+1+1) 133 #[.int .u64 (hi d),.int .u64 (lo d)] ∧
 Blk W (w.heap.size+1+1+1) 133 #[.int .u64 (hi q),.int .u64 (lo q)]∧Blk W (w.heap.size+1+1+1+1) 133 #[.int .u64 (hi r),.int .u64 (lo r)]∧Below w.heap.size w W
namespace DW
variable {w W W':World} {h l d q r:Int}
theorem bel (k:DW w W h l d q r) (hb:Below W.heap.size W W'):DW w W' h l d q r:=by
 obtain ⟨h0,h1,h2,h3,h4,h5⟩:=k
 exact ⟨h0.below hb h0.lt,h1.below hb h1.lt,h2.below hb h2.lt,h3.below hb h3.lt,h4.below hb h4.lt,below_to h5 hb⟩
theorem two {g:Nat} {t:TypeId} {a b:Value} (k:Blk W g t #[a,b]) (a' b':Value):Blk ((W.setCell ⟨g,0,none⟩ a').setCell ⟨g,1,none⟩ b') g t #[a',b']:=by
 have:=(k.set_ 0 a').set_ 1 b'
 simpa using this
theorem two_far {g g':Nat} {t:TypeId} {cs:Array Value} (k:Blk W g' t cs) (hne:g'≠g) (a' b':Value):Blk ((W.setCell ⟨g,0,none⟩ a').setCell ⟨g,1,none⟩ b') g' t cs:=(k.far (p:=⟨g,0,none⟩) hne a').far (p:=⟨g,1,none⟩) hne b'
theorem setL (k:DW w W h l d q r) (z:Int):DW w ((W.setCell ⟨w.heap.size+1,0,none⟩ (.int .u64 (hi z))).setCell ⟨w.heap.size+1,1,none⟩ (.int .u64 (lo z))) h z d q r:=by
 obtain ⟨h0,h1,h2,h3,h4,h5⟩:=k
 exact ⟨two_far h0 (by omega) _ _,two h1 _ _,two_far h2 (by omega) _ _,two_far h3 (by omega) _ _,two_far h4 (by omega) _ _,below_set (below_set h5 (by simp) _) (by simp) _⟩
theorem setQ (k:DW w W h l d q r) (z:Int):DW w ((W.setCell ⟨w.heap.size+1+1+1,0,none⟩ (.int .u64 (hi z))).setCell ⟨w.heap.size+1+1+1,1,none⟩ (.int .u64 (lo z))) h l d z r:=by
 obtain ⟨h0,h1,h2,h3,h4,h5⟩:=k
 exact ⟨two_far h0 (by omega) _ _,two_far h1 (by omega) _ _,two_far h2 (by omega) _ _,two h3 _ _,two_far h4 (by omega) _ _,below_set (below_set h5 (by simp;omega) _) (by simp;omega) _⟩
theorem setR (k:DW w W h l d q r) (z:Int):DW w ((W.setCell ⟨w.heap.size+1+1+1+1,0,none⟩ (.int .u64 (hi z))).setCell ⟨w.heap.size+1+1+1+1,1,none⟩ (.int .u64 (lo z))) h l d q z:=by
 obtain ⟨h0,h1,h2,h3,h4,h5⟩:=k
 exact ⟨two_far h0 (by omega) _ _,two_far h1 (by omega) _ _,two_far h2 (by omega) _ _,two_far h3 (by omega) _ _,two h4 _ _,below_set (below_set h5 (by simp;omega) _) (by simp;omega) _⟩
theorem setQ1 (k:DW w W h l d q r) (hq:q % 2=0):DW w (W.setCell ⟨w.heap.size+1+1+1,1,none⟩ (.int .u64 (lo q+1))) h l d (q+1) r:=by
 obtain ⟨h0,h1,h2,h3,h4,h5⟩:=k
 refine ⟨h0.far (by simp;omega) _,h1.far (by simp) _,h2.far (by simp) _,?_,h4.far (by simp) _,below_set h5 (by simp;omega) _⟩
 have:=h3.set_ 1 (.int .u64 (lo q+1))
 have e1:hi q=hi (q+1):=by unfold hi;omega
 have e2:lo q+1=lo (q+1):=by unfold lo;omega
 simp at this
 rw [← e1,← e2]
 exact this
theorem cells (k:DW w W h l d q r):W.cell? ⟨w.heap.size,0,none⟩=some (.int .u64 (hi h))∧W.cell? ⟨w.heap.size,1,none⟩=some (.int .u64 (lo h)) ∧
    W.cell? ⟨w.heap.size+1,0,none⟩=some (.int .u64 (hi l))∧W.cell? ⟨w.heap.size+1,1,none⟩=some (.int .u64 (lo l)) ∧
    W.cell? ⟨w.heap.size+1+1,0,none⟩=some (.int .u64 (hi d))∧W.cell? ⟨w.heap.size+1+1,1,none⟩=some (.int .u64 (lo d)) ∧
    W.cell? ⟨w.heap.size+1+1+1,0,none⟩=some (.int .u64 (hi q))∧W.cell? ⟨w.heap.size+1+1+1,1,none⟩=some (.int .u64 (lo q)) ∧
    W.cell? ⟨w.heap.size+1+1+1+1,0,none⟩=some (.int .u64 (hi r))∧W.cell? ⟨w.heap.size+1+1+1+1,1,none⟩=some (.int .u64 (lo r)):=by
  obtain ⟨h0,h1,h2,h3,h4,h5⟩:=k
  exact ⟨by rw [h0.cell];rfl,by rw [h0.cell];rfl,by rw [h1.cell];rfl,by rw [h1.cell];rfl,by rw [h2.cell];rfl,by rw [h2.cell];rfl,by rw [h3.cell];rfl,by rw [h3.cell];rfl,by rw [h4.cell];rfl,by rw [h4.cell];rfl⟩
theorem frees (k:DW w W h l d q r):W.frozen? ⟨w.heap.size+1,0,none⟩=false∧W.frozen? ⟨w.heap.size+1,1,none⟩=false∧W.frozen? ⟨w.heap.size+1+1+1,0,none⟩=false∧W.frozen? ⟨w.heap.size+1+1+1,1,none⟩=false ∧
    W.frozen? ⟨w.heap.size+1+1+1+1,0,none⟩=false∧W.frozen? ⟨w.heap.size+1+1+1+1,1,none⟩=false:=by
  obtain ⟨h0,h1,h2,h3,h4,h5⟩:=k
  exact ⟨h1.frozen 0,h1.frozen 1,h3.frozen 0,h3.frozen 1,h4.frozen 0,h4.frozen 1⟩
theorem mk (w:World) (h l d:Int):DW w (((((w.alloc (.cells #[.int .u64 (hi h),.int .u64 (lo h)] 133)).alloc (.cells #[.int .u64 (hi l),.int .u64 (lo l)] 133)).alloc (.cells #[.int .u64 (hi d),.int .u64 (lo d)] 133)).alloc (.cells #[.int .u64 0,.int .u64 0] 133)).alloc (.cells #[.int .u64 0,.int .u64 0] 133)) h l d 0 0:=
 ⟨((((Blk.new w _ _).alloc _).alloc _).alloc _).alloc _,(((blk1 w _ _ _).alloc _).alloc _).alloc _,((blk2 w _ _ _ _).alloc _).alloc _,(blk3 w _ _ _ _ _).alloc _,blk4 w _ _ _ _ _ _,(by repeat (first | exact Below.refl _ _ | assumption | refine below_al ?_ _ | refine below_dr ?_ | refine below_drN ?_ _ | refine below_set ?_ (by simp;try omega) _ | (refine below_to ?_ (by assumption))))⟩
end DW
def DI (T d:Int) (k:Nat) (l q r:Int):Prop:=T*2 ^ k=(q*d+r)*340282366920938463463374607431768211456+l∧0≤r∧r < d∧InM l∧0≤q∧q < 2 ^ k
theorem DI.next {T d l q r:Int} {k:Nat} (h:DI T d k l q r) {q' r':Int} (hq:(q'=2*q∧r'=2*r+hi l / 9223372036854775808)∨(q'=2*q+1∧r'=2*r+hi l / 9223372036854775808-d)) (h0:0≤r') (h1:r' < d) :
    DI T d (k+1) ((2*l+0) % 340282366920938463463374607431768211456) q' r':=by
  obtain ⟨e,r0,r1,hl,q0,q1⟩:=h
  have ep:(2:Int) ^ (k+1)=2 ^ k*2:=Int.pow_succ 2 k
  have et:T*2 ^ (k+1)=T*2 ^ k*2:=by rw [ep,Int.mul_assoc]
  obtain ⟨p,hp⟩:∃ p,p=(2:Int) ^ k:=⟨_,rfl⟩
  rw [← hp] at ep
  have ed:q'*d+r'=2*(q*d)+(2*r+hi l / 9223372036854775808):=by
    rcases hq with ⟨rfl,rfl⟩ | ⟨rfl,rfl⟩
    · rw [Int.mul_assoc]
    · rw [Int.add_mul,Int.mul_assoc];omega
  refine ⟨?_,h0,h1,mod_in _,by omega,by omega⟩
  rw [et,e,ed]
  unfold InM at hl
  unfold hi
  omega
theorem DI.end_ {T d l q r:Int} (h:DI T d 128 l q r) (hT:0≤T):T / d=q∧T % d=r:=by
 obtain ⟨e,r0,r1,hl,q0,q1⟩:=h
 have e2:(2:Int) ^ 128=340282366920938463463374607431768211456:=by decide
 rw [e2] at e
 unfold InM at hl
 have e3:T=r+d*q:=by rw [Int.mul_comm d q];omega
 exact ⟨by rw [e3,Int.add_mul_ediv_left _ _ (by omega),Int.ediv_eq_zero_of_lt r0 r1,Int.zero_add],by rw [e3,Int.add_mul_emod_self_left,Int.emod_eq_of_lt r0 r1]⟩
theorem DI.qle {T d l q r:Int} {k:Nat} (h:DI T d k l q r) (hk:k≤127):2*q+0 < 340282366920938463463374607431768211456:=by
 have h1:q < 2 ^ k:=h.2.2.2.2.2
 have h2:(2:Nat) ^ k≤2 ^ 127:=Nat.pow_le_pow_right (by omega) hk
 have h3:(((2:Nat) ^ k:Nat):Int)≤((170141183460469231731687303715884105728:Nat):Int):=Int.ofNat_le.2 (by rw [show (170141183460469231731687303715884105728:Nat)=2 ^ 127 by decide];exact h2)
 have h4:(2:Int) ^ k≤170141183460469231731687303715884105728:=by simpa using h3
 omega
end Go.Proofs.YtailjojebdmnnaaGreat
namespace Go.Proofs.YtailjojebdmnnaaGreat
open Go.RowKit
theorem ldiv_short (h l d:Int) (hh:InM h) (lM:InM l) (dM:InM d) (hd:h < d) (hd1:d < 18446744073709551616) (w:World) :
    Calls Tryz.prog 88 #[.agg #[.int .u64 (hi (h)),.int .u64 (lo (h))],.agg #[.int .u64 (hi (l)),.int .u64 (lo (l))],.agg #[.int .u64 (hi (d)),.int .u64 (lo (d))]] w fun e w'=>e = .returned (.tuple #[.agg #[.int .u64 (hi ((h*340282366920938463463374607431768211456+l) / d)),.int .u64 (lo ((h*340282366920938463463374607431768211456+l) / d))],.agg #[.int .u64 (hi ((h*340282366920938463463374607431768211456+l) % d)),.int .u64 (lo ((h*340282366920938463463374607431768211456+l) % d))],.bool true])∧Below w.heap.size w w':=by
  have HDW:=Lib.hid (DW.mk w h l d)
  have hc:cmp3 h d = -1:=by unfold cmp3;rw [if_neg (by omega),if_pos hd]
  have HC:=Lib.hid (lcmp_any h d hh dM)
  rw [hc] at HC
  have h0:=hh.1
  have ed:lo d=d:=by unfold lo;omega
  have eh:hi d=0:=by unfold hi;omega
  have HS:=Lib.hid (short_any h l d hh.1 hd hd1 lM)
  obtain ⟨R,hR⟩:∃ R,R=(h*340282366920938463463374607431768211456+l) % d:=⟨_,rfl⟩
  obtain ⟨Q,hQ⟩:∃ Q,Q=(h*340282366920938463463374607431768211456+l) / d:=⟨_,rfl⟩
  rw [← hR,← hQ] at HS ⊢
  clear hR hQ hc hh lM dM h0 hd hd1
  rw [ed,eh] at HDW HC ⊢
  have HEd:=Lib.hid ed
  have HEh:=Lib.hid eh
  clear ed eh
  go_enter Tryz.func88,Tryz.ntmps88
  go_wp2_with fail
  refine (HC.out _).mono ?_
  rintro e w1 ⟨rfl,hb1⟩
  have HD1:=Lib.hid (HDW.out.bel hb1)
  obtain ⟨c00,c01,c10,c11,c20,c21,c30,c31,c40,c41⟩:=HD1.out.cells
  rw [HEh.out] at c20
  rw [HEd.out] at c21
  clear hb1 HDW HC
  go_wp2_with fail
  refine (HS.out _).mono ?_
  rintro e w2 ⟨rfl,hb2⟩
  have HD2:=Lib.hid (HD1.out.bel hb2)
  clear c00 c01 c10 c11 c20 c21 c30 c31 c40 c41 hb2
  obtain ⟨c00,c01,c10,c11,c20,c21,c30,c31,c40,c41⟩:=HD2.out.cells
  obtain ⟨f10,f11,f30,f31,f40,f41⟩:=HD2.out.frees
  clear c00 c01 c10 c11 c20 c21 f10 f11 HD1
  have HD3:=Lib.hid ((HD2.out.setQ Q).setR R)
  go_wp2_with fail
  clear c30 c31 c40 c41 f30 f31 f40 f41
  obtain ⟨w3,hw3⟩:∃ w3,w3=((((w2.setCell ⟨w.heap.size+1+1+1,0,none⟩ (.int .u64 (hi Q))).setCell ⟨w.heap.size+1+1+1,1,none⟩ (.int .u64 (lo Q))).setCell ⟨w.heap.size+1+1+1+1,0,none⟩ (.int .u64 (hi R))).setCell ⟨w.heap.size+1+1+1+1,1,none⟩ (.int .u64 (lo R))):=⟨_,rfl⟩
  rw [← hw3] at HD3 ⊢
  clear hw3 HD2
  obtain ⟨c00,c01,c10,c11,c20,c21,c30,c31,c40,c41⟩:=HD3.out.cells
  obtain ⟨f10,f11,f30,f31,f40,f41⟩:=HD3.out.frees
  clear c00 c01 c10 c11 c20 c21 f10 f11
  go_region
  have HB:=HD3.out.2.2.2.2.2
  go_wp2
  refine bodyPost_ret (v:=?_) (by simp [results,Tryz.results88,go_sem, *];rfl) rfl ⟨rfl,(by repeat (first | exact Below.refl _ _ | assumption | refine below_al ?_ _ | refine below_dr ?_ | refine below_drN ?_ _ | refine below_set ?_ (by simp;try omega) _ | (refine below_to ?_ (by assumption))))⟩
end Go.Proofs.YtailjojebdmnnaaGreat
namespace Go.Proofs.YtailjojebdmnnaaGreat
open Go.RowKit
theorem or_one' (x:Int) (h0:0≤x) (h1:x < 18446744073709551616) (h2:x % 2=0):bits .or .u64 x 1=x+1:=or_bit x 1 h0 h1 h2 (by omega) (by omega)
theorem cmp_ge {a b:Int} (h:b≤a):0≤cmp3 a b:=by unfold cmp3;(repeat' split) <;> omega
theorem cmp_lt {a b:Int} (h:a < b):cmp3 a b = -1:=by unfold cmp3;rw [if_neg (by omega),if_pos h]
theorem ldiv_long (h l d:Int) (hh:InM h) (lM:InM l) (dM:InM d) (hd:h < d) (hd1:18446744073709551616≤d) (w:World) :
    Calls Tryz.prog 88 #[.agg #[.int .u64 (hi (h)),.int .u64 (lo (h))],.agg #[.int .u64 (hi (l)),.int .u64 (lo (l))],.agg #[.int .u64 (hi (d)),.int .u64 (lo (d))]] w fun e w'=>e = .returned (.tuple #[.agg #[.int .u64 (hi ((h*340282366920938463463374607431768211456+l) / d)),.int .u64 (lo ((h*340282366920938463463374607431768211456+l) / d))],.agg #[.int .u64 (hi ((h*340282366920938463463374607431768211456+l) % d)),.int .u64 (lo ((h*340282366920938463463374607431768211456+l) % d))],.bool true])∧Below w.heap.size w w':=by
  have HDW:=Lib.hid (DW.mk w h l d)
  have HC:=Lib.hid (lcmp_any h d hh dM)
  rw [cmp_lt hd] at HC
  have h0:=hh.1
  have l0:=lM.1
  have hdz:(hi d == 0)=false:=by rw [beq_eq_false_iff_ne];unfold hi;omega
  obtain ⟨T,hT⟩:∃ T,T=h*340282366920938463463374607431768211456+l:=⟨_,rfl⟩
  have hDI:DI T d 0 l 0 h:=⟨by rw [hT];simp,hh.1,hd,lM,by omega,by simp⟩
  have HT0:=Lib.hid (show 0≤T by omega)
  rw [← hT]
  have HI:=Lib.hid hDI
  have HDM:=Lib.hid dM
  clear hT hDI hh lM dM hd hd1 h0 l0
  go_enter Tryz.func88,Tryz.ntmps88
  go_wp2_with fail
  refine (HC.out _).mono ?_
  rintro e w1 ⟨rfl,hb1⟩
  have HD1:=Lib.hid (HDW.out.bel hb1)
  obtain ⟨c00,c01,c10,c11,c20,c21,c30,c31,c40,c41⟩:=HD1.out.cells
  obtain ⟨f10,f11,f30,f31,f40,f41⟩:=HD1.out.frees
  have HD2:=Lib.hid (HD1.out.setR h)
  clear hb1 HDW HC c10 c11 c30 c31 f10 f11 f30 f31
  go_wp2_with fail
  obtain ⟨w2,hw2⟩:∃ w2,w2=((w1.setCell ⟨w.heap.size+1+1+1+1,0,none⟩ (.int .u64 (hi h))).setCell ⟨w.heap.size+1+1+1+1,1,none⟩ (.int .u64 (lo h))):=⟨_,rfl⟩
  rw [← hw2] at HD2 ⊢
  clear hw2 HD1 c00 c01 c20 c21 c40 c41 f40 f41
  go_loopw [30] (fun c wr=>∃ (k:Nat) (l q r:Int),k≤128∧c = .int .i64 k∧Hid (DW w wr h l d q r)∧Hid (DI T d k l q r)) (fun c _=>128-(intOf c).toNat)
  case atStart=>exact ⟨0,l,0,h,by omega,rfl,HD2,HI⟩
  case round =>
    clear HD2 HI
    obtain ⟨k,l,q,r,hk,rfl,HD,HI⟩:=hrel
    by_cases hlt:k < 128
    · have i1:(k:Int) < 128:=by omega
      have i2:IntKind.i64.wrap ((k:Int)+1)=(k:Int)+1:=IntWalk.i64_in _ (by omega)
      have hlM:=HI.out.2.2.2.1
      have hrM:InM r:=⟨HI.out.2.1,by have:=HI.out.2.2.1;have:=HDM.out.2;omega⟩
      have hqq:=HI.out.qle (by omega)
      have hqM:InM q:=⟨HI.out.2.2.2.2.1,by have:=HI.out.2.2.2.2.1;omega⟩
      have hhl:=inM_hi hlM
      have hbit:0≤hi l / 9223372036854775808∧hi l / 9223372036854775808≤1:=by omega
      obtain ⟨bit,hb⟩:∃ b,b=hi l / 9223372036854775808:=⟨_,rfl⟩
      rw [← hb] at hbit
      have hrd:=HI.out.2.2.1
      have hr0:=HI.out.2.1
      have HC1:=Lib.hid (ldouble_any r bit hrM hbit.1 hbit.2)
      have HC2:=Lib.hid (ldouble_any l 0 hlM (by omega) (by omega))
      have HC3:=Lib.hid (ldouble_any q 0 hqM (by omega) (by omega))
      have e2q:(2*q+0) % 340282366920938463463374607431768211456=2*q:=by have:=hqM.1;omega
      rw [e2q] at HC3
      obtain ⟨r1,hr1⟩:∃ r1,r1=(2*r+bit) % 340282366920938463463374607431768211456:=⟨_,rfl⟩
      obtain ⟨l1,hl1⟩:∃ l1,l1=(2*l+0) % 340282366920938463463374607431768211456:=⟨_,rfl⟩
      rw [← hr1] at HC1
      rw [← hl1] at HC2
      obtain ⟨ov,hov⟩:∃ ov,ov=decide (340282366920938463463374607431768211456≤2*r+bit):=⟨_,rfl⟩
      rw [← hov] at HC1
      have hr1M:InM r1:=by rw [hr1];exact mod_in _
      have HC4:=Lib.hid (lcmp_any r1 d hr1M HDM.out)
      have HC5:=Lib.hid (lsub_any r1 d hr1M HDM.out)
      have hdd:=HDM.out
      have hcase:(ov=false∧r1 < d∧DI T d (k+1) l1 (2*q) r1)∨((ov=true∨(ov=false∧d≤r1))∧DI T d (k+1) l1 (2*q+1) ((r1-d) % 340282366920938463463374607431768211456)):=by
        rw [hl1]
        by_cases hge:d≤2*r+bit
        · right
          have e:(r1-d) % 340282366920938463463374607431768211456=2*r+bit-d:=by unfold InM at hdd hrM;omega
          refine ⟨?_,?_⟩
          · by_cases ho:340282366920938463463374607431768211456≤2*r+bit
            · left;rw [hov];exact decide_eq_true ho
            · right;exact ⟨by rw [hov];exact decide_eq_false ho,by omega⟩
          · rw [e]
            exact HI.out.next (.inr ⟨rfl,by rw [hb]⟩) (by omega) (by omega)
        · left
          have ho:¬ 340282366920938463463374607431768211456≤2*r+bit:=by have:=hdd.2;omega
          have e:r1=2*r+bit:=by omega
          refine ⟨by rw [hov];exact decide_eq_false ho,by omega,?_⟩
          rw [e]
          exact HI.out.next (.inl ⟨rfl,by rw [hb]⟩) (by omega) (by omega)
      have HCA:=Lib.hid hcase
      have HB:=Lib.hid hb
      have HQM:=Lib.hid hqM
      have hql:lo (2*q) % 2=0:=by unfold lo;omega
      have HOR:=Lib.hid (or_one' (lo (2*q)) (lo0 _) (lo1 _) hql)
      obtain ⟨c00,c01,c10,c11,c20,c21,c30,c31,c40,c41⟩:=HD.out.cells
      clear hcase hb hlM hrM hqq hqM hhl hbit hrd hr0 e2q hr1 hl1 hov hr1M hdd c00 c01 c11 c20 c21 c30 c31 hql
      go_wp2_with fail
      rw [← HB.out]
      refine (HC1.out _).mono ?_
      rintro e w3 ⟨rfl,hb3⟩
      have HD3:=Lib.hid (HD.out.bel hb3)
      clear c10 c40 c41 hb3
      have HD4:=Lib.hid (HD3.out.setR r1)
      obtain ⟨c00,c01,c10,c11,c20,c21,c30,c31,c40,c41⟩:=HD3.out.cells
      obtain ⟨f10,f11,f30,f31,f40,f41⟩:=HD3.out.frees
      clear c00 c01 c20 c21 c30 c31 f10 f11 f30 f31
      go_wp2_with fail
      refine (HC2.out _).mono ?_
      rintro e w5 ⟨rfl,hb5⟩
      have HD5:=Lib.hid (HD4.out.bel hb5)
      have HD6:=Lib.hid (HD5.out.setL l1)
      clear hb5 c10 c11 c40 c41 f40 f41 HD3 HD4
      obtain ⟨c00,c01,c10,c11,c20,c21,c30,c31,c40,c41⟩:=HD5.out.cells
      obtain ⟨f10,f11,f30,f31,f40,f41⟩:=HD5.out.frees
      clear c00 c01 c20 c21 f30 f31 f40 f41
      go_wp2_with fail
      refine (HC3.out _).mono ?_
      rintro e w7 ⟨rfl,hb7⟩
      have HD7:=Lib.hid (HD6.out.bel hb7)
      have HD8:=Lib.hid (HD7.out.setQ (2*q))
      clear hb7 c10 c11 c30 c31 c40 c41 f10 f11 HD5 HD6
      obtain ⟨c00,c01,c10,c11,c20,c21,c30,c31,c40,c41⟩:=HD7.out.cells
      obtain ⟨f10,f11,f30,f31,f40,f41⟩:=HD7.out.frees
      clear c00 c01 c10 c11 f10 f11 f40 f41
      rcases HCA.out with ⟨rfl,hr,hdi⟩ | ⟨hov,hdi⟩
      · have HDI:=Lib.hid hdi
        clear hdi
        rw [cmp_lt hr] at HC4
        go_wp2_with fail
        refine (HC4.out _).mono ?_
        rintro e w9 ⟨rfl,hb9⟩
        have HD9:=Lib.hid (HD8.out.bel hb9)
        clear hb9
        go_wp2
        go_roundw
        case rel=>exact ⟨k+1,l1,2*q,r1,by omega,by rw [show ((k+1:Nat):Int)=(k:Int)+1 by omega],HD9,HDI⟩
        case measure=>simp [intOf];omega
      · have HDI:=Lib.hid hdi
        clear hdi
        rcases hov with rfl | ⟨rfl,hge⟩
        · go_wp2_with fail
          clear c20 c21 c30 c31 c40 c41 f30 f31
          obtain ⟨w8,hw8⟩:∃ w8,w8=((w7.setCell ⟨w.heap.size+1+1+1,0,none⟩ (.int .u64 (hi (2*q)))).setCell ⟨w.heap.size+1+1+1,1,none⟩ (.int .u64 (lo (2*q)))):=⟨_,rfl⟩
          rw [← hw8] at HD8 ⊢
          clear hw8 HD7
          obtain ⟨k00,k01,k10,k11,k20,k21,k30,k31,k40,k41⟩:=HD8.out.cells
          go_wp2_with fail
          refine (HC5.out _).mono ?_
          rintro e wB ⟨rfl,hbB⟩
          have HDB:=Lib.hid (HD8.out.bel hbB)
          have HDC:=Lib.hid (HDB.out.setR ((r1-d) % 340282366920938463463374607431768211456))
          have HDD:=Lib.hid (HDC.out.setQ1 (by omega))
          clear hbB k00 k01 k10 k11 k20 k21 k30 k31 k40 k41
          obtain ⟨k00,k01,k10,k11,k20,k21,k30,k31,k40,k41⟩:=HDB.out.cells
          obtain ⟨f10,f11,f30,f31,f40,f41⟩:=HDB.out.frees
          rw [← HOR.out] at HDD
          clear k00 k01 k10 k11 k20 k21 f10 f11
          go_wp2
          go_roundw
          case rel=>exact ⟨k+1,l1,2*q+1,(r1-d) % 340282366920938463463374607431768211456,by omega,by rw [show ((k+1:Nat):Int)=(k:Int)+1 by omega],HDD,HDI⟩
          case measure=>simp [intOf];omega
        · have hc0:=cmp_ge hge
          obtain ⟨cc,hcc⟩:∃ cc,cc=cmp3 r1 d:=⟨_,rfl⟩
          rw [← hcc] at HC4 hc0
          clear hcc
          go_wp2_with fail
          refine (HC4.out _).mono ?_
          rintro e w9 ⟨rfl,hb9⟩
          have HD9:=Lib.hid (HD8.out.bel hb9)
          clear hb9 c20 c21 c30 c31 c40 c41 f30 f31 HD7
          obtain ⟨k00,k01,k10,k11,k20,k21,k30,k31,k40,k41⟩:=HD9.out.cells
          go_wp2_with fail
          refine (HC5.out _).mono ?_
          rintro e wB ⟨rfl,hbB⟩
          have HDB:=Lib.hid (HD9.out.bel hbB)
          have HDC:=Lib.hid (HDB.out.setR ((r1-d) % 340282366920938463463374607431768211456))
          have HDD:=Lib.hid (HDC.out.setQ1 (by omega))
          clear hbB k00 k01 k10 k11 k20 k21 k30 k31 k40 k41
          obtain ⟨k00,k01,k10,k11,k20,k21,k30,k31,k40,k41⟩:=HDB.out.cells
          obtain ⟨f10,f11,f30,f31,f40,f41⟩:=HDB.out.frees
          rw [← HOR.out] at HDD
          clear k00 k01 k10 k11 k20 k21 f10 f11
          go_wp2
          go_roundw
          case rel=>exact ⟨k+1,l1,2*q+1,(r1-d) % 340282366920938463463374607431768211456,by omega,by rw [show ((k+1:Nat):Int)=(k:Int)+1 by omega],HDD,HDI⟩
          case measure=>simp [intOf];omega
    · obtain rfl:k=128:=by omega
      obtain ⟨eq,er⟩:=HI.out.end_ HT0.out
      have HE:=Lib.hid eq
      have HE2:=Lib.hid er
      clear eq er
      obtain ⟨c00,c01,c10,c11,c20,c21,c30,c31,c40,c41⟩:=HD.out.cells
      obtain ⟨f10,f11,f30,f31,f40,f41⟩:=HD.out.frees
      clear c00 c01 c10 c11 c20 c21 f10 f11
      go_wp2_with fail
      go_region
      have HB:=HD.out.2.2.2.2.2
      go_wp2
      refine bodyPost_ret (v:=?_) (by simp [results,Tryz.results88,go_sem, *];rfl) rfl ⟨by rw [HE.out,HE2.out],(by repeat (first | exact Below.refl _ _ | assumption | refine below_al ?_ _ | refine below_dr ?_ | refine below_drN ?_ _ | refine below_set ?_ (by simp;try omega) _ | (refine below_to ?_ (by assumption))))⟩
end Go.Proofs.YtailjojebdmnnaaGreat
namespace Go.Proofs.YtailjojebdmnnaaGreat
open Go.RowKit
theorem ldiv_any (h l d:Int) (hh:InM h) (lM:InM l) (dM:InM d) (hd:h < d) (w:World) :
    Calls Tryz.prog 88 #[.agg #[.int .u64 (hi (h)),.int .u64 (lo (h))],.agg #[.int .u64 (hi (l)),.int .u64 (lo (l))],.agg #[.int .u64 (hi (d)),.int .u64 (lo (d))]] w fun e w'=>e = .returned (.tuple #[.agg #[.int .u64 (hi ((h*340282366920938463463374607431768211456+l) / d)),.int .u64 (lo ((h*340282366920938463463374607431768211456+l) / d))],.agg #[.int .u64 (hi ((h*340282366920938463463374607431768211456+l) % d)),.int .u64 (lo ((h*340282366920938463463374607431768211456+l) % d))],.bool true])∧Below w.heap.size w w':=by
  by_cases h1:d < 18446744073709551616
  · exact ldiv_short h l d hh lM dM hd h1 w
  · exact ldiv_long h l d hh lM dM hd (by omega) w
def ab (z:Int):Int:=if z < 0 then -z else z
theorem ab_in {z:Int} (h:InW z):InM (ab z):=by unfold InW at h;unfold ab InM;split <;> omega
def inW (z:Int):Bool:=decide (-170141183460469231731687303715884105728≤z) && decide (z < 170141183460469231731687303715884105728)
theorem inW_iff (z:Int):inW z=true↔InW z:=by unfold inW InW;simp
def fitV (z:Int):Int:=if inW z then z else 0
def fitE (z:Int):Int:=if inW z then 0 else 2
theorem fit_yes {z:Int} (h:InW z):fitV z=z∧fitE z=0:=by unfold fitV fitE;rw [(inW_iff z).2 h];simp
theorem fit_no {z:Int} (h:¬ InW z):fitV z=0∧fitE z=2:=by unfold fitV fitE;rw [show inW z=false by rw [Bool.eq_false_iff];exact fun k=>h ((inW_iff z).1 k)];simp
theorem size_any (z:Int) (hz:InW z) (w:World) :
    Calls Tryz.prog 87 #[.agg #[.int .i64 (hi (z)),.int .u64 (lo (z))]] w fun e w'=>e = .returned (.agg #[.int .u64 (hi (ab z)),.int .u64 (lo (ab z))])∧Below w.heap.size w w':=by
  have HB:=Lib.hid (bits_any z)
  have HS:=Lib.hid (lsub_any 0 (z % 340282366920938463463374607431768211456) (by unfold InM;omega) (mod_in z))
  have e0:ab z=if z < 0 then -z else z:=rfl
  have z0:hi 0=0:=rfl
  have z1:lo 0=0:=rfl
  rw [z0,z1] at HS
  by_cases h:0≤hi z
  · have hp:¬ z < 0:=by unfold hi at h;omega
    rw [if_neg hp] at e0
    rw [e0]
    have em:z % 340282366920938463463374607431768211456=z:=by unfold InW at hz;omega
    rw [em] at HB
    clear HS e0 hp em hz
    go_enter Tryz.func87,Tryz.ntmps87
    go_wp2_with fail
    refine (HB.out _).mono ?_
    rintro e w1 ⟨rfl,hb1⟩
    have hq:=(blk1 w (.cells #[.int .i64 (hi z),.int .u64 (lo z)] 27) 133 #[.int .u64 0,.int .u64 0]).below hb1 (by simp)
    have c20:=hq.cell 0
    have c21:=hq.cell 1
    have f20:=hq.frozen 0
    have f21:=hq.frozen 1
    simp at c20 c21
    have HB1:=Lib.hid (below_to (by repeat (first | exact Below.refl _ _ | assumption | refine below_al ?_ _ | refine below_dr ?_ | refine below_drN ?_ _ | refine below_set ?_ (by simp;try omega) _ | (refine below_to ?_ (by assumption)))) hb1)
    clear hq hb1
    go_wp2
    have HB2:=HB1.out
    refine bodyPost_ret (v:=?_) (by simp [results,Tryz.results87,go_sem, *];rfl) rfl ⟨rfl,(by repeat (first | exact Below.refl _ _ | assumption | refine below_al ?_ _ | refine below_dr ?_ | refine below_drN ?_ _ | refine below_set ?_ (by simp;try omega) _ | (refine below_to ?_ (by assumption))))⟩
  · have hp:z < 0:=by unfold hi at h;omega
    rw [if_pos hp] at e0
    rw [e0]
    have em:(0-z % 340282366920938463463374607431768211456) % 340282366920938463463374607431768211456 = -z:=by unfold InW at hz;omega
    rw [em] at HS
    clear e0 hp em hz
    go_enter Tryz.func87,Tryz.ntmps87
    go_wp2_with fail
    refine (HB.out _).mono ?_
    rintro e w1 ⟨rfl,hb1⟩
    have hq:=(blk1 w (.cells #[.int .i64 (hi z),.int .u64 (lo z)] 27) 133 #[.int .u64 0,.int .u64 0]).below hb1 (by simp)
    have HQ:=Lib.hid hq
    have HB1:=Lib.hid (below_to (by repeat (first | exact Below.refl _ _ | assumption | refine below_al ?_ _ | refine below_dr ?_ | refine below_drN ?_ _ | refine below_set ?_ (by simp;try omega) _ | (refine below_to ?_ (by assumption)))) hb1)
    clear hq hb1
    go_wp2_with fail
    refine (HS.out _).mono ?_
    rintro e w2 ⟨rfl,hb2⟩
    have hq:=HQ.out.below hb2 HQ.out.lt
    have hlt:=hq.lt
    have c20:=hq.cell 0
    have c21:=hq.cell 1
    have f20:=hq.frozen 0
    have f21:=hq.frozen 1
    simp at c20 c21
    have HB2:=Lib.hid (below_to HB1.out hb2)
    clear hq hb2
    go_wp2
    have HB3:=HB2.out
    refine bodyPost_ret (v:=?_) (by simp [results,Tryz.results87,go_sem, *];rfl) rfl ⟨rfl,(by repeat (first | exact Below.refl _ _ | assumption | refine below_al ?_ _ | refine below_dr ?_ | refine below_drN ?_ _ | refine below_set ?_ (by simp;try omega) _ | (refine below_to ?_ (by assumption))))⟩
theorem wcmp_any (a b:Int) (ha:InW a) (hb:InW b) (w:World) :
    Calls Tryz.prog 33 #[.agg #[.int .i64 (hi (a)),.int .u64 (lo (a))],.agg #[.int .i64 (hi (b)),.int .u64 (lo (b))]] w fun e w'=>e = .returned (.int .i64 (cmp3 a b))∧Below w.heap.size w w':=by
  go_enter Tryz.func33,Tryz.ntmps33
  go_wp2
  all_goals (go_ret;refine ⟨ret_i ?_,(by repeat (first | exact Below.refl _ _ | assumption | refine below_al ?_ _ | refine below_dr ?_ | refine below_drN ?_ _ | refine below_set ?_ (by simp;try omega) _ | (refine below_to ?_ (by assumption))))⟩;clear ha hb;simp only [cmp3];(try unfold hi at *);(try unfold lo at *);(repeat' split) <;> omega)
end Go.Proofs.YtailjojebdmnnaaGreat
namespace Go.Proofs.YtailjojebdmnnaaGreat
open Go.RowKit
def SW (w W:World) (n:Int):Prop:=Blk W (w.heap.size+1) 27 #[.int .i64 0,.int .u64 0]∧Blk W w.heap.size 133 #[.int .u64 (hi n),.int .u64 (lo n)]∧Blk W (w.heap.size+1+1) 133 #[.int .u64 9223372036854775808,.int .u64 0]∧Below w.heap.size w W
theorem SW.bel {w W W':World} {n:Int} (k:SW w W n) (hb:Below W.heap.size W W'):SW w W' n:=⟨k.1.below hb k.1.lt,k.2.1.below hb k.2.1.lt,k.2.2.1.below hb k.2.2.1.lt,below_to k.2.2.2 hb⟩
theorem SW.mk (w:World) (n:Int):SW w (((w.alloc (.cells #[.int .u64 (hi n),.int .u64 (lo n)] 133)).alloc (.cells #[.int .i64 0,.int .u64 0] 27)).alloc (.cells #[.int .u64 9223372036854775808,.int .u64 0] 133)) n:=⟨(blk1 w _ _ _).alloc _,((Blk.new w _ _).alloc _).alloc _,blk2 w _ _ _ _,(by repeat (first | exact Below.refl _ _ | assumption | refine below_al ?_ _ | refine below_dr ?_ | refine below_drN ?_ _ | refine below_set ?_ (by simp;try omega) _ | (refine below_to ?_ (by assumption))))⟩
theorem signed_mf (n:Int) (hn:InM n) (hle:n≤170141183460469231731687303715884105728) (w:World) :
    Calls Tryz.prog 89 #[.agg #[.int .u64 (hi (n)),.int .u64 (lo (n))],.bool true] w fun e w'=>e = .returned (.tuple #[.agg #[.int .i64 (hi (-n)),.int .u64 (lo (-n))],.int .i64 0])∧Below w.heap.size w w':=by
  have hnot:∀ (x:Bool) (w:World),(Op.unary .not (.bool x)).run Tryz.prog w = .ok (.bool (!x)) w:=fun _ _=>rfl
  have h127:hi 170141183460469231731687303715884105728=9223372036854775808:=rfl
  have l127:lo 170141183460469231731687303715884105728=0:=rfl
  have z0:hi 0=0:=rfl
  have z1:lo 0=0:=rfl
  have HC:=Lib.hid (lcmp_any n 170141183460469231731687303715884105728 hn (by unfold InM;omega))
  rw [h127,l127] at HC
  have hc:cmp3 n 170141183460469231731687303715884105728≤0:=by unfold cmp3;(repeat' split) <;> omega
  obtain ⟨c,hcc⟩:∃ c,c=cmp3 n 170141183460469231731687303715884105728:=⟨_,rfl⟩
  rw [← hcc] at HC hc
  have HS:=Lib.hid (lsub_any 0 n (by unfold InM;omega) hn)
  rw [z0,z1] at HS
  have HF:=Lib.hid (from_any ((0-n) % 340282366920938463463374607431768211456) (mod_in _))
  have es:sgn ((0-n) % 340282366920938463463374607431768211456) = -n:=by unfold InM at hn;unfold sgn;split <;> omega
  rw [es] at HF
  obtain ⟨m,hm⟩:∃ m,m=(0-n) % 340282366920938463463374607431768211456:=⟨_,rfl⟩
  rw [← hm] at HS HF
  clear hcc hn hm es h127 l127 z0 z1 hle
  go_enter Tryz.func89,Tryz.ntmps89
  go_wp2_with fail
  refine (HC.out _).mono ?_
  rintro e w1 ⟨rfl,hb1⟩
  have HSW1:=Lib.hid ((SW.mk w n).bel hb1)
  clear hb1
  have c10:=HSW1.out.1.cell 0
  have c11:=HSW1.out.1.cell 1
  have f10:=HSW1.out.1.frozen 0
  have f11:=HSW1.out.1.frozen 1
  have c00:=HSW1.out.2.1.cell 0
  have c01:=HSW1.out.2.1.cell 1
  have c20:=HSW1.out.2.2.1.cell 0
  have c21:=HSW1.out.2.2.1.cell 1
  have hlt:=HSW1.out.2.2.1.lt
  simp at c00 c01 c10 c11 c20 c21
  go_wp2_with fail
  refine (HS.out _).mono ?_
  rintro e w2 ⟨rfl,hb2⟩
  have HSW2:=Lib.hid (HSW1.out.bel hb2)
  clear hb2 c00 c01 c10 c11 c20 c21 f10 f11
  go_wp2_with fail
  refine (HF.out _).mono ?_
  rintro e w3 ⟨rfl,hb3⟩
  have hb4:Below w2.heap.size w2 w3:=below_to (below_al (Below.refl _ _) _) hb3
  have HSW3:=Lib.hid (HSW2.out.bel hb4)
  clear hb3 hb4
  have c10:=HSW3.out.1.cell 0
  have c11:=HSW3.out.1.cell 1
  have f10:=HSW3.out.1.frozen 0
  have f11:=HSW3.out.1.frozen 1
  have c00:=HSW3.out.2.1.cell 0
  have c01:=HSW3.out.2.1.cell 1
  have c20:=HSW3.out.2.2.1.cell 0
  have c21:=HSW3.out.2.2.1.cell 1
  have hlt:=HSW3.out.2.2.1.lt
  simp at c00 c01 c10 c11 c20 c21
  have HB:=HSW3.out.2.2.2
  clear c00 c01 c20 c21
  go_wp2
  refine bodyPost_ret (v:=?_) (by simp [results,Tryz.results89,go_sem, *];rfl) rfl ⟨rfl,(by repeat (first | exact Below.refl _ _ | assumption | refine below_al ?_ _ | refine below_dr ?_ | refine below_drN ?_ _ | refine below_set ?_ (by simp;try omega) _ | (refine below_to ?_ (by assumption))))⟩
theorem signed_mo (n:Int) (hn:InM n) (hle:170141183460469231731687303715884105728 < n) (w:World) :
    Calls Tryz.prog 89 #[.agg #[.int .u64 (hi (n)),.int .u64 (lo (n))],.bool true] w fun e w'=>e = .returned (.tuple #[.agg #[.int .i64 (hi (0)),.int .u64 (lo (0))],.int .i64 2])∧Below w.heap.size w w':=by
  have hnot:∀ (x:Bool) (w:World),(Op.unary .not (.bool x)).run Tryz.prog w = .ok (.bool (!x)) w:=fun _ _=>rfl
  have h127:hi 170141183460469231731687303715884105728=9223372036854775808:=rfl
  have l127:lo 170141183460469231731687303715884105728=0:=rfl
  have z0:hi 0=0:=rfl
  have z1:lo 0=0:=rfl
  have HC:=Lib.hid (lcmp_any n 170141183460469231731687303715884105728 hn (by unfold InM;omega))
  rw [h127,l127] at HC
  have hc:¬ cmp3 n 170141183460469231731687303715884105728≤0:=by unfold cmp3;(repeat' split) <;> omega
  obtain ⟨c,hcc⟩:∃ c,c=cmp3 n 170141183460469231731687303715884105728:=⟨_,rfl⟩
  rw [← hcc] at HC hc
  rw [z0,z1]
  clear hcc hn h127 l127 z0 z1 hle
  go_enter Tryz.func89,Tryz.ntmps89
  go_wp2_with fail
  refine (HC.out _).mono ?_
  rintro e w1 ⟨rfl,hb1⟩
  have HSW1:=Lib.hid ((SW.mk w n).bel hb1)
  clear hb1
  have c10:=HSW1.out.1.cell 0
  have c11:=HSW1.out.1.cell 1
  have f10:=HSW1.out.1.frozen 0
  have f11:=HSW1.out.1.frozen 1
  have c00:=HSW1.out.2.1.cell 0
  have c01:=HSW1.out.2.1.cell 1
  have c20:=HSW1.out.2.2.1.cell 0
  have c21:=HSW1.out.2.2.1.cell 1
  have hlt:=HSW1.out.2.2.1.lt
  simp at c00 c01 c10 c11 c20 c21
  have HB:=HSW1.out.2.2.2
  clear c00 c01 c20 c21
  go_wp2
  refine bodyPost_ret (v:=?_) (by simp [results,Tryz.results89,go_sem, *];rfl) rfl ⟨rfl,(by repeat (first | exact Below.refl _ _ | assumption | refine below_al ?_ _ | refine below_dr ?_ | refine below_drN ?_ _ | refine below_set ?_ (by simp;try omega) _ | (refine below_to ?_ (by assumption))))⟩
theorem signed_pf (n:Int) (hn:InM n) (hle:n < 170141183460469231731687303715884105728) (w:World) :
    Calls Tryz.prog 89 #[.agg #[.int .u64 (hi (n)),.int .u64 (lo (n))],.bool false] w fun e w'=>e = .returned (.tuple #[.agg #[.int .i64 (hi (n)),.int .u64 (lo (n))],.int .i64 0])∧Below w.heap.size w w':=by
  have hnot:∀ (x:Bool) (w:World),(Op.unary .not (.bool x)).run Tryz.prog w = .ok (.bool (!x)) w:=fun _ _=>rfl
  have h127:hi 170141183460469231731687303715884105728=9223372036854775808:=rfl
  have l127:lo 170141183460469231731687303715884105728=0:=rfl
  have z0:hi 0=0:=rfl
  have z1:lo 0=0:=rfl
  have HC:=Lib.hid (lcmp_any n 170141183460469231731687303715884105728 hn (by unfold InM;omega))
  rw [h127,l127] at HC
  have hc:cmp3 n 170141183460469231731687303715884105728 < 0:=by unfold cmp3;(repeat' split) <;> omega
  obtain ⟨c,hcc⟩:∃ c,c=cmp3 n 170141183460469231731687303715884105728:=⟨_,rfl⟩
  rw [← hcc] at HC hc
  have HF:=Lib.hid (from_any n hn)
  have es:sgn n=n:=by unfold sgn;rw [if_pos hle]
  rw [es] at HF
  clear hcc hn es h127 l127 z0 z1 hle
  go_enter Tryz.func89,Tryz.ntmps89
  go_wp2_with fail
  refine (HC.out _).mono ?_
  rintro e w1 ⟨rfl,hb1⟩
  have HSW1:=Lib.hid ((SW.mk w n).bel hb1)
  clear hb1
  have c10:=HSW1.out.1.cell 0
  have c11:=HSW1.out.1.cell 1
  have f10:=HSW1.out.1.frozen 0
  have f11:=HSW1.out.1.frozen 1
  have c00:=HSW1.out.2.1.cell 0
  have c01:=HSW1.out.2.1.cell 1
  have c20:=HSW1.out.2.2.1.cell 0
  have c21:=HSW1.out.2.2.1.cell 1
  have hlt:=HSW1.out.2.2.1.lt
  simp at c00 c01 c10 c11 c20 c21
  go_wp2_with fail
  refine (HF.out _).mono ?_
  rintro e w3 ⟨rfl,hb3⟩
  have HSW3:=Lib.hid (HSW1.out.bel hb3)
  clear hb3 c00 c01 c10 c11 c20 c21 f10 f11
  have c10:=HSW3.out.1.cell 0
  have c11:=HSW3.out.1.cell 1
  have f10:=HSW3.out.1.frozen 0
  have f11:=HSW3.out.1.frozen 1
  have c00:=HSW3.out.2.1.cell 0
  have c01:=HSW3.out.2.1.cell 1
  have c20:=HSW3.out.2.2.1.cell 0
  have c21:=HSW3.out.2.2.1.cell 1
  have hlt:=HSW3.out.2.2.1.lt
  simp at c00 c01 c10 c11 c20 c21
  have HB:=HSW3.out.2.2.2
  clear c00 c01 c20 c21
  go_wp2
  refine bodyPost_ret (v:=?_) (by simp [results,Tryz.results89,go_sem, *];rfl) rfl ⟨rfl,(by repeat (first | exact Below.refl _ _ | assumption | refine below_al ?_ _ | refine below_dr ?_ | refine below_drN ?_ _ | refine below_set ?_ (by simp;try omega) _ | (refine below_to ?_ (by assumption))))⟩
theorem signed_po (n:Int) (hn:InM n) (hle:170141183460469231731687303715884105728≤n) (w:World) :
    Calls Tryz.prog 89 #[.agg #[.int .u64 (hi (n)),.int .u64 (lo (n))],.bool false] w fun e w'=>e = .returned (.tuple #[.agg #[.int .i64 (hi (0)),.int .u64 (lo (0))],.int .i64 2])∧Below w.heap.size w w':=by
  have hnot:∀ (x:Bool) (w:World),(Op.unary .not (.bool x)).run Tryz.prog w = .ok (.bool (!x)) w:=fun _ _=>rfl
  have h127:hi 170141183460469231731687303715884105728=9223372036854775808:=rfl
  have l127:lo 170141183460469231731687303715884105728=0:=rfl
  have z0:hi 0=0:=rfl
  have z1:lo 0=0:=rfl
  have HC:=Lib.hid (lcmp_any n 170141183460469231731687303715884105728 hn (by unfold InM;omega))
  rw [h127,l127] at HC
  have hc:¬ cmp3 n 170141183460469231731687303715884105728 < 0:=by unfold cmp3;(repeat' split) <;> omega
  obtain ⟨c,hcc⟩:∃ c,c=cmp3 n 170141183460469231731687303715884105728:=⟨_,rfl⟩
  rw [← hcc] at HC hc
  rw [z0,z1]
  clear hcc hn h127 l127 z0 z1 hle
  go_enter Tryz.func89,Tryz.ntmps89
  go_wp2_with fail
  refine (HC.out _).mono ?_
  rintro e w1 ⟨rfl,hb1⟩
  have HSW1:=Lib.hid ((SW.mk w n).bel hb1)
  clear hb1
  have c10:=HSW1.out.1.cell 0
  have c11:=HSW1.out.1.cell 1
  have f10:=HSW1.out.1.frozen 0
  have f11:=HSW1.out.1.frozen 1
  have c00:=HSW1.out.2.1.cell 0
  have c01:=HSW1.out.2.1.cell 1
  have c20:=HSW1.out.2.2.1.cell 0
  have c21:=HSW1.out.2.2.1.cell 1
  have hlt:=HSW1.out.2.2.1.lt
  simp at c00 c01 c10 c11 c20 c21
  have HB:=HSW1.out.2.2.2
  clear c00 c01 c20 c21
  go_wp2
  refine bodyPost_ret (v:=?_) (by simp [results,Tryz.results89,go_sem, *];rfl) rfl ⟨rfl,(by repeat (first | exact Below.refl _ _ | assumption | refine below_al ?_ _ | refine below_dr ?_ | refine below_drN ?_ _ | refine below_set ?_ (by simp;try omega) _ | (refine below_to ?_ (by assumption))))⟩
def neg (m:Bool) (n:Int):Int:=if m then -n else n
theorem signed_any (n:Int) (hn:InM n) (m:Bool) (w:World) :
    Calls Tryz.prog 89 #[.agg #[.int .u64 (hi (n)),.int .u64 (lo (n))],.bool m] w fun e w'=>e = .returned (.tuple #[.agg #[.int .i64 (hi (fitV (neg m n))),.int .u64 (lo (fitV (neg m n)))],.int .i64 (fitE (neg m n))])∧Below w.heap.size w w':=by
  have h0:=hn.1
  cases m
  · by_cases h:n < 170141183460469231731687303715884105728
    · obtain ⟨e1,e2⟩:=fit_yes (z:=neg false n) (by unfold neg InW;simp;omega)
      rw [e1,e2]
      exact signed_pf n hn h w
    · obtain ⟨e1,e2⟩:=fit_no (z:=neg false n) (by unfold neg InW;simp;omega)
      rw [e1,e2]
      exact signed_po n hn (by omega) w
  · by_cases h:n≤170141183460469231731687303715884105728
    · obtain ⟨e1,e2⟩:=fit_yes (z:=neg true n) (by unfold neg InW;simp;omega)
      rw [e1,e2]
      exact signed_mf n hn h w
    · obtain ⟨e1,e2⟩:=fit_no (z:=neg true n) (by unfold neg InW;simp;omega)
      rw [e1,e2]
      exact signed_mo n hn (by omega) w
end Go.Proofs.YtailjojebdmnnaaGreat
namespace Go.Proofs.YtailjojebdmnnaaGreat
open Go.RowKit
theorem above_any (a:Int) (ha:InW a) (w:World) :
    Calls Tryz.prog 85 #[.agg #[.int .i64 (hi (a)),.int .u64 (lo (a))]] w fun e w'=>e = .returned (.bool (decide (0 < a)))∧Below w.heap.size w w':=by
  have HC:=Lib.hid (wcmp_any a 0 ha (by unfold InW;omega))
  have z0:hi 0=0:=rfl
  have z1:lo 0=0:=rfl
  rw [z0,z1] at HC
  have hd:decide (0 < cmp3 a 0)=decide (0 < a):=by unfold cmp3;(repeat' split) <;> simp <;> omega
  have HD:=Lib.hid hd
  obtain ⟨c,hc⟩:∃ c,c=cmp3 a 0:=⟨_,rfl⟩
  rw [← hc] at HC HD
  clear z0 z1 hd hc
  go_enter Tryz.func85,Tryz.ntmps85
  go_wp2_with fail
  refine (HC.out _).mono ?_
  rintro e w1 ⟨rfl,hb1⟩
  go_wp2
  go_ret
  exact ⟨ret_b HD.out,below_to (by repeat (first | exact Below.refl _ _ | assumption | refine below_al ?_ _ | refine below_dr ?_ | refine below_drN ?_ _ | refine below_set ?_ (by simp;try omega) _ | (refine below_to ?_ (by assumption)))) hb1⟩
theorem least_any (a:Int) (ha:InW a) (w:World) :
    Calls Tryz.prog 90 #[.agg #[.int .i64 (hi (a)),.int .u64 (lo (a))]] w fun e w'=>e = .returned (.bool (decide (a = -170141183460469231731687303715884105728)))∧Below w.heap.size w w':=by
  have hd:(hi a == -9223372036854775808 && lo a == 0)=decide (a = -170141183460469231731687303715884105728):=by
    rw [Bool.eq_iff_iff];simp;unfold hi lo;omega
  have HD:=Lib.hid hd
  clear hd ha
  go_enter Tryz.func90,Tryz.ntmps90
  go_wp2
  all_goals (go_ret;refine ⟨?_,(by repeat (first | exact Below.refl _ _ | assumption | refine below_al ?_ _ | refine below_dr ?_ | refine below_drN ?_ _ | refine below_set ?_ (by simp;try omega) _ | (refine below_to ?_ (by assumption))))⟩)
  all_goals (rw [← HD.out];simp [*])
def AW (w W:World) (a b:Int):Prop:=Blk W w.heap.size 27 #[.int .i64 (hi a),.int .u64 (lo a)]∧Blk W (w.heap.size+1) 27 #[.int .i64 (hi b),.int .u64 (lo b)] ∧
 Blk W (w.heap.size+1+1) 27 #[.int .i64 0,.int .u64 0]∧Below w.heap.size w W
theorem AW.bel {w W W':World} {a b:Int} (k:AW w W a b) (hb:Below W.heap.size W W'):AW w W' a b:=⟨k.1.below hb k.1.lt,k.2.1.below hb k.2.1.lt,k.2.2.1.below hb k.2.2.1.lt,below_to k.2.2.2 hb⟩
theorem AW.mk (w:World) (a b:Int):AW w (((w.alloc (.cells #[.int .i64 (hi a),.int .u64 (lo a)] 27)).alloc (.cells #[.int .i64 (hi b),.int .u64 (lo b)] 27)).alloc (.cells #[.int .i64 0,.int .u64 0] 27)) a b:=
 ⟨((Blk.new w _ _).alloc _).alloc _,(blk1 w _ _ _).alloc _,blk2 w _ _ _ _,(by repeat (first | exact Below.refl _ _ | assumption | refine below_al ?_ _ | refine below_dr ?_ | refine below_drN ?_ _ | refine below_set ?_ (by simp;try omega) _ | (refine below_to ?_ (by assumption))))⟩
theorem AW.al {w W:World} {a b:Int} (k:AW w W a b) (o:Obj):AW w (W.alloc o) a b:=k.bel (below_al (Below.refl _ _) _)
theorem AW.set {w W:World} {a b:Int} (k:AW w W a b) {p:Addr} (hp:w.heap.size+3≤p.block) (v:Value):AW w (W.setCell p v) a b:=
 ⟨k.1.far (by omega) _,k.2.1.far (by omega) _,k.2.2.1.far (by omega) _,below_set k.2.2.2 (by omega) _⟩
theorem AW.dr {w W:World} {a b:Int} (k:AW w W a b):AW w W.drew a b:=k.bel (below_dr (Below.refl _ _))
theorem AW.cells {w W:World} {a b:Int} (k:AW w W a b):W.cell? ⟨w.heap.size,0,none⟩=some (.int .i64 (hi a))∧W.cell? ⟨w.heap.size,1,none⟩=some (.int .u64 (lo a))∧W.cell? ⟨w.heap.size+1,0,none⟩=some (.int .i64 (hi b))∧W.cell? ⟨w.heap.size+1,1,none⟩=some (.int .u64 (lo b)):=
 ⟨by rw [k.1.cell];rfl,by rw [k.1.cell];rfl,by rw [k.2.1.cell];rfl,by rw [k.2.1.cell];rfl⟩
theorem wadd_core (a b s sa sb ss:Int) (N:Int) (hN:(a % 340282366920938463463374607431768211456+b % 340282366920938463463374607431768211456) % 340282366920938463463374607431768211456=N) (hs:sgn N=s) (hsa:hi a / 9223372036854775808=sa) (hsb:hi b / 9223372036854775808=sb) (hss:hi s / 9223372036854775808=ss) (ov:Bool) (hov:(sa == sb && ss != sa)=ov) (w:World) :
    Calls Tryz.prog 29 #[.agg #[.int .i64 (hi (a)),.int .u64 (lo (a))],.agg #[.int .i64 (hi (b)),.int .u64 (lo (b))]] w fun e w'=>e = .returned (.tuple #[.agg #[.int .i64 (hi (if ov then 0 else s)),.int .u64 (lo (if ov then 0 else s))],.int .i64 (if ov then 2 else 0)])∧Below w.heap.size w w':=by
  have HA:=Lib.hid (bits_any a)
  have HB:=Lib.hid (bits_any b)
  have HL:=Lib.hid (ladd_any (a % 340282366920938463463374607431768211456) (b % 340282366920938463463374607431768211456) (mod_in a) (mod_in b))
  rw [hN] at HL
  have HF:=Lib.hid (from_any N (by rw [← hN];exact mod_in _))
  rw [hs] at HF
  have HAW:=Lib.hid (AW.mk w a b)
  have HOV:=Lib.hid hov
  clear hs hN hov
  go_enter Tryz.func29,Tryz.ntmps29
  go_wp2_with fail
  go_region_held3 (fun w'=>w'.cell? ⟨w.heap.size,0,none⟩=some (.int .i64 (hi a))∧w'.cell? ⟨w.heap.size,1,none⟩=some (.int .u64 (lo a))∧w'.cell? ⟨w.heap.size+1,0,none⟩=some (.int .i64 (hi b))∧w'.cell? ⟨w.heap.size+1,1,none⟩=some (.int .u64 (lo b))) (first | go_keep | exact ((HAW3.out.set (by have:=HAW1.out.2.2.1.lt;have:=HAW2.out.2.2.1.lt;simp;try omega) _).set (by have:=HAW1.out.2.2.1.lt;have:=HAW2.out.2.2.1.lt;simp;try omega) _).cells)
    (first
      | (go_at_call 66;refine (HA.out _).mono ?_;rintro e w1 ⟨rfl,hb1⟩;have HAW1:=Lib.hid (show AW w w1 a b by first | exact HAW.out.dr.bel hb1 | exact (HAW.out.dr.al _).bel hb1);obtain ⟨k10,k11,k12,k13⟩:=HAW1.out.cells;(first | (have hq6:=hq6.below hb1 hq6.lt;have z60:=hq6.cell 0;have z61:=hq6.cell 1;have g60:=hq6.frozen 0;have g61:=hq6.frozen 1;simp at z60 z61 g60 g61) | (have hq6:=(Blk.new _ 133 #[.int .u64 0,.int .u64 0]).below hb1 (by simp);have z60:=hq6.cell 0;have z61:=hq6.cell 1;have g60:=hq6.frozen 0;have g61:=hq6.frozen 1;simp at z60 z61 g60 g61) | (have hq6:=(Blk.new _ 133 #[.int .u64 0,.int .u64 0]).drew.below hb1 (by simp);have z60:=hq6.cell 0;have z61:=hq6.cell 1;have g60:=hq6.frozen 0;have g61:=hq6.frozen 1;simp at z60 z61 g60 g61) | skip))
      | (go_at_call 66;refine (HB.out _).mono ?_;rintro e w2 ⟨rfl,hb2⟩;have HAW2:=Lib.hid (show AW w w2 a b by first | exact HAW1.out.bel hb2 | exact (HAW1.out.al _).bel hb2);obtain ⟨k20,k21,k22,k23⟩:=HAW2.out.cells;(first | (have hq6:=hq6.below hb2 hq6.lt;have z60:=hq6.cell 0;have z61:=hq6.cell 1;have g60:=hq6.frozen 0;have g61:=hq6.frozen 1;simp at z60 z61 g60 g61) | (have hq6:=(Blk.new _ 133 #[.int .u64 0,.int .u64 0]).below hb2 (by simp);have z60:=hq6.cell 0;have z61:=hq6.cell 1;have g60:=hq6.frozen 0;have g61:=hq6.frozen 1;simp at z60 z61 g60 g61) | (have hq6:=(Blk.new _ 133 #[.int .u64 0,.int .u64 0]).drew.below hb2 (by simp);have z60:=hq6.cell 0;have z61:=hq6.cell 1;have g60:=hq6.frozen 0;have g61:=hq6.frozen 1;simp at z60 z61 g60 g61) | skip))
      | (go_at_call 65;refine (HL.out _).mono ?_;rintro e w3 ⟨rfl,hb3⟩;have HAW3:=Lib.hid (show AW w w3 a b by first | exact HAW2.out.bel hb3 | exact (HAW2.out.al _).bel hb3);obtain ⟨k30,k31,k32,k33⟩:=HAW3.out.cells;(first | (have hq6:=hq6.below hb3 hq6.lt;have z60:=hq6.cell 0;have z61:=hq6.cell 1;have g60:=hq6.frozen 0;have g61:=hq6.frozen 1;simp at z60 z61 g60 g61) | (have hq6:=(Blk.new _ 133 #[.int .u64 0,.int .u64 0]).below hb3 (by simp);have z60:=hq6.cell 0;have z61:=hq6.cell 1;have g60:=hq6.frozen 0;have g61:=hq6.frozen 1;simp at z60 z61 g60 g61) | (have hq6:=(Blk.new _ 133 #[.int .u64 0,.int .u64 0]).drew.below hb3 (by simp);have z60:=hq6.cell 0;have z61:=hq6.cell 1;have g60:=hq6.frozen 0;have g61:=hq6.frozen 1;simp at z60 z61 g60 g61) | skip)))
  all_goals go_wp2_with fail
  all_goals
    refine (HF.out _).mono ?_
    rintro e w4 ⟨rfl,hb4⟩
    have HAW4:=Lib.hid (show AW w w4 a b by first | exact (HAW3.out.al _).bel hb4 | exact ((HAW3.out.set (by have:=HAW1.out.2.2.1.lt;have:=HAW2.out.2.2.1.lt;simp;try omega) _).set (by have:=HAW1.out.2.2.1.lt;have:=HAW2.out.2.2.1.lt;simp;try omega) _).bel hb4)
    obtain ⟨k40,k41,k42,k43⟩:=HAW4.out.cells
    have c20:=HAW4.out.2.2.1.cell 0
    have c21:=HAW4.out.2.2.1.cell 1
    have f20:=HAW4.out.2.2.1.frozen 0
    have f21:=HAW4.out.2.2.1.frozen 1
    have hlt:=HAW4.out.2.2.1.lt
    have hl0:w.heap.size < w4.heap.size:=by omega
    have hl1:w.heap.size+1 < w4.heap.size:=by omega
    simp at c20 c21
    clear HAW HAW1 HAW2 HAW3 HA HB HL HF hb1 hb2 hb3 hb4 k10 k11 k12 k13 k20 k21 k22 k23 k30 k31 k32 k33
    try clear z60 z61 g60 g61
    have HB4:=Lib.hid HAW4.out.2.2.2
    clear HAW4
    by_cases h1:sa=sb
    · subst h1
      by_cases h2:ss=sa
      · subst h2
        have ho:ov=false:=by rw [← HOV.out];simp
        subst ho
        go_wp2
        have HB5:=HB4.out
        refine bodyPost_ret (v:=?_) (by simp [results,Tryz.results29,go_sem, *];rfl) rfl ⟨rfl,(by repeat (first | exact Below.refl _ _ | assumption | refine below_al ?_ _ | refine below_dr ?_ | refine below_drN ?_ _ | refine below_set ?_ (by simp;try omega) _ | (refine below_to ?_ (by assumption))))⟩
      · have ho:ov=true:=by rw [← HOV.out];simp [h2]
        subst ho
        go_wp2
        have HB5:=HB4.out
        refine bodyPost_ret (v:=?_) (by simp [results,Tryz.results29,go_sem, *];rfl) rfl ⟨rfl,(by repeat (first | exact Below.refl _ _ | assumption | refine below_al ?_ _ | refine below_dr ?_ | refine below_drN ?_ _ | refine below_set ?_ (by simp;try omega) _ | (refine below_to ?_ (by assumption))))⟩
    · have ho:ov=false:=by rw [← HOV.out];simp [h1]
      subst ho
      go_wp2
      have HB5:=HB4.out
      refine bodyPost_ret (v:=?_) (by simp [results,Tryz.results29,go_sem, *];rfl) rfl ⟨rfl,(by repeat (first | exact Below.refl _ _ | assumption | refine below_al ?_ _ | refine below_dr ?_ | refine below_drN ?_ _ | refine below_set ?_ (by simp;try omega) _ | (refine below_to ?_ (by assumption))))⟩
end Go.Proofs.YtailjojebdmnnaaGreat
namespace Go.Proofs.YtailjojebdmnnaaGreat
open Go.RowKit
theorem wsub_core (a b s sa sb ss:Int) (N:Int) (hN:(a % 340282366920938463463374607431768211456-b % 340282366920938463463374607431768211456) % 340282366920938463463374607431768211456=N) (hs:sgn N=s) (hsa:hi a / 9223372036854775808=sa) (hsb:hi b / 9223372036854775808=sb) (hss:hi s / 9223372036854775808=ss) (ov:Bool) (hov:(sa != sb && ss != sa)=ov) (w:World) :
    Calls Tryz.prog 78 #[.agg #[.int .i64 (hi (a)),.int .u64 (lo (a))],.agg #[.int .i64 (hi (b)),.int .u64 (lo (b))]] w fun e w'=>e = .returned (.tuple #[.agg #[.int .i64 (hi (if ov then 0 else s)),.int .u64 (lo (if ov then 0 else s))],.int .i64 (if ov then 2 else 0)])∧Below w.heap.size w w':=by
  have HA:=Lib.hid (bits_any a)
  have HB:=Lib.hid (bits_any b)
  have HL:=Lib.hid (lsub_any (a % 340282366920938463463374607431768211456) (b % 340282366920938463463374607431768211456) (mod_in a) (mod_in b))
  rw [hN] at HL
  have HF:=Lib.hid (from_any N (by rw [← hN];exact mod_in _))
  rw [hs] at HF
  have HAW:=Lib.hid (AW.mk w a b)
  have HOV:=Lib.hid hov
  clear hs hN hov
  go_enter Tryz.func78,Tryz.ntmps78
  go_wp2_with fail
  go_region_held3 (fun w'=>w'.cell? ⟨w.heap.size,0,none⟩=some (.int .i64 (hi a))∧w'.cell? ⟨w.heap.size,1,none⟩=some (.int .u64 (lo a))∧w'.cell? ⟨w.heap.size+1,0,none⟩=some (.int .i64 (hi b))∧w'.cell? ⟨w.heap.size+1,1,none⟩=some (.int .u64 (lo b))) (first | go_keep | exact ((HAW3.out.set (by have:=HAW1.out.2.2.1.lt;have:=HAW2.out.2.2.1.lt;simp;try omega) _).set (by have:=HAW1.out.2.2.1.lt;have:=HAW2.out.2.2.1.lt;simp;try omega) _).cells)
    (first
      | (go_at_call 66;refine (HA.out _).mono ?_;rintro e w1 ⟨rfl,hb1⟩;have HAW1:=Lib.hid (show AW w w1 a b by first | exact HAW.out.dr.bel hb1 | exact (HAW.out.dr.al _).bel hb1);obtain ⟨k10,k11,k12,k13⟩:=HAW1.out.cells;(first | (have hq6:=hq6.below hb1 hq6.lt;have z60:=hq6.cell 0;have z61:=hq6.cell 1;have g60:=hq6.frozen 0;have g61:=hq6.frozen 1;simp at z60 z61 g60 g61) | (have hq6:=(Blk.new _ 133 #[.int .u64 0,.int .u64 0]).below hb1 (by simp);have z60:=hq6.cell 0;have z61:=hq6.cell 1;have g60:=hq6.frozen 0;have g61:=hq6.frozen 1;simp at z60 z61 g60 g61) | (have hq6:=(Blk.new _ 133 #[.int .u64 0,.int .u64 0]).drew.below hb1 (by simp);have z60:=hq6.cell 0;have z61:=hq6.cell 1;have g60:=hq6.frozen 0;have g61:=hq6.frozen 1;simp at z60 z61 g60 g61) | skip))
      | (go_at_call 66;refine (HB.out _).mono ?_;rintro e w2 ⟨rfl,hb2⟩;have HAW2:=Lib.hid (show AW w w2 a b by first | exact HAW1.out.bel hb2 | exact (HAW1.out.al _).bel hb2);obtain ⟨k20,k21,k22,k23⟩:=HAW2.out.cells;(first | (have hq6:=hq6.below hb2 hq6.lt;have z60:=hq6.cell 0;have z61:=hq6.cell 1;have g60:=hq6.frozen 0;have g61:=hq6.frozen 1;simp at z60 z61 g60 g61) | (have hq6:=(Blk.new _ 133 #[.int .u64 0,.int .u64 0]).below hb2 (by simp);have z60:=hq6.cell 0;have z61:=hq6.cell 1;have g60:=hq6.frozen 0;have g61:=hq6.frozen 1;simp at z60 z61 g60 g61) | (have hq6:=(Blk.new _ 133 #[.int .u64 0,.int .u64 0]).drew.below hb2 (by simp);have z60:=hq6.cell 0;have z61:=hq6.cell 1;have g60:=hq6.frozen 0;have g61:=hq6.frozen 1;simp at z60 z61 g60 g61) | skip))
      | (go_at_call 91;refine (HL.out _).mono ?_;rintro e w3 ⟨rfl,hb3⟩;have HAW3:=Lib.hid (show AW w w3 a b by first | exact HAW2.out.bel hb3 | exact (HAW2.out.al _).bel hb3);obtain ⟨k30,k31,k32,k33⟩:=HAW3.out.cells;(first | (have hq6:=hq6.below hb3 hq6.lt;have z60:=hq6.cell 0;have z61:=hq6.cell 1;have g60:=hq6.frozen 0;have g61:=hq6.frozen 1;simp at z60 z61 g60 g61) | (have hq6:=(Blk.new _ 133 #[.int .u64 0,.int .u64 0]).below hb3 (by simp);have z60:=hq6.cell 0;have z61:=hq6.cell 1;have g60:=hq6.frozen 0;have g61:=hq6.frozen 1;simp at z60 z61 g60 g61) | (have hq6:=(Blk.new _ 133 #[.int .u64 0,.int .u64 0]).drew.below hb3 (by simp);have z60:=hq6.cell 0;have z61:=hq6.cell 1;have g60:=hq6.frozen 0;have g61:=hq6.frozen 1;simp at z60 z61 g60 g61) | skip)))
  all_goals go_wp2_with fail
  all_goals
    refine (HF.out _).mono ?_
    rintro e w4 ⟨rfl,hb4⟩
    have HAW4:=Lib.hid (show AW w w4 a b by first | exact (HAW3.out.al _).bel hb4 | exact ((HAW3.out.set (by have:=HAW1.out.2.2.1.lt;have:=HAW2.out.2.2.1.lt;simp;try omega) _).set (by have:=HAW1.out.2.2.1.lt;have:=HAW2.out.2.2.1.lt;simp;try omega) _).bel hb4)
    obtain ⟨k40,k41,k42,k43⟩:=HAW4.out.cells
    have c20:=HAW4.out.2.2.1.cell 0
    have c21:=HAW4.out.2.2.1.cell 1
    have f20:=HAW4.out.2.2.1.frozen 0
    have f21:=HAW4.out.2.2.1.frozen 1
    have hlt:=HAW4.out.2.2.1.lt
    have hl0:w.heap.size < w4.heap.size:=by omega
    have hl1:w.heap.size+1 < w4.heap.size:=by omega
    simp at c20 c21
    clear HAW HAW1 HAW2 HAW3 HA HB HL HF hb1 hb2 hb3 hb4 k10 k11 k12 k13 k20 k21 k22 k23 k30 k31 k32 k33
    try clear z60 z61 g60 g61
    have HB4:=Lib.hid HAW4.out.2.2.2
    clear HAW4
    by_cases h1:sa=sb
    · subst h1
      have ho:ov=false:=by rw [← HOV.out];simp
      subst ho
      go_wp2
      have HB5:=HB4.out
      refine bodyPost_ret (v:=?_) (by simp [results,Tryz.results78,go_sem, *];rfl) rfl ⟨rfl,(by repeat (first | exact Below.refl _ _ | assumption | refine below_al ?_ _ | refine below_dr ?_ | refine below_drN ?_ _ | refine below_set ?_ (by simp;try omega) _ | (refine below_to ?_ (by assumption))))⟩
    · have h1a:(sa == sb)=false:=by simpa using h1
      have h1b:(sa != sb)=true:=by simpa using h1
      by_cases h2:ss=sa
      · subst h2
        have ho:ov=false:=by rw [← HOV.out];simp
        subst ho
        go_wp2
        have HB5:=HB4.out
        refine bodyPost_ret (v:=?_) (by simp [results,Tryz.results78,go_sem, *];rfl) rfl ⟨rfl,(by repeat (first | exact Below.refl _ _ | assumption | refine below_al ?_ _ | refine below_dr ?_ | refine below_drN ?_ _ | refine below_set ?_ (by simp;try omega) _ | (refine below_to ?_ (by assumption))))⟩
      · have ho:ov=true:=by rw [← HOV.out];simp [h1,h2]
        subst ho
        go_wp2
        have HB5:=HB4.out
        refine bodyPost_ret (v:=?_) (by simp [results,Tryz.results78,go_sem, *];rfl) rfl ⟨rfl,(by repeat (first | exact Below.refl _ _ | assumption | refine below_al ?_ _ | refine below_dr ?_ | refine below_drN ?_ _ | refine below_set ?_ (by simp;try omega) _ | (refine below_to ?_ (by assumption))))⟩
def sg (z:Int):Int:=hi z / 9223372036854775808
theorem sg_eq {z:Int} (h:InW z):sg z=if z < 0 then -1 else 0:=by unfold InW at h;unfold sg hi;split <;> omega
theorem wadd_any (a b:Int) (ha:InW a) (hb:InW b) (w:World) :
    Calls Tryz.prog 29 #[.agg #[.int .i64 (hi (a)),.int .u64 (lo (a))],.agg #[.int .i64 (hi (b)),.int .u64 (lo (b))]] w fun e w'=>e = .returned (.tuple #[.agg #[.int .i64 (hi (fitV (a+b))),.int .u64 (lo (fitV (a+b)))],.int .i64 (fitE (a+b))])∧Below w.heap.size w w':=by
  obtain ⟨N,hN⟩:∃ N,(a % 340282366920938463463374607431768211456+b % 340282366920938463463374607431768211456) % 340282366920938463463374607431768211456=N:=⟨_,rfl⟩
  have hNM:InM N:=by rw [← hN];exact mod_in _
  have hs:=sgn_in hNM
  have h1:=sg_eq ha
  have h2:=sg_eq hb
  have h3:=sg_eq hs
  by_cases hf:InW (a+b)
  · obtain ⟨e1,e2⟩:=fit_yes hf
    have es:sgn N=a+b:=by unfold InW at hf;unfold InM at hNM;unfold sgn;split <;> omega
    rw [e1,e2]
    have:=wadd_core a b (a+b) (sg a) (sg b) (sg (a+b)) N hN es rfl rfl rfl false (by rw [es] at h3;rw [h1,h2,h3];(repeat' split) <;> simp <;> omega) w
    simpa using this
  · obtain ⟨e1,e2⟩:=fit_no hf
    rw [e1,e2]
    have:=wadd_core a b (sgn N) (sg a) (sg b) (sg (sgn N)) N hN rfl rfl rfl rfl true (by
      have hx:(sgn N < 0↔0≤a)∧(a < 0↔b < 0):=by unfold InW at hf ha hb;unfold InM at hNM;unfold sgn;split <;> omega
      rw [h1,h2,h3];(repeat' split) <;> simp <;> omega) w
    simpa using this
theorem wsub_any (a b:Int) (ha:InW a) (hb:InW b) (w:World) :
    Calls Tryz.prog 78 #[.agg #[.int .i64 (hi (a)),.int .u64 (lo (a))],.agg #[.int .i64 (hi (b)),.int .u64 (lo (b))]] w fun e w'=>e = .returned (.tuple #[.agg #[.int .i64 (hi (fitV (a-b))),.int .u64 (lo (fitV (a-b)))],.int .i64 (fitE (a-b))])∧Below w.heap.size w w':=by
  obtain ⟨N,hN⟩:∃ N,(a % 340282366920938463463374607431768211456-b % 340282366920938463463374607431768211456) % 340282366920938463463374607431768211456=N:=⟨_,rfl⟩
  have hNM:InM N:=by rw [← hN];exact mod_in _
  have hs:=sgn_in hNM
  have h1:=sg_eq ha
  have h2:=sg_eq hb
  have h3:=sg_eq hs
  by_cases hf:InW (a-b)
  · obtain ⟨e1,e2⟩:=fit_yes hf
    have es:sgn N=a-b:=by unfold InW at hf;unfold InM at hNM;unfold sgn;split <;> omega
    rw [e1,e2]
    have:=wsub_core a b (a-b) (sg a) (sg b) (sg (a-b)) N hN es rfl rfl rfl false (by rw [es] at h3;rw [h1,h2,h3];(repeat' split) <;> simp <;> omega) w
    simpa using this
  · obtain ⟨e1,e2⟩:=fit_no hf
    rw [e1,e2]
    have:=wsub_core a b (sgn N) (sg a) (sg b) (sg (sgn N)) N hN rfl rfl rfl rfl true (by
      have hx:(sgn N < 0↔0≤a)∧(a < 0↔0≤b):=by unfold InW at hf ha hb;unfold InM at hNM;unfold sgn;split <;> omega
      rw [h1,h2,h3];(repeat' split) <;> simp <;> omega) w
    simpa using this
end Go.Proofs.YtailjojebdmnnaaGreat
