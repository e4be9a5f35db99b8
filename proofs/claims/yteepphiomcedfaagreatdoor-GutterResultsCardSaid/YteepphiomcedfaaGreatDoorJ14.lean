/- Joined texts: WMiddles, WCollect, WOutlets, WAwake50. -/
import Derived.Test.YteepphiomcedfaaGreatDoorJ13
import Derived.RangeFuncBox
import Derived.Test.YteepphiomcedfaaGreatDoorJ04
import Derived.Test.YteepphiomcedfaaGreatDoorJ10
set_option maxRecDepth 100000
set_option linter.unusedVariables false
set_option linter.unusedSimpArgs false
set_option maxHeartbeats 6400000
namespace Go.Proofs.YteepphiomcedfaaGreatDoor
open Go.RowKit Go.Shelf
attribute [local go_sem] Oper.semAt_some
def mid (lo hi:Int) (n k:Nat):Rat:=Rat.divInt (2 * n * lo+(2 * k+1) * (hi - lo)) (2 * n)
def mids (lo hi:Int) (n k:Nat):List Rat:=(List.range k).map (mid lo hi n)
theorem mids_succ (lo hi:Int) (n k:Nat):mids lo hi n (k+1)=mids lo hi n k++[mid lo hi n k]:=by simp [mids,List.range_succ]
theorem mids_length (lo hi:Int) (n k:Nat):(mids lo hi n k).length=k:=by simp [mids]
def encN (q:Rat):Array Value:=#[.string (numS q)]
theorem middles_any (lo hi:Int) (n:Nat) (w:World) :
  Calls Tryz.prog 88 #[.int .i64 lo,.int .i64 hi,.int .i64 n] w fun e w'=>e=.returned (.func (.func 153) #[] #[.pointer (some ⟨w.heap.size+2,0,none⟩),.pointer (some ⟨w.heap.size,0,none⟩),.pointer (some ⟨w.heap.size+1,0,none⟩)])∧w'=((w.alloc (.cells #[.int .i64 lo] 3)).alloc (.cells #[.int .i64 hi] 3)).alloc (.cells #[.int .i64 n] 3):=by
 have hmf:∀ (fn:Fn) (first cap:Array Value) (w:World),(Instr.makeFunc fn first cap).run Tryz.prog w=.ok (.func fn first cap) w:=fun _ _ _ _=>rfl
 go_enter Tryz.func88,Tryz.ntmps88
 go_wp2_with fail
 go_ret
 exact ⟨rfl,rfl⟩
theorem mid_bds {lo hi:Int} {np k:Nat} (h0:0≤lo) (h1:lo≤hi) (h2:hi≤65536) (h3:np≤4096) (h4:k < np) :
  (0≤2 * (np:Int) * lo∧2 * (np:Int) * lo≤536870912)∧(0≤(2 * (k:Int)+1) * (hi - lo)∧(2 * (k:Int)+1) * (hi - lo)≤536936448):=by
 have a1:(2 * (np:Int)) * lo≤8192 * 65536:=Int.mul_le_mul (by omega) (by omega) h0 (by omega)
 have a2:0≤(2 * (np:Int)) * lo:=Int.mul_nonneg (by omega) h0
 have a3:(2 * (k:Int)+1) * (hi - lo)≤8193 * 65536:=Int.mul_le_mul (by omega) (by omega) (by omega) (by omega)
 have a4:0≤(2 * (k:Int)+1) * (hi - lo):=Int.mul_nonneg (by omega) (by omega)
 omega
theorem middles1_in (lo hi:Int) (np n:Nat) (hn:1≤n) (lb b0 b1 b2:Nat) (J Jx:List Rat→World→Prop) (h0:0≤lo) (h1:lo≤hi) (h2:hi≤65536) (h3:np≤4096) (w0:World)
  (hY:∀ pre x W,J pre W→pre.length < np→YieldAt Fence.wide (n - 1) Tryz.prog lb (encN x) W fun e W' =>
   (e=.returned (.bool true)∧J (pre++[x]) W'∧Below w0.heap.size W W')∨(e=.returned (.bool false)∧Jx (pre++[x]) W'))
  (W:World) (hJ:AbidesFrom W.heap.size J) (hG:Glo w0) (hB:Below w0.heap.size w0 W) (c0:w0.cell? ⟨b0,0,none⟩=some (.int .i64 lo)) (c1:w0.cell? ⟨b1,0,none⟩=some (.int .i64 hi)) (c2:w0.cell? ⟨b2,0,none⟩=some (.int .i64 np)) (hJ0:J [] W) :
  CallsIn Fence.wide n Tryz.prog 153 #[.func (.yield lb) #[] #[],.pointer (some ⟨b2,0,none⟩),.pointer (some ⟨b0,0,none⟩),.pointer (some ⟨b1,0,none⟩)] W fun e W'=>(∃ v,e=.returned v) ∧
   ((∃ ys,ys=mids lo hi np np∧J ys W')∨(∃ pre,True∧Jx pre W')):=by
 have HJ:=Lib.hid hJ
 have HY:=Lib.hid hY
 have HG:=Lib.hid hG
 clear hJ hY hG
 have k2:=keep hB c2
 refine callsIn_of_wp Tryz.func153 rfl trivial ?_ rfl
 simp only [Tryz.ntmps153,List.size_toArray,List.length_cons,List.length_nil,Nat.reduceAdd,Nat.reduceSub,Array.replicate_succ,Array.replicate_zero,List.push_toArray,List.append_toArray,List.nil_append,List.cons_append]
 gi_wp2
 gi_loopg [9] np (fun g v wr=>∃ k:Nat,k≤np∧g=np - k∧v=.int .i64 k∧Hid (J (mids lo hi np k) wr)∧Below w0.heap.size w0 wr∧W.heap.size≤wr.heap.size) 
 case atStart=>exact ⟨0,by omega,rfl,rfl,Lib.hid hJ0,hB,Nat.le_refl _⟩
 case round =>
  obtain ⟨k,hk,rfl,rfl,hJk,hBk,hz⟩:=hrel
  have k0:=keep hBk c0
  have k1:=keep hBk c1
  have k2:=keep hBk c2
  by_cases hkn:k=np
  ·subst hkn
   gi_wp2
   go_end0
   exact ⟨⟨_,rfl⟩,.inl ⟨_,rfl,hJk.out⟩⟩
  ·have hk1:k < np:=by omega
   obtain ⟨⟨q1,q2⟩,q3,q4⟩:=mid_bds h0 h1 h2 h3 hk1
   have hki:(k:Int) < (np:Int):=by omega
   have HM:Hid (Rat.divInt (2 * (np:Int) * lo+(2 * (k:Int)+1) * (hi - lo)) (2 * (np:Int))=mid lo hi np k):=Lib.hid rfl
   have w1:IntKind.i64.wrap (2 * (np:Int))=2 * (np:Int):=IntWalk.i64_in _ (by omega)
   have w2:IntKind.i64.wrap (2 * (np:Int) * lo)=2 * (np:Int) * lo:=IntWalk.i64_in _ (by omega)
   have w3:IntKind.i64.wrap (2 * (k:Int))=2 * (k:Int):=IntWalk.i64_in _ (by omega)
   have w4:IntKind.i64.wrap (2 * (k:Int)+1)=2 * (k:Int)+1:=IntWalk.i64_in _ (by omega)
   have w5:IntKind.i64.wrap (hi - lo)=hi - lo:=IntWalk.i64_in _ (by omega)
   have w6:IntKind.i64.wrap ((2 * (k:Int)+1) * (hi - lo))=(2 * (k:Int)+1) * (hi - lo):=IntWalk.i64_in _ (by omega)
   have w7:IntKind.i64.wrap (2 * (np:Int) * lo+(2 * (k:Int)+1) * (hi - lo))=2 * (np:Int) * lo+(2 * (k:Int)+1) * (hi - lo):=IntWalk.i64_in _ (by omega)
   have HOF:=Lib.hid (fun W' (hg:Glo W')=>Of_small (2 * (np:Int) * lo+(2 * (k:Int)+1) * (hi - lo)) (2 * (np:Int)) W' hg (by omega) (by omega) (by omega))
   have HMS:=Lib.hid (mids_succ lo hi np k)
   have HYk:=Lib.hid (fun x W hW=>HY.out (mids lo hi np k) x W hW (by rw [mids_length];exact hk1))
   gi_wp2
   refine ⟨trivial,?_⟩
   refine (callsIn_wide.2 (HOF.out _ (HG.out.below hBk))).mono ?_
   rintro e wm ⟨r,hr,rfl,hB1⟩
   have hJm:J (mids lo hi np k) wm:=abides_below' HJ.out hJk.out hB1
   have hBm:Below w0.heap.size w0 wm:=below_trans' hBk hB1
   obtain rfl:=numS_of hr
   rw [HM.out] at *
   obtain ⟨fn,tmps,assign,body,hy,hR⟩:=HYk.out (mid lo hi np k) wm hJm
   unfold encN at hy
   clear hJm hr HOF
   gi_wp2
   refine hR.mono ?_
   rintro e W3 (⟨rfl,hJ3,hk3⟩|⟨rfl,hJx3⟩)
   ·have hB3:Below w0.heap.size w0 W3:=hBm.trans hk3
    have hz3:W.heap.size≤W3.heap.size:=by have:=hk3.size;have:=hB1.size;omega
    rw [← HMS.out] at hJ3
    have HJ3:=Lib.hid hJ3
    clear hJ3 hk3 hy hR
    gi_wp2
    gi_roundg (np - (k+1))
    case rel=>exact ⟨k+1,hk1,rfl,by go_num,HJ3,hB3,hz3⟩
    case measure=>omega
   ·clear hy hR
    gi_wp2
    refine bodyPost_ret (results_none rfl _ _ _) rfl ?_
    exact ⟨⟨_,rfl⟩,.inr ⟨_,trivial,hJx3⟩⟩
theorem middles_stops (lo hi:Int) (np n:Nat) (hn:1≤n) (b0 b1 b2:Nat) (h0:0≤lo) (h1:lo≤hi) (h2:hi≤65536) (h3:np≤4096) (w0:World) (hG:Glo w0)
  (c0:w0.cell? ⟨b0,0,none⟩=some (.int .i64 lo)) (c1:w0.cell? ⟨b1,0,none⟩=some (.int .i64 hi)) (c2:w0.cell? ⟨b2,0,none⟩=some (.int .i64 np)) :
  SeqStopsK Fence.wide n Tryz.prog 153 #[.pointer (some ⟨b2,0,none⟩),.pointer (some ⟨b0,0,none⟩),.pointer (some ⟨b1,0,none⟩)] encN (fun W W'=>Below w0.heap.size W W') (fun ys=>ys=mids lo hi np np) (fun _=>True) np w0:=fun lb J Jx W hW hJ _ hY hJ0 =>
 middles1_in lo hi np n hn lb b0 b1 b2 J Jx h0 h1 h2 h3 w0 hY W hJ hG hW c0 c1 c2 hJ0
end Go.Proofs.YteepphiomcedfaaGreatDoor
namespace Go.Proofs.YteepphiomcedfaaGreatDoor
open Go.RowKit Go.Shelf
attribute [local go_sem] Oper.semAt_some
def RetNums (l:List Rat) (w:World) (e:Ending) (w':World):Prop:=∃ v,e=.returned v∧w'.ownsRow w.heap.size 22 1 v l.length (numVs l)∧Below w.heap.size w w'
theorem appendSeq_ok (gf:Nat) (lb:Array Value) (l:List Rat) (Sp:List Rat→Prop) (w0 w:World) (hB0:Below w0.heap.size w0 w) (hl:l.length≤4096) (enter:∀ args W,(callFunc gf args).run Tryz.prog W=.ok (.enter gf args) W)
  (hseq:∀ n,1≤n→SeqStopsK Fence.wide n Tryz.prog gf lb encN (fun W W'=>Below w0.heap.size W W') (fun ys=>ys=l) Sp l.length w0) :
  Calls Tryz.prog 152 #[.slice none 0 0,.func (.func gf) #[] lb] w (RetNums l w):=by
 obtain ⟨i0,hi0,hz0,hz1,hz2⟩:=info_parts Tryz.infoNum
 have HSQ:=Lib.hid hseq
 have HEN:=Lib.hid enter
 clear hseq enter
 refine (callsIn_wide (n:=5)).1 ?_
 refine callsIn_of_wp_marks Tryz.func152 rfl trivial ?_ rfl
 simp only [Tryz.ntmps152,List.size_toArray,List.length_cons,List.length_nil,Nat.reduceAdd,Nat.reduceSub,Array.replicate_succ,Array.replicate_zero,List.push_toArray,List.append_toArray,List.nil_append,List.cons_append]
 gi_wp2
 have hx:=Boxed.new w 34 (.slice none 0 0)
 have hB1:Below w.heap.size w (w.alloc (.cells #[.slice none 0 0] 34)):=bw4 (bw0 _ _) _
 have hB2:Below w0.heap.size w0 (w.alloc (.cells #[.slice none 0 0] 34)):=hB0.trans (hB1.mono hB0.size)
 generalize w.alloc (.cells #[.slice none 0 0] 34)=W0 at *
 refine wpIn_rangeFunc_ownG (a₁:=?a1) rfl (by omega) (gf:=gf) (lb:=lb) rfl trivial HEN.out
  (HSQ.out _ (by omega)) (fun h k=>h.trans k) (fun W k o o' hk ho _ _=>by have hg:=grownBy_putObj' W k o';exact ⟨hg.os,hg.tape,hg.output,hg.size,fun j hj=>World.putObj_heap_other (by have:=hB2.size;omega)⟩) hB2 (fun _=>rfl)
  (fun pre W=>(∃ v,Boxed W w.heap.size 34 v∧W.ownsRow w.heap.size 22 1 v pre.length (numVs pre)∧True)∧Below w.heap.size w W)
  (fun _ _ _=>False)
  (OwnFrom.and (Own.from (holdsRow_own w.heap.size w.heap.size 34 22 1 (fun pre=>pre.length) (fun pre=>numVs pre) (fun _ _=>True)) _) (ownFrom_below (Nat.le_refl _) (by have:=hx.lt;omega)))
  (fun _ _ _ _ _ hs _ _=>hs)
  ⟨⟨_,hx,World.ownsRow_nil _ _ _ _,trivial⟩,hB1⟩ ?assign ?body ?done ?stop
 case assign =>
  intro l x W K hK
  unfold encN
  gi_wp2
  exact hK
 case stop =>
  rintro D c pre W _ _ h _
  exact h.elim
 case body =>
  rintro l1 pre x W ⟨⟨v,hv,hrow,_⟩,hB⟩ hlt
  have hc:=hv.cell
  have hnb:pre.length+1≤maxLen:=by unfold maxLen;omega
  obtain ⟨oa,oc,rfl⟩:∃ oa oc,v=.slice oa pre.length oc:=by
   rcases hrow.2 with ⟨h,hk⟩|⟨g,cap,cur,h,_⟩
   ·exact ⟨none,0,by rw [h,hk]⟩
   ·exact ⟨_,_,h⟩
  have HVS:=Lib.hid (show numVs (pre++[x])=numVs pre++[.string (numS x)] by simp [numVs])
  have HVL:=Lib.hid (show (pre++[x]).length=pre.length+1 by simp)
  have hln:pre.length < 4096:=by omega
  gi_wp2_with (gi_at_builtin;refine wpListIn_append_own _ rfl _ _ 34 rfl w.heap.size 22 i0 (.string ⟨#[]⟩) 1 16 Tryz.underlying34 hi0 hz0 hz1 hz2 rfl (by decide) _ _ _ rfl (hrow.alloc _) ⟨W.heap.size,0,none⟩ 1 1 [.string (numS x)] rfl rfl (cell_one_new _ _ _) (by simp [Value.oneCell']) hnb (by omega) (by simp;have:=hB.size;omega) ?_;intro v' w1 hown' hgrow _;obtain ⟨g',cap',rfl⟩:=ownsRow_succ hown';obtain ⟨hv1,hv2,hr2,hk2,hb2⟩:=hv.appended (by decide) hrow hB.size (Nat.le_refl _) hown' hgrow;have hc1:=hv1.cell;have hf1:=hv1.frozen)
  refine ⟨hk2.from _,?_,⟨⟨_,hv2,?_,trivial⟩,hB.trans hb2⟩⟩
  ·exact hb2.mono hB0.size
  ·rw [HVL.out,HVS.out];exact hr2
 case done =>
  rintro D ys W hD rfl ⟨⟨v,hv,hrow,_⟩,hB⟩ hK
  have hc:=hv.cell
  gi_wp2
  refine leaves_marks w.heap.size [D] _ (by simp) (fun E hE=>?_) (fun W' hB' hcc=>?_)
  ·obtain rfl:E=D:=by simpa using hE
   exact ⟨by have:=hx.lt;omega,hK⟩
  ·exact ⟨_,results_tmp rfl _ _ _,_,rfl,ownsRow_keeps hrow hcc,hB.trans hB'⟩
theorem collect_ok (gf:Nat) (lb:Array Value) (l:List Rat) (Sp:List Rat→Prop) (w0 w:World) (hB0:Below w0.heap.size w0 w) (hl:l.length≤4096) (enter:∀ args W,(callFunc gf args).run Tryz.prog W=.ok (.enter gf args) W)
  (hseq:∀ n,1≤n→SeqStopsK Fence.wide n Tryz.prog gf lb encN (fun W W'=>Below w0.heap.size W W') (fun ys=>ys=l) Sp l.length w0) :
  Calls Tryz.prog 87 #[.func (.func gf) #[] lb] w (RetNums l w):=by
 have HA:=Lib.hid (appendSeq_ok gf lb l Sp w0 w hB0 hl enter hseq)
 clear enter hseq
 go_enter Tryz.func87,Tryz.ntmps87
 go_wp2_with fail
 refine HA.out.mono ?_
 rintro e w1 ⟨v,rfl,hrow,hB⟩
 obtain ⟨sa,sc,rfl,_⟩:=row_shape hrow
 have HR:=Lib.hid hrow
 clear hrow
 go_wp2_with fail
 go_ret
 exact ⟨_,rfl,HR.out,hB⟩
end Go.Proofs.YteepphiomcedfaaGreatDoor
namespace Go.Proofs.YteepphiomcedfaaGreatDoor
open Go.RowKit Go.Shelf
def parts (lo hi most:Int):Nat:=((hi - lo+2 * most - 1) / (2 * most)).toNat
def RetNumsE (l:List Rat) (w:World) (e:Ending) (w':World):Prop:=∃ v,e=.returned (.tuple #[v,.int .i64 0])∧w'.ownsRow w.heap.size 22 1 v l.length (numVs l)∧Below w.heap.size w w'
theorem eLo_bds {B C:Side} (hB:RSide B) (hC:RSide C):0≤eLo B C∧eLo B C≤eHi B C∧eHi B C≤65536:=by
 obtain ⟨⟨a1,a2⟩,⟨a3,a4⟩,_⟩:=hB
 obtain ⟨⟨b1,b2⟩,⟨b3,b4⟩,_⟩:=hC
 unfold eLo eHi
 split<;>omega
theorem outlets_ok (P:List Ring) (u:Value) (w:World) (r0 i0 n:Nat) (most:Int) (hG:Glo w) (hv:IsPlan w (.agg #[u]) P) (hval:Valid P) (hr0:r0 < P.length) (hi0:i0 < (rg P r0).length) (hn:n=total P r0+i0) (hg:(sd (rg P r0) i0).gable=false)
  (hm0:1≤most) (hm1:most≤65536) (hp:parts (eLo (sd (rg P r0) i0) (nx (rg P r0) i0)) (eHi (sd (rg P r0) i0) (nx (rg P r0) i0)) most≤4096) :
  Calls Tryz.prog 36 #[.agg #[u,.slice none 0 0,.slice none 0 0,.slice none 0 0],.int .i64 n,.int .i64 most] w
   (RetNumsE (mids (eLo (sd (rg P r0) i0) (nx (rg P r0) i0)) (eHi (sd (rg P r0) i0) (nx (rg P r0) i0)) (parts (eLo (sd (rg P r0) i0) (nx (rg P r0) i0)) (eHi (sd (rg P r0) i0) (nx (rg P r0) i0)) most) (parts (eLo (sd (rg P r0) i0) (nx (rg P r0) i0)) (eHi (sd (rg P r0) i0) (nx (rg P r0) i0)) most)) w):=by
 have HE:=Lib.hid (fun W (hB:Below w.heap.size w W)=>eaves_ok P _ W r0 i0 n (hv.below hB) hval hr0 hi0 hn hg)
 obtain ⟨h0,h1,h2⟩:=eLo_bds (hval.ran r0 hr0 i0 hi0) (hval.ran r0 hr0 _ (nxi_lt hi0))
 rw [show sd (rg P r0) (nxi (rg P r0).length i0)=nx (rg P r0) i0 from rfl] at h0 h1 h2
 obtain ⟨u',hu',hu⟩:=hv
 obtain ⟨a,cap,rfl,h⟩:=hu
 cases hu'
 clear h hval hg hn
 generalize eLo (sd (rg P r0) i0) (nx (rg P r0) i0)=lo at *
 generalize eHi (sd (rg P r0) i0) (nx (rg P r0) i0)=hi at *
 have w1:IntKind.i64.wrap (hi - lo)=hi - lo:=IntWalk.i64_in _ (by omega)
 have w2:IntKind.i64.wrap (2 * most)=2 * most:=IntWalk.i64_in _ (by omega)
 have w3:IntKind.i64.wrap (hi - lo+2 * most)=hi - lo+2 * most:=IntWalk.i64_in _ (by omega)
 have w4:IntKind.i64.wrap (hi - lo+2 * most - 1)=hi - lo+2 * most - 1:=IntWalk.i64_in _ (by omega)
 have hd0:¬ (2 * most)=0:=by omega
 have hq:(hi - lo+2 * most - 1).tdiv (2 * most)=((parts lo hi most:Nat):Int):=by
  rw [Int.tdiv_eq_ediv_of_nonneg (by omega)]
  unfold parts
  rw [Int.toNat_of_nonneg (Int.ediv_nonneg (by omega) (by omega))]
 generalize parts lo hi most=np at *
 have w5:IntKind.i64.wrap (np:Int)=(np:Int):=IntWalk.i64_in _ (by omega)
 have hnp:¬ 4096 < (np:Int):=by omega
 have HG:=Lib.hid hG
 clear hG
 go_enter Tryz.func36,Tryz.ntmps36
 go_wp2_with fail
 refine (HE.out _ qbl).mono ?_
 rintro e w1 ⟨rfl,hB1⟩
 have hB2:Below w.heap.size w w1:=qbl
 clear hB1 HE
 go_wp2_with fail
 refine (middles_any lo hi np w1).mono ?_
 rintro e w2 ⟨rfl,hw2⟩
 have hB3:Below w.heap.size w w2:=by subst hw2;exact qbl
 have x0:Boxed w2 w1.heap.size 3 (.int .i64 lo):=by subst hw2;exact ((Boxed.new _ _ _).alloc _).alloc _
 have x1:Boxed w2 (w1.heap.size+1) 3 (.int .i64 hi):=by subst hw2;exact (boxed_new' (by simp)).alloc _
 have x2:Boxed w2 (w1.heap.size+2) 3 (.int .i64 np):=by subst hw2;exact boxed_new' (by simp)
 have HC:=Lib.hid (collect_ok 153 #[.pointer (some ⟨w1.heap.size+2,0,none⟩),.pointer (some ⟨w1.heap.size,0,none⟩),.pointer (some ⟨w1.heap.size+1,0,none⟩)] (mids lo hi np np) (fun _=>True) w2 w2 (bw0 _ _) (by rw [mids_length];exact hp) (run_enter Tryz.func153 (by kernel_rfl) rfl)
  (fun k hk=>by have h:=middles_stops lo hi np k hk w1.heap.size (w1.heap.size+1) (w1.heap.size+2) h0 h1 h2 hp w2 (HG.out.below hB3) x0.cell x1.cell x2.cell;rw [mids_length];exact h))
 clear hw2 x0 x1 x2 hB2
 go_wp2_with fail
 refine HC.out.mono ?_
 rintro e w3 ⟨v,rfl,hrow,hB4⟩
 have HRB:=Lib.hid (ownsRow_base hrow hB3.size)
 obtain ⟨sa,sc,rfl,_⟩:=row_shape hrow
 clear hrow
 have hB5:Below w.heap.size w w3:=below_trans' hB3 hB4
 go_wp2_with fail
 go_ret2
 exact ⟨_,rfl,HRB.out,hB5⟩
end Go.Proofs.YteepphiomcedfaaGreatDoor
namespace Go.Proofs.YteepphiomcedfaaGreatDoor
open Go.RowKit Go.Shelf
def wSide (x y:Int):Side:=⟨x,y,1,1,false,0,0⟩
def wRing:Ring:=[wSide 0 0,wSide 10 0,wSide 10 4,wSide 0 4]
theorem wRing_bds {i:Nat} (h:i < wRing.length):i=0∨i=1∨i=2∨i=3:=by
 have:wRing.length=4:=rfl
 omega
theorem wRing_valid:Valid [wRing] where
 ne:=by simp
 nes:=fun r hr=>by
  obtain rfl:r=0:=by simp at hr;omega
  exact (by decide:(4:Nat)≠0) ∘ fun h=>by rw [show rg [wRing] 0=wRing from rfl] at h;exact absurd h (by simp [wRing])
 tot:=by decide
 ran:=fun r hr i hi=>by
  obtain rfl:r=0:=by simp at hr;omega
  rcases wRing_bds hi with rfl|rfl|rfl|rfl<;>(unfold RSide Ran;decide)
 shp:=fun r hr=>by
  obtain rfl:r=0:=by simp at hr;omega
  refine ⟨by decide,fun i hi=>?_⟩
  rcases wRing_bds hi with rfl|rfl|rfl|rfl<;>(unfold OkAt;decide)
 crs:=by
  rintro ⟨r,i,s,k,hr,hi,hrs,hs,hk,hm⟩
  obtain rfl:r=0:=by simp at hr;omega
  obtain rfl:s=0:=by simp at hs;omega
  have e:rg [wRing] 0=wRing:=rfl
  rw [e] at hi hk
  unfold Meet Skip Touch at hm
  rcases wRing_bds hi with rfl|rfl|rfl|rfl<;>rcases wRing_bds hk with rfl|rfl|rfl|rfl<;>revert hm<;>decide
 plc:=by
  refine ⟨by decide,fun r h1 h2=>?_⟩
  simp at h2
  omega
 rfx:=by
  refine ⟨fun r hr i hi=>?_,0,0,by decide,by decide,by decide⟩
  obtain rfl:r=0:=by simp at hr;omega
  unfold Bad
  rcases wRing_bds hi with rfl|rfl|rfl|rfl<;>decide
theorem wide1_ok (x y:Int) (w:World):Calls Tryz.prog 122 #[.int .i64 x,.int .i64 y] w (RetB (sideV (wSide x y)) w):=by
 unfold sideV wSide
 go_enter Tryz.func122,Tryz.ntmps122
 go_wp2_with fail
 exact bodyPost_ret (v:=.agg #[.int .i64 x,.int .i64 y,.int .i64 1,.int .i64 1,.bool false,.int .i64 0,.int .i64 0]) (by simp [results,Tryz.results122,go_sem]) rfl ⟨rfl,qbl⟩
def RetRoof (P:List Ring) (w:World) (e:Ending) (w':World):Prop:=∃ u,e=.returned (.agg #[u,.slice none 0 0,.slice none 0 0,.slice none 0 0])∧IsPlan w' (.agg #[u]) P∧Below w.heap.size w w'
theorem wide_ok (w:World):Calls Tryz.prog 60 #[] w (RetRoof [wRing] w):=by
 have HW:=Lib.hid (fun x y w=>wide1_ok x y w)
 simp only [sideV,wSide] at HW
 go_enter Tryz.func60,Tryz.ntmps60
 go_wp2_with fail
 refine (HW.out _ _ _).mono ?_
 rintro e w1 ⟨rfl,hB1⟩
 go_wp2_with fail
 refine (HW.out _ _ _).mono ?_
 rintro e w2 ⟨rfl,hB2⟩
 go_wp2_with fail
 refine (HW.out _ _ _).mono ?_
 rintro e w3 ⟨rfl,hB3⟩
 go_wp2_with fail
 refine (HW.out _ _ _).mono ?_
 rintro e w4 ⟨rfl,hB4⟩
 have hb4:Below w.heap.size w w4:=qbl
 have hb:Below (w.alloc (.cells #[.slice none 0 0,.slice none 0 0,.slice none 0 0,.slice none 0 0] 65)).heap.size (w.alloc (.cells #[.slice none 0 0,.slice none 0 0,.slice none 0 0,.slice none 0 0] 65)) w4:=below_trans' (below_trans' (below_trans' hB1 hB2) hB3) hB4
 have c0:w4.cell? ⟨w.heap.size,0,none⟩=some (.slice none 0 0):=keep hb (by simp [go_sem])
 have c1:w4.cell? ⟨w.heap.size,1,none⟩=some (.slice none 0 0):=keep hb (by simp [go_sem])
 have c2:w4.cell? ⟨w.heap.size,2,none⟩=some (.slice none 0 0):=keep hb (by simp [go_sem])
 have c3:w4.cell? ⟨w.heap.size,3,none⟩=some (.slice none 0 0):=keep hb (by simp [go_sem])
 have f0:w4.frozen? ⟨w.heap.size,0,none⟩=false:=keepf hb (v:=.slice none 0 0) (by simp [go_sem]) (by simp [go_sem])
 have f1:w4.frozen? ⟨w.heap.size,1,none⟩=false:=keepf hb (v:=.slice none 0 0) (by simp [go_sem]) (by simp [go_sem])
 have f2:w4.frozen? ⟨w.heap.size,2,none⟩=false:=keepf hb (v:=.slice none 0 0) (by simp [go_sem]) (by simp [go_sem])
 have f3:w4.frozen? ⟨w.heap.size,3,none⟩=false:=keepf hb (v:=.slice none 0 0) (by simp [go_sem]) (by simp [go_sem])
 have z:=lt_of_cell c0
 clear hB1 hB2 hB3 hB4 hb
 go_wp2_with fail
 refine bodyPost_ret (v:=.agg #[.slice (some ⟨w4.heap.size+1,0,none⟩) 1 1,.slice none 0 0,.slice none 0 0,.slice none 0 0]) (by simp [results,Tryz.results60,go_sem,c0,c1,c2,c3,z]) rfl ⟨_,rfl,?_,qbl⟩
 have hz:w.heap.size≠w4.heap.size:=by omega
 have hz1:w.heap.size≠w4.heap.size+1:=by omega
 refine ⟨_,rfl,_,_,rfl,fun _=>⟨_,_,rfl,fun k hk=>?_⟩⟩
 obtain rfl:k=0:=by simp at hk;omega
 refine ⟨.slice (some ⟨w4.heap.size,0,none⟩) 4 4,by simp [go_sem,hz,hz1],some ⟨w4.heap.size,0,none⟩,4,rfl,fun _=>⟨_,_,rfl,fun i hi=>?_⟩⟩
 rcases wRing_bds hi with rfl|rfl|rfl|rfl<;>(refine ⟨?_,?_,?_,?_,?_,?_,?_⟩<;>simp [go_sem,hz,hz1]<;>rfl)
theorem wide_lo:eLo (sd (rg [wRing] 0) 0) (nx (rg [wRing] 0) 0)=0:=by decide
theorem wide_hi:eHi (sd (rg [wRing] 0) 0) (nx (rg [wRing] 0) 0)=10:=by decide
theorem wide_parts:parts 0 10 2=3:=by decide
theorem wide_mids:(mids 0 10 3 3).map numS=[⟨#[53,47,51]⟩,⟨#[53]⟩,⟨#[50,53,47,51]⟩]:=by decide +kernel
theorem text_125:ratText ((125:Int):Rat)=[49,50,53]:=by decide +kernel
theorem isStrs_lit3 (w:World) (a b c:ByteArray) (t:TypeId):IsStrs (w.alloc (.cells #[.string a,.string b,.string c] t)) (.slice (some ⟨w.heap.size,0,none⟩) 3 3) [a,b,c]:=by
 refine ⟨some ⟨w.heap.size,0,none⟩,3,rfl,fun _=>⟨w.heap.size,0,rfl,fun k hk=>?_⟩⟩
 have:k=0∨k=1∨k=2:=by simp at hk;omega
 rcases this with rfl|rfl|rfl<;>simp [go_sem]
theorem awake50_ok (w:World) (hG:Glo w):Calls Tryz.prog 18 #[] w (RetB (.bool true) w):=by
 have HG:=Lib.hid hG
 clear hG
 go_enter Tryz.func18,Tryz.ntmps18
 go_wp2_with fail
 refine (flow_ok _ HG.out).mono ?_
 rintro e w1 ⟨a,ha,rfl,hB1⟩
 have hE:(a.toList == [49,50,53])=true:=eq_of_list (by rw [ha,text_125])
 clear ha
 go_wp2_with fail
 refine (wide_ok _).mono ?_
 rintro e w2 ⟨u,rfl,hp,hB2⟩
 have hb2:Below w.heap.size w w2:=below_trans' hB1 hB2
 have HP:=Lib.hid hp
 clear hp hB1 hB2
 go_wp2_with fail
 have ho:=outlets_ok [wRing] u w2 0 0 0 2 (HG.out.below hb2) HP.out wRing_valid (by decide) (by decide) (by decide) (by decide) (by decide) (by decide) (by rw [wide_lo,wide_hi,wide_parts];decide)
 rw [wide_lo,wide_hi,wide_parts] at ho
 refine ho.mono ?_
 clear ho
 rintro e w3 ⟨v,rfl,hr,hB3⟩
 have hb3:Below w.heap.size w w3:=below_trans' hb2 hB3
 have hst:=isStrs_row hr
 rw [wide_mids] at hst
 have HS:=Lib.hid hst
 clear hst hr hB3 hb2 HP
 go_wp2_with fail
 refine (Equal_any _ _ _ _ _ (HS.out.below (bw4 (bw0 _ _) _)) (isStrs_lit3 w3 _ _ _ _) (by decide)).mono ?_
 rintro e w4 ⟨rfl,hB4⟩
 have hb4:Below w.heap.size w w4:=qbl
 rw [decide_eq_true (by rfl)]
 clear hB4
 go_wp2_with fail
 go_ret
 exact ⟨rfl,hb4⟩
end Go.Proofs.YteepphiomcedfaaGreatDoor
