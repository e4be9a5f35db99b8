/- Joined texts: WDivL, WBuild, DecPlain, WWrite, WDigs. -/
import Derived.Test.YthihcjgmlbnapaaGreatDoorJ06
import Derived.BigFrameIn
import Derived.Test.YthihcjgmlbnapaaGreatDoorJ01
import Derived.Shelf.Strings.BuilderK
import Derived.Test.YthihcjgmlbnapaaGreatDoorJ05
set_option maxRecDepth 100000
set_option linter.unusedVariables false
set_option linter.unusedSimpArgs false
set_option maxHeartbeats 12800000
namespace Go.Proofs.YthihcjgmlbnapaaGreatDoor
open Go.RowKit Go.Shelf
attribute [local go_sem] Oper.semAt_some
theorem divide_less {a b:List Int} {x y:Int} (va vb:Value) (w:World) (hva:IsInts w va a) (hvb:IsInts w vb b) (ha:Num a x) (hb:Num b y) (hal:a.length≤900) (hbl:b.length≤900) (hlt:x < y) :
  Calls Tryz.prog 139 #[va,vb] w (RetDiv (x / y) (x % y) (max a.length 1) w):=by
 have HC:=Lib.hid (fun (W:World) (hB:Below w.heap.size w W)=>compareL_ok _ _ W (hva.below hB) (hvb.below hB) ha hb (by omega) (by omega))
 have HVA:=Lib.hid hva
 have HA:=Lib.hid ha
 have hx0:=ha.high.1
 obtain ⟨aa,ac,rfl⟩:=hva.slice
 obtain ⟨ba,bc,rfl⟩:=hvb.slice
 clear hva hvb ha hb
 refine (callsIn_wide (n:=5)).1 ?_
 refine callsIn_of_wp_marks Tryz.func139 rfl trivial ?_ rfl
 simp only [Tryz.ntmps139,List.size_toArray,List.length_cons,List.length_nil,Nat.reduceAdd,Nat.reduceSub,Array.replicate_succ,Array.replicate_zero,List.push_toArray,List.append_toArray,List.nil_append,List.cons_append]
 gi_wp2
 refine ⟨trivial,?_⟩
 have hb0:Below w.heap.size w (w.alloc (.cells #[.slice none 0 0] 205)):=qbl
 have x0:Boxed (w.alloc (.cells #[.slice none 0 0] 205)) w.heap.size 205 (.slice none 0 0):=Boxed.new _ _ _
 have hz0:(w.alloc (.cells #[.slice none 0 0] 205)).heap.size=w.heap.size+1:=by simp
 generalize w.alloc (.cells #[.slice none 0 0] 205)=W0 at *
 refine (callsIn_wide.2 (HC.out _ hb0)).mono ?_
 rintro e w1 ⟨r,rfl,hr1,hr2,hB1⟩
 have hr:r < 0:=hr1.2 hlt
 have x1:=boxed_below x0 hB1
 have hb1:Below w.heap.size w w1:=below_trans' hb0 hB1
 have f1:=x1.cell
 have g1:=x1.frozen
 clear hr1 hr2 hB1
 gi_wp2
 have hS:=sameBut_setCell w1 w.heap.size 0 (.slice none 0 0)
 have x2:=x1.set (.slice none 0 0)
 refine leaves_marks w.heap.size [] _ List.nodup_nil (fun D hD=>by cases hD) (fun W' hB' hcc=>?_)
 have z1:W'.cell? ⟨w.heap.size,0,none⟩=some (.slice none 0 0):=cell_keeps x2.cell hcc
 have l1:(loadVar 205 ⟨w.heap.size,0,none⟩).run Tryz.prog W'=.ok (.slice none 0 0) W':=by simp [go_sem,z1]
 have hbw:Below w.heap.size w W':=(hS.below hb1 (Nat.le_refl _)).trans hB'
 exact ⟨_,results_cell_tmp Tryz.results139 rfl l1,[],_,a,_,rfl,isInts_nil _,HVA.out.below hbw,⟨fun i=>by rw [lim_nil];exact ⟨by omega,by omega⟩,fun h=>absurd rfl h,by rw [Int.ediv_eq_zero_of_lt hx0 hlt];rfl⟩,by rw [Int.emod_eq_of_lt hx0 hlt];exact HA.out,by simp,by omega,hbw⟩
theorem divide_one {a b:List Int} {x y:Int} (va vb:Value) (w:World) (hva:IsInts w va a) (hvb:IsInts w vb b) (ha:Num a x) (hb:Num b y) (hal:a.length≤900) (hbl:b.length=1) (hlt:y≤x) :
  Calls Tryz.prog 139 #[va,vb] w (RetDiv (x / y) (x % y) (max a.length 1) w):=by
 have HC:=Lib.hid (fun (W:World) (hB:Below w.heap.size w W)=>compareL_ok _ _ W (hva.below hB) (hvb.below hB) ha hb (by omega) (by omega))
 have hy:lim b 0=y:=by rw [← hb.sum,val_top (n:=0) hbl];simp [vt,pw]
 have hy0:=hb.trim (by omega)
 rw [hbl,Nat.sub_self,hy] at hy0
 have hy1:=(hb.digs 0)
 rw [hy] at hy1
 obtain ⟨hy1,hy2⟩:=hy1
 have HD:=Lib.hid (fun (W:World) (hB:Below w.heap.size w W)=>divideShortL_ok (d:=y) va W (hva.below hB) ha hal (by omega) hy2)
 obtain ⟨aa,ac,rfl⟩:=hva.slice
 obtain ⟨ba,bc,rfl⟩:=hvb.slice
 obtain ⟨_,_,hcb⟩:=hvb.cells
 obtain ⟨bb,ob,rfl,hcell⟩:=hcb (by omega)
 have cb:=hcell 0 (by omega)
 rw [hy,Nat.add_zero] at cb
 have hl1:((b.length:Int) == 1)=true:=by rw [hbl];rfl
 have hl2:(0:Int) < (b.length:Int):=by omega
 clear hva hvb ha hb hcb hcell hbl hy
 refine (callsIn_wide (n:=5)).1 ?_
 refine callsIn_of_wp_marks Tryz.func139 rfl trivial ?_ rfl
 simp only [Tryz.ntmps139,List.size_toArray,List.length_cons,List.length_nil,Nat.reduceAdd,Nat.reduceSub,Array.replicate_succ,Array.replicate_zero,List.push_toArray,List.append_toArray,List.nil_append,List.cons_append]
 gi_wp2
 refine ⟨trivial,?_⟩
 have hb0:Below w.heap.size w (w.alloc (.cells #[.slice none 0 0] 205)):=qbl
 have x0:Boxed (w.alloc (.cells #[.slice none 0 0] 205)) w.heap.size 205 (.slice none 0 0):=Boxed.new _ _ _
 have hz0:(w.alloc (.cells #[.slice none 0 0] 205)).heap.size=w.heap.size+1:=by simp
 generalize w.alloc (.cells #[.slice none 0 0] 205)=W0 at *
 refine (callsIn_wide.2 (HC.out _ hb0)).mono ?_
 rintro e w1 ⟨r,rfl,hr1,hr2,hB1⟩
 have hr:¬ r < 0:=fun h=>by have:=hr1.1 h;omega
 have x1:=boxed_below x0 hB1
 have hb1:Below w.heap.size w w1:=below_trans' hb0 hB1
 have cb1:=keep hb1 cb
 clear hr1 hr2 hB1
 gi_wp2
 refine ⟨trivial,?_⟩
 refine (callsIn_wide.2 (HD.out _ hb1)).mono ?_
 rintro e w2 ⟨lq,vq,lr,vr,rfl,iq,ir,nq,nr,kq,kr,hB2⟩
 have hb2:Below w.heap.size w w2:=below_trans' hb1 hB2
 have x2:=boxed_below x1 hB2
 have f2:=x2.cell
 have g2:=x2.frozen
 obtain ⟨qa,qc,rfl⟩:=iq.is.slice
 obtain ⟨ra,rc,rfl⟩:=ir.is.slice
 have HQ:=Lib.hid iq
 have HR:=Lib.hid ir
 clear iq ir
 gi_wp2
 have hS:=sameBut_setCell w2 w.heap.size 0 (.slice qa lq.length qc)
 have x3:=x2.set (.slice qa lq.length qc)
 have iq2:=HQ.out.but hS (by have:=hb1.size;have:=x1.lt;omega)
 have ir2:=HR.out.but hS (by have:=hb1.size;have:=x1.lt;omega)
 refine leaves_marks w.heap.size [] _ List.nodup_nil (fun D hD=>by cases hD) (fun W' hB' hcc=>?_)
 have z1:W'.cell? ⟨w.heap.size,0,none⟩=some (.slice qa lq.length qc):=cell_keeps x3.cell hcc
 have l1:(loadVar 205 ⟨w.heap.size,0,none⟩).run Tryz.prog W'=.ok (.slice qa lq.length qc) W':=by simp [go_sem,z1]
 have hbw:Below w.heap.size w W':=(hS.below hb2 (Nat.le_refl _)).trans hB'
 exact ⟨_,results_cell_tmp Tryz.results139 rfl l1,lq,_,lr,_,rfl,OwnInts.is (ownsRow_keeps iq2 hcc),OwnInts.is (ownsRow_keeps ir2 hcc),nq,nr,kq,kr,hbw⟩
theorem num_one {f:Int} (h0:1≤f) (h1:f≤999999999):Num [f] f:=⟨digs_of fun i hi=>by
  have:i=0:=by simpa using hi
  subst this
  exact ⟨by show 0≤f;omega,h1⟩,fun _=>by show f≠0;omega,by show 0+f * 1=f;omega⟩
theorem divide_long {a b:List Int} {x y:Int} (va vb:Value) (w:World) (hva:IsInts w va a) (hvb:IsInts w vb b) (ha:Num a x) (hb:Num b y) (hal:a.length≤800) (hbl:b.length≤800) (h2:2≤b.length) (hlt:y≤x) :
  Calls Tryz.prog 139 #[va,vb] w (RetDiv (x / y) (x % y) (max a.length 1) w):=by
 have HC:=Lib.hid (fun (W:World) (hB:Below w.heap.size w W)=>compareL_ok _ _ W (hva.below hB) (hvb.below hB) ha hb (by omega) (by omega))
 obtain ⟨b1,hb1⟩:∃ t,lim b (b.length - 1)=t:=⟨_,rfl⟩
 have hb1d:=hb.digs (b.length - 1)
 rw [hb1] at hb1d
 obtain ⟨p1,p2⟩:=hb1d
 have hb1n:=hb.trim (by omega)
 rw [hb1] at hb1n
 obtain ⟨f,hf⟩:∃ f,1000000000 / (b1+1)=f:=⟨_,rfl⟩
 obtain ⟨f1,f2,_,_⟩:=norm_top (show 1≤b1 by omega) p2 hf.symm
 have hw1:IntKind.i64.wrap (b1+1)=b1+1:=IntWalk.i64_in _ (by omega)
 have ht1:(1000000000:Int).tdiv (b1+1)=f:=by rw [Int.tdiv_eq_ediv_of_nonneg (by omega)];exact hf
 have hz1:¬ b1+1=0:=by omega
 have hz2:(b1+1 == 0)=false:=by simp [hz1]
 have hw2:IntKind.i64.wrap f=f:=IntWalk.i64_in _ (by omega)
 have HND:=Lib.hid (fun v (hv:Num v (y * f))=>norm_div (n:=b.length - 1) hb (by omega) (by rw [hb1];exact hf.symm) hv)
 have HTA:=Lib.hid (fun (W:World) (hB:Below w.heap.size w W) (u:Value) (hu:IsInts W u [f])=>timesL_ok va u W (hva.below hB) hu ha (num_one f1 (by omega)) (by omega) (by simp))
 have HTB:=Lib.hid (fun (W:World) (hB:Below w.heap.size w W) (u:Value) (hu:IsInts W u [f])=>timesL_ok vb u W (hvb.below hB) hu hb (num_one f1 (by omega)) (by omega) (by simp))
 obtain ⟨aa,ac,rfl⟩:=hva.slice
 obtain ⟨ba,bc,rfl⟩:=hvb.slice
 obtain ⟨_,_,hcb⟩:=hvb.cells
 obtain ⟨bb,ob,rfl,hcell⟩:=hcb (by omega)
 have cb:=hcell (b.length - 1) (by omega)
 rw [hb1] at cb
 have hl1:((b.length:Int) == 1)=false:=by rw [beq_eq_false_iff_ne];omega
 have hl2:(b.length:Int) - 1 < (b.length:Int):=by omega
 have hl3:(0:Int)≤(b.length:Int) - 1:=by omega
 have hl4:((b.length:Int) - 1).toNat=b.length - 1:=by omega
 have hab:b.length≤a.length:=Nat.le_of_not_lt fun h=>by have:=ha.lt_of_length hb h;omega
 have HA:=Lib.hid ha
 have HB:=Lib.hid hb
 clear hva hvb ha hb hcb hcell hb1 hf
 refine (callsIn_wide (n:=5)).1 ?_
 refine callsIn_of_wp_marks Tryz.func139 rfl trivial ?_ rfl
 simp only [Tryz.ntmps139,List.size_toArray,List.length_cons,List.length_nil,Nat.reduceAdd,Nat.reduceSub,Array.replicate_succ,Array.replicate_zero,List.push_toArray,List.append_toArray,List.nil_append,List.cons_append]
 gi_wp2
 refine ⟨trivial,?_⟩
 have hb0:Below w.heap.size w (w.alloc (.cells #[.slice none 0 0] 205)):=qbl
 have x0:Boxed (w.alloc (.cells #[.slice none 0 0] 205)) w.heap.size 205 (.slice none 0 0):=Boxed.new _ _ _
 have hz0:(w.alloc (.cells #[.slice none 0 0] 205)).heap.size=w.heap.size+1:=by simp
 generalize w.alloc (.cells #[.slice none 0 0] 205)=W0 at *
 refine (callsIn_wide.2 (HC.out _ hb0)).mono ?_
 rintro e w1 ⟨r,rfl,hr1,hr2,hB1⟩
 have hr:¬ r < 0:=fun h=>by have:=hr1.1 h;omega
 have x1:=boxed_below x0 hB1
 have hb1:Below w.heap.size w w1:=below_trans' hb0 hB1
 have cb1:=keep hb1 cb
 clear hr1 hr2 hB1 x0
 gi_wp2
 refine ⟨trivial,?_⟩
 have hbA:Below w1.heap.size w1 (w1.alloc (.cells #[.int .i64 f] 3)):=qbl
 have xA:BlkI (w1.alloc (.cells #[.int .i64 f] 3)) w1.heap.size [f]:=BlkI.new (X:=w1) (l:=[f]) rfl
 generalize w1.alloc (.cells #[.int .i64 f] 3)=WA at *
 refine (callsIn_wide.2 (HTA.out _ (below_trans' hb1 hbA) _ xA.is)).mono ?_
 rintro e w2 ⟨mu,lu,rfl,blu,hlu,hmu,nu,zu,hB2⟩
 obtain ⟨i0,hi0,hz0',hz1',hz2'⟩:=info_parts Tryz.infoInt
 have hlu':lu.length=a.length+1+1:=by rw [hlu];rfl
 have hlt0:(lu.take mu).length=mu:=by rw [List.length_take];omega
 have hou:w2.ownsRow WA.heap.size 3 1 (.slice (some ⟨WA.heap.size,0,none⟩) mu (a.length+1+1)) mu (intVs (lu.take mu)):=by
  have h:=(blu.own (Nat.le_refl _) (by omega)).take' mu hmu
  unfold OwnInts at h
  rw [hlt0,hlu'] at h
  exact h
 have HOU:=Lib.hid hou
 have HNU:=Lib.hid nu
 have HBA:=Lib.hid (And.intro hbA hB2)
 have M1:=Lib.hid (show mu+1≤maxLen by unfold maxLen;omega)
 have M2:=Lib.hid (show (mu+1) * 8≤140737488355328 by omega)
 have M3:=Lib.hid (show WA.heap.size≤(w2.alloc (.cells #[.int .i64 0] 3)).heap.size by have:=hB2.size;simp;omega)
 have N4:=Lib.hid (fun (W':World) (h:(w2.alloc (.cells #[.int .i64 0] 3)).grownBy W' (some WA.heap.size))=>Below.grown (bw4 hB2 _) h (by have:=hB2.size;simp;omega) (fun j hj=>by cases hj;exact Nat.le_refl _))
 clear hou nu zu blu hlu hbA hB2
 gi_wp2_with (gi_at_builtin;refine wpListIn_append_own _ rfl _ _ 205 rfl WA.heap.size 3 i0 (.int .i64 0) 1 8 Tryz.underlying205 hi0 hz0' hz1' hz2' rfl (by decide) _ _ _ rfl (HOU.out.alloc _) ⟨w2.heap.size,0,none⟩ 1 1 [.int .i64 0] rfl rfl (cell_one_new _ _ _) (by simp [Value.oneCell']) M1.out M2.out M3.out ?_;intro v' w4 hown0 hgrow _;have hb4:=Lib.hid (N4.out _ hgrow);obtain ⟨su,sc,rfl,_⟩:=row_shape1 hown0;have HOW:=Lib.hid hown0;clear hown0 hgrow)
 have hmu2:a.length≤mu:=by
  refine Decidable.byContradiction fun hc=>?_
  have h1:=HA.out.low (by omega)
  have h2:=HNU.out.high.2
  rw [hlt0] at h2
  have h3:=pw_mono (show mu≤a.length - 1 by omega)
  have h4:x * 1≤x * f:=Int.mul_le_mul_of_nonneg_left f1 (by have:=HA.out.high.1;omega)
  omega
 refine ⟨trivial,?_⟩
 have hbw4:Below w.heap.size w w4:=below_trans' hb1 (below_trans' HBA.out.1 hb4.out)
 have hbC:Below w4.heap.size w4 (w4.alloc (.cells #[.int .i64 f] 3)):=qbl
 have xC:BlkI (w4.alloc (.cells #[.int .i64 f] 3)) w4.heap.size [f]:=BlkI.new (X:=w4) (l:=[f]) rfl
 generalize w4.alloc (.cells #[.int .i64 f] 3)=WC at *
 refine (callsIn_wide.2 (HTB.out _ (below_trans' hbw4 hbC) _ xC.is)).mono ?_
 rintro e w5 ⟨mv,lv,rfl,blv,hlv,hmv,nv,zv,hB5⟩
 have hlv':lv.length=b.length+1+1:=by rw [hlv];rfl
 have hlt1:(lv.take mv).length=mv:=by rw [List.length_take];omega
 obtain ⟨hnd1,hnd2⟩:=HND.out _ nv
 have hmvb:mv=b.length:=by rw [← hlt1,hnd1];omega
 subst hmvb
 have HNV:=Lib.hid nv
 have HBV:=Lib.hid blv
 have HND2:=Lib.hid hnd2
 have hb5:Below w.heap.size w w5:=below_trans' (below_trans' hbw4 hbC) hB5
 have x5:=boxed_below (boxed_below (boxed_below (boxed_below x1 HBA.out.1) hb4.out) hbC) hB5
 have HU5:=Lib.hid (fun j (hj:j < w4.heap.size)=>(hB5.block j (by have:=hbC.size;omega)).trans (hbC.block j hj))
 have hWC:=hbC.size
 have hW45:=hB5.size
 have hW4A:=hb4.out.size
 have hWA1:=HBA.out.1.size
 have hgv:w4.heap.size≤WC.heap.size:=hWC
 clear nv zv blv hlv hnd1 hnd2 hB5 hbC
 gi_wp2
 have hb6:Below w5.heap.size w5 ((w5.alloc (.cells #[.slice su (mu+1) sc] 205)).alloc (.cells #[.slice (some ⟨WC.heap.size,0,none⟩) b.length (b.length+1+1)] 205)):=qbl
 have y7:Boxed ((w5.alloc (.cells #[.slice su (mu+1) sc] 205)).alloc (.cells #[.slice (some ⟨WC.heap.size,0,none⟩) b.length (b.length+1+1)] 205)) w5.heap.size 205 (.slice su (mu+1) sc):=(Boxed.new w5 _ _).alloc _
 have y8:Boxed ((w5.alloc (.cells #[.slice su (mu+1) sc] 205)).alloc (.cells #[.slice (some ⟨WC.heap.size,0,none⟩) b.length (b.length+1+1)] 205)) (w5.heap.size+1) 205 (.slice (some ⟨WC.heap.size,0,none⟩) b.length (b.length+1+1)):=boxed_new' (by simp)
 have hz6:((w5.alloc (.cells #[.slice su (mu+1) sc] 205)).alloc (.cells #[.slice (some ⟨WC.heap.size,0,none⟩) b.length (b.length+1+1)] 205)).heap.size=w5.heap.size+2:=by simp
 generalize ((w5.alloc (.cells #[.slice su (mu+1) sc] 205)).alloc (.cells #[.slice (some ⟨WC.heap.size,0,none⟩) b.length (b.length+1+1)] 205))=W6 at *
 have x6:=boxed_below x5 hb6
 have c7:=y7.cell
 have hml:¬ ((mu:Int)+1 < (a.length:Int)+1):=by omega
 have hml2:¬ ((mu:Int) < (a.length:Int)):=by omega
 gi_loopg [44] 0 (fun g v wr=>g=0∧wr=W6)
 case atStart=>exact ⟨rfl,rfl⟩
 case round =>
  obtain ⟨rfl,hwr⟩:=hrel
  subst wr
  obtain ⟨nq,hnq⟩:∃ nq:Nat,mu+1 - b.length=nq:=⟨_,rfl⟩
  have hnq2:(mu:Int)+1 - (b.length:Int)=(nq:Int):=by omega
  have hmk:=fun (W:World)=>run_makeI W nq (by omega) (nq:Int) rfl
  have hw9:IntKind.i64.wrap ((mu:Int)+1 - (b.length:Int))=(nq:Int):=by rw [hnq2];exact IntWalk.i64_in _ (by omega)
  have f6:=x6.frozen
  have c6:=x6.cell
  have c8:=y8.cell
  have z6:=x6.lt
  have z5:=x5.lt
  have x6a:=x6.alloc (.cells (intVs (zerosL nq)).toArray 3)
  have c6a:=x6a.cell
  have f6a:=x6a.frozen
  have c6b:=(x6a.set (.slice (some ⟨W6.heap.size,0,none⟩) nq nq)).cell
  gi_wp2
  refine ⟨trivial,?_⟩
  have hS7:=sameBut_setCell (W6.alloc (.cells (intVs (zerosL nq)).toArray 3)) w.heap.size 0 (.slice (some ⟨w5.heap.size+2,0,none⟩) nq nq)
  have xq:=(BlkI.new (X:=W6) (n:=w5.heap.size+2) (l:=zerosL nq) hz6).but hS7 (by omega)
  have x7:=x6a.set (.slice (some ⟨w5.heap.size+2,0,none⟩) nq nq)
  have z7:=Boxed.but (y7.alloc (.cells (intVs (zerosL nq)).toArray 3)) hS7 (by omega)
  have z8:=Boxed.but (y8.alloc (.cells (intVs (zerosL nq)).toArray 3)) hS7 (by omega)
  have hsz7:((W6.alloc (.cells (intVs (zerosL nq)).toArray 3)).setCell ⟨w.heap.size,0,none⟩ (.slice (some ⟨w5.heap.size+2,0,none⟩) nq nq)).heap.size=w5.heap.size+3:=by simp [hz6]
  generalize ((W6.alloc (.cells (intVs (zerosL nq)).toArray 3)).setCell ⟨w.heap.size,0,none⟩ (.slice (some ⟨w5.heap.size+2,0,none⟩) nq nq))=W7 at *
  refine (callsIn_wide.2 (backward_any _ _ _ _)).mono ?_
  rintro e w9 ⟨rfl,rfl⟩
  clear c6a f6a c6b c7 c8 c6 f6
  gi_wp2
  have hwlt:=Boxed.lt x1
  have hwle:=hb1.size
  have hle:(lu.take mu++[(0:Int)]).length=mu+1:=by rw [List.length_append,hlt0];rfl
  have hvle:intVs (lu.take mu++[(0:Int)])=intVs (lu.take mu)++[Value.int .i64 0]:=by simp [intVs]
  have hOW:OwnInts w4 WA.heap.size (.slice su (mu+1) sc) (lu.take mu++[0]):=by
   have h:=HOW.out
   unfold OwnInts
   rw [hle,hvle]
   exact h
  obtain ⟨gU,rfl,hgU,-,hrow4⟩:=hOW.row (by simp)
  have hgU4:=hrow4.lt
  have hrow7:=((((hrow4.of (HU5.out gU hgU4)).below hb6).below (bw4 (bw0 _ _) (.cells (intVs (zerosL nq)).toArray 3))).but hS7 (by omega))
  have hlv7:=(((HBV.out.below hb6).below (bw4 (bw0 _ _) (.cells (intVs (zerosL nq)).toArray 3))).but hS7 (by omega))
  have hb7:Below w.heap.size w W7:=hS7.below (bw4 (below_trans' hb5 hb6) _) (Nat.le_refl _)
  have hb8:Below w.heap.size w (W7.alloc (.cells #[.slice (some ⟨w5.heap.size+2,0,none⟩) nq nq] 205)):=bw4 hb7 _
  have hz8:(W7.alloc (.cells #[.slice (some ⟨w5.heap.size+2,0,none⟩) nq nq] 205)).heap.size=w5.heap.size+4:=by simp [hsz7]
  have hBa:Below W7.heap.size W7 (W7.alloc (.cells #[.slice (some ⟨w5.heap.size+2,0,none⟩) nq nq] 205)):=bw4 (bw0 _ _) _
  have hgv5:=HBV.out.lt
  have hDB:DivB w.heap.size gU WC.heap.size w5.heap.size sc (mu+1) nq b.length (b.length+1+1) (lu.take mu++[0]) (zerosL nq) lv (W7.alloc (.cells #[.slice (some ⟨w5.heap.size+2,0,none⟩) nq nq] 205)) :=
   ⟨by have:=hb1.size;omega,by omega,hgv5,boxed_below x7 hBa,boxed_below z7 hBa,boxed_below z8 hBa,boxed_new' hsz7,xq.below hBa,hlv7.below hBa,hrow7.below hBa⟩
  obtain ⟨V,hV⟩:∃ V,lv.take b.length=V:=⟨_,rfl⟩
  have hVl:V.length=b.length:=by rw [← hV];exact hlt1
  have hNV:=HNV.out
  rw [hV] at hNV
  have htop:=HND2.out
  rw [hV] at htop
  have hval0:val (lu.take mu++[0])=x * f:=by
   rw [← HNU.out.sum]
   refine val_of_lim fun i=>?_
   by_cases hi:i < (lu.take mu).length
   ·exact lim_snoc_lt hi
   ·by_cases hi2:i=(lu.take mu).length
    ·rw [hi2,lim_snoc,lim_out (Nat.le_refl _)]
    ·rw [lim_out (by simp at hi hi2 ⊢;omega),lim_out (by omega)]
  have hdig0:Digs (lu.take mu++[0]):=digs_of fun i hi=>by
   by_cases hi2:i < (lu.take mu).length
   ·rw [lim_snoc_lt hi2];exact HNU.out.digs i
   ·have:i=(lu.take mu).length:=by rw [List.length_append] at hi;simp only [List.length_cons,List.length_nil] at hi;omega
    rw [this,lim_snoc];exact ⟨by omega,by omega⟩
  have hvpos:0 < val V:=by
   have h1:=hNV.low (by omega)
   have h2:=pw_pos (V.length - 1)
   rw [hNV.sum];omega
  have hlt0':val (lu.take mu++[0]) < val V * pw nq:=by
   have h1:=HNU.out.high.2
   rw [hlt0] at h1
   have h2:=hNV.low (by omega)
   rw [hVl] at h2
   have h3:pw (b.length - 1) * pw nq≤y * f * pw nq:=Int.mul_le_mul_of_nonneg_right h2 (Int.le_of_lt (pw_pos _))
   rw [← pw_add,show b.length - 1+nq=mu by omega] at h3
   rw [hval0,hNV.sum]
   omega
  have hSt0:DivSt (lu.take mu++[0]) V nq [] (lu.take mu++[0]) (zerosL nq):=DivSt.start (by rw [List.length_append,hlt0,hVl];simp only [List.length_cons,List.length_nil];omega) hdig0 hlt0'
  have HNV':=Lib.hid hNV
  have HTOP:=Lib.hid htop
  have HVP:=Lib.hid hvpos
  have HV:=Lib.hid hV
  have HVL:=Lib.hid hVl
  have HV0:=Lib.hid hval0
  have HY0:=Lib.hid (show 0 < y by have h1:=HB.out.low (by omega);have h2:=pw_pos (b.length - 1);omega)
  clear hOW hrow4 hrow7 hlv7 hNV htop hvpos hV hVl hval0 hdig0 hlt0' hBa hS7 x7 xq z7 z8
  generalize (W7.alloc (.cells #[.slice (some ⟨w5.heap.size+2,0,none⟩) nq nq] 205))=W8 at *
  refine wpIn_rangeFunc_ownH rfl (by omega) (gf:=210) (lb:=#[.pointer (some ⟨w5.heap.size+3,0,none⟩)]) rfl trivial (enters_of Tryz.func210 (by kernel_rfl) rfl)
   (back2_stops nq _ (by omega) (w5.heap.size+3) w.heap.size (w5.heap.size+2) nq (by omega) W8 ⟨_,hDB.q,zerosL_len _⟩ (Boxed.cell hDB.i)) KpQ.t (KpQ.b (m:=W8.heap.size) hb8.size (by omega) (by omega)) (bw0 _ _) (fun _=>rfl)
   (fun pre W=>(Below w.heap.size w W∧w5.heap.size+4≤W.heap.size)∧(∃ U Q,DivB w.heap.size gU WC.heap.size w5.heap.size sc (mu+1) nq b.length (b.length+1+1) U Q lv W∧DivSt (lu.take mu++[0]) V nq pre U Q))
   (fun _ _ _=>False)
   (OwnFrom.and (OwnFrom.and (ownFrom_below (Nat.le_refl _) (by omega)) (fun s A B row hs hg hr=>Nat.le_trans hs hg.size)) (fun s X Y row hs hg hr=>by obtain ⟨U,Q,h1,h2⟩:=hs;exact ⟨U,Q,divB_own () X Y row h1 hg hr,h2⟩))
   (fun _ _ _ _ _ hs _ _=>hs)
   ⟨⟨hb8,by omega⟩,_,_,hDB,hSt0⟩
   (fun x a' W=>∃ jj:Nat,jj=nq - 1 - x.1.1∧a'={ tmps:=#[.slice aa a.length ac,.slice (some ⟨bb,ob,none⟩) b.length bc,undef,undef,.pointer (some ⟨w.heap.size,0,none⟩),.slice none 0 0,.int .i64 f,.pointer (some ⟨w5.heap.size,0,none⟩),.pointer (some ⟨w5.heap.size+1,0,none⟩),.int .i64 (jj:Int),undef,.slice aa a.length ac,.slice (some ⟨bb,ob,none⟩) b.length bc,.int .i64 r,.bool (decide (r < 0)),undef,.slice (some ⟨bb,ob,none⟩) b.length bc,.int .i64 b.length,.bool false,undef,undef,undef,undef,undef,undef,undef,.slice (some ⟨bb,ob,none⟩) b.length bc,.slice (some ⟨bb,ob,none⟩) b.length bc,.int .i64 b.length,.int .i64 ((b.length:Int) - 1),.pointer (some ⟨bb,ob+(b.length - 1),none⟩),.int .i64 b1,.int .i64 (b1+1),.int .i64 f,.slice aa a.length ac,.int .i64 f,.slice (some ⟨w1.heap.size,0,none⟩) 1 1,.slice (some ⟨WA.heap.size,0,none⟩) mu (a.length+1+1),.slice (some ⟨w2.heap.size,0,none⟩) 1 1,.slice (some ⟨gU,0,none⟩) (mu+1) sc,.slice (some ⟨bb,ob,none⟩) b.length bc,.int .i64 f,.slice (some ⟨w4.heap.size,0,none⟩) 1 1,.slice (some ⟨WC.heap.size,0,none⟩) b.length (b.length+1+1),.slice (some ⟨gU,0,none⟩) (mu+1) sc,.int .i64 ((mu:Int)+1),.slice aa a.length ac,.int .i64 a.length,.int .i64 ((a.length:Int)+1),.bool false,u50,u51,u52,.slice (some ⟨gU,0,none⟩) (mu+1) sc,.int .i64 ((mu:Int)+1),.slice (some ⟨WC.heap.size,0,none⟩) b.length (b.length+1+1),.int .i64 b.length,.int .i64 nq,.slice (some ⟨w5.heap.size+2,0,none⟩) nq nq,.slice (some ⟨w5.heap.size+2,0,none⟩) nq nq,.func (.func 210) #[] #[.pointer (some ⟨w5.heap.size+3,0,none⟩)],.int .i64 (jj:Int),.int .i64 x.2,undef,undef,undef,undef,undef,undef,undef,undef,undef,undef,undef,undef,undef,undef,undef,undef,undef,undef,undef,undef,undef,undef,undef,undef,undef,undef,undef,undef,undef,undef],defers:=[] })
   (fun x a' _ X Y row hs hg hr=>hs)
   ?assign ?body ?done ?stop
  case assign =>
   rintro l1 pre x W K ⟨⟨hB,hz⟩,hS⟩ hK
   unfold encQ
   simp only [fold2,bw7,bw9,bw8]
   gi_wp2
   exact hK _ _ (KeepsFrom.refl _ _) ⟨(bw0 _ _).mono hB.size,rfl,fun l h1 h2=>⟨l,h1,h2⟩⟩ ⟨⟨hB,hz⟩,hS⟩ ⟨nq - 1 - x.1.1,rfl,by rw [show ((nq - 1 - x.1.1:Nat):Int)=(nq:Int) - 1 - (x.1.1:Int) by have:=x.1.2;omega]⟩
  case body =>
   rintro l1 pre x a' W hl1 ⟨rr,hr⟩ ⟨⟨hB,hz⟩,U,Q,hD,hSt⟩ ⟨jj,hjj,rfl⟩ hlt
   have hxl:=x.1.2
   have hUl:U.length=mu+1:=by rw [hSt.len,HVL.out];omega
   have hjn:jj+b.length < mu+1:=by omega
   have HE:=Lib.hid (fun (W':World) (hr:RowI W' gU sc U) (hl:BlkI W' WC.heap.size lv)=>estD (n:=b.length) (j:=jj) (cv:=b.length+1+1) (N:=mu+1) W' hr hl (by omega) hlv' HV.out h2 hSt.digs HNV'.out.digs hUl hjn (by omega) HTOP.out)
   have HTK:=Lib.hid (fun (q:Int) (W':World) (hr:RowI W' gU sc U) (hl:BlkI W' WC.heap.size lv) (q0:0≤q) (q1:q≤4000000000)=>takeD (q:=q) (n:=b.length) (j:=jj) (cv:=b.length+1+1) (N:=mu+1) W' hr hl (by omega) (by omega) hlv' HV.out hSt.digs HNV'.out.digs hUl hjn (by omega) q0 q1)
   have HRS:=Lib.hid (fun (q:Int) (l:List Int) (c:Int) (hT:TakeAt U V jj q (V.length+1) l c) (W':World) (hr:RowI W' gU sc l) (hl:BlkI W' WC.heap.size lv) (q0:0≤q) (q1:q≤4000000000)=>restoreD (q:=q) (n:=b.length) (j:=jj) (cv:=b.length+1+1) (N:=mu+1) W' hr hl (by omega) (by omega) hlv' HV.out hT.digs HNV'.out.digs (by rw [hT.len];exact hUl) hjn (by omega) q0 q1)
   have HLS:=Lib.hid (fun (q:Int) (l:List Int) (c:Int) (hT:TakeAt U V jj q (V.length+1) l c) (q0:0≤q) (hc:0 < c)=>est_less hSt.digs q0 (by rw [hUl,HVL.out];exact hjn) hT hc)
   have HGB:=Lib.hid (fun (q:Int) (l m:List Int) (c d:Int) (hT:TakeAt U V jj q (V.length+1) l c) (hG:GiveAt l V jj q (V.length+1) m d)=>give_back hSt.digs hT hG (by rw [hUl,HVL.out];exact hjn))
   have HSP:=Lib.hid (fun (q:Int) (l:List Int) (c:Int) (q0:0≤q) (hE:EstI U V jj q) (hT:TakeAt U V jj q (V.length+1) l c) (hc:¬ 0 < c)=>hSt.step x HNV'.out.digs HVP.out q0 (hjj ▸ hE) (hjj ▸ hT) hc)
   have hQl:=hSt.qlen
   have hjq:jj < nq:=by omega
   have HDD:=Lib.hid hD
   have cu:=Boxed.cell hD.u
   have cv:=Boxed.cell hD.v
   have HJJ:=Lib.hid hjj
   clear hSt hD hjj
   simp only []
   gi_wp2
   refine ⟨trivial,?_⟩
   refine (CallsIn.inRound l1 (callsIn_wide.2 (HE.out _ HDD.out.w HDD.out.l))).mono ?_
   rintro e wa ⟨q,rfl,q0,q1,hq,hBa⟩
   have HQ:=Lib.hid hq
   have HD1:=Lib.hid (HDD.out.below hBa)
   have HK1:=Lib.hid (And.intro (keepsFrom_below (m:=W8.heap.size) hBa) (KpQ.belowB (N:=nq) (B:=w.heap.size) (b1:=w5.heap.size+3) (g:=w5.heap.size+2) hBa hB.size (by omega)))
   have hBw:=hB.trans (hBa.mono hB.size)
   have hzw:w5.heap.size+4≤wa.heap.size:=Nat.le_trans hz hBa.size
   clear hq hBa cu cv HE
   gi_wp2
   gi_loopg [10] (q.toNat) (fun g v wr=>∃ q:Int,g=q.toNat∧v=.int .i64 q∧0≤q∧q≤2000000000∧Hid (EstI U V jj q)∧Hid (DivB w.heap.size gU WC.heap.size w5.heap.size sc (mu+1) nq b.length (b.length+1+1) U Q lv wr)∧Hid (KeepsFrom W8.heap.size W wr∧KpQ nq w.heap.size (w5.heap.size+3) (w5.heap.size+2) W wr)∧Below w.heap.size w wr∧w5.heap.size+4≤wr.heap.size)
   case atStart=>exact ⟨q,rfl,rfl,q0,q1,HQ,HD1,HK1,hBw,hzw⟩
   case round =>
    clear q0 q1 HQ HD1 HK1 hBw hzw
    obtain ⟨q,rfl,rfl,q0,q1,HQ,HD1,HK1,hBw,hzw⟩:=hrel
    have cu:=Boxed.cell HD1.out.u
    have cv:=Boxed.cell HD1.out.v
    gi_wp2
    refine ⟨trivial,?_⟩
    refine (CallsIn.inRound l1 (callsIn_wide.2 (HTK.out q _ HD1.out.w HD1.out.l q0 (by omega)))).mono ?_
    rintro e wt ⟨l,c,rfl,hrt,hTA,hSt1⟩
    have HTA:=Lib.hid hTA
    have HD2:=Lib.hid (HD1.out.row hSt1 hrt)
    have HK2:=Lib.hid (And.intro (HK1.out.1.trans (keepsFrom_but (m:=W8.heap.size) hSt1 (by omega))) (HK1.out.2.t (KpQ.but (N:=nq) (B:=w.heap.size) (b1:=w5.heap.size+3) (g:=w5.heap.size+2) hSt1 (by omega) (by omega) (by omega))))
    have hBw2:Below w.heap.size w wt:=hSt1.below hBw (by omega)
    have hzw2:w5.heap.size+4≤wt.heap.size:=by rw [hSt1.size];exact hzw
    clear hTA hrt hSt1 cu cv HD1 HK1 hBw hzw
    by_cases hc:0 < c
    ·obtain ⟨hq1,hEq⟩:=HLS.out q l c HTA.out q0 hc
     have HEQ:=Lib.hid hEq
     have hcb:decide (0 < c)=true:=decide_eq_true hc
     have hwq:IntKind.i64.wrap (q - 1)=q - 1:=IntWalk.i64_in _ (by omega)
     have cu:=Boxed.cell HD2.out.u
     have cv:=Boxed.cell HD2.out.v
     clear hEq
     gi_wp2
     refine ⟨trivial,?_⟩
     refine (CallsIn.inRound l1 (callsIn_wide.2 (HRS.out q l c HTA.out _ HD2.out.w HD2.out.l q0 (by omega)))).mono ?_
     rintro e wg ⟨m,d,rfl,hrg,hGA,hSg⟩
     obtain rfl:=HGB.out q l m c d HTA.out hGA
     have HD3:=Lib.hid (HD2.out.row hSg hrg)
     have HK3:=Lib.hid (And.intro (HK2.out.1.trans (keepsFrom_but (m:=W8.heap.size) hSg (by omega))) (HK2.out.2.t (KpQ.but (N:=nq) (B:=w.heap.size) (b1:=w5.heap.size+3) (g:=w5.heap.size+2) hSg (by omega) (by omega) (by omega))))
     have hBw3:Below w.heap.size w wg:=hSg.below hBw2 (by omega)
     have hzw3:w5.heap.size+4≤wg.heap.size:=by rw [hSg.size];exact hzw2
     have fu:=Boxed.frozen HD3.out.u
     have cu3:=Boxed.cell HD3.out.u
     have zu:=Boxed.lt HD3.out.u
     clear hrg hGA hSg HD2 HK2 hBw2 hzw2 cu cv
     gi_wp2
     have hSb:=sameBut_setCell wg w5.heap.size 0 (.slice (some ⟨gU,0,none⟩) (mu+1) sc)
     have HD4:=Lib.hid (HD3.out.box hSb (Boxed.set _ HD3.out.u))
     have HK4:=Lib.hid (And.intro (HK3.out.1.trans (keepsFrom_but (m:=W8.heap.size) hSb (by omega))) (HK3.out.2.t (KpQ.but (N:=nq) (B:=w.heap.size) (b1:=w5.heap.size+3) (g:=w5.heap.size+2) hSb (by omega) (by omega) (by omega))))
     have hBw4:=hSb.below hBw3 (by omega)
     have hzw4:=hSb.size
     clear hSb
     gi_roundg (q - 1).toNat
     case rel=>exact ⟨q - 1,rfl,rfl,by omega,by omega,HEQ,HD4,HK4,hBw4,by rw [hzw4];exact hzw3⟩
     case measure=>omega
    ·have hcb:decide (0 < c)=false:=decide_eq_false hc
     have cr:=Boxed.cell HD2.out.r
     have f1:=HD2.out.q.cell (p:=jj) (by omega)
     have g1:=HD2.out.q.frozen jj
     have hj1:(jj:Int) < (nq:Int):=by omega
     have hj0:(0:Int)≤(jj:Int):=by omega
     have hjt:((jj:Int)).toNat=jj:=by omega
     gi_wp2
     have hSq:=sameBut_setCell wt (w5.heap.size+2) jj (.int .i64 q)
     have HD3:=HD2.out.quo hSq (HD2.out.q.set jj q)
     have hST:=HSP.out q l c q0 HQ.out HTA.out hc
     rw [← HJJ.out] at hST
     exact ⟨HK2.out.1.trans (keepsFrom_but hSq (by omega)),⟨HK2.out.2.1.trans ((hSq.below (bw0 _ _) (by omega)).mono (Nat.le_refl _)),(hSq.block _ (by omega)).trans HK2.out.2.2.1,fun l' hl' e'=>⟨_,HD3.q,by rw [List.length_set];exact hQl⟩⟩,⟨hSq.below hBw2 (by omega),by rw [hSq.size];exact hzw2⟩,_,_,HD3,hST⟩
  case done =>
   rintro D ys W hD hys ⟨⟨hB,hz⟩,U,Q,hDv,hSt⟩ hK
   have hUl:U.length=mu+1:=by rw [hSt.len,HVL.out];omega
   have hQl:=hSt.qlen
   have hLA:=hSt.at' nq (Nat.le_refl _) (by rw [hys,fst_all])
   have HFIN:=Lib.hid (hLA.fin hSt.digs HV0.out HNV'.out.sum f1 HY0.out)
   have HTU:=Lib.hid (fun (W':World) (h:RowI W' gU sc U)=>trim_ok U (some ⟨gU,0,none⟩) (mu+1) sc W' (by have:=h.is;rwa [hUl] at this) (by omega))
   have HTQ:=Lib.hid (fun (W':World) (h:BlkI W' (w5.heap.size+2) Q)=>trim_ok Q (some ⟨w5.heap.size+2,0,none⟩) nq nq W' (by have:=h.is;rwa [hQl] at this) (by omega))
   have HDG:=Lib.hid (And.intro hSt.digs hLA.digs)
   have HDV:=Lib.hid hDv
   have cu:=Boxed.cell hDv.u
   clear hSt hLA hDv
   gi_wp2
   refine ⟨trivial,?_⟩
   refine (callsIn_wide.2 (HTU.out _ HDV.out.w)).mono ?_
   rintro e wt ⟨m1,hm1,rfl,ht1,hl1,rfl⟩
   have hnu:Num (U.take m1) (val U):=⟨fun i=>by rw [hl1];exact HDG.out.1 i,ht1,val_of_lim hl1⟩
   have hrt:=(HDV.out.w.take' m1 hm1).is
   have HDS:=Lib.hid (divideShortL_ok (d:=f) _ wt hrt hnu (by rw [List.length_take];omega) f1 (by omega))
   clear hnu hrt ht1 hl1 HTU
   have hl9:(U.take m1).length=m1:=by rw [List.length_take];omega
   rw [hl9] at HDS
   clear cu
   gi_wp2
   refine ⟨trivial,?_⟩
   refine (callsIn_wide.2 HDS.out).mono ?_
   rintro e wd ⟨lr,vr,lz,vz,rfl,ir,iz,nr,nz,kr,kz,hBd⟩
   obtain ⟨ra,rc,rfl⟩:=ir.is.slice
   obtain ⟨za,zc,rfl⟩:=iz.is.slice
   have HDV2:=Lib.hid (HDV.out.below hBd)
   have HIR:=Lib.hid ir
   have HNR:=Lib.hid nr
   have hbd:=hB.trans (hBd.mono hB.size)
   have hKd:=(hBd.block D (Array.getElem?_eq_some_iff.1 hK).1).trans hK
   have HZ:=Lib.hid hB.size
   have cr:=Boxed.cell HDV2.out.r
   have HW0:=Lib.hid (show w.heap.size < wt.heap.size by omega)
   clear ir iz nr nz kr kz hBd HDS
   gi_wp2
   refine ⟨trivial,?_⟩
   refine (callsIn_wide.2 (HTQ.out _ HDV2.out.q)).mono ?_
   rintro e we ⟨m2,hm2,rfl,ht2,hl2,rfl⟩
   have HQ2:=Lib.hid (And.intro hm2 (And.intro ht2 hl2))
   have fr:=Boxed.frozen HDV2.out.r
   have zr:=Boxed.lt HDV2.out.r
   clear hm2 ht2 hl2
   gi_wp2
   have hSr:=sameBut_setCell we w.heap.size 0 (.slice (some ⟨w5.heap.size+2,0,none⟩) m2 nq)
   have xr:=Boxed.set (.slice (some ⟨w5.heap.size+2,0,none⟩) m2 nq) HDV2.out.r
   have hqb:=HDV2.out.q.but hSr (by omega)
   have hir:=HIR.out.but hSr HW0.out
   refine leaves_marks w.heap.size [D] _ (by simp) (fun E hE=>?_) (fun W' hB' hcc=>?_)
   ·obtain rfl:E=D:=by simpa using hE
    exact ⟨by omega,(hSr.block _ (by omega)).trans hKd⟩
   ·have z1:W'.cell? ⟨w.heap.size,0,none⟩=some (.slice (some ⟨w5.heap.size+2,0,none⟩) m2 nq):=cell_keeps (Boxed.cell xr) hcc
    have l1:(loadVar 205 ⟨w.heap.size,0,none⟩).run Tryz.prog W'=.ok (.slice (some ⟨w5.heap.size+2,0,none⟩) m2 nq) W':=by simp [go_sem,z1]
    obtain ⟨g1,g2,_⟩:=HFIN.out
    obtain ⟨hm2,ht2,hl2⟩:=HQ2.out
    have hy0:=HY0.out
    have hx1:=HA.out.high
    have hq1:x / y≤x:=Int.ediv_le_self _ hx1.1
    have hr1:x % y < y:=Int.emod_lt_of_pos _ hy0
    have hnQ:Num (Q.take m2) (x / y):=⟨fun i=>by rw [hl2];exact HDG.out.2 i,ht2,(val_of_lim hl2).trans g1⟩
    have hnR:Num lr (x % y):=by have:=HNR.out;rwa [g2] at this
    have hqblk:BlkI W' (w5.heap.size+2) Q:=hcc _ _ hqb rfl
    exact ⟨_,results_cell_tmp Tryz.results139 rfl l1,Q.take m2,_,lr,_,rfl,hqblk.isTake hm2 hQl,OwnInts.is (ownsRow_keeps hir hcc),hnQ,hnR,Nat.le_trans (hnQ.length_le (by omega)) (Nat.le_max_left _ _),Nat.le_trans (hnR.length_le (by omega)) (Nat.le_max_left _ _),(hSr.below hbd (Nat.le_refl _)).trans hB'⟩
  case stop =>
   rintro D c pre W _ _ h _
   exact h.elim
end Go.Proofs.YthihcjgmlbnapaaGreatDoor
namespace Go.Proofs.YthihcjgmlbnapaaGreatDoor
open Go.RowKit Go.Shelf
theorem Tryz.sizeBuilder:(Tryz.prog.info? 252).map (·.size)=some 2:=by kernel_rfl
theorem Tryz.liesBuilder:liesAt Tryz.prog Tryz.prog.depth 252 (2 / Tryz.prog.cellsOf 252) 0 252 1=true:=by kernel_rfl
theorem Tryz.infoByte:(Tryz.prog.info? 5).map (fun i=>(i.zero,i.size,i.bytes))=some (some (.int .u8 0),1,1):=by kernel_rfl
theorem copyCheck_used (b:Nat) (w:World) (h0:w.cell? ⟨b,0,none⟩=some (.pointer (some ⟨b,0,none⟩))) :
  Calls Tryz.prog 206 #[.pointer (some ⟨b,0,none⟩)] w fun e w'=>e=.returned (.tuple #[])∧w'=w:=by
 obtain ⟨j,hj,_⟩:=Option.map_eq_some_iff.1 Tryz.sizeBuilder
 go_enter Tryz.func206,Tryz.ntmps206
 go_wp2
 rw [Lib.run_neq_ptr_same w _ Tryz.underlying249 hj]
 go_wp2
 go_end0
 exact ⟨rfl,rfl⟩
theorem copyCheck_fresh (b:Nat) (w:World) (h0:w.cell? ⟨b,0,none⟩=some (.pointer none)) (hsh:w.shape? b=some (252,2)) (hfz:w.frozen? ⟨b,0,none⟩=false) :
  Calls Tryz.prog 206 #[.pointer (some ⟨b,0,none⟩)] w fun e w'=>e=.returned (.tuple #[])∧w'=w.setCell ⟨b,0,none⟩ (.pointer (some ⟨b,0,none⟩)):=by
 obtain ⟨j,hj,hjs⟩:=Option.map_eq_some_iff.1 Tryz.sizeBuilder
 go_enter Tryz.func206,Tryz.ntmps206
 go_wp2
 rw [Lib.run_to_unsafe w ⟨b,0,none⟩ Tryz.underlying249 Tryz.underlying300 hj (by rw [hjs];decide) hsh (Nat.zero_lt_succ 1)]
 simp only [Result.andThen]
 rw [Oper.upon_value]
 go_wp2
 rw [run_callFunc_extern Tryz.func227 (by kernel_rfl) (by kernel_rfl) (by kernel_rfl) (e:=Extern.AbiNoEscape.same) (by kernel_rfl)]
 rw [Lib.run_noEscape]
 simp only [Result.andThen]
 rw [Oper.upon_value]
 go_wp2
 rw [Lib.run_from_unsafe w ⟨b,0,none⟩ Tryz.underlying300 Tryz.underlying249 hj hsh Tryz.liesBuilder]
 simp only [Result.andThen]
 rw [Oper.upon_value]
 go_wp2
 go_end0
 exact ⟨rfl,rfl⟩
theorem copyCheck_k (B b:Nat) (bs:List Value) (w:World) (h:Lib.IsBuilderF 252 5 B b bs w) :
  Calls Tryz.prog 206 #[.pointer (some ⟨b,0,none⟩)] w fun e w'=>e=.returned (.tuple #[])∧(Lib.BuilderAtF 252 5 B b (.pointer (some ⟨b,0,none⟩)) bs w'∧Below B w w'∧Lib.OthersKept 5 (some b) w w'):=by
 rcases h with h|h
 ·refine (copyCheck_fresh b w h.cell0 h.shape h.frozen0).mono ?_
  rintro e w' ⟨rfl,rfl⟩
  exact ⟨rfl,h.used _,(bw0 B w).setCell (p:=⟨b,0,none⟩) h.1 _,(Lib.OthersKept.refl _ _ w).setCell ⟨b,0,none⟩ rfl _⟩
 ·refine (copyCheck_used b w h.cell0).mono ?_
  rintro e w' ⟨rfl,rfl⟩
  exact ⟨rfl,h,bw0 B _,Lib.OthersKept.refl _ _ _⟩
theorem writeByte_k (B b:Nat) (bs:List Value) (c:Int) (w:World) (h:Lib.IsBuilderF 252 5 B b bs w) (hlen:bs.length+1≤140737488355328) (hBw:B≤w.heap.size) :
  Calls Tryz.prog 203 #[.pointer (some ⟨b,0,none⟩),.int .u8 c] w fun e w'=>e=.returned .nilIface∧(Lib.BuilderAtF 252 5 B b (.pointer (some ⟨b,0,none⟩)) (bs++[.int .u8 c]) w'∧Below B w w'∧Lib.OthersKept 5 (some b) w w'):=by
 obtain ⟨i0,hi,hz0,hz1,hz2⟩:=info_parts Tryz.infoByte
 go_enter Tryz.func203,Tryz.ntmps203
 go_wp2_with fail
 refine (copyCheck_k B b bs _ h).mono ?_
 rintro e w1 ⟨rfl,h1,hb1,hk1⟩
 obtain ⟨hB,v,hbk,hown,hne⟩:=h1
 have c0:w1.cell? ⟨b,0,none⟩=some (.pointer (some ⟨b,0,none⟩)):=by rw [Lib.cell_of_heap hbk];rfl
 have c1:w1.cell? ⟨b,1,none⟩=some v:=by rw [Lib.cell_of_heap hbk];rfl
 go_wp2_with (at_builtin;refine wpList_append_ownF _ rfl _ _ 250 rfl B 5 i0 (.int .u8 0) 1 1 Tryz.underlying250 hi hz0 hz1 hz2 rfl (by decide) _ _ _ rfl (hown.alloc _) ⟨w1.heap.size,0,none⟩ 1 1 [.int .u8 c] rfl rfl ?c1 ?c2 ?c3 ?c4 ?c5 ?_)
 case c1 =>
  intro j u hj
  match j,hj with
  | 0,hj=>simp at hj;subst hj;simp [Addr.add]
 case c2=>intro u hu;simp at hu;subst hu;rfl
 case c3=>unfold maxLen;omega
 case c4=>omega
 case c5=>have:=hb1.size;simp;omega
 intro v' w2 hown' hgrow _
 have hlt:b < w1.heap.size:=by
  rcases Nat.lt_or_ge b w1.heap.size with h'|h'
  ·exact h'
  ·simp [Array.getElem?_eq_none h'] at hbk
 have hb2:w2.heap[b]?=some (.cells #[.pointer (some ⟨b,0,none⟩),v] 252 (0,0)):=by
  rw [hgrow.block b (by simp;omega) (fun e=>hne e.symm),Lib.alloc_old w1 _ b hlt]
  exact hbk
 have d0:w2.cell? ⟨b,0,none⟩=some (.pointer (some ⟨b,0,none⟩)):=by rw [Lib.cell_of_heap hb2];rfl
 have d1:w2.cell? ⟨b,1,none⟩=some v:=by rw [Lib.cell_of_heap hb2];rfl
 have f1:w2.frozen? ⟨b,1,none⟩=false:=Lib.frozen_of_heap hb2 1
 obtain ⟨g,cap,rfl⟩:∃ g cap,v'=.slice (some ⟨g,0,none⟩) (bs.length+1) cap:=by
  rcases hown'.2 with ⟨_,h0⟩|⟨g,cap,cur,fz,hv,_⟩
  ·omega
  ·exact ⟨g,cap,hv⟩
 go_wp2
 go_ret
 refine ⟨rfl,?_,?_,((hk1.alloc _).grown hgrow (Lib.ownsRowF_kind (hown.alloc _))).setCell ⟨b,1,none⟩ rfl _⟩
 ·exact Lib.BuilderAtF.put (T:=252) (e:=5) hB hb2 (bs':=bs++[.int .u8 c]) (by simpa using hown') (by decide)
 ·exact ((hb1.alloc (by have:=hb1.size;omega) _).grown hgrow (by have:=hb1.size;simp;omega) (fun k hk=>(hown.lt k hk).1)).setCell (p:=⟨b,1,none⟩) hB _
theorem writeString_k (B b:Nat) (bs:List Value) (s:ByteArray) (w:World) (h:Lib.IsBuilderF 252 5 B b bs w) (hlen:bs.length+s.size≤140737488355328) (hBw:B≤w.heap.size) :
  Calls Tryz.prog 175 #[.pointer (some ⟨b,0,none⟩),.string s] w fun e w'=>e=.returned (.tuple #[.int .i64 s.size,.nilIface])∧(Lib.BuilderAtF 252 5 B b (.pointer (some ⟨b,0,none⟩)) (bs++Lib.strCells s) w'∧Below B w w'∧Lib.OthersKept 5 (some b) w w'):=by
 obtain ⟨i0,hi,hz0,hz1,hz2⟩:=info_parts Tryz.infoByte
 go_enter Tryz.func175,Tryz.ntmps175
 go_wp2_with fail
 refine (copyCheck_k B b bs _ h).mono ?_
 rintro e w1 ⟨rfl,h1,hb1,hk1⟩
 obtain ⟨hB,v,hbk,hown,hne⟩:=h1
 have c0:w1.cell? ⟨b,0,none⟩=some (.pointer (some ⟨b,0,none⟩)):=by rw [Lib.cell_of_heap hbk];rfl
 have c1:w1.cell? ⟨b,1,none⟩=some v:=by rw [Lib.cell_of_heap hbk];rfl
 go_wp2_with (at_builtin;refine Lib.wpList_append_own_stringF _ rfl _ _ 250 9 rfl B 5 i0 Tryz.underlying250 Tryz.underlying9 hi hz0 hz1 hz2 _ _ _ rfl hown s rfl ?c3 ?c4 ?c5 ?_)
 case c3=>unfold maxLen;omega
 case c4=>omega
 case c5=>have:=hb1.size;omega
 intro v' w2 hown' hgrow _
 have hlt:b < w1.heap.size:=by
  rcases Nat.lt_or_ge b w1.heap.size with h'|h'
  ·exact h'
  ·simp [Array.getElem?_eq_none h'] at hbk
 have hb2:w2.heap[b]?=some (.cells #[.pointer (some ⟨b,0,none⟩),v] 252 (0,0)):=by
  rw [hgrow.block b hlt (fun e=>hne e.symm)]
  exact hbk
 have d0:w2.cell? ⟨b,0,none⟩=some (.pointer (some ⟨b,0,none⟩)):=by rw [Lib.cell_of_heap hb2];rfl
 have d1:w2.cell? ⟨b,1,none⟩=some v:=by rw [Lib.cell_of_heap hb2];rfl
 have f1:w2.frozen? ⟨b,1,none⟩=false:=Lib.frozen_of_heap hb2 1
 obtain ⟨ao,n',cap,rfl⟩:∃ ao n' cap,v'=.slice ao n' cap:=by
  rcases hown'.2 with ⟨hv,_⟩|⟨g,cap,cur,fz,hv,_⟩
  ·exact ⟨_,_,_,hv⟩
  ·exact ⟨_,_,_,hv⟩
 go_wp2
 go_ret2
 refine ⟨rfl,?_,?_,(hk1.grown hgrow (Lib.ownsRowF_kind hown)).setCell ⟨b,1,none⟩ rfl _⟩
 ·exact Lib.BuilderAtF.put (T:=252) (e:=5) hB hb2 (bs':=bs++Lib.strCells s) (by simpa [Lib.strCells_length] using hown') (by decide)
 ·exact (hb1.grown hgrow (by have:=hb1.size;omega) (fun k hk=>(hown.lt k hk).1)).setCell (p:=⟨b,1,none⟩) hB _
end Go.Proofs.YthihcjgmlbnapaaGreatDoor
namespace Go.Proofs.YthihcjgmlbnapaaGreatDoor
def pad:Nat→Nat→List UInt8
 | 0,_=>[]
 | m+1,x=>pad m (x / 10)++[UInt8.ofNat (48+x % 10)]
theorem pad_zero (m:Nat):pad m 0=List.replicate m 48:=by
 induction m with
 | zero=>rfl
 | succ m ih=>rw [pad,ih,List.replicate_succ'];rfl
theorem pad_eq {m x:Nat} (h:x < 10 ^ (m+1)):pad (m+1) x=List.replicate (m+1 - (Lib.decDigits x).length) 48++Lib.decDigits x:=by
 induction m generalizing x with
 | zero =>
  have hx:x < 10:=by simpa using h
  rw [pad,pad,Lib.decDigits,dif_pos hx,Nat.mod_eq_of_lt hx]
  rfl
 | succ m ih =>
  by_cases hx:x < 10
  ·rw [pad,show x / 10=0 by omega,pad_zero,Lib.decDigits,dif_pos hx,Nat.mod_eq_of_lt hx]
   simp
  ·have e:Lib.decDigits x=Lib.decDigits (x / 10)++[UInt8.ofNat (48+x % 10)]:=by rw [Lib.decDigits,dif_neg hx]
   rw [pad,ih (by rw [Nat.pow_succ] at h;omega),e]
   rw [List.length_append]
   simp only [List.length_cons,List.length_nil,List.append_assoc]
   rw [show m+1+1 - ((Lib.decDigits (x / 10)).length+(0+1))=m+1 - (Lib.decDigits (x / 10)).length by omega]
theorem decDigits_cat {N x m:Nat} (hN:0 < N) (hx:x < 10 ^ m):Lib.decDigits (N * 10 ^ m+x)=Lib.decDigits N++pad m x:=by
 induction m generalizing x with
 | zero=>simp at hx;subst hx;simp [pad]
 | succ m ih =>
  have hp:0 < 10 ^ m:=Nat.pow_pos (by omega)
  have e:N * 10 ^ (m+1)=10 * (N * 10 ^ m):=by rw [Nat.pow_succ];grind
  have h1:10≤N * 10 ^ (m+1):=by
   have:1 * 1≤N * 10 ^ m:=Nat.mul_le_mul hN hp
   omega
  rw [Lib.decDigits,dif_neg (by omega),show (N * 10 ^ (m+1)+x) / 10=N * 10 ^ m+x / 10 by rw [e];omega,show (N * 10 ^ (m+1)+x) % 10=x % 10 by rw [e];omega,ih (by rw [Nat.pow_succ] at hx;omega),pad,List.append_assoc]
theorem foldl_dval (l:List UInt8):∀ a:Nat,l.foldl (fun a c=>10 * a+(c.toNat - 48)) a=a * 10 ^ l.length+dval l:=by
 induction l with
 | nil=>intro a;simp [dval]
 | cons c t ih =>
  intro a
  have e:dval (c::t)=(10 * 0+(c.toNat - 48)) * 10 ^ t.length+dval t:=by unfold dval;rw [List.foldl_cons,ih];rfl
  rw [List.foldl_cons,ih,e]
  simp only [List.length_cons,Nat.pow_succ]
  grind
theorem dval_head (c:UInt8) (t:List UInt8):dval (c::t)=(c.toNat - 48) * 10 ^ t.length+dval t:=by
 rw [dval,List.foldl_cons,foldl_dval]
 simp
theorem pw_ten (j:Nat):pw j=((10 ^ (9 * j):Nat):Int):=by
 induction j with
 | zero=>rfl
 | succ j ih =>
  have e:(10:Nat) ^ (9 * (j+1))=1000000000 * 10 ^ (9 * j):=by
   rw [show 9 * (j+1)=9 * j+9 by omega,Nat.pow_add,Nat.mul_comm]
  rw [pw,ih,e,Int.natCast_mul]
  rfl
def dgAt (s:List UInt8) (i:Nat):Int:=((s.getD (s.length - 1 - i) 48).toNat:Int) - 48
structure ReadAt (s:List UInt8) (k:Nat) (l:List Int):Prop where
 sum:val l=(dval (s.drop (s.length - k)):Int)
 lims:∀ i,0≤lim l i∧lim l i < ((10 ^ (min 9 (k - 9 * i)):Nat):Int)
theorem ReadAt.start (s:List UInt8) (n:Nat):ReadAt s 0 (zerosL n):=by
 refine ⟨?_,fun i=>?_⟩
 ·rw [Nat.sub_zero,List.drop_length]
  have e:val (zerosL n)=val []:=val_of_lim fun i=>by rw [lim_zerosL,lim_nil]
  rw [e];rfl
 ·rw [lim_zerosL]
  simp
theorem ReadAt.step {s:List UInt8} {k:Nat} {l:List Int} (h:ReadAt s k l) (hd:∀ c ∈ s,isDig c=true) (hk:k < s.length) (hl:l.length=(s.length+8) / 9) :
  (0≤dgAt s k∧dgAt s k≤9)∧(0≤lim l (k / 9)∧lim l (k / 9) < ((10 ^ (k % 9):Nat):Int))∧ReadAt s (k+1) (l.set (k / 9) (lim l (k / 9)+dgAt s k * ((10 ^ (k % 9):Nat):Int))):=by
 have hi:s.length - 1 - k < s.length:=by omega
 have hc:=hd _ (List.getElem_mem hi)
 rw [isDig_iff] at hc
 have hg:dgAt s k=(s[s.length - 1 - k].toNat:Int) - 48:=by unfold dgAt;rw [List.getD_eq_getElem?_getD,List.getElem?_eq_getElem hi];rfl
 have hdd:s.drop (s.length - (k+1))=s[s.length - 1 - k]::s.drop (s.length - k):=by
  rw [show s.length - (k+1)=s.length - 1 - k by omega,List.drop_eq_getElem_cons hi,show s.length - 1 - k+1=s.length - k by omega]
 have hL:=h.lims (k / 9)
 rw [show min 9 (k - 9 * (k / 9))=k % 9 by omega] at hL
 have hg0:0≤dgAt s k:=by rw [hg];omega
 have hg1:dgAt s k≤9:=by rw [hg];omega
 have hjl:k / 9 < l.length:=by rw [hl];omega
 refine ⟨⟨hg0,hg1⟩,hL,?_,fun i=>?_⟩
 ·rw [val_set hjl,h.sum,hdd,dval_head,List.length_drop,show s.length - (s.length - k)=k by omega,pw_ten]
  have e:(10:Nat) ^ k=10 ^ (k % 9) * 10 ^ (9 * (k / 9)):=by rw [← Nat.pow_add];congr 1;omega
  rw [e,hg]
  have e2:((s[s.length - 1 - k].toNat - 48:Nat):Int)=(s[s.length - 1 - k].toNat:Int) - 48:=by omega
  rw [Int.natCast_add,Int.natCast_mul,e2,Int.natCast_mul]
  generalize ((10 ^ (k % 9):Nat):Int)=P
  generalize ((10 ^ (9 * (k / 9)):Nat):Int)=Q
  grind
 ·rw [lim_set hjl]
  split
  ·rename_i hik
   subst hik
   have e:min 9 (k+1 - 9 * (k / 9))=k % 9+1:=by omega
   rw [e,Nat.pow_succ]
   have hp:(0:Int) < ((10 ^ (k % 9):Nat):Int):=by have:0 < 10 ^ (k % 9):=Nat.pow_pos (by omega);omega
   have m0:0≤dgAt s k * ((10 ^ (k % 9):Nat):Int):=Int.mul_nonneg hg0 (by omega)
   have m1:dgAt s k * ((10 ^ (k % 9):Nat):Int)≤9 * ((10 ^ (k % 9):Nat):Int):=Int.mul_le_mul_of_nonneg_right hg1 (by omega)
   refine ⟨by omega,?_⟩
   rw [Int.natCast_mul]
   generalize ((10 ^ (k % 9):Nat):Int)=P at *
   omega
  ·have h1:=h.lims i
   refine ⟨h1.1,Int.lt_of_lt_of_le h1.2 ?_⟩
   have:(10:Nat) ^ (min 9 (k - 9 * i))≤10 ^ (min 9 (k+1 - 9 * i)):=Nat.pow_le_pow_right (by omega) (by omega)
   omega
theorem ReadAt.digs {s:List UInt8} {k:Nat} {l:List Int} (h:ReadAt s k l):Digs l:=fun i=>by
 have h1:=h.lims i
 have:(10:Nat) ^ (min 9 (k - 9 * i))≤10 ^ 9:=Nat.pow_le_pow_right (by omega) (by omega)
 exact ⟨h1.1,by have:=h1.2;omega⟩
theorem ReadAt.fin {s:List UInt8} {l:List Int} (h:ReadAt s s.length l):val l=(dval s:Int):=by rw [h.sum,Nat.sub_self,List.drop_zero]
def topTxt (l:List Int) (k:Nat):List UInt8:=if k=0 then [] else Lib.decDigits (vt (fun i=>lim l (l.length - k+i)) k).toNat
theorem topTxt_step {l:List Int} {k:Nat} (hd:Digs l) (ht:Trimmed l) (hk:k < l.length) :
  topTxt l (k+1)=topTxt l k++(if k=0 then Lib.decDigits (lim l (l.length - 1 - k)).toNat else List.replicate (9 - (Lib.decDigits (lim l (l.length - 1 - k)).toNat).length) 48++Lib.decDigits (lim l (l.length - 1 - k)).toNat):=by
 have hs:vt (fun i=>lim l (l.length - (k+1)+i)) (k+1)=lim l (l.length - 1 - k)+1000000000 * vt (fun i=>lim l (l.length - k+i)) k:=by
  rw [Nat.add_comm k 1,vt_split]
  have e1:vt (fun i=>lim l (l.length - (1+k)+i)) 1=lim l (l.length - 1 - k):=by simp [vt,pw,show l.length - (1+k)=l.length - 1 - k by omega]
  have e2:pw 1=1000000000:=by simp [pw]
  rw [e1,e2]
  congr 2
  exact vt_congr fun i _=>by show lim l (l.length - (1+k)+(1+i))=_;congr 1;omega
 have hx:=hd (l.length - 1 - k)
 unfold topTxt
 rw [if_neg (by omega),hs]
 by_cases h0:k=0
 ·subst h0
  rw [if_pos rfl,if_pos rfl]
  simp [vt]
 ·rw [if_neg h0,if_neg h0]
  have hV:0 < vt (fun i=>lim l (l.length - k+i)) k:=by
   obtain ⟨m,rfl⟩:∃ m,k=m+1:=⟨k - 1,by omega⟩
   rw [vt]
   have hb:=vt_bound (f:=fun i=>lim l (l.length - (m+1)+i)) (k:=m) (fun i _=>hd _)
   have hn:=ht (by omega)
   have hn2:=(hd (l.length - 1)).1
   rw [show l.length - (m+1)+m=l.length - 1 by omega]
   have hp:=pw_pos m
   have:1 * pw m≤lim l (l.length - 1) * pw m:=Int.mul_le_mul_of_nonneg_right (by omega) (by omega)
   omega
  generalize vt (fun i=>lim l (l.length - k+i)) k=V at *
  generalize lim l (l.length - 1 - k)=x at *
  obtain ⟨x0,x1⟩:=hx
  rw [show (x+1000000000 * V).toNat=V.toNat * 10 ^ 9+x.toNat by omega,decDigits_cat (by omega) (by omega),pad_eq (m:=8) (by omega)]
theorem topTxt_all {l:List Int} {n:Int} (h:Num l n):topTxt l l.length=if l.length=0 then [] else Lib.decDigits n.natAbs:=by
 unfold topTxt
 split
 ·rfl
 ·have e:vt (fun i=>lim l (l.length - l.length+i)) l.length=n:=by
   rw [← h.sum]
   exact vt_congr fun i _=>by show lim l (l.length - l.length+i)=_;congr 1;omega
  have:=h.high.1
  rw [e,show n.toNat=n.natAbs by omega]
end Go.Proofs.YthihcjgmlbnapaaGreatDoor
namespace Go.Proofs.YthihcjgmlbnapaaGreatDoor
open Go.RowKit Go.Shelf
attribute [local go_sem] Oper.semAt_some
theorem builderF_keep {T e:TypeId} {B b:Nat} {bs:List Value} {W W':World} (h:Lib.IsBuilderF T e B b bs W) (hk:∀ (k:Nat) (c:Array Value) (t:TypeId) (fz:Nat × Nat),W.heap[k]?=some (Obj.cells c t fz)→W'.heap[k]?=some (Obj.cells c t fz)):Lib.IsBuilderF T e B b bs W':=by
 have key:∀ p,Lib.BuilderAtF T e B b p bs W→Lib.BuilderAtF T e B b p bs W':=by
  rintro p ⟨hB,v,hb,hown,hne⟩
  refine ⟨hB,v,hk _ _ _ _ hb,⟨hown.1,?_⟩,hne⟩
  rcases hown.2 with hn|⟨g,cap,cur,fz,e1,e2,e3,rest⟩
  ·exact .inl hn
  ·exact .inr ⟨g,cap,cur,fz,e1,e2,hk _ _ _ _ e3,rest⟩
 exact h.elim (fun h=>.inl (key _ h)) (fun h=>.inr (key _ h))
theorem builderF_below {T e:TypeId} {B b:Nat} {bs:List Value} {W W':World} (h:Lib.IsBuilderF T e B b bs W) (hB:Below W.heap.size W W'):Lib.IsBuilderF T e B b bs W' :=
 builderF_keep h fun k c t fz hc=>(hB.block k (Array.getElem?_eq_some_iff.1 hc).1).trans hc
theorem builderF_own {β:Type} {m:Nat} {T e:TypeId} {B b:Nat} {bs:List Value}:OwnFrom m (fun (_:β) W=>Lib.IsBuilderF T e B b bs W):=fun s X Y row hs hg hr =>
 builderF_keep hs fun k c t fz hc=>cells_own (β:=β) (m:=m) (b:=k) rfl s X Y row hc hg hr
theorem keepsFrom_others {m b:Nat} {e:TypeId} {W W':World} (h:Lib.OthersKept e (some b) W W') (hz:W.heap.size≤W'.heap.size) (hb:b < m):KeepsFrom m W W' :=
 ⟨hz,fun k o hk ho hc=>h k o ho (fun e=>by injection e with e;omega) (fun c fz e=>by subst e;cases hc)⟩
theorem othersKept_of_below {b:Option Nat} {e:TypeId} {W W':World} (h:Below W.heap.size W W'):Lib.OthersKept e b W W':=fun k o hk _ _=>(h.block k (Array.getElem?_eq_some_iff.1 hk).1).trans hk
theorem wr_end {w W W':World} {b1 m:Nat} {x y v:Value} (h:Below (w.heap.size+1) W W') (k:Lib.OthersKept 5 (some (w.heap.size+1)) W W') (b0:BoxN W w.heap.size x y) (bx:Boxed W b1 205 v) (hb1:w.heap.size+1 < b1) (hm:w.heap.size+1 < m) (hB:Below w.heap.size w W) :
  KeepsFrom m W W'∧KpR w.heap.size b1 W W'∧BoxN W' w.heap.size x y∧Boxed W' b1 205 v∧Below w.heap.size w W'∧W.heap.size≤W'.heap.size:=by
 have h0:BoxN W' w.heap.size x y:=k _ _ b0 (by simp) (by intro c fz e;injection e with _ e _;revert e;decide)
 have h1:Boxed W' b1 205 v:=k _ _ bx (fun e=>by injection e with e;omega) (by intro c fz e;injection e with _ e _;revert e;decide)
 exact ⟨keepsFrom_others k h.size hm,⟨h.mono (by omega),h1.trans bx.symm⟩,h0,h1,hB.trans (h.mono (by omega)),h.size⟩
theorem itoa_pos {n:Int} (h:0≤n):Lib.itoa n=Lib.decDigits n.toNat:=by
 rcases itoa_cases n with ⟨h0,_⟩|⟨_,e⟩
 ·omega
 ·rw [e];congr 1;omega
theorem strCells_of {s:ByteArray} {l:List UInt8} (h:s.data.toList=l):Lib.strCells s=Lib.byteCells l:=by rw [← h];rfl
theorem byteCells_append (a b:List UInt8):Lib.byteCells (a++b)=Lib.byteCells a++Lib.byteCells b:=by simp [Lib.byteCells]
theorem repeat_zero (k:Nat):Lib.repeatL [48] k=List.replicate k 48:=by
 induction k with
 | zero=>rfl
 | succ k ih=>rw [List.replicate_succ,← ih];rfl
theorem write_plus {l:List Int} {n:Int} (u:Value) (w:World) (hG:Glo w) (hu:IsInts w u l) (hn:Num l n) (hl:l.length≤900) (h0:l.length≠0) :
  Calls Tryz.prog 172 #[.agg #[.bool false,u]] w (RetS (([]:List UInt8)++Lib.decDigits n.natAbs) w):=by
 obtain ⟨aa,ac,rfl⟩:=hu.slice
 have HU:=Lib.hid hu
 have HN:=Lib.hid hn
 have HG:=Lib.hid hG
 have hl0:((l.length:Int) == 0)=false:=by rw [beq_eq_false_iff_ne];omega
 clear hu hn hG
 refine (callsIn_wide (n:=5)).1 ?_
 refine callsIn_of_wp_marks Tryz.func172 rfl trivial ?_ rfl
 simp only [Tryz.ntmps172,List.size_toArray,List.length_cons,List.length_nil,Nat.reduceAdd,Nat.reduceSub,Array.replicate_succ,Array.replicate_zero,List.push_toArray,List.append_toArray,List.nil_append,List.cons_append]
 gi_wp2
 have hb0:Below w.heap.size w ((w.alloc (.cells #[.bool false,.slice aa l.length ac] 207)).alloc (.cells #[.pointer none,.slice none 0 0] 252)):=qbl
 have x0:BoxN ((w.alloc (.cells #[.bool false,.slice aa l.length ac] 207)).alloc (.cells #[.pointer none,.slice none 0 0] 252)) w.heap.size (.bool false) (.slice aa l.length ac):=(BoxN.new rfl).below (bw4 (bw0 _ _) _)
 have hsz0:((w.alloc (.cells #[.bool false,.slice aa l.length ac] 207)).alloc (.cells #[.pointer none,.slice none 0 0] 252)).heap.size=w.heap.size+2:=by simp
 have hbld:Lib.IsBuilderF 252 5 (w.heap.size+1) (w.heap.size+1) (Lib.byteCells []) ((w.alloc (.cells #[.bool false,.slice aa l.length ac] 207)).alloc (.cells #[.pointer none,.slice none 0 0] 252)):=.inl ⟨Nat.le_refl _,.slice none 0 0,by have:=World.alloc_heap_new (w.alloc (.cells #[.bool false,.slice aa l.length ac] 207)) (.cells #[.pointer none,.slice none 0 0] 252);rw [World.size_alloc] at this;exact this,⟨rfl,.inl ⟨rfl,rfl⟩⟩,by simp [Value.ownBlock]⟩
 generalize ((w.alloc (.cells #[.bool false,.slice aa l.length ac] 207)).alloc (.cells #[.pointer none,.slice none 0 0] 252))=W1 at *
 replace hsz0:w.heap.size+2≤W1.heap.size:=by omega
 have c1:=x0.c1
 gi_wp2
 refine ⟨trivial,?_⟩
 refine (callsIn_wide.2 (backward_any _ _ _ _)).mono ?_
 rintro e w1 ⟨rfl,rfl⟩
 clear c1
 gi_wp2
 have hb2:Below w.heap.size w (W1.alloc (.cells #[.slice aa l.length ac] 205)):=bw4 hb0 _
 have x1:BoxN (W1.alloc (.cells #[.slice aa l.length ac] 205)) w.heap.size (.bool false) (.slice aa l.length ac):=x0.below (bw4 (bw0 _ _) _)
 have x2:Boxed (W1.alloc (.cells #[.slice aa l.length ac] 205)) W1.heap.size 205 (.slice aa l.length ac):=Boxed.new _ _ _
 have x3:=builderF_below hbld (bw4 (bw0 _ _) (.cells #[.slice aa l.length ac] 205))
 have hsz2:(W1.alloc (.cells #[.slice aa l.length ac] 205)).heap.size=W1.heap.size+1:=by simp
 generalize W1.alloc (.cells #[.slice aa l.length ac] 205)=W2 at *
 refine wpIn_rangeFunc_ownH rfl (by omega) (gf:=210) (lb:=#[.pointer (some ⟨W1.heap.size,0,none⟩)]) rfl trivial (enters_of Tryz.func210 (by kernel_rfl) rfl)
  (back_stops l _ (by omega) W1.heap.size w.heap.size _ (by omega) W2 hb2.size (HU.out.below hb2) HU.out.lt x2.cell) KpR.t (KpR.b hb2.size (by omega)) (bw0 _ _) (fun _=>rfl)
  (fun pre W=>((BoxN W w.heap.size (.bool false) (.slice aa l.length ac)∧Boxed W W1.heap.size 205 (.slice aa l.length ac))∧(Below w.heap.size w W∧W1.heap.size+1≤W.heap.size))∧(∃ out:List UInt8,Lib.IsBuilderF 252 5 (w.heap.size+1) (w.heap.size+1) (Lib.byteCells out) W∧out.length≤18 * pre.length+1∧(∀ k,k≤l.length→pre=fst l.length k→out=([]:List UInt8)++topTxt l k)))
  (fun _ _ _=>False)
  (OwnFrom.and (OwnFrom.and (OwnFrom.and (cells_own rfl) (Own.from (boxed_own _ _ _) _)) (OwnFrom.and (ownFrom_below (Nat.le_refl _) (by omega)) (fun s A B row hs hg hr=>Nat.le_trans hs hg.size))) (fun s X Y row hs hg hr=>by obtain ⟨out,h1,h2⟩:=hs;exact ⟨out,builderF_own () X Y row h1 hg hr,h2⟩))
  (fun _ _ _ _ _ hs _ _=>hs)
  ⟨⟨⟨x1,x2⟩,hb2,by omega⟩,([]:List UInt8),x3,by simp,fun k hk e=>by
   have h0:k=0:=by have:=congrArg List.length e;rw [fst_length hk] at this;simpa using this.symm
   subst h0;rfl⟩
  (fun x a' W=>a'={ tmps:=#[.agg #[.bool false,.slice aa l.length ac],.pointer (some ⟨w.heap.size,0,none⟩),.string ⟨#[]⟩,.pointer (some ⟨w.heap.size+1,0,none⟩),.int .i64 ((l.length:Int) - 1 - x.1),.int .i64 (lim l (l.length - 1 - x.1)),undef,.pointer (some ⟨w.heap.size,1,none⟩),.slice aa l.length ac,.int .i64 l.length,.bool false,.pointer (some ⟨w.heap.size,0,none⟩),.bool false,undef,.pointer (some ⟨w.heap.size,1,none⟩),.slice aa l.length ac,.func (.func 210) #[] #[.pointer (some ⟨W1.heap.size,0,none⟩)],.int .i64 ((l.length:Int) - 1 - x.1),.int .i64 (lim l (l.length - 1 - x.1)),undef,undef,undef,undef,undef,undef,undef,undef,undef,undef,undef,undef,undef,undef,undef,undef],defers:=[] })
  (fun x a' _ X Y row hs hg hr=>hs)
  ?assign ?body ?done ?stop
 case assign =>
  rintro l1 pre x W K ⟨⟨⟨b0,b1⟩,hB,hz⟩,hS⟩ hK
  unfold encB
  gi_wp2
  exact hK _ _ (KeepsFrom.refl _ _) ⟨(bw0 _ _).mono hB.size,rfl⟩ ⟨⟨⟨b0,b1⟩,hB,hz⟩,hS⟩ rfl
 case body =>
  rintro l1 pre x a' W hl1 ⟨rr,hr⟩ ⟨⟨⟨b0,b1⟩,hB,hz⟩,out,hbl,hol,hat⟩ rfl hlt
  have hxl:=x.2
  obtain ⟨q1,q2⟩:=HN.out.digs (l.length - 1 - x.1)
  obtain ⟨d,hd⟩:∃ d,lim l (l.length - 1 - x.1)=d:=⟨_,rfl⟩
  have hdl:(Lib.decDigits d.toNat).length≤9:=by rw [Lib.decDigits_length];exact nDigits_le_of_lt (by rw [hd] at q1 q2;omega) (by omega)
  have HAT:=Lib.hid (fun k (hk:k≤l.length) (e:pre++[x]=fst l.length k)=>show out++(if x.1=0 then Lib.decDigits d.toNat else List.replicate (9 - (Lib.decDigits d.toNat).length) 48++Lib.decDigits d.toNat)=([]:List UInt8)++topTxt l k by
   obtain ⟨m,rfl,hp,hx⟩:=fst_snoc hk e
   rw [hat m (by omega) hp,List.append_assoc,topTxt_step HN.out.digs HN.out.trim (by omega),← hd,← hx])
  have HB0:=Lib.hid b0
  have HB1:=Lib.hid b1
  have HBL:=Lib.hid hbl
  clear hat b0 b1 hbl
  rw [hd] at q1 q2 ⊢
  clear hd
  gi_wp2
  refine ⟨trivial,?_⟩
  refine (CallsIn.inRound l1 (callsIn_wide.2 (itoa_any d (by omega) (by omega) _ (HG.out.below hB)))).mono ?_
  rintro e wa ⟨s,hs,rfl,hBa⟩
  rw [itoa_pos q1] at hs
  have hsl:s.size≤9:=by rw [show s.size=s.data.toList.length from rfl,hs];exact hdl
  have hsz:(s.size:Int)≤9:=by omega
  have HS:=Lib.hid hs
  have HW:=Lib.hid (And.intro (hBa.mono (show w.heap.size+1≤W.heap.size by omega)) (othersKept_of_below (b:=some (w.heap.size+1)) (e:=5) hBa))
  have HB0':=Lib.hid (HB0.out.below hBa)
  have c1:=HB0'.out.c1
  have HBL':=Lib.hid (builderF_below HBL.out hBa)
  have hzw:=Nat.le_trans hz hBa.size
  clear hs hBa
  by_cases hx0:x.1=0
  ·have hcond:¬ (l.length:Int) - 1 - (x.1:Int) < (l.length:Int) - 1:=by omega
   gi_wp2
   refine ⟨trivial,?_⟩
   refine (CallsIn.inRound l1 (callsIn_wide.2 (writeString_k (w.heap.size+1) (w.heap.size+1) _ s wa HBL'.out (by rw [Lib.byteCells_length];omega) (by omega)))).mono ?_
   rintro e wb ⟨rfl,hbb,hBb,hOb⟩
   have HBB:Hid (Lib.IsBuilderF 252 5 (w.heap.size+1) (w.heap.size+1) (Lib.byteCells (out++Lib.decDigits d.toNat)) wb):=Lib.hid (by rw [byteCells_append,← strCells_of HS.out];exact .inr hbb)
   have HW2:=Lib.hid (And.intro (HW.out.1.trans hBb) (HW.out.2.trans hOb))
   clear hbb hBb hOb c1
   gi_wp2
   obtain ⟨e1,e2,e3,e4,e5,e6⟩:=wr_end (m:=W2.heap.size) HW2.out.1 HW2.out.2 HB0.out HB1.out (by omega) (by omega) hB
   refine ⟨e1,e2,⟨⟨e3,e4⟩,e5,by omega⟩,_,HBB.out,?_,fun k hk e=>?_⟩
   ·rw [List.length_append,List.length_append];simp only [List.length_cons,List.length_nil];omega
   ·have:=HAT.out k hk e
    rwa [if_pos hx0] at this
  ·have hcond:(l.length:Int) - 1 - (x.1:Int) < (l.length:Int) - 1:=by omega
   have hwr:IntKind.i64.wrap (9 - (s.size:Int))=9 - (s.size:Int):=IntWalk.i64_in _ (by omega)
   have HRP:=Lib.hid (fun W=>Tryz.strings_Repeat ⟨#[48]⟩ (9 - s.size) W (by omega) (by show 1 * (9 - s.size)≤_;omega))
   have hcast:((9 - s.size:Nat):Int)=9 - (s.size:Int):=by omega
   rw [hcast] at HRP
   clear hcast
   gi_wp2
   refine ⟨trivial,?_⟩
   refine (CallsIn.inRound l1 (callsIn_wide.2 (HRP.out _))).mono ?_
   rintro e wr ⟨rfl,hBr⟩
   have HW1:=Lib.hid (And.intro (HW.out.1.trans (hBr.mono (show w.heap.size+1≤wa.heap.size by omega))) (HW.out.2.trans (othersKept_of_below (b:=some (w.heap.size+1)) (e:=5) hBr)))
   have HBR:=Lib.hid (builderF_below HBL'.out hBr)
   have hzr:=Nat.le_trans hzw hBr.size
   clear hBr c1
   gi_wp2
   refine ⟨trivial,?_⟩
   refine (CallsIn.inRound l1 (callsIn_wide.2 (writeString_k (w.heap.size+1) (w.heap.size+1) _ _ wr HBR.out (by rw [Lib.byteCells_length];show _+(Lib.repeatL [48] (9 - s.size)).toArray.size≤_;rw [repeat_zero];simp;omega) (by omega)))).mono ?_
   rintro e wp ⟨rfl,hbp,hBp,hOp⟩
   have HBP:Hid (Lib.IsBuilderF 252 5 (w.heap.size+1) (w.heap.size+1) (Lib.byteCells (out++List.replicate (9 - s.size) 48)) wp):=Lib.hid (by
    rw [byteCells_append,← repeat_zero,← strCells_of (s:=⟨(Lib.repeatL [48] (9 - s.size)).toArray⟩) rfl];exact .inr hbp)
   have HW2:=Lib.hid (And.intro (HW1.out.1.trans hBp) (HW1.out.2.trans hOp))
   have hzp:=Nat.le_trans hzr hBp.size
   clear hbp hBp hOp
   gi_wp2
   refine ⟨trivial,?_⟩
   refine (CallsIn.inRound l1 (callsIn_wide.2 (writeString_k (w.heap.size+1) (w.heap.size+1) _ s wp HBP.out (by rw [Lib.byteCells_length,List.length_append,List.length_replicate];omega) (by omega)))).mono ?_
   rintro e wb ⟨rfl,hbb,hBb,hOb⟩
   have HBB:Hid (Lib.IsBuilderF 252 5 (w.heap.size+1) (w.heap.size+1) (Lib.byteCells (out++(List.replicate (9 - (Lib.decDigits d.toNat).length) 48++Lib.decDigits d.toNat))) wb):=Lib.hid (by
    have hss:s.size=(Lib.decDigits d.toNat).length:=by rw [← HS.out];rfl
    rw [← List.append_assoc,byteCells_append,← strCells_of HS.out,← hss];exact .inr hbb)
   have HW3:=Lib.hid (And.intro (HW2.out.1.trans hBb) (HW2.out.2.trans hOb))
   clear hbb hBb hOb
   gi_wp2
   obtain ⟨e1,e2,e3,e4,e5,e6⟩:=wr_end (m:=W2.heap.size) HW3.out.1 HW3.out.2 HB0.out HB1.out (by omega) (by omega) hB
   refine ⟨e1,e2,⟨⟨e3,e4⟩,e5,by omega⟩,_,HBB.out,?_,fun k hk e=>?_⟩
   ·rw [List.length_append,List.length_append,List.length_append,List.length_replicate];simp only [List.length_cons,List.length_nil];omega
   ·have:=HAT.out k hk e
    rwa [if_neg hx0] at this
 case done =>
  rintro D ys W hD rfl ⟨⟨⟨b0,b1⟩,hB,hz⟩,out,hbl,hol,hat⟩ hK
  have HO:=Lib.hid (hat l.length (Nat.le_refl _) (fst_all _).symm)
  have HBL:=Lib.hid hbl
  have HB:=Lib.hid hB
  clear hat hbl hol b0 b1
  gi_wp2
  refine ⟨trivial,?_⟩
  refine (callsIn_wide.2 (Tryz.Builder_String_any_k (w.heap.size+1) (w.heap.size+1) out W HBL.out (by omega))).mono ?_
  rintro e wz ⟨rfl,_,hBz,hOz⟩
  have hKz:wz.heap[D]?=some (.deferred (some [])):=hOz D _ hK (fun e=>by injection e with e;omega) (fun c fz e=>by cases e)
  have hBw:Below w.heap.size w wz:=HB.out.trans (hBz.mono (by omega))
  clear hBz hOz
  gi_wp2
  refine leaves_marks w.heap.size [D] _ (by simp) (fun E hE=>?_) (fun W' hB' hcc=>?_)
  ·obtain rfl:E=D:=by simpa using hE
   exact ⟨by omega,hKz⟩
  ·have hout:out=([]:List UInt8)++Lib.decDigits n.natAbs:=by rw [HO.out,topTxt_all HN.out,if_neg h0]
   exact ⟨.string ⟨out.toArray⟩,by simp [results,Tryz.results172,go_sem],⟨out.toArray⟩,hout,rfl,hBw.trans hB'⟩
 case stop =>
  rintro D c pre W _ _ h _
  exact h.elim
theorem write_minus {l:List Int} {n:Int} (u:Value) (w:World) (hG:Glo w) (hu:IsInts w u l) (hn:Num l n) (hl:l.length≤900) (h0:l.length≠0) :
  Calls Tryz.prog 172 #[.agg #[.bool true,u]] w (RetS (([45]:List UInt8)++Lib.decDigits n.natAbs) w):=by
 obtain ⟨aa,ac,rfl⟩:=hu.slice
 have HU:=Lib.hid hu
 have HN:=Lib.hid hn
 have HG:=Lib.hid hG
 have hl0:((l.length:Int) == 0)=false:=by rw [beq_eq_false_iff_ne];omega
 clear hu hn hG
 refine (callsIn_wide (n:=5)).1 ?_
 refine callsIn_of_wp_marks Tryz.func172 rfl trivial ?_ rfl
 simp only [Tryz.ntmps172,List.size_toArray,List.length_cons,List.length_nil,Nat.reduceAdd,Nat.reduceSub,Array.replicate_succ,Array.replicate_zero,List.push_toArray,List.append_toArray,List.nil_append,List.cons_append]
 gi_wp2
 have hb0:Below w.heap.size w ((w.alloc (.cells #[.bool true,.slice aa l.length ac] 207)).alloc (.cells #[.pointer none,.slice none 0 0] 252)):=qbl
 have x0:BoxN ((w.alloc (.cells #[.bool true,.slice aa l.length ac] 207)).alloc (.cells #[.pointer none,.slice none 0 0] 252)) w.heap.size (.bool true) (.slice aa l.length ac):=(BoxN.new rfl).below (bw4 (bw0 _ _) _)
 have hsz0:((w.alloc (.cells #[.bool true,.slice aa l.length ac] 207)).alloc (.cells #[.pointer none,.slice none 0 0] 252)).heap.size=w.heap.size+2:=by simp
 have hbld:Lib.IsBuilderF 252 5 (w.heap.size+1) (w.heap.size+1) (Lib.byteCells []) ((w.alloc (.cells #[.bool true,.slice aa l.length ac] 207)).alloc (.cells #[.pointer none,.slice none 0 0] 252)):=.inl ⟨Nat.le_refl _,.slice none 0 0,by have:=World.alloc_heap_new (w.alloc (.cells #[.bool true,.slice aa l.length ac] 207)) (.cells #[.pointer none,.slice none 0 0] 252);rw [World.size_alloc] at this;exact this,⟨rfl,.inl ⟨rfl,rfl⟩⟩,by simp [Value.ownBlock]⟩
 generalize ((w.alloc (.cells #[.bool true,.slice aa l.length ac] 207)).alloc (.cells #[.pointer none,.slice none 0 0] 252))=W0 at *
 refine ⟨trivial,?_⟩
 refine (callsIn_wide.2 (writeByte_k (w.heap.size+1) (w.heap.size+1) _ 45 W0 hbld (by simp [Lib.byteCells]) (by omega))).mono ?_
 rintro e W1 ⟨rfl,hbld1,hB1,hO1⟩
 have hbld:Lib.IsBuilderF 252 5 (w.heap.size+1) (w.heap.size+1) (Lib.byteCells [45]) W1:=.inr hbld1
 have x0:BoxN W1 w.heap.size (.bool true) (.slice aa l.length ac):=(hB1.block _ (by omega)).trans x0
 have hb0:Below w.heap.size w W1:=hb0.trans (hB1.mono (by omega))
 have hsz0:w.heap.size+2≤W1.heap.size:=by have:=hB1.size;omega
 clear hbld1 hB1 hO1
 have c1:=x0.c1
 gi_wp2
 refine ⟨trivial,?_⟩
 refine (callsIn_wide.2 (backward_any _ _ _ _)).mono ?_
 rintro e w1 ⟨rfl,rfl⟩
 clear c1
 gi_wp2
 have hb2:Below w.heap.size w (W1.alloc (.cells #[.slice aa l.length ac] 205)):=bw4 hb0 _
 have x1:BoxN (W1.alloc (.cells #[.slice aa l.length ac] 205)) w.heap.size (.bool true) (.slice aa l.length ac):=x0.below (bw4 (bw0 _ _) _)
 have x2:Boxed (W1.alloc (.cells #[.slice aa l.length ac] 205)) W1.heap.size 205 (.slice aa l.length ac):=Boxed.new _ _ _
 have x3:=builderF_below hbld (bw4 (bw0 _ _) (.cells #[.slice aa l.length ac] 205))
 have hsz2:(W1.alloc (.cells #[.slice aa l.length ac] 205)).heap.size=W1.heap.size+1:=by simp
 generalize W1.alloc (.cells #[.slice aa l.length ac] 205)=W2 at *
 refine wpIn_rangeFunc_ownH rfl (by omega) (gf:=210) (lb:=#[.pointer (some ⟨W1.heap.size,0,none⟩)]) rfl trivial (enters_of Tryz.func210 (by kernel_rfl) rfl)
  (back_stops l _ (by omega) W1.heap.size w.heap.size _ (by omega) W2 hb2.size (HU.out.below hb2) HU.out.lt x2.cell) KpR.t (KpR.b hb2.size (by omega)) (bw0 _ _) (fun _=>rfl)
  (fun pre W=>((BoxN W w.heap.size (.bool true) (.slice aa l.length ac)∧Boxed W W1.heap.size 205 (.slice aa l.length ac))∧(Below w.heap.size w W∧W1.heap.size+1≤W.heap.size))∧(∃ out:List UInt8,Lib.IsBuilderF 252 5 (w.heap.size+1) (w.heap.size+1) (Lib.byteCells out) W∧out.length≤18 * pre.length+1∧(∀ k,k≤l.length→pre=fst l.length k→out=([45]:List UInt8)++topTxt l k)))
  (fun _ _ _=>False)
  (OwnFrom.and (OwnFrom.and (OwnFrom.and (cells_own rfl) (Own.from (boxed_own _ _ _) _)) (OwnFrom.and (ownFrom_below (Nat.le_refl _) (by omega)) (fun s A B row hs hg hr=>Nat.le_trans hs hg.size))) (fun s X Y row hs hg hr=>by obtain ⟨out,h1,h2⟩:=hs;exact ⟨out,builderF_own () X Y row h1 hg hr,h2⟩))
  (fun _ _ _ _ _ hs _ _=>hs)
  ⟨⟨⟨x1,x2⟩,hb2,by omega⟩,([45]:List UInt8),x3,by simp,fun k hk e=>by
   have h0:k=0:=by have:=congrArg List.length e;rw [fst_length hk] at this;simpa using this.symm
   subst h0;rfl⟩
  (fun x a' W=>a'={ tmps:=#[.agg #[.bool true,.slice aa l.length ac],.pointer (some ⟨w.heap.size,0,none⟩),.string ⟨#[]⟩,.pointer (some ⟨w.heap.size+1,0,none⟩),.int .i64 ((l.length:Int) - 1 - x.1),.int .i64 (lim l (l.length - 1 - x.1)),undef,.pointer (some ⟨w.heap.size,1,none⟩),.slice aa l.length ac,.int .i64 l.length,.bool false,.pointer (some ⟨w.heap.size,0,none⟩),.bool true,.nilIface,.pointer (some ⟨w.heap.size,1,none⟩),.slice aa l.length ac,.func (.func 210) #[] #[.pointer (some ⟨W1.heap.size,0,none⟩)],.int .i64 ((l.length:Int) - 1 - x.1),.int .i64 (lim l (l.length - 1 - x.1)),undef,undef,undef,undef,undef,undef,undef,undef,undef,undef,undef,undef,undef,undef,undef,undef],defers:=[] })
  (fun x a' _ X Y row hs hg hr=>hs)
  ?assign ?body ?done ?stop
 case assign =>
  rintro l1 pre x W K ⟨⟨⟨b0,b1⟩,hB,hz⟩,hS⟩ hK
  unfold encB
  gi_wp2
  exact hK _ _ (KeepsFrom.refl _ _) ⟨(bw0 _ _).mono hB.size,rfl⟩ ⟨⟨⟨b0,b1⟩,hB,hz⟩,hS⟩ rfl
 case body =>
  rintro l1 pre x a' W hl1 ⟨rr,hr⟩ ⟨⟨⟨b0,b1⟩,hB,hz⟩,out,hbl,hol,hat⟩ rfl hlt
  have hxl:=x.2
  obtain ⟨q1,q2⟩:=HN.out.digs (l.length - 1 - x.1)
  obtain ⟨d,hd⟩:∃ d,lim l (l.length - 1 - x.1)=d:=⟨_,rfl⟩
  have hdl:(Lib.decDigits d.toNat).length≤9:=by rw [Lib.decDigits_length];exact nDigits_le_of_lt (by rw [hd] at q1 q2;omega) (by omega)
  have HAT:=Lib.hid (fun k (hk:k≤l.length) (e:pre++[x]=fst l.length k)=>show out++(if x.1=0 then Lib.decDigits d.toNat else List.replicate (9 - (Lib.decDigits d.toNat).length) 48++Lib.decDigits d.toNat)=([45]:List UInt8)++topTxt l k by
   obtain ⟨m,rfl,hp,hx⟩:=fst_snoc hk e
   rw [hat m (by omega) hp,List.append_assoc,topTxt_step HN.out.digs HN.out.trim (by omega),← hd,← hx])
  have HB0:=Lib.hid b0
  have HB1:=Lib.hid b1
  have HBL:=Lib.hid hbl
  clear hat b0 b1 hbl
  rw [hd] at q1 q2 ⊢
  clear hd
  gi_wp2
  refine ⟨trivial,?_⟩
  refine (CallsIn.inRound l1 (callsIn_wide.2 (itoa_any d (by omega) (by omega) _ (HG.out.below hB)))).mono ?_
  rintro e wa ⟨s,hs,rfl,hBa⟩
  rw [itoa_pos q1] at hs
  have hsl:s.size≤9:=by rw [show s.size=s.data.toList.length from rfl,hs];exact hdl
  have hsz:(s.size:Int)≤9:=by omega
  have HS:=Lib.hid hs
  have HW:=Lib.hid (And.intro (hBa.mono (show w.heap.size+1≤W.heap.size by omega)) (othersKept_of_below (b:=some (w.heap.size+1)) (e:=5) hBa))
  have HB0':=Lib.hid (HB0.out.below hBa)
  have c1:=HB0'.out.c1
  have HBL':=Lib.hid (builderF_below HBL.out hBa)
  have hzw:=Nat.le_trans hz hBa.size
  clear hs hBa
  by_cases hx0:x.1=0
  ·have hcond:¬ (l.length:Int) - 1 - (x.1:Int) < (l.length:Int) - 1:=by omega
   gi_wp2
   refine ⟨trivial,?_⟩
   refine (CallsIn.inRound l1 (callsIn_wide.2 (writeString_k (w.heap.size+1) (w.heap.size+1) _ s wa HBL'.out (by rw [Lib.byteCells_length];omega) (by omega)))).mono ?_
   rintro e wb ⟨rfl,hbb,hBb,hOb⟩
   have HBB:Hid (Lib.IsBuilderF 252 5 (w.heap.size+1) (w.heap.size+1) (Lib.byteCells (out++Lib.decDigits d.toNat)) wb):=Lib.hid (by rw [byteCells_append,← strCells_of HS.out];exact .inr hbb)
   have HW2:=Lib.hid (And.intro (HW.out.1.trans hBb) (HW.out.2.trans hOb))
   clear hbb hBb hOb c1
   gi_wp2
   obtain ⟨e1,e2,e3,e4,e5,e6⟩:=wr_end (m:=W2.heap.size) HW2.out.1 HW2.out.2 HB0.out HB1.out (by omega) (by omega) hB
   refine ⟨e1,e2,⟨⟨e3,e4⟩,e5,by omega⟩,_,HBB.out,?_,fun k hk e=>?_⟩
   ·rw [List.length_append,List.length_append];simp only [List.length_cons,List.length_nil];omega
   ·have:=HAT.out k hk e
    rwa [if_pos hx0] at this
  ·have hcond:(l.length:Int) - 1 - (x.1:Int) < (l.length:Int) - 1:=by omega
   have hwr:IntKind.i64.wrap (9 - (s.size:Int))=9 - (s.size:Int):=IntWalk.i64_in _ (by omega)
   have HRP:=Lib.hid (fun W=>Tryz.strings_Repeat ⟨#[48]⟩ (9 - s.size) W (by omega) (by show 1 * (9 - s.size)≤_;omega))
   have hcast:((9 - s.size:Nat):Int)=9 - (s.size:Int):=by omega
   rw [hcast] at HRP
   clear hcast
   gi_wp2
   refine ⟨trivial,?_⟩
   refine (CallsIn.inRound l1 (callsIn_wide.2 (HRP.out _))).mono ?_
   rintro e wr ⟨rfl,hBr⟩
   have HW1:=Lib.hid (And.intro (HW.out.1.trans (hBr.mono (show w.heap.size+1≤wa.heap.size by omega))) (HW.out.2.trans (othersKept_of_below (b:=some (w.heap.size+1)) (e:=5) hBr)))
   have HBR:=Lib.hid (builderF_below HBL'.out hBr)
   have hzr:=Nat.le_trans hzw hBr.size
   clear hBr c1
   gi_wp2
   refine ⟨trivial,?_⟩
   refine (CallsIn.inRound l1 (callsIn_wide.2 (writeString_k (w.heap.size+1) (w.heap.size+1) _ _ wr HBR.out (by rw [Lib.byteCells_length];show _+(Lib.repeatL [48] (9 - s.size)).toArray.size≤_;rw [repeat_zero];simp;omega) (by omega)))).mono ?_
   rintro e wp ⟨rfl,hbp,hBp,hOp⟩
   have HBP:Hid (Lib.IsBuilderF 252 5 (w.heap.size+1) (w.heap.size+1) (Lib.byteCells (out++List.replicate (9 - s.size) 48)) wp):=Lib.hid (by
    rw [byteCells_append,← repeat_zero,← strCells_of (s:=⟨(Lib.repeatL [48] (9 - s.size)).toArray⟩) rfl];exact .inr hbp)
   have HW2:=Lib.hid (And.intro (HW1.out.1.trans hBp) (HW1.out.2.trans hOp))
   have hzp:=Nat.le_trans hzr hBp.size
   clear hbp hBp hOp
   gi_wp2
   refine ⟨trivial,?_⟩
   refine (CallsIn.inRound l1 (callsIn_wide.2 (writeString_k (w.heap.size+1) (w.heap.size+1) _ s wp HBP.out (by rw [Lib.byteCells_length,List.length_append,List.length_replicate];omega) (by omega)))).mono ?_
   rintro e wb ⟨rfl,hbb,hBb,hOb⟩
   have HBB:Hid (Lib.IsBuilderF 252 5 (w.heap.size+1) (w.heap.size+1) (Lib.byteCells (out++(List.replicate (9 - (Lib.decDigits d.toNat).length) 48++Lib.decDigits d.toNat))) wb):=Lib.hid (by
    have hss:s.size=(Lib.decDigits d.toNat).length:=by rw [← HS.out];rfl
    rw [← List.append_assoc,byteCells_append,← strCells_of HS.out,← hss];exact .inr hbb)
   have HW3:=Lib.hid (And.intro (HW2.out.1.trans hBb) (HW2.out.2.trans hOb))
   clear hbb hBb hOb
   gi_wp2
   obtain ⟨e1,e2,e3,e4,e5,e6⟩:=wr_end (m:=W2.heap.size) HW3.out.1 HW3.out.2 HB0.out HB1.out (by omega) (by omega) hB
   refine ⟨e1,e2,⟨⟨e3,e4⟩,e5,by omega⟩,_,HBB.out,?_,fun k hk e=>?_⟩
   ·rw [List.length_append,List.length_append,List.length_append,List.length_replicate];simp only [List.length_cons,List.length_nil];omega
   ·have:=HAT.out k hk e
    rwa [if_neg hx0] at this
 case done =>
  rintro D ys W hD rfl ⟨⟨⟨b0,b1⟩,hB,hz⟩,out,hbl,hol,hat⟩ hK
  have HO:=Lib.hid (hat l.length (Nat.le_refl _) (fst_all _).symm)
  have HBL:=Lib.hid hbl
  have HB:=Lib.hid hB
  clear hat hbl hol b0 b1
  gi_wp2
  refine ⟨trivial,?_⟩
  refine (callsIn_wide.2 (Tryz.Builder_String_any_k (w.heap.size+1) (w.heap.size+1) out W HBL.out (by omega))).mono ?_
  rintro e wz ⟨rfl,_,hBz,hOz⟩
  have hKz:wz.heap[D]?=some (.deferred (some [])):=hOz D _ hK (fun e=>by injection e with e;omega) (fun c fz e=>by cases e)
  have hBw:Below w.heap.size w wz:=HB.out.trans (hBz.mono (by omega))
  clear hBz hOz
  gi_wp2
  refine leaves_marks w.heap.size [D] _ (by simp) (fun E hE=>?_) (fun W' hB' hcc=>?_)
  ·obtain rfl:E=D:=by simpa using hE
   exact ⟨by omega,hKz⟩
  ·have hout:out=([45]:List UInt8)++Lib.decDigits n.natAbs:=by rw [HO.out,topTxt_all HN.out,if_neg h0]
   exact ⟨.string ⟨out.toArray⟩,by simp [results,Tryz.results172,go_sem],⟨out.toArray⟩,hout,rfl,hBw.trans hB'⟩
 case stop =>
  rintro D c pre W _ _ h _
  exact h.elim
end Go.Proofs.YthihcjgmlbnapaaGreatDoor
namespace Go.Proofs.YthihcjgmlbnapaaGreatDoor
open Go.RowKit Go.Shelf
attribute [local go_sem] Oper.semAt_some
theorem digitsI_any (s:ByteArray) (w:World) :
  Calls Tryz.prog 168 #[.string s] w fun e w'=>e=.returned (.func (.func 198) #[] #[.pointer (some ⟨w.heap.size,0,none⟩)])∧w'=w.alloc (.cells #[.string s] 9):=by
 have hmf:∀ (fn:Fn) (first cap:Array Value) (w:World),(Instr.makeFunc fn first cap).run Tryz.prog w=.ok (.func fn first cap) w:=fun _ _ _ _=>rfl
 go_enter Tryz.func168,Tryz.ntmps168
 go_wp2_with fail
 go_ret
 exact ⟨rfl,rfl⟩
def encD (s:ByteArray) (x:Fin s.size):Array Value:=#[.int .i64 x.1,.int .i64 (dgAt s.data.toList x.1)]
theorem dgAt_of {s:ByteArray} {k:Nat} (h:s.size - 1 - k < s.size):dgAt s.data.toList k=(s[s.size - 1 - k].toNat:Int) - 48:=by
 unfold dgAt
 have h2:s.data.toList.length - 1 - k < s.data.toList.length:=h
 rw [List.getD_eq_getElem?_getD,List.getElem?_eq_getElem h2]
 rfl
theorem dig1_in (s:ByteArray) (hdig:∀ c ∈ s.data.toList,isDig c=true) (n:Nat) (hn:1≤n) (lb b1 B:Nat) (J Jx:List (Fin s.size)→World→Prop) (hlen:s.size≤1000)
  (hY:∀ pre x W,J pre W→pre.length < s.size→YieldAt Fence.wide (n - 1) Tryz.prog lb (encD s x) W fun e W' =>
   (e=.returned (.bool true)∧J (pre++[x]) W'∧KpR B b1 W W')∨(e=.returned (.bool false)∧Jx (pre++[x]) W'))
  (W:World) (hJ:AbidesFrom W.heap.size J) (c1:W.cell? ⟨b1,0,none⟩=some (.string s)) (h0:J [] W) :
  CallsIn Fence.wide n Tryz.prog 198 #[.func (.yield lb) #[] #[],.pointer (some ⟨b1,0,none⟩)] W fun e W'=>(∃ v,e=.returned v) ∧
   (J (List.finRange s.size) W'∨(∃ pre,(∃ k,k≤s.size∧pre=fst s.size k)∧Jx pre W')):=by
 have HJ:=Lib.hid hJ
 have HY:=Lib.hid hY
 have HD:=Lib.hid hdig
 clear hJ hY hdig
 refine callsIn_of_wp Tryz.func198 rfl trivial ?_ rfl
 simp only [Tryz.ntmps198,List.size_toArray,List.length_cons,List.length_nil,Nat.reduceAdd,Nat.reduceSub,Array.replicate_succ,Array.replicate_zero,List.push_toArray,List.append_toArray,List.nil_append,List.cons_append]
 gi_wp2
 gi_loopg [6] s.size (fun g v wr=>∃ k:Nat,k≤s.size∧g=s.size - k∧v=.int .i64 (k:Int)∧Hid (J (fst s.size k) wr)∧wr.cell? ⟨b1,0,none⟩=some (.string s))
 case atStart=>exact ⟨0,by omega,rfl,rfl,Lib.hid h0,c1⟩
 case round =>
  obtain ⟨k,hk,rfl,rfl,hJk,k1⟩:=hrel
  by_cases hkn:k=s.size
  ·subst hkn
   have hge:¬ (s.size:Int) < (s.size:Int):=by omega
   gi_wp2
   go_end0
   exact ⟨⟨_,rfl⟩,.inl (by have:=hJk.out;rw [fst_all] at this;exact this)⟩
  ·have hge:(k:Int) < (s.size:Int):=by omega
   have hw0:IntKind.i64.wrap ((s.size:Int) - 1)=(s.size:Int) - 1:=IntWalk.i64_in _ (by omega)
   have hw1:IntKind.i64.wrap ((s.size:Int) - 1 - (k:Int))=(s.size:Int) - 1 - (k:Int):=IntWalk.i64_in _ (by omega)
   have hw2:IntKind.i64.wrap ((k:Int)+1)=(k:Int)+1:=IntWalk.i64_in _ (by omega)
   have hs:((s.size:Int) - 1 - (k:Int)).toNat=s.size - 1 - k:=by omega
   have hg0:(0:Int)≤(s.size:Int) - 1 - (k:Int):=by omega
   have hg1:(s.size:Int) - 1 - (k:Int) < (s.size:Int):=by omega
   have hkl:s.size - 1 - k < s.size:=by omega
   obtain ⟨c,hc⟩:∃ c,s[s.size - 1 - k]=c:=⟨_,rfl⟩
   have hcd:isDig c=true:=HD.out c (by rw [← hc];exact List.getElem_mem (l:=s.data.toList) (n:=s.size - 1 - k) hkl)
   rw [isDig_iff] at hcd
   obtain ⟨d,hd⟩:∃ d:Int,(c.toNat:Int) - 48=d:=⟨_,rfl⟩
   have hwu:IntKind.u8.wrap ((c.toNat:Int) - 48)=d:=by rw [hd];exact IntWalk.u8_in _ (by omega)
   have hwd:IntKind.i64.wrap d=d:=IntWalk.i64_in _ (by omega)
   have hYk:=Lib.hid (fun W hW=>HY.out (fst s.size k) ⟨k,by omega⟩ W hW (by rw [fst_length hk];omega))
   have HE:Hid (encD s ⟨k,by omega⟩=#[.int .i64 (k:Int),.int .i64 d]):=Lib.hid (by unfold encD;rw [dgAt_of hkl,hc,hd])
   clear hd
   obtain ⟨fn,tmps,assign,body,hy,hR2⟩:=hYk.out _ hJk.out
   have HR2:=Lib.hid hR2
   rw [HE.out] at hy
   clear hR2
   gi_wp2
   refine HR2.out.mono ?_
   rintro e W3 (⟨rfl,hJ3,hk3⟩|⟨rfl,hJx3⟩)
   ·have k13:W3.cell? ⟨b1,0,none⟩=some (.string s):=(World.cell?_of_block hk3.2).trans k1
    have hJ3':=Lib.hid hJ3
    clear hJ3 hk3 hy HR2 k1
    gi_wp2
    gi_roundg (s.size - (k+1))
    case rel=>exact ⟨k+1,by omega,rfl,by go_num,Lib.hid (by rw [fst_succ (by omega)];exact hJ3'.out),k13⟩
    case measure=>omega
   ·have hJ3':=Lib.hid hJx3
    clear hJx3 hy HR2
    gi_wp2
    refine bodyPost_ret (results_none rfl _ _ _) rfl ?_
    exact ⟨⟨_,rfl⟩,.inr ⟨fst s.size (k+1),⟨k+1,by omega,rfl⟩,by rw [fst_succ (by omega)];exact hJ3'.out⟩⟩
theorem dig_stops (s:ByteArray) (hdig:∀ c ∈ s.data.toList,isDig c=true) (n:Nat) (hn:1≤n) (b1 B:Nat) (hlen:s.size≤1000) (w:World) (c1:w.cell? ⟨b1,0,none⟩=some (.string s)) :
  SeqStopsK Fence.wide n Tryz.prog 198 #[.pointer (some ⟨b1,0,none⟩)] (encD s) (KpR B b1) (fun ys=>ys=List.finRange s.size) (fun pre=>∃ k,k≤s.size∧pre=fst s.size k) s.size w:=fun lb J Jx W hW hJ _ hY h0 =>
 (dig1_in s hdig n hn lb b1 B J Jx hlen hY W hJ (keep hW c1) h0).mono (fun e w' h=>⟨h.1,h.2.imp (fun h=>⟨_,rfl,h⟩) id⟩)
end Go.Proofs.YthihcjgmlbnapaaGreatDoor
