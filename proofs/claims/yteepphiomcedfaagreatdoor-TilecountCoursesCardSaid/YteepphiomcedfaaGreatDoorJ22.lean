/- Joined texts: W6d, W6e, W6f, W6g, W6h. -/
import Derived.Test.YteepphiomcedfaaGreatDoorJ21
import Derived.Test.YteepphiomcedfaaGreatDoorJ17
import Derived.Deep.LoopGhost
import Derived.Test.YteepphiomcedfaaGreatDoorJ19
import Derived.Lib.SlBytesRow
set_option maxRecDepth 100000
set_option linter.unusedVariables false
set_option linter.unusedSimpArgs false
set_option maxHeartbeats 6400000
namespace Go.Proofs.YteepphiomcedfaaGreatDoor.R6
open Go.RowKit Go.Shelf
theorem lim_cons_zero (x:Int) (l:List Int):lim (x::l) 0=x:=rfl
theorem lim_cons_succ (x:Int) (l:List Int) (i:Nat):lim (x::l) (i+1)=lim l i:=by simp [lim]
theorem val_cons (x:Int) (l:List Int):val (x::l)=x+1000000 * val l:=by
 unfold val
 rw [List.length_cons,Nat.add_comm,vt_split]
 have e1:vt (lim (x::l)) 1=x:=by simp [vt,pw,lim_cons_zero]
 have e2:pw 1=1000000:=by simp [pw]
 rw [e1,e2]
 congr 2
 exact vt_congr fun i _=>by rw [Nat.add_comm];exact lim_cons_succ x l i
theorem digs_cons {x:Int} {l:List Int} (hx:Dig x) (h:Digs l):Digs (x::l):=fun i=>by
 cases i with
 | zero=>exact hx
 | succ i=>rw [lim_cons_succ];exact h i
theorem est6 {r b:List Int} {R y num top:Int} {m:Nat} (dr:Digs r) (hr:val r=R) (hrl:r.length≤m+3) (hb:Num b y) (hbl:b.length=m+2) (hn:num=(lim r (m+2) * 1000000+lim r (m+1)) * 1000000+lim r m) (ht:top=lim b (m+1) * 1000000+lim b m) :
  0≤num / (top+1)∧y * (num / (top+1))≤R:=by
 have hp:=pw_pos m
 have e1:R=vt (lim r) m+num * pw m:=by
  rw [← hr,← vt_val hrl,hn]
  simp only [vt,pw]
  grind
 have e2:y=vt (lim b) m+top * pw m:=by
  rw [← hb.sum,ht]
  unfold val
  rw [hbl]
  simp only [vt,pw]
  grind
 have b1:=vt_bound (f:=lim r) (k:=m) (fun i _=>dr i)
 have b2:=vt_bound (f:=lim b) (k:=m) (fun i _=>hb.digs i)
 have d1:=dr (m+2)
 have d2:=dr (m+1)
 have d3:=dr m
 have d4:=hb.digs (m+1)
 have d5:=hb.digs m
 have t0:0≤top:=by have:=d4.1;have:=d5.1;omega
 have n0:0≤num:=by have:=d1.1;have:=d2.1;have:=d3.1;omega
 have g0:0≤num / (top+1):=Int.ediv_nonneg n0 (by omega)
 refine ⟨g0,?_⟩
 have h1:num / (top+1) * (top+1)≤num:=Int.ediv_mul_le _ (by omega)
 generalize num / (top+1)=g at *
 have h2:y≤(top+1) * pw m:=by rw [e2,Int.add_mul];omega
 have h3:y * g≤((top+1) * pw m) * g:=Int.mul_le_mul_of_nonneg_right h2 g0
 have h4:(g * (top+1)) * pw m≤num * pw m:=Int.mul_le_mul_of_nonneg_right h1 (by omega)
 grind
theorem OwnInts.weak {w:World} {B B':Nat} {v:Value} {l:List Int} (h:OwnInts w B v l) (hb:B'≤B):OwnInts w B' v l:=by
 refine ⟨h.1,?_⟩
 rcases h.2 with hn|⟨g,cap,cur,e,hB,rest⟩
 ·exact .inl hn
 ·exact .inr ⟨g,cap,cur,e,Nat.le_trans hb hB,rest⟩
theorem OwnInts.belowW {w w':World} {B:Nat} {v:Value} {l:List Int} (h:OwnInts w B v l) (hB:Below w.heap.size w w'):OwnInts w' B v l:=by
 refine ⟨h.1,?_⟩
 rcases h.2 with hn|⟨g,cap,cur,e,hb,hg,rest⟩
 ·exact .inl hn
 ·exact .inr ⟨g,cap,cur,e,hb,(hB.block g (Array.getElem?_eq_some_iff.1 hg).1).trans hg,rest⟩
theorem divide6_long {a b:List Int} {x y:Int} (va vb:Value) (w:World) (hva:IsInts w va a) (hvb:IsInts w vb b) (ha:Num a x) (hb:Num b y) (hal:a.length≤400) (hbl:b.length≤400) (h2:2≤b.length) :
  Calls Tryz.prog 179 #[va,vb] w (RetDiv6 (x / y) (x % y) (max a.length b.length) w):=by
 obtain ⟨i0,hi0,hz0,hz1,hz2⟩:=info_parts Tryz.infoInt
 have hy0:0 < y:=by
  have h1:=hb.low (by omega)
  have h2:=pw_pos (b.length - 1)
  omega
 have HVB:=Lib.hid hvb
 obtain ⟨aa,ac,rfl⟩:=hva.slice
 obtain ⟨ba,bc,rfl⟩:=hvb.slice
 obtain ⟨_,_,hca⟩:=hva.cells
 obtain ⟨_,_,hcb⟩:=hvb.cells
 have HCA:=Lib.hid hca
 obtain ⟨bb,bo,rfl,hcellb⟩:=hcb (by omega)
 obtain ⟨m,hm⟩:∃ m,b.length=m+2:=⟨b.length - 2,by omega⟩
 have cb1:=hcellb (b.length - 1) (by omega)
 have cb2:=hcellb (b.length - 2) (by omega)
 have db1:=hb.digs (b.length - 1)
 have db2:=hb.digs (b.length - 2)
 obtain ⟨t1,ht1⟩:∃ t,lim b (b.length - 1)=t:=⟨_,rfl⟩
 obtain ⟨t2,ht2⟩:∃ t,lim b (b.length - 2)=t:=⟨_,rfl⟩
 rw [ht1] at cb1 db1
 rw [ht2] at cb2 db2
 obtain ⟨p1,p2⟩:=db1
 obtain ⟨p3,p4⟩:=db2
 have hl1:((b.length:Int) == 1)=false:=by rw [beq_eq_false_iff_ne];omega
 have hw1:IntKind.i64.wrap ((b.length:Int) - 1)=(b.length:Int) - 1:=IntWalk.i64_in _ (by omega)
 have hw2:IntKind.i64.wrap ((b.length:Int) - 2)=(b.length:Int) - 2:=IntWalk.i64_in _ (by omega)
 have hx1:((b.length:Int) - 1).toNat=b.length - 1:=by omega
 have hx2:((b.length:Int) - 2).toNat=b.length - 2:=by omega
 have y1:(0:Int)≤(b.length:Int) - 1:=by omega
 have y2:(0:Int)≤(b.length:Int) - 2:=by omega
 have y3:(b.length:Int) - 1 < (b.length:Int):=by omega
 have y4:(b.length:Int) - 2 < (b.length:Int):=by omega
 obtain ⟨top,htp⟩:∃ t,t1 * 1000000+t2=t:=⟨_,rfl⟩
 have hw3:IntKind.i64.wrap (t1 * 1000000)=t1 * 1000000:=IntWalk.i64_in _ (by omega)
 have hw4:IntKind.i64.wrap (t1 * 1000000+t2)=top:=by rw [htp];exact IntWalk.i64_in _ (by omega)
 have HTOP:Hid (top=lim b (m+1) * 1000000+lim b m):=Lib.hid (by rw [← htp,← ht1,← ht2,show b.length - 1=m+1 by omega,show b.length - 2=m by omega])
 have htop0:0≤top:=by omega
 have htop1:top≤999999999999:=by omega
 have HM:=Lib.hid hm
 have HA:=Lib.hid ha
 have HB:=Lib.hid hb
 have HY:=Lib.hid hy0
 have hmk:=fun (w:World)=>run_makeI w a.length (by omega) (a.length:Int) rfl
 have hw5:IntKind.i64.wrap ((a.length:Int) - 1)=(a.length:Int) - 1:=IntWalk.i64_in _ (by omega)
 clear ha hb hva hvb hca hcb hcellb hy0 htp ht1 ht2 hm
 go_enter Tryz.func179,Tryz.ntmps179
 go_wp2_with fail
 go_quiet (fail)
 go_wp2_with fail
 have hb0:Below w.heap.size w (((w.drewN nq).alloc (.cells (intVs (zerosL a.length)).toArray 3)).alloc (.cells #[] 3)):=qbl
 have x0:BlkI (((w.drewN nq).alloc (.cells (intVs (zerosL a.length)).toArray 3)).alloc (.cells #[] 3)) w.heap.size (zerosL a.length):=(BlkI.new (X:=w.drewN nq) rfl).below (bw4 (bw0 _ _) _)
 have r0:OwnInts (((w.drewN nq).alloc (.cells (intVs (zerosL a.length)).toArray 3)).alloc (.cells #[] 3)) (w.heap.size+1) (.slice (some ⟨w.heap.size+1,0,none⟩) 0 0) []:=⟨rfl,.inr ⟨w.heap.size+1,0,#[],rfl,Nat.le_refl _,by have h:=World.alloc_heap_new ((w.drewN nq).alloc (.cells (intVs (zerosL a.length)).toArray 3)) (.cells #[] 3);rw [World.size_alloc] at h;exact h,Nat.le_refl _,by unfold maxLen;omega,rfl,rfl⟩⟩
 generalize (((w.drewN nq).alloc (.cells (intVs (zerosL a.length)).toArray 3)).alloc (.cells #[] 3))=W0 at *
 have hS0:=Lib.hid (ShortAt.start a HY.out)
 have hN0:Hid (Num [] 0):=Lib.hid ⟨fun i=>by rw [lim_nil];exact ⟨by omega,by omega⟩,fun h=>absurd rfl h,rfl⟩
 have R0:=Lib.hid r0
 clear cb1 cb2 r0
 go_loopw [9,10] (fun r i wr=>∃ (k:Nat) (q:List Int) (R:Int) (lr:List Int) (g c:Nat),k≤a.length∧i=.int .i64 ((k:Int) - 1)∧r=.slice (some ⟨g,0,none⟩) lr.length c∧Hid (OwnInts wr (w.heap.size+1) (.slice (some ⟨g,0,none⟩) lr.length c) lr)∧Hid (Num lr R)∧BlkI wr w.heap.size q∧Hid (ShortAt a y k q R)∧Below w.heap.size w wr) (fun _ i _=>(intOf i+1).toNat)
 case atStart=>exact ⟨a.length,_,0,[],w.heap.size+1,0,by omega,rfl,rfl,R0,hN0,x0,hS0,hb0⟩
 case round =>
  clear x0 hb0 hS0 hN0 R0
  obtain ⟨k,q,R,lr,g,c,hk,rfl,rfl,hO,hN,hq,hS,hB⟩:=hrel
  have hql:=hS.out.len
  have R0:=hS.out.r0
  have R1':=hS.out.r1
  have hlrb:lr.length≤b.length:=hN.out.length_le (by have:=HB.out.high.2;omega)
  by_cases hk0:k=0
  ·subst hk0
   have hT:=Lib.hid (trim6_ok q (some ⟨w.heap.size,0,none⟩) a.length a.length wr (by have:=hq.is;rwa [hql] at this) (by omega))
   have HQL:=Lib.hid hql
   clear hql
   go_wp2_with fail
   refine hT.out.mono ?_
   rintro e w1 ⟨m1,hm1,rfl,ht1,hl1,rfl⟩
   have HQ:=Lib.hid (And.intro hm1 (And.intro ht1 hl1))
   clear hm1 ht1 hl1
   go_wp2_with fail
   go_ret2
   obtain ⟨hm1,ht1,hl1⟩:=HQ.out
   have hsum:=hS.out.sum
   rw [HA.out.sum] at hsum
   have hv2:R+y * val q=x:=by rw [← hsum];simp [vt,pw]
   obtain ⟨e1,e2⟩:=(Int.ediv_emod_unique (a:=x) (b:=y) (r:=R) (q:=val q) HY.out).2 ⟨hv2,R0,R1'⟩
   refine ⟨q.take m1,_,lr,_,rfl,hq.isTake hm1 HQL.out,hO.out.is,⟨fun i=>by rw [hl1];exact hS.out.digs i,ht1,by rw [val_of_lim hl1,e1]⟩,by rw [e2];exact hN.out,?_,by omega,hB⟩
   rw [List.length_take]
   have:=HQL.out
   omega
  ·obtain ⟨ba',off,rfl,hcell⟩:=HCA.out (by omega)
   obtain ⟨j,rfl⟩:∃ j,k=j+1:=⟨k - 1,by omega⟩
   have hjl:j < a.length:=by omega
   have ck:=keep hB (hcell j hjl)
   have hdj:=HA.out.digs j
   have hst:=hS.out.step hjl hdj
   obtain ⟨aj,haj⟩:∃ t,lim a j=t:=⟨_,rfl⟩
   rw [haj] at ck hdj hst
   obtain ⟨a0,a1⟩:=hdj
   have hj:(((j+1:Nat):Int) - 1)=(j:Int):=by omega
   have hj0:(0:Int)≤(j:Int):=by omega
   have hj1:(j:Int) < (a.length:Int):=by omega
   have hjt:((j:Int)).toNat=j:=by omega
   have hwj:IntKind.i64.wrap ((j:Int) - 1)=(j:Int) - 1:=IntWalk.i64_in _ (by omega)
   have hqz:=hq.lt
   have HSN:Hid ((wr.alloc (.cells #[.int .i64 aj] 3)).ownsRow wr.heap.size 3 1 (.slice (some ⟨wr.heap.size,0,none⟩) 1 1) 1 [.int .i64 aj]):=Lib.hid ⟨rfl,.inr ⟨wr.heap.size,1,#[.int .i64 aj],rfl,Nat.le_refl _,World.alloc_heap_new _ _,Nat.le_refl _,by unfold maxLen;omega,rfl,rfl⟩⟩
   have HNW:Hid (∀ p u,(intVs lr)[p]?=some u→(wr.alloc (.cells #[.int .i64 aj] 3)).cell? ((⟨g,0,none⟩:Addr).add p)=some u):=Lib.hid (fun p u hp=>by
    have hpl:p < lr.length:=by
     have:=(List.getElem?_eq_some_iff.1 hp).1
     rwa [intVs_len] at this
    rw [intVs_get hpl] at hp
    cases hp
    obtain ⟨g',e',_,_,hrow⟩:=hO.out.row (by omega)
    injection e' with e'
    injection e' with e'
    subst e'
    have h9:=keep (bw4 (bw0 _ _) (.cells #[.int .i64 aj] 3)) (hrow.cell hpl)
    have e9:(⟨g,0,none⟩:Addr).add p=⟨g,p,none⟩:=by simp [Addr.add];intro h;omega
    rw [e9]
    exact h9)
   have HON:Hid (∀ u ∈ intVs lr,u.oneCell'=true):=Lib.hid (fun u hu=>by simp [intVs] at hu;obtain ⟨z,_,rfl⟩:=hu;rfl)
   have M1:=Lib.hid (show 1+lr.length≤maxLen by unfold maxLen;omega)
   have M2:=Lib.hid (show (1+lr.length) * 8≤140737488355328 by omega)
   have N4:=Lib.hid (fun (W':World) (h:(wr.alloc (.cells #[.int .i64 aj] 3)).grownBy W' (Value.slice (some ⟨wr.heap.size,0,none⟩) 1 1).ownBlock)=>Below.grown (bw4 (bw0 wr.heap.size wr) (.cells #[.int .i64 aj] 3)) h (by simp) (fun p hp=>by cases hp;exact Nat.le_refl _))
   have HLN:=Lib.hid (intVs_len lr)
   rw [hj]
   have HQL:=Lib.hid hql
   have HST:=Lib.hid hst
   have HBR:=Lib.hid hB
   have HQB:=Lib.hid hq
   clear hcell hql hst hO hB hq hS
   go_wp2_with (at_builtin;refine wpList_append_own _ rfl _ _ 51 rfl wr.heap.size 3 i0 (.int .i64 0) 1 8 Tryz.underlying51 hi0 hz0 hz1 hz2 rfl (by decide) _ _ _ rfl HSN.out ⟨g,0,none⟩ lr.length c (intVs lr) rfl (by rw [HLN.out,Nat.mul_one]) HNW.out HON.out M1.out M2.out (by simp) ?_;intro v' w4 hown0 hgrow hnil;have hb4:=Lib.hid (N4.out _ hgrow);obtain ⟨g0,c0,rfl,hg0⟩:=row_some hown0 (fun h=>by have h9:=(hnil.1 h).1;cases h9);have HOW:=Lib.hid hown0;clear hown0 hgrow hnil)
   have HO2:Hid (OwnInts w4 wr.heap.size (.slice (some ⟨g0,0,none⟩) (1+lr.length) c0) (aj::lr)):=Lib.hid (by
    have h:=HOW.out
    unfold OwnInts
    rw [show (aj::lr).length=1+lr.length by rw [List.length_cons,Nat.add_comm]]
    exact h)
   have HT1:=Lib.hid (trim6_ok (aj::lr) (some ⟨g0,0,none⟩) (1+lr.length) c0 w4 HO2.out.is (by rw [List.length_cons];omega))
   refine HT1.out.mono ?_
   rintro e w5 ⟨m1,hm1,rfl,ht1,hl1,rfl⟩
   obtain ⟨l1,hl1e⟩:∃ l,(aj::lr).take m1=l:=⟨_,rfl⟩
   rw [hl1e] at ht1 hl1
   have hl1l:l1.length=m1:=by rw [← hl1e,List.length_take];omega
   have HN1:Num l1 (R * 1000000+aj):=⟨fun i=>by rw [hl1];exact digs_cons ⟨a0,a1⟩ hN.out.digs i,ht1,by rw [val_of_lim hl1,val_cons,hN.out.sum];omega⟩
   obtain ⟨R1,hR1⟩:∃ t,R * 1000000+aj=t:=⟨_,rfl⟩
   rw [hR1] at HN1 HST
   have HN1:=Lib.hid HN1
   have hR10:0≤R1:=by omega
   have hR11:R1 < 1000000 * y:=by omega
   have hl1b:l1.length≤b.length+1:=HN1.out.length_le (by show R1 < 1000000 * pw b.length;have:=HB.out.high.2;omega)
   have HO3:Hid (OwnInts w5 wr.heap.size (.slice (some ⟨g0,0,none⟩) m1 c0) l1):=Lib.hid (by have:=HO2.out.take' m1 hm1;rwa [hl1e] at this)
   have LI:Hid (IsInts w5 (.slice (some ⟨g0,0,none⟩) m1 c0) l1):=Lib.hid HO3.out.is
   have L0:=Lib.hid (limb6_ok l1 _ b.length w5 LI.out (by omega))
   have L1:=limb6_ok l1 _ (b.length - 1) w5 LI.out (by omega)
   have L2:=limb6_ok l1 _ (b.length - 2) w5 LI.out (by omega)
   rw [show ((b.length - 1:Nat):Int)=(b.length:Int) - 1 by omega] at L1
   rw [show ((b.length - 2:Nat):Int)=(b.length:Int) - 2 by omega] at L2
   have L1:=Lib.hid L1
   have L2:=Lib.hid L2
   have dg0:=HN1.out.digs b.length
   have dg1:=HN1.out.digs (b.length - 1)
   have dg2:=HN1.out.digs (b.length - 2)
   have hes:=est6 (r:=l1) (b:=b) (R:=R1) (y:=y) (num:=(lim l1 b.length * 1000000+lim l1 (b.length - 1)) * 1000000+lim l1 (b.length - 2)) (top:=top) (m:=m) HN1.out.digs HN1.out.sum (by have:=HM.out;omega) HB.out HM.out (by rw [HM.out];rfl) HTOP.out
   obtain ⟨u0,hu0⟩:∃ t,lim l1 b.length=t:=⟨_,rfl⟩
   obtain ⟨u1,hu1⟩:∃ t,lim l1 (b.length - 1)=t:=⟨_,rfl⟩
   obtain ⟨u2,hu2⟩:∃ t,lim l1 (b.length - 2)=t:=⟨_,rfl⟩
   rw [hu0] at L0 dg0 hes
   rw [hu1] at L1 dg1 hes
   rw [hu2] at L2 dg2 hes
   obtain ⟨v0,v1⟩:=dg0
   obtain ⟨v2,v3⟩:=dg1
   obtain ⟨v4,v5⟩:=dg2
   obtain ⟨num,hnum⟩:∃ t,(u0 * 1000000+u1) * 1000000+u2=t:=⟨_,rfl⟩
   rw [hnum] at hes
   have hww1:IntKind.i64.wrap (u0 * 1000000)=u0 * 1000000:=IntWalk.i64_in _ (by omega)
   have hww2:IntKind.i64.wrap (u0 * 1000000+u1)=u0 * 1000000+u1:=IntWalk.i64_in _ (by omega)
   have hww3:IntKind.i64.wrap ((u0 * 1000000+u1) * 1000000)=(u0 * 1000000+u1) * 1000000:=IntWalk.i64_in _ (by omega)
   have hww4:IntKind.i64.wrap ((u0 * 1000000+u1) * 1000000+u2)=num:=by rw [hnum];exact IntWalk.i64_in _ (by omega)
   have hww5:IntKind.i64.wrap (top+1)=top+1:=IntWalk.i64_in _ (by omega)
   have hnum0:0≤num:=by omega
   have hdv:num.tdiv (top+1)=num / (top+1):=Int.tdiv_eq_ediv_of_nonneg hnum0
   have htz:¬ top+1=0:=by omega
   have htzb:(top+1 == 0)=false:=by simp [htz]
   obtain ⟨gq,hgq⟩:∃ t,num / (top+1)=t:=⟨_,rfl⟩
   rw [hgq] at hes hdv
   obtain ⟨g1,g2⟩:=hes
   have g3:gq≤999999:=by
    refine Decidable.byContradiction fun hc=>?_
    have h9:y * 1000000≤y * gq:=Int.mul_le_mul_of_nonneg_left (by omega) (by have:=HY.out;omega)
    omega
   have hww6:IntKind.i64.wrap gq=gq:=IntWalk.i64_in _ (by omega)
   have HQ2:=Lib.hid ((HQB.out.below hb4.out))
   have hB5:=Lib.hid (HBR.out.trans (hb4.out.mono HBR.out.size))
   have hz5:=Lib.hid (hb4.out.size)
   have HG2:=Lib.hid g2
   have HR1:=Lib.hid hR1
   clear hl1e ht1 hl1 hm1 HO2 HT1 HOW HSN HNW hnum hgq hu0 hu1 hu2 hR1 g2
   go_wp2_with fail
   refine L0.out.mono ?_
   rintro e w6 ⟨rfl,rfl⟩
   go_wp2_with fail
   refine L1.out.mono ?_
   rintro e w7 ⟨rfl,rfl⟩
   go_wp2_with fail
   refine L2.out.mono ?_
   rintro e w8 ⟨rfl,rfl⟩
   have hNG:NumW [gq] gq:=⟨fun i=>by
    cases i with
    | zero=>exact ⟨g1,g3⟩
    | succ i=>rw [lim_out (by simp)];exact ⟨by omega,by omega⟩,by show 0+gq * 1=gq;omega⟩
   have HTM:=Lib.hid (times6_ok (b:=[gq]) _ _ (w8.alloc (.cells #[.int .i64 gq] 3)) (HVB.out.below (bw4 hB5.out _)) (BlkI.new (X:=w8) (l:=[gq]) rfl).is HB.out.w hNG (by omega) (by simp))
   have hBx:=Lib.hid (bw4 (bw0 w8.heap.size w8) (.cells #[.int .i64 gq] 3))
   clear hNG L0 L1 L2
   go_wp2_with fail
   refine HTM.out.mono ?_
   rintro e w9 ⟨lt,mt,gt,ct,hmt,rfl,hot,hnt,hmk2,hB9⟩
   subst mt
   have hB89:=Lib.hid (below_trans' hBx.out hB9)
   have HMI:=Lib.hid (minus6_ok _ _ w9 (LI.out.below hB89.out) hot.is HN1.out hnt (by omega) (by simp at hmk2;omega) HG2.out)
   clear hot hnt hB9 HTM
   go_wp2_with fail
   refine HMI.out.mono ?_
   rintro e wa ⟨l2,m2,gg,cc,hm2,rfl,ho2,hn2,hk2,hBa⟩
   subst m2
   have hBwa:=Lib.hid (hB5.out.trans ((below_trans' hB89.out hBa).mono hB5.out.size))
   have HO4:Hid (OwnInts wa (w.heap.size+1) (.slice (some ⟨gg,0,none⟩) l2.length cc) l2):=Lib.hid (OwnInts.weak ho2 (by have:=hz5.out;have:=hB89.out.size;omega))
   have HN4:=Lib.hid hn2
   have HQ4:=Lib.hid (HQ2.out.below (below_trans' hB89.out hBa))
   have hR20:0≤R1 - y * gq:=by have:=HG2.out;omega
   have hl2b:l2.length≤b.length+1:=by omega
   have HSM:Hid (y * gq+(R1 - y * gq)=R1):=Lib.hid (by omega)
   clear ho2 hn2 hBa HMI
   go_wp2_with fail
   go_loopg [9,11] ((R1 - y * gq).toNat) (fun gh r gv wr=>∃ (R' gq:Int) (l2:List Int) (gg cc:Nat),gh=R'.toNat∧r=.slice (some ⟨gg,0,none⟩) l2.length cc∧gv=.int .i64 gq∧0≤gq∧gq≤999999∧0≤R'∧Hid (y * gq+R'=R1)∧Hid (OwnInts wr (w.heap.size+1) (.slice (some ⟨gg,0,none⟩) l2.length cc) l2)∧Hid (Num l2 R')∧l2.length≤b.length+1∧Hid (BlkI wr w.heap.size q)∧Hid (Below w.heap.size w wr))
   case atStart=>exact ⟨_,gq,l2,gg,cc,rfl,rfl,rfl,g1,g3,hR20,HSM,HO4,HN4,hl2b,HQ4,hBwa⟩
   case round =>
    clear hR20 hl2b HSM HO4 HN4 HQ4 hBwa g1 g3
    obtain ⟨R',gq,l2,gg,cc,rfl,rfl,rfl,g1,g3,r20,HSM,HO4,HN4,hl2b,HQ4,HB4⟩:=hrel
    have HSZ:=Lib.hid (size6_ok _ _ wr HO4.out.is (HVB.out.below HB4.out) HN4.out HB.out (by omega) (by omega))
    have hyp:=HY.out
    go_wp2_with fail
    refine HSZ.out.mono ?_
    rintro e wb ⟨rs,rfl,hrs1,hrs2,hBb⟩
    have HB5':=Lib.hid (HB4.out.trans (hBb.mono HB4.out.size))
    have HO5:=Lib.hid (OwnInts.belowW HO4.out hBb)
    have HQ5:=Lib.hid (HQ4.out.below hBb)
    by_cases hge:y≤R'
    ·have hrs:(0:Int)≤rs:=by
      refine Decidable.byContradiction fun hc=>?_
      have:=hrs1.1 (by omega)
      omega
     have HMI:=Lib.hid (minus6_ok _ _ wb HO5.out.is (HVB.out.below HB5'.out) HN4.out HB.out (by omega) (by omega) hge)
     have HSM2:Hid (y * (gq+1)+(R' - y)=R1):=Lib.hid (by have:=HSM.out;rw [Int.mul_add,Int.mul_one];omega)
     have g4:gq+1≤999999:=by
      refine Decidable.byContradiction fun hc=>?_
      have h9:y * 1000000≤y * (gq+1):=Int.mul_le_mul_of_nonneg_left (by omega) (by omega)
      have:=HSM2.out
      omega
     have hwg:IntKind.i64.wrap (gq+1)=gq+1:=IntWalk.i64_in _ (by omega)
     clear hrs1 hrs2 hBb
     go_wp2_with fail
     refine HMI.out.mono ?_
     rintro e wc ⟨l3,m3,g3',c3,hm3,rfl,ho3,hn3,hk3,hBc⟩
     subst m3
     have HB6:=Lib.hid (HB5'.out.trans (hBc.mono HB5'.out.size))
     have HO6:Hid (OwnInts wc (w.heap.size+1) (.slice (some ⟨g3',0,none⟩) l3.length c3) l3):=Lib.hid (OwnInts.weak ho3 (by have:=HQ5.out.lt;omega))
     have HN6:=Lib.hid hn3
     have HQ6:=Lib.hid (HQ5.out.below hBc)
     clear ho3 hn3 hBc
     go_wp2_with fail
     go_roundg ((R' - y).toNat)
     case rel=>exact ⟨R' - y,gq+1,l3,g3',c3,rfl,rfl,rfl,by omega,g4,by omega,HSM2,HO6,HN6,by omega,HQ6,HB6⟩
     case measure=>omega
    ·have hrs:¬ (0:Int)≤rs:=by
      have:=hrs1.2 (by omega)
      omega
     have hql:=HQL.out
     have hjq:j < q.length:=by omega
     have f1:=HQ5.out.cell hjq
     have fr1:=HQ5.out.frozen j
     obtain ⟨e1,e2⟩:=(Int.ediv_emod_unique (a:=R1) (b:=y) (r:=R') (q:=gq) hyp).2 ⟨by have:=HSM.out;omega,r20,by omega⟩
     have HST2:Hid (ShortAt a y j (q.set j gq) R'):=Lib.hid (by have:=HST.out;rwa [e1,e2] at this)
     clear hrs1 hrs2 hBb hql e1 e2
     go_wp2_with fail
     have hSb:=sameBut_setCell wb w.heap.size j (.int .i64 gq)
     have hqs:=HQ5.out.set j gq
     have hB7:=hSb.below HB5'.out (Nat.le_refl _)
     have HO7:=Lib.hid (HO5.out.but hSb (by omega))
     go_roundw
     case rel=>exact ⟨j,_,R',l2,gg,cc,by omega,by go_num,rfl,HO7,HN4,hqs,HST2,hB7⟩
     case measure=>simp [intOf]
end Go.Proofs.YteepphiomcedfaaGreatDoor.R6
namespace Go.Proofs.YteepphiomcedfaaGreatDoor.R6
open Go.RowKit Go.Shelf
theorem dec_pos {s:ByteArray} {n:Nat} (h:s.data.toList=Lib.decDigits n):1≤s.size:=by
 have e:s.size=s.data.toList.length:=rfl
 have:=List.length_pos_iff.2 (decDigits_ne n)
 rw [e,h];omega
theorem dec_dig {s:ByteArray} {n k:Nat} (h:s.data.toList=Lib.decDigits n) (hk:k < s.size):(48:Int)≤(s[k].toNat:Int)∧(s[k].toNat:Int)≤57:=by
 have hm:s[k] ∈ s.data.toList:=List.getElem_mem (l:=s.data.toList) (n:=k) hk
 rw [h] at hm
 have:=(isDig_iff _).1 (decDigits_isDig n _ hm)
 omega
theorem dec_lead {s:ByteArray} {n:Nat} (h:s.data.toList=Lib.decDigits n) (h0:0 < s.size) (h1:1 < s.size):((s[0].toNat:Int) == 48)=false:=by
 cases hc:((s[0].toNat:Int) == 48)
 ·rfl
 ·have h2:=headq h0 hc
  rw [h] at h2
  exact absurd h2 (decDigits_head n (by rw [← h];exact h1))
theorem dec_no45 {s:ByteArray} {n k:Nat} (h:s.data.toList=Lib.decDigits n) (hk:k < s.size):((s[k].toNat:Int) == 45)=false:=by
 have:=dec_dig h hk
 rw [beq_eq_false_iff_ne];omega
theorem check6_ok {n:Nat} (s:ByteArray) (w:World) (hs:s.data.toList=Lib.decDigits n) (hl:s.size≤300):Calls Tryz.prog 230 #[.string s] w fun e w'=>e=.returned (.int .i64 0)∧w'=w:=by
 have z1:=dec_pos hs
 have h0:(0:Int) < (s.size:Int):=by omega
 have hz:((0:Int) == (s.size:Int))=false:=by rw [beq_eq_false_iff_ne];omega
 have h45:=dec_no45 hs (show 0 < s.size by omega)
 have HS:=Lib.hid (fun k hk=>dec_dig (k:=k) hs hk)
 have hw0:IntKind.i64.wrap ((s.size:Int) - 0)=(s.size:Int):=by rw [Int.sub_zero];exact IntWalk.i64_in _ (by omega)
 have hl2:¬ (300:Int) < (s.size:Int):=by omega
 have hlead:Hid (1 < s.size→((s[0].toNat:Int) == 48)=false):=Lib.hid (fun h=>dec_lead hs (by omega) h)
 clear hs
 by_cases h1:1 < s.size
 ·have h1':(1:Int) < (s.size:Int):=by omega
  have h48:=hlead.out h1
  go_enter Tryz.func230,Tryz.ntmps230
  go_wp2_with fail
  go_loopw [4] (fun i wr=>∃ k:Nat,k≤s.size∧i=.int .i64 k∧wr=w) (fun i _=>s.size - (intOf i).toNat)
  case atStart=>exact ⟨0,by omega,rfl,rfl⟩
  case round =>
   obtain ⟨k,hk,rfl,hwr⟩:=hrel
   subst wr
   by_cases hlt:k < s.size
   ·obtain ⟨d1,d2⟩:=HS.out k hlt
    go_wp2_with fail
    go_roundw
    case rel=>exact ⟨k+1,by omega,by go_num,by trivial⟩
    case measure=>simp [intOf];omega
   ·go_wp2_with fail
    go_ret
    exact ⟨rfl,rfl⟩
 ·have h1':¬ (1:Int) < (s.size:Int):=by omega
  cases h48:((s[0].toNat:Int) == 48)
  ·go_enter Tryz.func230,Tryz.ntmps230
   go_wp2_with fail
   go_loopw [4] (fun i wr=>∃ k:Nat,k≤s.size∧i=.int .i64 k∧wr=w) (fun i _=>s.size - (intOf i).toNat)
   case atStart=>exact ⟨0,by omega,rfl,rfl⟩
   case round =>
    obtain ⟨k,hk,rfl,hwr⟩:=hrel
    subst wr
    by_cases hlt:k < s.size
    ·obtain ⟨d1,d2⟩:=HS.out k hlt
     go_wp2_with fail
     go_roundw
     case rel=>exact ⟨k+1,by omega,by go_num,by trivial⟩
     case measure=>simp [intOf];omega
    ·go_wp2_with fail
     go_ret
     exact ⟨rfl,rfl⟩
  ·go_enter Tryz.func230,Tryz.ntmps230
   go_wp2_with fail
   go_loopw [4] (fun i wr=>∃ k:Nat,k≤s.size∧i=.int .i64 k∧wr=w) (fun i _=>s.size - (intOf i).toNat)
   case atStart=>exact ⟨0,by omega,rfl,rfl⟩
   case round =>
    obtain ⟨k,hk,rfl,hwr⟩:=hrel
    subst wr
    by_cases hlt:k < s.size
    ·obtain ⟨d1,d2⟩:=HS.out k hlt
     go_wp2_with fail
     go_roundw
     case rel=>exact ⟨k+1,by omega,by go_num,by trivial⟩
     case measure=>simp [intOf];omega
    ·go_wp2_with fail
     go_ret
     exact ⟨rfl,rfl⟩
theorem both6_ok {n m:Nat} (s t:ByteArray) (w:World) (hs:s.data.toList=Lib.decDigits n) (hl:s.size≤300) (ht:t.data.toList=Lib.decDigits m) (hm:t.size≤300):Calls Tryz.prog 176 #[.string s,.string t] w fun e w'=>e=.returned (.int .i64 0)∧w'=w:=by
 have H1:=Lib.hid (fun W=>check6_ok s W hs hl)
 have H2:=Lib.hid (fun W=>check6_ok t W ht hm)
 clear hs ht
 go_enter Tryz.func176,Tryz.ntmps176
 go_wp2_with fail
 refine (H1.out _).mono ?_
 rintro e w1 ⟨rfl,rfl⟩
 go_wp2_with fail
 refine (H2.out _).mono ?_
 rintro e w2 ⟨rfl,rfl⟩
 go_wp2_with fail
 go_ret
 exact ⟨rfl,rfl⟩
theorem dec_val_lt {s:ByteArray} {n k:Nat} (hs:s.data.toList=Lib.decDigits n) (hk:k≤s.size):dval (s.data.toList.take k) < 10 ^ k:=dval_take_lt s.data.toList k (by
 have e:=nDig_append (l:=Lib.decDigits n) (r:=[]) (decDigits_isDig n) (Or.inl rfl)
 rw [List.append_nil,← hs] at e
 rw [e];exact hk)
theorem small6_ok {n:Nat} (s:ByteArray) (w:World) (hs:s.data.toList=Lib.decDigits n) (hl:s.size≤17):Calls Tryz.prog 231 #[.string s] w fun e w'=>e=.returned (.tuple #[.int .i64 n,.bool true])∧w'=w:=by
 have z1:=dec_pos hs
 have HS:=Lib.hid (fun k hk=>dec_dig (k:=k) hs hk)
 have h0:(0:Int) < (s.size:Int):=by omega
 have h45:=dec_no45 hs (show 0 < s.size by omega)
 have H45:=Lib.hid (fun k hk=>dec_no45 (k:=k) hs hk)
 have HV:=Lib.hid (show dval (s.data.toList.take s.size)=n by rw [List.take_of_length_le (show s.data.toList.length≤s.size from Nat.le_refl _),hs,dval_decDigits])
 have HB:=Lib.hid (fun k (hk:k≤s.size)=>(show dval (s.data.toList.take k) < 10 ^ 17 from Nat.lt_of_lt_of_le (dec_val_lt hs hk) (Nat.pow_le_pow_right (by omega) (by omega))))
 have hl2:¬ (17:Int) < (s.size:Int):=by omega
 clear hs
 go_enter Tryz.func231,Tryz.ntmps231
 go_wp2_with fail
 go_loopw [4,5] (fun n i wr=>∃ k:Nat,k≤s.size∧i=.int .i64 k∧n=.int .i64 (dval (s.data.toList.take k):Nat)∧wr=w) (fun _ i _=>s.size - (intOf i).toNat)
 case atStart=>exact ⟨0,by omega,rfl,rfl,rfl⟩
 case round =>
  obtain ⟨k,hk,rfl,rfl,hwr⟩:=hrel
  subst wr
  by_cases hlt:k < s.size
  ·obtain ⟨d1,d2⟩:=HS.out k hlt
   have hne:((s[k].toNat:Int) != 45)=true:=by have:=H45.out k hlt;simp only [bne,this];rfl
   have hv:=HB.out k hk
   have hv8:(dval (s.data.toList.take k):Int)≤100000000000000000:=by omega
   have HVS:=Lib.hid (dval_snoc (s.data.toList.take k) s[k])
   clear hv
   go_wp2_with fail
   go_roundw
   case rel=>exact ⟨k+1,by omega,by go_num,ret_i64 (by rw [List.take_succ_eq_append_getElem hlt];have:=HVS.out;have e:s.data.toList[k]=s[k]:=rfl;rw [e];omega),by trivial⟩
   case measure=>simp [intOf];omega
  ·have e:k=s.size:=by omega
   subst e
   rw [HV.out]
   go_wp2_with fail
   go_ret2
   exact ⟨rfl,rfl⟩
theorem small6_long (s:ByteArray) (w:World) (hl:17 < s.size):Calls Tryz.prog 231 #[.string s] w fun e w'=>e=.returned (.tuple #[.int .i64 0,.bool false])∧w'=w:=by
 have h1:(17:Int) < (s.size:Int):=by omega
 go_enter Tryz.func231,Tryz.ntmps231
 go_wp2_with fail
 go_ret2
 exact ⟨rfl,rfl⟩
theorem two6_ok {n m:Nat} (s t:ByteArray) (w:World) (hs:s.data.toList=Lib.decDigits n) (hl:s.size≤17) (ht:t.data.toList=Lib.decDigits m) (hm:t.size≤17):Calls Tryz.prog 177 #[.string s,.string t] w fun e w'=>e=.returned (.tuple #[.int .i64 n,.int .i64 m,.bool true])∧w'=w:=by
 have H1:=Lib.hid (fun W=>small6_ok s W hs hl)
 have H2:=Lib.hid (fun W=>small6_ok t W ht hm)
 clear hs ht
 go_enter Tryz.func177,Tryz.ntmps177
 go_wp2_with fail
 refine (H1.out _).mono ?_
 rintro e w1 ⟨rfl,rfl⟩
 go_wp2_with fail
 refine (H2.out _).mono ?_
 rintro e w2 ⟨rfl,rfl⟩
 go_wp2_with fail
 go_ret3
 exact ⟨rfl,rfl⟩
theorem two6_long {n:Nat} (s t:ByteArray) (w:World) (hs:s.data.toList=Lib.decDigits n) (h:17 < s.size∨(s.size≤17∧17 < t.size)):Calls Tryz.prog 177 #[.string s,.string t] w fun e w'=>(∃ a b:Int,e=.returned (.tuple #[.int .i64 a,.int .i64 b,.bool false]))∧w'=w:=by
 rcases h with h|⟨h1,h2⟩
 ·have H1:=Lib.hid (fun W=>small6_long s W h)
  clear hs
  go_enter Tryz.func177,Tryz.ntmps177
  go_wp2_with fail
  refine (H1.out _).mono ?_
  rintro e w1 ⟨rfl,rfl⟩
  go_wp2_with fail
  go_ret3
  exact ⟨⟨0,0,rfl⟩,rfl⟩
 ·have H1:=Lib.hid (fun W=>small6_ok s W hs h1)
  have H2:=Lib.hid (fun W=>small6_long t W h2)
  clear hs
  go_enter Tryz.func177,Tryz.ntmps177
  go_wp2_with fail
  refine (H1.out _).mono ?_
  rintro e w1 ⟨rfl,rfl⟩
  go_wp2_with fail
  refine (H2.out _).mono ?_
  rintro e w2 ⟨rfl,rfl⟩
  go_wp2_with fail
  go_ret3
  exact ⟨⟨_,0,rfl⟩,rfl⟩
theorem divide6_ok {a b:List Int} {x y:Int} (va vb:Value) (w:World) (hva:IsInts w va a) (hvb:IsInts w vb b) (ha:Num a x) (hb:Num b y) (hal:a.length≤400) (hbl:b.length≤400) (hy:0 < y) :
  Calls Tryz.prog 179 #[va,vb] w (RetDiv6 (x / y) (x % y) (max a.length b.length) w):=by
 have hb0:b.length≠0:=fun h=>by have:=hb.zero.1 h;omega
 by_cases h1:b.length=1
 ·have hyl:lim b 0=y:=by
   have:=hb.sum
   unfold val at this
   rw [h1] at this
   simpa [vt,pw] using this
  have hd:=hb.digs 0
  rw [hyl] at hd
  have HSH:=Lib.hid (fun W (hB:Below w.heap.size w W)=>short6_ok (d:=y) va W (hva.below hB) ha (by omega) (by omega) hd.2)
  obtain ⟨aa,ac,rfl⟩:=hva.slice
  obtain ⟨ba,bc,rfl⟩:=hvb.slice
  obtain ⟨_,_,hcb⟩:=hvb.cells
  obtain ⟨bb,bo,rfl,hcell⟩:=hcb (by omega)
  have cb:=hcell 0 (by omega)
  rw [hyl,Nat.add_zero] at cb
  have hl1:((b.length:Int) == 1)=true:=by rw [h1];rfl
  have hl2:(0:Int) < (b.length:Int):=by omega
  have HB1:=Lib.hid h1
  clear hva hvb ha hb hcb hcell h1 hyl
  go_enter Tryz.func179,Tryz.ntmps179
  go_wp2_with fail
  refine (HSH.out _ qbl).mono ?_
  rintro e w1 ⟨lq,vq,lr,vr,rfl,iq,ir,nq,nr,kq,kr,hB⟩
  have HR:=Lib.hid (And.intro iq (And.intro ir (And.intro nq (And.intro nr (And.intro kq (And.intro kr hB))))))
  clear iq ir nq nr kq kr hB
  go_wp2_with fail
  go_ret2
  obtain ⟨iq,ir,nq,nr,kq,kr,hB⟩:=HR.out
  have:=HB1.out
  exact ⟨lq,vq,lr,vr,rfl,iq,ir,nq,nr,by omega,by omega,qbl⟩
 ·exact divide6_long va vb w hva hvb ha hb hal hbl (by omega)
end Go.Proofs.YteepphiomcedfaaGreatDoor.R6
namespace Go.Proofs.YteepphiomcedfaaGreatDoor.R6
open Go.RowKit Go.Shelf
def BoxB (W:World) (b:Nat) (x y:Value):Prop:=W.heap[b]?=some (.cells #[x,y] 181 (0,0))
theorem BoxB.lt {W:World} {b:Nat} {x y:Value} (h:BoxB W b x y):b < W.heap.size:=(Array.getElem?_eq_some_iff.1 h).1
theorem BoxB.below {w w':World} {b:Nat} {x y:Value} (h:BoxB w b x y) (hB:Below w.heap.size w w'):BoxB w' b x y:=(hB.block b h.lt).trans h
theorem BoxB.but {W W':World} {b c:Nat} {x y:Value} (h:BoxB W b x y) (hs:SameBut c W W') (hne:b≠c):BoxB W' b x y:=(hs.block b hne).trans h
theorem BoxB.c0 {W:World} {b:Nat} {x y:Value} (h:BoxB W b x y):W.cell? ⟨b,0,none⟩=some x:=by simp only [World.cell?,show W.heap[b]?=_ from h];rfl
theorem BoxB.c1 {W:World} {b:Nat} {x y:Value} (h:BoxB W b x y):W.cell? ⟨b,1,none⟩=some y:=by simp only [World.cell?,show W.heap[b]?=_ from h];rfl
theorem BoxB.f {W:World} {b:Nat} {x y:Value} (h:BoxB W b x y) (k:Nat):W.frozen? ⟨b,k,none⟩=false:=by simp [World.frozen?,show W.heap[b]?=_ from h]
theorem BoxB.set0 {W:World} {b:Nat} {x y:Value} (h:BoxB W b x y) (x':Value):BoxB (W.setCell ⟨b,0,none⟩ x') b x' y:=heap_setCell_at h
theorem BoxB.set1 {W:World} {b:Nat} {x y:Value} (h:BoxB W b x y) (y':Value):BoxB (W.setCell ⟨b,1,none⟩ y') b x y':=heap_setCell_at h
theorem BoxB.new {X:World} {n:Nat} {x y:Value} (h:X.heap.size=n):BoxB (X.alloc (.cells #[x,y] 181)) n x y:=by subst h;exact World.alloc_heap_new _ _
theorem dval_append (a b:List UInt8):dval (a++b)=dval a * 10 ^ b.length+dval b:=by
 show (a++b).foldl _ 0=_
 rw [List.foldl_append,foldl_dval]
 rfl
theorem pw_six (j:Nat):pw j=((10 ^ (6 * j):Nat):Int):=by
 induction j with
 | zero=>rfl
 | succ j ih =>
  have e:(10:Nat) ^ (6 * (j+1))=1000000 * 10 ^ (6 * j):=by
   rw [show 6 * (j+1)=6 * j+6 by omega,Nat.pow_add,Nat.mul_comm]
  rw [pw,ih,e,Int.natCast_mul]
  rfl
structure GroupAt (s:List UInt8) (k:Nat) (l:List Int):Prop where
 len:l.length=k
 digs:Digs l
 sum:val l=(dval (s.drop (s.length - 6 * k)):Int)
theorem GroupAt.start (s:List UInt8):GroupAt s 0 []:=⟨rfl,fun i=>by rw [lim_nil];exact ⟨by omega,by omega⟩,by simp;rfl⟩
theorem val_snoc (l:List Int) (x:Int):val (l++[x])=val l+x * pw l.length:=by
 unfold val
 rw [List.length_append,List.length_singleton,vt,lim_snoc]
 congr 1
 exact vt_congr fun i hi=>lim_snoc_lt hi
theorem GroupAt.step {s:List UInt8} {k:Nat} {l:List Int} (h:GroupAt s k l) (hk:6 * k < s.length) (hd:nDig s=s.length) :
  dval ((s.drop (s.length - 6 * k - 6)).take (s.length - 6 * k - (s.length - 6 * k - 6)))≤999999∧GroupAt s (k+1) (l++[(dval ((s.drop (s.length - 6 * k - 6)).take (s.length - 6 * k - (s.length - 6 * k - 6))):Int)]):=by
 obtain ⟨en,hen⟩:∃ en,s.length - 6 * k=en:=⟨_,rfl⟩
 rw [hen]
 have hall:∀ c ∈ s,isDig c=true:=by
  have h1:=takeWhile_all s
  have h2:s.takeWhile isDig=s:=List.IsPrefix.eq_of_length (List.takeWhile_prefix _) hd
  rwa [h2] at h1
 have hsub:∀ c ∈ (s.drop (en - 6)).take (en - (en - 6)),isDig c=true:=fun c hc=>hall c (List.mem_of_mem_drop (List.mem_of_mem_take hc))
 have hnd:∀ t:List UInt8,(∀ c ∈ t,isDig c=true)→nDig t=t.length:=fun t ht=>by
  have:=nDig_append (l:=t) (r:=[]) ht (Or.inl rfl)
  rwa [List.append_nil] at this
 have hg:dval ((s.drop (en - 6)).take (en - (en - 6))) < 10 ^ 6:=by
  have h1:=dval_take_lt ((s.drop (en - 6)).take (en - (en - 6))) _ (Nat.le_of_eq (hnd _ hsub).symm)
  rw [List.take_length] at h1
  refine Nat.lt_of_lt_of_le h1 (Nat.pow_le_pow_right (by omega) ?_)
  rw [List.length_take];omega
 have hspl:s.drop (en - 6)=(s.drop (en - 6)).take (en - (en - 6))++s.drop en:=by
  conv=>lhs;rw [← List.take_append_drop (en - (en - 6)) (s.drop (en - 6))]
  rw [List.drop_drop]
  congr 2
  omega
 refine ⟨by omega,by rw [List.length_append,h.len];rfl,?_,?_⟩
 ·refine digs_of fun i hi=>?_
  by_cases h1:i < l.length
  ·rw [lim_snoc_lt h1];exact h.digs i
  ·have:i=l.length:=by rw [List.length_append] at hi;simp only [List.length_singleton] at hi;omega
   rw [this,lim_snoc]
   exact ⟨by omega,by omega⟩
 ·rw [val_snoc,h.sum,hen,show s.length - 6 * (k+1)=en - 6 by omega,h.len,pw_six]
  conv=>rhs;rw [hspl]
  rw [dval_append,List.length_drop,show s.length - en=6 * k by omega]
  rw [Int.natCast_add,Int.natCast_mul]
  omega
def IsBig6 (w:World) (v:Value) (n:Int) (k:Nat):Prop:=∃ (a:Option Addr) (l:List Int) (c:Nat),v=.agg #[.bool false,.slice a l.length c]∧IsInts w (.slice a l.length c) l∧Num l n∧l.length≤k
theorem read6_ok {n:Nat} (s:ByteArray) (w:World) (hs:s.data.toList=Lib.decDigits n) (hl:s.size≤400) :
  Calls Tryz.prog 178 #[.string s] w fun e w'=>∃ v,e=.returned v∧IsBig6 w' v n ((s.size+5) / 6)∧Below w.heap.size w w':=by
 obtain ⟨i0,hi0,hz0,hz1,hz2⟩:=info_parts Tryz.infoInt
 have z1:=dec_pos hs
 have h0:(0:Int) < (s.size:Int):=by omega
 have h45:=dec_no45 hs (show 0 < s.size by omega)
 have HS:=Lib.hid (fun k hk=>dec_dig (k:=k) hs hk)
 have HND:Hid (nDig s.data.toList=s.data.toList.length):=Lib.hid (by
  have e:=nDig_append (l:=Lib.decDigits n) (r:=[]) (decDigits_isDig n) (Or.inl rfl)
  rw [List.append_nil,← hs] at e
  exact e)
 have HDV:=Lib.hid (show dval s.data.toList=n by rw [hs,dval_decDigits])
 clear hs
 go_enter Tryz.func178,Tryz.ntmps178
 go_wp2_with fail
 have hb0:Below w.heap.size w ((w.alloc (.cells #[.bool false,.slice none 0 0] 181)).alloc (.cells #[.bool false,.slice none 0 0] 181)):=qbl
 have x0:BoxB ((w.alloc (.cells #[.bool false,.slice none 0 0] 181)).alloc (.cells #[.bool false,.slice none 0 0] 181)) w.heap.size (.bool false) (.slice none 0 0):=(BoxB.new rfl).below (bw4 (bw0 _ _) _)
 have x1:BoxB ((w.alloc (.cells #[.bool false,.slice none 0 0] 181)).alloc (.cells #[.bool false,.slice none 0 0] 181)) (w.heap.size+1) (.bool false) (.slice none 0 0):=BoxB.new (by simp)
 generalize ((w.alloc (.cells #[.bool false,.slice none 0 0] 181)).alloc (.cells #[.bool false,.slice none 0 0] 181))=W0 at *
 go_loopw [4] (fun en wr=>∃ (k:Nat) (e:Int) (l:List Int) (sa:Option Addr) (sc:Nat),en=.int .i64 e∧Hid (e=(s.size:Int) - 6 * k)∧6 * k≤s.size+5∧Hid (GroupAt s.data.toList k l)∧BoxB wr w.heap.size (.bool false) (.slice none 0 0)∧BoxB wr (w.heap.size+1) (.bool false) (.slice sa k sc)∧Hid (OwnInts wr (w.heap.size+2) (.slice sa k sc) l)∧Below w.heap.size w wr) (fun en _=>(intOf en+6).toNat)
 case atStart=>exact ⟨0,_,[],none,0,rfl,Lib.hid (by omega),by omega,Lib.hid (GroupAt.start _),x0,x1,Lib.hid (World.ownsRow_nil _ _ _ _),hb0⟩
 case round =>
  clear x0 x1 hb0
  obtain ⟨k,e,l,sa,sc,rfl,HE,hk,HGA,x0,x1,HO,hB⟩:=hrel
  by_cases hgo:0 < e
  ·obtain ⟨E,rfl⟩:∃ E:Nat,e=E:=⟨e.toNat,by omega⟩
   have hE:=HE.out
   obtain ⟨st,hst⟩:∃ st:Nat,E - 6=st:=⟨_,rfl⟩
   have hst1:st≤E:=by omega
   have hE1:E≤s.size:=by omega
   have HEN:Hid (E=s.size - 6 * k∧st=s.size - 6 * k - 6):=Lib.hid (by omega)
   have hw1:IntKind.i64.wrap ((E:Int) - 6)=(E:Int) - 6:=IntWalk.i64_in _ (by omega)
   have hmx:max (0:Int) ((E:Int) - 6)=(st:Int):=by omega
   obtain ⟨hg0,hgs⟩:=HGA.out.step (show 6 * k < s.size by omega) HND.out
   have HG1:=Lib.hid hg0
   have HGS:=Lib.hid hgs
   have hll:=HGA.out.len
   have HXO:=Lib.hid (And.intro x0 x1)
   have hzb:=x1.lt
   have HBL:=Lib.hid hB
   clear hE hst hg0 hgs x0 x1 hB
   go_wp2_with fail
   go_loopw [5,6] (fun m i wx=>∃ j:Nat,st≤j∧j≤E∧i=.int .i64 j∧m=.int .i64 (dval ((s.data.toList.drop st).take (j - st)):Nat)∧wx=wr) (fun _ i _=>E - (intOf i).toNat)
   case atStart=>exact ⟨st,by omega,hst1,rfl,by rw [Nat.sub_self];rfl,rfl⟩
   case round =>
    obtain ⟨j,hj1,hj2,rfl,rfl,hwr⟩:=hrel
    subst hwr
    by_cases hlt:j < E
    ·obtain ⟨d1,d2⟩:=HS.out j (by omega)
     have hv:(dval ((s.data.toList.drop st).take (j - st)):Int)≤999999:=by
      have h1:=dval_take_lt (s.data.toList.drop st) (j - st) (by
       have hall:∀ c ∈ s.data.toList,isDig c=true:=by
        have h1:=takeWhile_all s.data.toList
        have h2:s.data.toList.takeWhile isDig=s.data.toList:=List.IsPrefix.eq_of_length (List.takeWhile_prefix _) HND.out
        rwa [h2] at h1
       have h3:=nDig_append (l:=s.data.toList.drop st) (r:=[]) (fun c hc=>hall c (List.mem_of_mem_drop hc)) (Or.inl rfl)
       rw [List.append_nil] at h3
       rw [h3,List.length_drop]
       have:s.data.toList.length=s.size:=rfl
       omega)
      have h2:(10:Nat) ^ (j - st)≤10 ^ 6:=Nat.pow_le_pow_right (by omega) (by have:=HEN.out;omega)
      omega
     have hjs:j < s.size:=by omega
     have HVS:=Lib.hid (dval_snoc ((s.data.toList.drop st).take (j - st)) s[j])
     have HTK:Hid ((s.data.toList.drop st).take (j+1 - st)=(s.data.toList.drop st).take (j - st)++[s[j]]):=Lib.hid (by
      rw [show j+1 - st=(j - st)+1 by omega]
      have hlen:j - st < (s.data.toList.drop st).length:=by rw [List.length_drop];have:s.data.toList.length=s.size:=rfl;omega
      rw [List.take_succ_eq_append_getElem hlen,List.getElem_drop]
      congr 2
      have e9:st+(j - st)=j:=by omega
      simp only [e9]
      rfl)
     have hjI:(j:Int) < (E:Int):=by omega
     go_wp2_with fail
     go_roundw
     case rel=>exact ⟨j+1,by omega,by omega,by go_num,ret_i64 (by rw [HTK.out,HVS.out];omega),by trivial⟩
     case measure=>simp [intOf];omega
    ·obtain rfl:j=E:=by omega
     have hjI:¬ (j:Int) < (j:Int):=by omega
     obtain ⟨gv,hgv⟩:∃ gv:Nat,dval ((s.data.toList.drop st).take (j - st))=gv:=⟨_,rfl⟩
     have HGS2:Hid (GroupAt s.data.toList (k+1) (l++[(gv:Int)])):=Lib.hid (by
      have:=HGS.out
      rw [show s.data.toList.length - 6 * k - 6=st from HEN.out.2.symm,show s.data.toList.length - 6 * k=j from HEN.out.1.symm,hgv] at this
      exact this)
     rw [hgv]
     have c1:=HXO.out.2.c1
     have HR:Hid (wr.ownsRow (w.heap.size+2) 3 1 (.slice sa k sc) k (intVs l)):=Lib.hid (by have:=HO.out;unfold OwnInts at this;rwa [hll] at this)
     have M1:=Lib.hid (show k+1≤maxLen by unfold maxLen;omega)
     have M2:=Lib.hid (show (k+1) * 8≤140737488355328 by omega)
     have N4:=Lib.hid (fun (o:Obj) (W':World) (h:(wr.alloc o).grownBy W' (Value.slice sa k sc).ownBlock)=>Below.grown ((bw0 (w.heap.size+2) wr).alloc (by omega) o) h (by simp;omega) (fun p hp=>by
      obtain ⟨_,_,e,hge⟩:=row_shape1 HR.out
      injection e with e1 e2 e3
      subst e1 e3
      exact hge p hp))
     have hw6:IntKind.i64.wrap ((j:Int) - 6)=(j:Int) - 6:=IntWalk.i64_in _ (by omega)
     clear hgv HGS HO
     go_wp2_with (at_builtin;refine wpList_append_own _ rfl _ _ 51 rfl (w.heap.size+2) 3 i0 (.int .i64 0) 1 8 Tryz.underlying51 hi0 hz0 hz1 hz2 rfl (by decide) _ _ _ rfl (HR.out.alloc _) ⟨_,0,none⟩ 1 1 [.int .i64 gv] rfl rfl (cell_one_new _ _ _) (by simp [Value.oneCell']) M1.out M2.out (by simp;omega) ?_;intro v' w4 hown0 hgrow hnil;have hb4:=Lib.hid (N4.out _ _ hgrow);obtain ⟨sg',sc',rfl,hge'⟩:=row_some hown0 (fun h=>by have h9:=(hnil.1 h).2;cases h9);have HOW:=Lib.hid hown0;have x1':BoxB w4 (w.heap.size+1) (.bool false) (.slice sa k sc):=((hb4.out.block _ (by omega)).trans HXO.out.2);have x0':BoxB w4 w.heap.size (.bool false) (.slice none 0 0):=((hb4.out.block _ (by omega)).trans HXO.out.1);have q1:=x1'.c1;have qf:=x1'.f 1;have ql:=x1'.lt;clear hown0 hgrow hnil)
     have hSb:=sameBut_setCell w4 (w.heap.size+1) 1 (.slice (some ⟨sg',0,none⟩) (k+1) sc')
     have y1:=x1'.set1 (.slice (some ⟨sg',0,none⟩) (k+1) sc')
     have y0:=x0'.but hSb (by omega)
     have HOF:Hid (OwnInts (w4.setCell ⟨w.heap.size+1,1,none⟩ (.slice (some ⟨sg',0,none⟩) (k+1) sc')) (w.heap.size+2) (.slice (some ⟨sg',0,none⟩) (k+1) sc') (l++[(gv:Int)])):=Lib.hid (by
      have h:OwnInts w4 (w.heap.size+2) (.slice (some ⟨sg',0,none⟩) (k+1) sc') (l++[(gv:Int)]):=by
       have h:=HOW.out
       unfold OwnInts
       rw [← intVs_snoc,show (l++[(gv:Int)]).length=k+1 by rw [List.length_append,hll];rfl]
       exact h
      exact OwnInts.but h hSb (by omega))
     have hB9:Below w.heap.size w (w4.setCell ⟨w.heap.size+1,1,none⟩ (.slice (some ⟨sg',0,none⟩) (k+1) sc')):=hSb.below (HBL.out.trans (hb4.out.mono (by omega))) (by omega)
     have HE2:Hid ((j:Int) - 6=(s.size:Int) - 6 * ((k+1:Nat):Int)):=Lib.hid (by have:=HE.out;omega)
     go_roundw
     case rel=>exact ⟨k+1,(j:Int) - 6,_,_,_,rfl,HE2,by have:=HEN.out;omega,HGS2,y0,y1,HOF,hB9⟩
     case measure=>simp [intOf];omega
  ·have hE:=HE.out
   have hll:=HGA.out.len
   have c1:=x1.c1
   have f1:=x1.f 1
   have lx:=x1.lt
   have HT:=Lib.hid (trim6_ok l sa k sc wr (by have:=HO.out.is;exact this) (by omega))
   have HX:=Lib.hid (And.intro x0 x1)
   have HBR:=Lib.hid hB
   have HK:Hid (s.size≤6 * k):=Lib.hid (by omega)
   clear hE x0 x1 hB
   go_wp2_with fail
   refine HT.out.mono ?_
   rintro e w1 ⟨m1,hm1,rfl,ht1,hl1,rfl⟩
   have HQ:=Lib.hid (And.intro hm1 (And.intro ht1 hl1))
   have hS5:=sameBut_setCell w1 (w.heap.size+1) 1 (.slice sa m1 sc)
   have x5:=HX.out.2.set1 (.slice sa m1 sc)
   have x6:=HX.out.1.but hS5 (by omega)
   have e0:=x5.c0
   have e1:=x5.c1
   have r0:=x6.c0
   have r1:=x6.c1
   have g0:=x6.f 0
   have g1:=x6.f 1
   have l0:=x6.lt
   clear hm1 ht1 hl1
   go_wp2_with fail
   have x7:=x6.set0 (.bool false)
   have hS6:=sameBut_setCell (w1.setCell ⟨w.heap.size+1,1,none⟩ (.slice sa m1 sc)) w.heap.size 0 (.bool false)
   have x8:=x7.set1 (.slice sa m1 sc)
   have hS7:=sameBut_setCell ((w1.setCell ⟨w.heap.size+1,1,none⟩ (.slice sa m1 sc)).setCell ⟨w.heap.size,0,none⟩ (.bool false)) w.heap.size 1 (.slice sa m1 sc)
   have z0:=x8.c0
   have z1':=x8.c1
   obtain ⟨hm1,ht1,hl1⟩:=HQ.out
   have hlm:(l.take m1).length=m1:=by rw [List.length_take];omega
   have how:=OwnInts.but (OwnInts.but (OwnInts.but (HO.out.take' m1 hm1) hS5 (by omega)) hS6 (by omega)) hS7 (by omega)
   have hsum:val l=(n:Int):=by
    rw [HGA.out.sum,show s.data.toList.length - 6 * k=0 by have:=HK.out;have e9:s.data.toList.length=s.size:=rfl;omega,List.drop_zero,HDV.out]
   refine bodyPost_ret (v:=.agg #[.bool false,.slice sa m1 sc]) (by simp [results,Tryz.results178,go_sem,z0,z1']) rfl ⟨_,rfl,⟨sa,l.take m1,sc,by rw [hlm],by rw [hlm];exact how.is,⟨fun i=>by rw [hl1];exact HGA.out.digs i,ht1,(val_of_lim hl1).trans hsum⟩,by rw [hlm];omega⟩,hS7.below (hS6.below (hS5.below HBR.out (by omega)) (Nat.le_refl _)) (Nat.le_refl _)⟩
end Go.Proofs.YteepphiomcedfaaGreatDoor.R6
namespace Go.Proofs.YteepphiomcedfaaGreatDoor.R6
open Go.RowKit Go.Shelf
theorem Tryz.infoU8:(Tryz.prog.info? 5).map (fun i=>(i.zero,i.size,i.bytes))=some (some (.int .u8 0),1,1):=by kernel_rfl
def BlkU (W:World) (g:Nat) (l:List UInt8):Prop:=W.heap[g]?=some (.cells (Lib.byteCells l).toArray 5 (0,0))
theorem BlkU.lt {W:World} {g:Nat} {l:List UInt8} (h:BlkU W g l):g < W.heap.size:=(Array.getElem?_eq_some_iff.1 h).1
theorem BlkU.cell {W:World} {g:Nat} {l:List UInt8} (h:BlkU W g l) {p:Nat} (hp:p < l.length):W.cell? ⟨g,p,none⟩=some (.int .u8 (l[p].toNat:Int)):=by
 simp [World.cell?,show W.heap[g]?=_ from h,Lib.byteCells,hp]
theorem BlkU.frozen {W:World} {g:Nat} {l:List UInt8} (h:BlkU W g l) (p:Nat):W.frozen? ⟨g,p,none⟩=false:=by
 simp [World.frozen?,show W.heap[g]?=_ from h]
theorem BlkU.set {W:World} {g:Nat} {l:List UInt8} (h:BlkU W g l) (p:Nat) (x:UInt8):BlkU (W.setCell ⟨g,p,none⟩ (.int .u8 (x.toNat:Int))) g (l.set p x):=by
 obtain ⟨hlt,hk⟩:=Array.getElem?_eq_some_iff.1 h
 show (W.heap.modify g _)[g]?=_
 rw [Array.getElem?_eq_getElem (by rw [Array.size_modify];exact hlt),Array.getElem_modify_self,hk]
 simp [Lib.byteCells,List.map_set]
theorem BlkU.but {w w':World} {g b:Nat} {l:List UInt8} (h:BlkU w g l) (hs:SameBut b w w') (hne:g≠b):BlkU w' g l:=(hs.block g hne).trans h
theorem run_makeU (w:World) (n:Nat) (hn:n≤100000) (x:Int) (hx:x=n):(Instr.makeSlice 236 (.int .i64 x) (.int .i64 x)).run Tryz.prog w=.ok (.slice (some ⟨w.heap.size,0,none⟩) n n) (w.alloc (.cells (Lib.byteCells (List.replicate n 0)).toArray 5)):=by
 subst hx
 obtain ⟨i0,hi0,hz0,hz1,hz2⟩:=info_parts Tryz.infoU8
 have h:=run_make (P:=Tryz.prog) w 236 5 i0 (.int .u8 0) Tryz.underlying236 hi0 hz0 .i64 .i64 n n (by omega) (Int.le_refl _) (by rw [hz2];omega) (by omega)
 have e:madeCells (Value.int .u8 0).cells ((n:Int).toNat * i0.size)=(Lib.byteCells (List.replicate n 0)).toArray:=by
  rw [hz1,Int.toNat_natCast,Nat.mul_one]
  apply Array.ext
  ·simp [madeCells,Lib.byteCells]
  ·intro i h1 h2
   simp [madeCells,Lib.byteCells,Value.cells,Nat.mod_one]
 rw [e,Int.toNat_natCast] at h
 exact h
theorem pad_top {m V d:Nat} (hV:V < 10 ^ m) (hd:d < 10):pad (m+1) (V+d * 10 ^ m)=UInt8.ofNat (48+d)::pad m V:=by
 induction m generalizing V with
 | zero =>
  have:V=0:=by simpa using hV
  subst this
  simp [pad,Nat.mod_eq_of_lt hd]
 | succ m ih =>
  have e:d * 10 ^ (m+1)=10 * (d * 10 ^ m):=by rw [Nat.pow_succ];grind
  rw [pad,show (V+d * 10 ^ (m+1)) / 10=V / 10+d * 10 ^ m by rw [e];omega,show (V+d * 10 ^ (m+1)) % 10=V % 10 by rw [e];omega,ih (by rw [Nat.pow_succ] at hV;omega),pad]
  rfl
theorem pad_next (N p:Nat):pad (p+1) (N % 10 ^ (p+1))=UInt8.ofNat (48+N / 10 ^ p % 10)::pad p (N % 10 ^ p):=by
 have e:N % 10 ^ (p+1)=N % 10 ^ p+N / 10 ^ p % 10 * 10 ^ p:=by
  rw [Nat.pow_succ,Nat.mod_mul,Nat.mul_comm]
 rw [e]
 exact pad_top (Nat.mod_lt _ (Nat.pow_pos (by omega))) (Nat.mod_lt _ (by omega))
theorem lim_val {l:List Int} (h:Digs l) {i:Nat} (hi:i < l.length):lim l i=(((val l).toNat / 10 ^ (6 * i) % 10 ^ 6:Nat):Int):=by
 have b0:=vt_bound (f:=lim l) (k:=i) (fun j _=>h j)
 have bv:=h.bound.1
 have hs:val l=vt (lim l) i+pw i * vt (fun j=>lim l (i+j)) (l.length - i):=by
  unfold val
  have:=vt_split (lim l) i (l.length - i)
  rwa [show i+(l.length - i)=l.length by omega] at this
 have hs2:vt (fun j=>lim l (i+j)) (l.length - i)=lim l i+1000000 * vt (fun j=>lim l (i+(1+j))) (l.length - i - 1):=by
  have:=vt_split (fun j=>lim l (i+j)) 1 (l.length - i - 1)
  rw [show 1+(l.length - i - 1)=l.length - i by omega] at this
  rw [this]
  have e1:vt (fun j=>lim l (i+j)) 1=lim l i:=by simp [vt,pw]
  have e2:pw 1=1000000:=by simp [pw]
  rw [e1,e2]
 have b2:=vt_bound (f:=fun j=>lim l (i+(1+j))) (k:=l.length - i - 1) (fun j _=>h _)
 obtain ⟨d0,d1⟩:=h i
 rw [hs2,pw_six] at hs
 rw [pw_six] at b0
 generalize vt (fun j=>lim l (i+(1+j))) (l.length - i - 1)=T at *
 generalize vt (lim l) i=V at *
 generalize lim l i=x at *
 obtain ⟨V',rfl⟩:∃ n:Nat,V=n:=⟨V.toNat,by omega⟩
 obtain ⟨T',rfl⟩:∃ n:Nat,T=n:=⟨T.toNat,by omega⟩
 obtain ⟨x',rfl⟩:∃ n:Nat,x=n:=⟨x.toNat,by omega⟩
 have hn:(val l).toNat=V'+10 ^ (6 * i) * (x'+1000000 * T'):=by
  have:val l=((V'+10 ^ (6 * i) * (x'+1000000 * T'):Nat):Int):=by rw [hs];simp
  omega
 rw [hn,Nat.add_mul_div_left _ _ (Nat.pow_pos (by omega)),Nat.div_eq_of_lt (by omega)]
 omega
theorem digit_of {N x i k:Nat} (hx:x=N / 10 ^ (6 * i) % 10 ^ 6) (hk:k < 6):x / 10 ^ k % 10=N / 10 ^ (6 * i+k) % 10:=by
 rw [hx,Nat.pow_add,← Nat.div_div_eq_div_mul]
 generalize N / 10 ^ (6 * i)=M
 have e:(10:Nat) ^ 6=10 ^ k * (10 * 10 ^ (5 - k)):=by
  rw [← Nat.pow_succ',← Nat.pow_add];congr 1;omega
 rw [e,Nat.mod_mul_right_div_self,Nat.mod_mul_right_mod]
def OutAt (N T p:Nat) (o:List UInt8):Prop:=o.length=T∧o.drop (T - p)=pad p (N % 10 ^ p)
theorem OutAt.step {N T p:Nat} {o:List UInt8} (h:OutAt N T p o) (hp:p < T):OutAt N T (p+1) (o.set (T - p - 1) (UInt8.ofNat (48+N / 10 ^ p % 10))):=by
 obtain ⟨h1,h2⟩:=h
 refine ⟨by rw [List.length_set];exact h1,?_⟩
 have hl:T - p - 1 < (o.set (T - p - 1) (UInt8.ofNat (48+N / 10 ^ p % 10))).length:=by rw [List.length_set];omega
 rw [pad_next,show T - (p+1)=T - p - 1 by omega,List.drop_eq_getElem_cons hl,List.getElem_set_self,List.drop_set_of_lt (by omega),show T - p - 1+1=T - p by omega,h2]
theorem out_all {N T:Nat} {o:List UInt8} (h:OutAt N T T o) (hN:N < 10 ^ T):o=pad T N:=by
 obtain ⟨h1,h2⟩:=h
 rw [Nat.sub_self,List.drop_zero,Nat.mod_eq_of_lt hN] at h2
 exact h2
theorem write6_none (a:Option Addr) (c:Nat) (w:World):Calls Tryz.prog 182 #[.agg #[.bool false,.slice a 0 c]] w (RetS [48] w):=by
 go_enter Tryz.func182,Tryz.ntmps182
 go_wp2_with fail
 go_ret
 exact ⟨⟨#[48]⟩,rfl,rfl,qbl⟩
theorem write6_some {l:List Int} {n:Int} (a:Option Addr) (c:Nat) (w:World) (hi:IsInts w (.slice a l.length c) l) (hn:Num l n) (hl:l.length≤100) (h0:l.length≠0) :
  Calls Tryz.prog 182 #[.agg #[.bool false,.slice a l.length c]] w (RetS (Lib.decDigits n.toNat) w):=by
 obtain ⟨_,_,hc⟩:=hi.cells
 obtain ⟨bb,off,rfl,hcell⟩:=hc (by omega)
 have HC:=Lib.hid hcell
 have hl0:((l.length:Int) == 0)=false:=by rw [beq_eq_false_iff_ne];omega
 have hw6:IntKind.i64.wrap (6 * (l.length:Int))=6 * (l.length:Int):=IntWalk.i64_in _ (by omega)
 have hmk:=fun (W:World)=>run_makeU W (6 * l.length) (by omega) (6 * (l.length:Int)) (by omega)
 obtain ⟨N,hN⟩:∃ N,n.toNat=N:=⟨_,rfl⟩
 have hnp:=hn.low h0
 have hpp:=pw_pos (l.length - 1)
 have HLV:Hid (∀ i,i < l.length→lim l i=((N / 10 ^ (6 * i) % 10 ^ 6:Nat):Int)):=Lib.hid (fun i hi=>by rw [← hN,← hn.sum];exact lim_val hn.digs hi)
 have HNT:Hid (N < 10 ^ (6 * l.length)):=Lib.hid (by
  have h1:=hn.high.2
  rw [pw_six] at h1
  omega)
 have HN0:Hid (0 < N):=Lib.hid (by omega)
 rw [hN]
 clear hc hcell hi hn hN hnp hpp
 go_enter Tryz.func182,Tryz.ntmps182
 go_wp2_with fail
 have hb0:Below w.heap.size w ((w.alloc (.cells #[.bool false,.slice (some ⟨bb,off,none⟩) l.length c] 181)).alloc (.cells (Lib.byteCells (List.replicate (6 * l.length) 0)).toArray 5)):=qbl
 have x0:BoxB ((w.alloc (.cells #[.bool false,.slice (some ⟨bb,off,none⟩) l.length c] 181)).alloc (.cells (Lib.byteCells (List.replicate (6 * l.length) 0)).toArray 5)) w.heap.size (.bool false) (.slice (some ⟨bb,off,none⟩) l.length c):=(BoxB.new rfl).below (bw4 (bw0 _ _) _)
 have x1:BlkU ((w.alloc (.cells #[.bool false,.slice (some ⟨bb,off,none⟩) l.length c] 181)).alloc (.cells (Lib.byteCells (List.replicate (6 * l.length) 0)).toArray 5)) (w.heap.size+1) (List.replicate (6 * l.length) 0):=by
  have h:=World.alloc_heap_new (w.alloc (.cells #[.bool false,.slice (some ⟨bb,off,none⟩) l.length c] 181)) (.cells (Lib.byteCells (List.replicate (6 * l.length) 0)).toArray 5)
  rw [World.size_alloc] at h
  exact h
 have HO0:Hid (OutAt N (6 * l.length) (6 * 0) (List.replicate (6 * l.length) 0)):=Lib.hid ⟨by simp,by simp [pad]⟩
 generalize ((w.alloc (.cells #[.bool false,.slice (some ⟨bb,off,none⟩) l.length c] 181)).alloc (.cells (Lib.byteCells (List.replicate (6 * l.length) 0)).toArray 5))=W0 at *
 go_loopw [4] (fun iv wr=>∃ (i:Nat) (o:List UInt8),i≤l.length∧iv=.int .i64 i∧BlkU wr (w.heap.size+1) o∧Hid (OutAt N (6 * l.length) (6 * i) o)∧BoxB wr w.heap.size (.bool false) (.slice (some ⟨bb,off,none⟩) l.length c)∧Below w.heap.size w wr) (fun iv _=>l.length - (intOf iv).toNat)
 case atStart=>exact ⟨0,_,by omega,rfl,x1,HO0,x0,hb0⟩
 case round =>
  clear x0 x1 hb0 HO0
  obtain ⟨i,o,hi,rfl,hU,hO,hX,hB⟩:=hrel
  by_cases hlt:i < l.length
  ·have ck:=keep hB (HC.out i hlt)
   obtain ⟨xv,hxv⟩:∃ t,N / 10 ^ (6 * i) % 10 ^ 6=t:=⟨_,rfl⟩
   have hx6:xv < 1000000:=by rw [← hxv];exact Nat.mod_lt _ (by omega)
   have HXV:=Lib.hid hxv.symm
   rw [HLV.out i hlt,hxv] at ck
   have hiI:(i:Int) < (l.length:Int):=by omega
   have hi0:(0:Int)≤(i:Int):=by omega
   have hit:((i:Int)).toNat=i:=by omega
   have hwi:IntKind.i64.wrap ((i:Int)+1)=(i:Int)+1:=IntWalk.i64_in _ (by omega)
   have c1:=hX.c1
   have HXX:=Lib.hid hX
   have HBB:=Lib.hid hB
   clear hxv hX hB
   go_wp2_with fail
   go_loopw [5,6] (fun nv kv wr=>∃ (k:Nat) (o:List UInt8) (y:Nat),k≤6∧kv=.int .i64 ((k:Int)+1)∧nv=.int .i64 (y:Int)∧Hid (y=xv / 10 ^ k)∧BlkU wr (w.heap.size+1) o∧Hid (OutAt N (6 * l.length) (6 * i+k) o)∧Hid (BoxB wr w.heap.size (.bool false) (.slice (some ⟨bb,off,none⟩) l.length c))∧Hid (Below w.heap.size w wr)) (fun _ kv _=>8 - (intOf kv).toNat)
   case atStart=>exact ⟨0,o,xv,by omega,rfl,rfl,Lib.hid (by simp),hU,hO,HXX,HBB⟩
   case round =>
    clear hU hO HXX HBB c1 ck
    obtain ⟨k,o,y,hk,rfl,rfl,HY,hU,hO,HXX,HBB⟩:=hrel
    have hol:=hO.out.1
    by_cases hk6:k < 6
    ·have hkI:((k:Int)+1)≤6:=by omega
     have hyx:y≤xv:=by rw [HY.out];exact Nat.div_le_self _ _
     obtain ⟨d,hd⟩:∃ d,y % 10=d:=⟨_,rfl⟩
     have hd9:d < 10:=by rw [← hd];exact Nat.mod_lt _ (by omega)
     have htm:((y:Int)).tmod 10=(d:Int):=by rw [Int.tmod_eq_emod_of_nonneg (by omega)];omega
     have htd:((y:Int)).tdiv 10=((y / 10:Nat):Int):=by rw [Int.tdiv_eq_ediv_of_nonneg (by omega)];omega
     have HDG:Hid (d=N / 10 ^ (6 * i+k) % 10):=Lib.hid (by rw [← hd,HY.out];exact digit_of HXV.out hk6)
     have HY2:Hid (y / 10=xv / 10 ^ (k+1)):=Lib.hid (by rw [HY.out,Nat.div_div_eq_div_mul,← Nat.pow_succ])
     obtain ⟨ix,hix⟩:∃ ix:Nat,6 * l.length - (6 * i+k) - 1=ix:=⟨_,rfl⟩
     have hwa:IntKind.i64.wrap (6 * (i:Int))=6 * (i:Int):=IntWalk.i64_in _ (by omega)
     have hwb:IntKind.i64.wrap (6 * (l.length:Int) - 6 * (i:Int))=6 * (l.length:Int) - 6 * (i:Int):=IntWalk.i64_in _ (by omega)
     have hwc:IntKind.i64.wrap (6 * (l.length:Int) - 6 * (i:Int) - ((k:Int)+1))=(ix:Int):=by
      rw [show 6 * (l.length:Int) - 6 * (i:Int) - ((k:Int)+1)=(ix:Int) by omega];exact IntWalk.i64_in _ (by omega)
     have hwd:IntKind.i64.wrap (d:Int)=(d:Int):=IntWalk.i64_in _ (by omega)
     have hwe:IntKind.i64.wrap (48+(d:Int))=48+(d:Int):=IntWalk.i64_in _ (by omega)
     have hwf:IntKind.u8.wrap (48+(d:Int))=48+(d:Int):=IntWalk.u8_in _ (by omega)
     have hwg:IntKind.i64.wrap (((k:Int)+1)+1)=((k:Int)+1)+1:=IntWalk.i64_in _ (by omega)
     have hwh:IntKind.i64.wrap ((y / 10:Nat):Int)=((y / 10:Nat):Int):=IntWalk.i64_in _ (by omega)
     have hixl:(ix:Int) < 6 * (l.length:Int):=by omega
     have hix0:(0:Int)≤(ix:Int):=by omega
     have hixt:((ix:Int)).toNat=ix:=by omega
     obtain ⟨fv,f1⟩:∃ fv:Int,wr.cell? ⟨w.heap.size+1,ix,none⟩=some (.int .u8 fv):=⟨_,hU.cell (p:=ix) (by omega)⟩
     have g1:=hU.frozen ix
     have HST:Hid (OutAt N (6 * l.length) (6 * i+(k+1)) (o.set ix (UInt8.ofNat (48+d)))):=Lib.hid (by
      have:=hO.out.step (by omega)
      rwa [hix,← HDG.out] at this)
     have HST2:Hid (BlkU (wr.setCell ⟨w.heap.size+1,ix,none⟩ (.int .u8 (48+(d:Int)))) (w.heap.size+1) (o.set ix (UInt8.ofNat (48+d)))):=Lib.hid (by
      have h:=hU.set ix (UInt8.ofNat (48+d))
      have e:((UInt8.ofNat (48+d)).toNat:Int)=48+(d:Int):=by
       have:(UInt8.ofNat (48+d)).toNat=48+d:=by simp;omega
       omega
      rwa [e] at h)
     clear hd hix hol
     have hSb:=sameBut_setCell wr (w.heap.size+1) ix (.int .u8 (48+(d:Int)))
     have HX2:=Lib.hid (HXX.out.but hSb (by omega))
     have HB2:=Lib.hid (hSb.below HBB.out (by omega))
     clear hSb
     go_wp2_with fail
     go_roundw
     case rel=>exact ⟨k+1,_,y / 10,by omega,by go_num,rfl,HY2,HST2.out,HST,HX2,HB2⟩
     case measure=>simp [intOf];omega
    ·obtain rfl:k=6:=by omega
     have hkI:¬ (((6:Nat):Int)+1)≤6:=by omega
     have HO2:Hid (OutAt N (6 * l.length) (6 * (i+1)) o):=Lib.hid (by have:=hO.out;rwa [show 6 * i+6=6 * (i+1) by omega] at this)
     clear hol hO
     go_wp2_with fail
     go_roundw
     case rel=>exact ⟨i+1,o,by omega,by go_num,hU,HO2,HXX.out,HBB.out⟩
     case measure=>simp [intOf];omega
  ·obtain rfl:i=l.length:=by omega
   have hiI:¬ (l.length:Int) < (l.length:Int):=by omega
   have c1:=hX.c1
   have c0:=hX.c0
   have hoA:=out_all hO.out HNT.out
   have hle:(Lib.decDigits N).length≤6 * l.length:=by
    rw [Lib.decDigits_length];exact nDigits_le_of_lt HNT.out (by omega)
   obtain ⟨Z,hZ⟩:∃ Z,6 * l.length - (Lib.decDigits N).length=Z:=⟨_,rfl⟩
   have hoZ:o=List.replicate Z 48++Lib.decDigits N:=by
    obtain ⟨m,hm⟩:∃ m,6 * l.length=m+1:=⟨6 * l.length - 1,by omega⟩
    rw [hoA,hm,pad_eq (by rw [← hm];exact HNT.out),← hm,hZ]
   have hdl:1≤(Lib.decDigits N).length:=List.length_pos_iff.2 (decDigits_ne N)
   have HOZ:=Lib.hid hoZ
   have HXX:=Lib.hid hX
   have HZ:Hid (Z+(Lib.decDigits N).length=6 * l.length):=Lib.hid (by omega)
   have hol:o.length=6 * l.length:=hO.out.1
   have HOL:=Lib.hid hol
   have hZ1:Z < 6 * l.length:=by omega
   clear hoA hoZ hO hX hle hZ hdl hol
   go_wp2_with fail
   go_loopw [3] (fun v wx=>∃ j:Nat,j≤Z∧v=.slice (some ⟨w.heap.size+1,j,none⟩) (6 * l.length - j) (6 * l.length - j)∧wx=wr) (fun v _=>match v with|.slice _ n _=>n|_=>0)
   case atStart=>exact ⟨0,by omega,rfl,rfl⟩
   case round =>
    obtain ⟨j,hj,rfl,hwr⟩:=hrel
    subst hwr
    have hcj:=hU.cell (p:=j) (by have:=HOL.out;omega)
    by_cases hjz:j < Z
    ·have h48:(o[j]'(by have:=HOL.out;omega)).toNat=48:=by
      simp only [HOZ.out]
      rw [List.getElem_append_left (by simpa using hjz),List.getElem_replicate]
      rfl
     rw [h48] at hcj
     clear h48
     have hn1:(0:Int) < ((6 * l.length - j:Nat):Int):=by omega
     go_wp2_with fail
     go_roundw
     case rel=>exact ⟨j+1,by omega,by rw [Nat.sub_sub],by trivial⟩
     case measure=>simp;omega
    ·obtain rfl:j=Z:=by omega
     have hne:((o[j]'(by have:=HOL.out;omega)).toNat:Int)≠48:=by
      intro h
      have hh:=decDigits_head' HN0.out
      have hd1:0 < (Lib.decDigits N).length:=List.length_pos_iff.2 (decDigits_ne N)
      have e1:o[j]'(by have:=HOL.out;omega)=(Lib.decDigits N)[0]:=by
       simp only [HOZ.out]
       rw [List.getElem_append_right (by simp)]
       simp
      rw [e1] at h
      have e2:(Lib.decDigits N)[0]=48:=by
       apply UInt8.toNat_inj.1
       show _=48
       omega
      apply hh
      rw [List.head?_eq_getElem?,List.getElem?_eq_getElem hd1,e2]
     have hneb:(((o[j]'(by have:=HOL.out;omega)).toNat:Int) == 48)=false:=by rw [beq_eq_false_iff_ne];exact hne
     have c0':=HXX.out.c0
     obtain ⟨fv,hfv⟩:∃ fv:Int,((o[j]'(by have:=HOL.out;omega)).toNat:Int)=fv:=⟨_,rfl⟩
     rw [hfv] at hcj hneb
     have hcv:=Lib.run_convert_window (P:=Tryz.prog) wr 236 5 9 Tryz.underlying236 Tryz.underlying5 Tryz.underlying9 (w.heap.size+1) 0 ⟨o.toArray⟩ (fun i hi=>by
      rw [Nat.zero_add]
      exact hU.cell hi) j (6 * l.length - j) (6 * l.length - j) (by show _≤o.toArray.size;have:=HOL.out;simp;omega)
     rw [Nat.zero_add] at hcv
     have hn1:(0:Int) < ((6 * l.length - j:Nat):Int):=by omega
     clear hne hfv
     go_wp2_with fail
     go_ret
     refine ⟨_,?_,rfl,hB⟩
     rw [Lib.extract_data,show j+(6 * l.length - j) - j=6 * l.length - j by omega]
     show (o.drop j).take _=_
     have hoj:o.drop j=Lib.decDigits N:=by
      rw [HOZ.out,List.drop_append_of_le_length (by simp),List.drop_of_length_le (by simp),List.nil_append]
     rw [hoj]
     exact List.take_of_length_le (by have:=HZ.out;omega)
theorem write6_ok {n:Int} {k:Nat} (v:Value) (w:World) (h:IsBig6 w v n k) (hk:k≤100):Calls Tryz.prog 182 #[v] w (RetS (Lib.decDigits n.toNat) w):=by
 obtain ⟨a,l,c,rfl,hi,hn,hl⟩:=h
 by_cases h0:l.length=0
 ·have hz:n=0:=hn.zero.1 h0
  rw [h0,hz]
  have e:Lib.decDigits (0:Int).toNat=[48]:=by rw [show (0:Int).toNat=0 from rfl,Lib.decDigits_one (by omega)];decide
  rw [e]
  exact write6_none a c w
 ·exact write6_some a c w hi hn (by omega) h0
end Go.Proofs.YteepphiomcedfaaGreatDoor.R6
namespace Go.Proofs.YteepphiomcedfaaGreatDoor.R6
open Go.RowKit Go.Shelf
theorem run_field6 (x:Value) (a:Option Addr) (n c:Nat) (w:World):(Instr.field 181 (.agg #[x,.slice a n c]) 1).run Tryz.prog w=.ok (.slice a n c) w:=by kernel_rfl
def RetDec (n:Nat) (w:World) (e:Ending) (w':World):Prop:=∃ r:ByteArray,r.data.toList=Lib.decDigits n∧e=.returned (.tuple #[.string r,.int .i64 0])∧Below w.heap.size w w'
theorem gcd6_small {n m:Nat} (s t:ByteArray) (w:World) (hG:Glo w) (hs:s.data.toList=Lib.decDigits n) (hl:s.size≤17) (ht:t.data.toList=Lib.decDigits m) (hm:t.size≤17) :
  Calls Tryz.prog 121 #[.string s,.string t] w (RetDec (Nat.gcd n m) w):=by
 have bx:n < 10 ^ 17:=pow_le_of_lt (by rw [← hs];exact hl)
 have by':m < 10 ^ 17:=pow_le_of_lt (by rw [← ht];exact hm)
 have HB:=Lib.hid (fun W=>both6_ok s t W hs (by omega) ht (by omega))
 have HT:=Lib.hid (fun W=>two6_ok s t W hs hl ht hm)
 have HG:=Lib.hid hG
 clear hs ht hG
 go_enter Tryz.func121,Tryz.ntmps121
 go_wp2_with fail
 refine (HB.out _).mono ?_
 rintro e w1 ⟨rfl,rfl⟩
 go_wp2_with fail
 refine (HT.out _).mono ?_
 rintro e w2 ⟨rfl,rfl⟩
 go_wp2_with fail
 go_loopw [7,8] (fun a b wr=>∃ x y:Nat,a=.int .i64 (x:Int)∧b=.int .i64 (y:Int)∧x < 10 ^ 17∧y < 10 ^ 17∧Hid (Nat.gcd x y=Nat.gcd n m)∧Below w2.heap.size w2 wr) (fun _ b _=>(intOf b).toNat)
 case atStart=>exact ⟨n,m,rfl,rfl,bx,by',Lib.hid rfl,bw0 _ _⟩
 case round =>
  clear bx by'
  obtain ⟨x,y,rfl,rfl,hx,hy,HGG,hBr⟩:=hrel
  by_cases h0:y=0
  ·subst h0
   have hgm:Hid (Nat.gcd n m=x):=Lib.hid (by rw [← HGG.out,Nat.gcd_zero_right])
   have hmx:max (x:Int) (-(x:Int))=(x:Int):=by omega
   go_wp2_with fail
   refine (itoa_any (x:Int) (by omega) (by omega) _ (HG.out.below hBr)).mono ?_
   rintro e w3 ⟨r,hr,rfl,hB3⟩
   have HR:Hid (r.data.toList=Lib.decDigits (Nat.gcd n m)):=Lib.hid (by rw [hr,itoa_natCast,hgm.out])
   clear hr
   go_wp2_with fail
   go_ret2
   exact ⟨r,HR.out,rfl,hBr.trans (hB3.mono hBr.size)⟩
  ·have hne:(((y:Nat):Int) != 0)=true:=by simp [h0]
   have hnz:¬ ((y:Nat):Int)=0:=by omega
   have htm:((x:Int)).tmod (y:Int)=((x % y:Nat):Int):=by rw [Int.tmod_eq_emod_of_nonneg (by omega)];simp
   have hlt:x % y < y:=Nat.mod_lt _ (by omega)
   have hw:IntKind.i64.wrap ((x % y:Nat):Int)=((x % y:Nat):Int):=IntWalk.i64_in _ (by omega)
   have HQ:Hid (Nat.gcd y (x % y)=Nat.gcd n m):=Lib.hid (by rw [← HGG.out,Nat.gcd_comm x y,Nat.gcd_rec y x,Nat.gcd_comm])
   obtain ⟨q,hq⟩:∃ q,x % y=q:=⟨_,rfl⟩
   rw [hq] at htm hlt hw HQ
   clear hq
   go_wp2_with fail
   go_quiet (fail)
   go_wp2_with fail
   go_roundw
   case rel=>exact ⟨y,q,rfl,rfl,hy,by omega,HQ,qbl⟩
   case measure=>simp [intOf];omega
theorem gcd6_long {n m:Nat} (s t:ByteArray) (w:World) (hs:s.data.toList=Lib.decDigits n) (hl:s.size≤300) (ht:t.data.toList=Lib.decDigits m) (hm:t.size≤300) (hlong:17 < s.size∨(s.size≤17∧17 < t.size)) :
  Calls Tryz.prog 121 #[.string s,.string t] w (RetDec (Nat.gcd n m) w):=by
 have HB:=Lib.hid (fun W=>both6_ok s t W hs hl ht hm)
 have HT:=Lib.hid (fun W=>two6_long s t W hs hlong)
 have HR1:=Lib.hid (fun W=>read6_ok s W hs (by omega))
 have HR2:=Lib.hid (fun W=>read6_ok t W ht (by omega))
 have hfd:=run_field6
 clear hs ht hlong
 go_enter Tryz.func121,Tryz.ntmps121
 go_wp2_with fail
 refine (HB.out _).mono ?_
 rintro e w1 ⟨rfl,rfl⟩
 go_wp2_with fail
 refine (HT.out _).mono ?_
 rintro e w2 ⟨⟨u1,u2,rfl⟩,rfl⟩
 go_wp2_with fail
 refine (HR1.out _).mono ?_
 rintro e w3 ⟨v1,rfl,⟨a1,l1,c1,rfl,i1,d1,q1⟩,hB3⟩
 have hb3:Below w2.heap.size w2 w3:=hB3
 have HI1:=Lib.hid i1
 clear hB3 i1
 go_wp2_with fail
 refine (HR2.out _).mono ?_
 rintro e w4 ⟨v2,rfl,⟨a2,l2,c2,rfl,i2,d2,q2⟩,hB4⟩
 have hb4:Below w2.heap.size w2 w4:=below_trans' hb3 hB4
 have HI1':=Lib.hid (HI1.out.below hB4)
 have HI2:=Lib.hid i2
 have HD1:=Lib.hid d1
 have HD2:=Lib.hid d2
 have hq1:l1.length≤60:=by omega
 have hq2:l2.length≤60:=by omega
 clear hB4 i2 d1 d2 HI1
 go_wp2_with fail
 go_loopg [10,11] (((m:Nat):Int).toNat) (fun g a b wr=>∃ (la lb:List Int) (pa pb:Option Addr) (ca cb:Nat) (p q:Int),g=q.toNat∧a=.slice pa la.length ca∧b=.slice pb lb.length cb∧Hid (IsInts wr (.slice pa la.length ca) la)∧Hid (IsInts wr (.slice pb lb.length cb) lb)∧Hid (Num la p)∧Hid (Num lb q)∧la.length≤60∧lb.length≤60∧Hid (Int.gcd p q=Nat.gcd n m)∧Below w2.heap.size w2 wr)
 case atStart=>exact ⟨l1,l2,a1,a2,c1,c2,n,m,rfl,rfl,rfl,HI1',HI2,HD1,HD2,hq1,hq2,Lib.hid (Int.gcd_natCast_natCast n m),hb4⟩
 case round =>
  clear hq1 hq2 HI1' HI2 HD1 HD2
  obtain ⟨la,lb,pa,pb,ca,cb,p,q,rfl,rfl,rfl,HIA,HIB,HDA,HDB,hla,hlb,HGG,hBr⟩:=hrel
  by_cases h0:lb.length=0
  ·have hn0:¬ (0:Int) < (lb.length:Int):=by omega
   have hq0:q=0:=HDB.out.zero.1 h0
   have hp0:=HDA.out.high.1
   have HZ:Hid (IsBig6 wr (.agg #[.bool false,.slice pa la.length ca]) p 60):=Lib.hid ⟨pa,la,ca,rfl,HIA.out,HDA.out,hla⟩
   have HPG:Hid (p.toNat=Nat.gcd n m):=Lib.hid (by rw [← HGG.out,hq0,Int.gcd_zero_right];omega)
   clear hq0
   go_wp2_with fail
   refine (write6_ok _ _ HZ.out (by omega)).mono ?_
   rintro e w6 ⟨r,hr,rfl,hB6⟩
   have HR:Hid (r.data.toList=Lib.decDigits (Nat.gcd n m)):=Lib.hid (by rw [hr,HPG.out])
   have hb6:=hBr.trans (hB6.mono hBr.size)
   clear hr hB6
   go_wp2_with fail
   go_ret2
   exact ⟨r,HR.out,rfl,hb6⟩
  ·have hn0:(0:Int) < (lb.length:Int):=by omega
   have hq0:0 < q:=by
    have h1:=HDB.out.low h0
    have h2:=pw_pos (lb.length - 1)
    omega
   have HDV:=Lib.hid (divide6_ok _ _ wr HIA.out HIB.out HDA.out HDB.out (by omega) (by omega) hq0)
   go_wp2_with fail
   refine HDV.out.mono ?_
   rintro e wd ⟨lq,vq,lr,vr,rfl,iq,ir,nq,nr,kq,kr,hBd⟩
   obtain ⟨qa,qc,rfl⟩:=iq.slice
   obtain ⟨ra,rc,rfl⟩:=ir.slice
   have HIR:=Lib.hid ir
   have HNR:=Lib.hid nr
   have HIB':=Lib.hid (HIB.out.below hBd)
   have hBw:=hBr.trans (hBd.mono hBr.size)
   have hlr:lr.length≤60:=by omega
   have hr1:p % q < q:=Int.emod_lt_of_pos _ hq0
   have hr0:0≤p % q:=Int.emod_nonneg _ (by omega)
   have HG2:Hid (Int.gcd q (p % q)=Nat.gcd n m):=Lib.hid (by rw [← HGG.out];exact gcd_step HDA.out.high.1 (by omega))
   clear iq ir nq nr kq kr hBd
   go_wp2_with fail
   go_roundg ((p % q).toNat)
   case rel=>exact ⟨lb,lr,pb,ra,cb,rc,q,p % q,rfl,rfl,rfl,HIB',HIR,HDB,HNR,hlb,hlr,HG2,hBw⟩
   case measure=>omega
theorem gcd6_ok {n m:Nat} (s t:ByteArray) (w:World) (hG:Glo w) (hs:s.data.toList=Lib.decDigits n) (hl:s.size≤300) (ht:t.data.toList=Lib.decDigits m) (hm:t.size≤300) :
  Calls Tryz.prog 121 #[.string s,.string t] w (RetDec (Nat.gcd n m) w):=by
 by_cases h1:17 < s.size
 ·exact gcd6_long s t w hs hl ht hm (.inl h1)
 ·by_cases h2:17 < t.size
  ·exact gcd6_long s t w hs hl ht hm (.inr ⟨by omega,h2⟩)
  ·exact gcd6_small s t w hG hs (by omega) ht (by omega)
end Go.Proofs.YteepphiomcedfaaGreatDoor.R6
