/- Joined texts: WDivB, WDivC, WDivL. -/
import Derived.Test.YteepphiomcedfaaGreatDoorJ16
import Derived.BigFrameIn
set_option maxRecDepth 100000
set_option linter.unusedVariables false
set_option linter.unusedSimpArgs false
set_option maxHeartbeats 6400000
namespace Go.Proofs.YteepphiomcedfaaGreatDoor
open Go.RowKit Go.Shelf
theorem OwnInts.row {W:World} {B n cap:Nat} {su:Option Addr} {l:List Int} (h:OwnInts W B (.slice su n cap) l) (hl:0 < l.length):∃ g,su=some ⟨g,0,none⟩∧B≤g∧n=l.length∧RowI W g cap l:=by
 rcases h.2 with ⟨_,hz⟩|⟨g,cap',cur,e,hB,hg,rest⟩
 ·omega
 ·injection e with e1 e2 e3
  subst e1 e3
  have e2':n=l.length:=by have:=e2;omega
  subst e2'
  exact ⟨g,rfl,hB,rfl,h.1,.inr ⟨g,_,cur,rfl,Nat.le_refl _,hg,rest⟩⟩
structure DivB (rb gU vg ub sc nu nq nv cv:Nat) (U Q lv:List Int) (W:World):Prop where
 o1:rb < gU
 o2:gU < vg
 o3:vg < ub
 r:Boxed W rb 51 (.slice (some ⟨ub+2,0,none⟩) nq nq)
 u:Boxed W ub 51 (.slice (some ⟨gU,0,none⟩) nu sc)
 v:Boxed W (ub+1) 51 (.slice (some ⟨vg,0,none⟩) nv cv)
 i:Boxed W (ub+3) 51 (.slice (some ⟨ub+2,0,none⟩) nq nq)
 q:BlkI W (ub+2) Q
 l:BlkI W vg lv
 w:RowI W gU sc U
theorem DivB.below {rb gU vg ub sc nu nq nv cv:Nat} {U Q lv:List Int} {W W':World} (h:DivB rb gU vg ub sc nu nq nv cv U Q lv W) (hB:Below W.heap.size W W'):DivB rb gU vg ub sc nu nq nv cv U Q lv W' :=
 ⟨h.o1,h.o2,h.o3,boxed_below h.r hB,boxed_below h.u hB,boxed_below h.v hB,boxed_below h.i hB,h.q.below hB,h.l.below hB,h.w.below hB⟩
theorem DivB.row {rb gU vg ub sc nu nq nv cv:Nat} {U U' Q lv:List Int} {W W':World} (h:DivB rb gU vg ub sc nu nq nv cv U Q lv W) (hs:SameBut gU W W') (hr:RowI W' gU sc U'):DivB rb gU vg ub sc nu nq nv cv U' Q lv W':=by
 have a:=h.o1
 have b:=h.o2
 have c:=h.o3
 exact ⟨a,b,c,Boxed.but h.r hs (by omega),Boxed.but h.u hs (by omega),Boxed.but h.v hs (by omega),Boxed.but h.i hs (by omega),h.q.but hs (by omega),h.l.but hs (by omega),hr⟩
theorem DivB.box {rb gU vg ub sc nu nq nv cv:Nat} {U Q lv:List Int} {W W':World} (h:DivB rb gU vg ub sc nu nq nv cv U Q lv W) (hs:SameBut ub W W') (hr:Boxed W' ub 51 (.slice (some ⟨gU,0,none⟩) nu sc)):DivB rb gU vg ub sc nu nq nv cv U Q lv W':=by
 have a:=h.o1
 have b:=h.o2
 have c:=h.o3
 exact ⟨a,b,c,Boxed.but h.r hs (by omega),hr,Boxed.but h.v hs (by omega),Boxed.but h.i hs (by omega),h.q.but hs (by omega),h.l.but hs (by omega),h.w.but hs (by omega)⟩
theorem DivB.quo {rb gU vg ub sc nu nq nv cv:Nat} {U Q Q' lv:List Int} {W W':World} (h:DivB rb gU vg ub sc nu nq nv cv U Q lv W) (hs:SameBut (ub+2) W W') (hr:BlkI W' (ub+2) Q'):DivB rb gU vg ub sc nu nq nv cv U Q' lv W':=by
 have a:=h.o1
 have b:=h.o2
 have c:=h.o3
 exact ⟨a,b,c,Boxed.but h.r hs (by omega),Boxed.but h.u hs (by omega),Boxed.but h.v hs (by omega),Boxed.but h.i hs (by omega),hr,h.l.but hs (by omega),h.w.but hs (by omega)⟩
theorem rowI_own {β:Type} {m g cap:Nat} {l:List Int}:OwnFrom m (fun (_:β) W=>RowI W g cap l):=fun s W W' row hs hg hr=>by
 obtain ⟨cur,hc,_⟩:=hs.heap
 exact hs.of ((cells_own (β:=β) (m:=m) (b:=g) rfl s W W' row hc hg hr).trans hc.symm)
theorem divB_own {β:Type} {m rb gU vg ub sc nu nq nv cv:Nat} {U Q lv:List Int}:OwnFrom m (fun (_:β) W=>DivB rb gU vg ub sc nu nq nv cv U Q lv W):=fun s X Y row h hg hr =>
 ⟨h.o1,h.o2,h.o3,(Own.from (boxed_own rb 51 (fun _:Unit=>.slice (some ⟨ub+2,0,none⟩) nq nq)) _) () X Y row h.r hg hr,(Own.from (boxed_own ub 51 (fun _:Unit=>.slice (some ⟨gU,0,none⟩) nu sc)) _) () X Y row h.u hg hr,
  (Own.from (boxed_own (ub+1) 51 (fun _:Unit=>.slice (some ⟨vg,0,none⟩) nv cv)) _) () X Y row h.v hg hr,(Own.from (boxed_own (ub+3) 51 (fun _:Unit=>.slice (some ⟨ub+2,0,none⟩) nq nq)) _) () X Y row h.i hg hr,
  blkI_own () X Y row h.q hg hr,blkI_own () X Y row h.l hg hr,rowI_own () X Y row h.w hg hr⟩
structure DivSt (u0 v:List Int) (nq:Nat) (pre:List (Fin nq × Int)) (U Q:List Int):Prop where
 len:U.length=nq+v.length
 digs:Digs U
 qlen:Q.length=nq
 at':∀ k,k≤nq→pre.map Prod.fst=fst nq k→LongAt u0 v nq k U Q
theorem DivSt.start {u0 v:List Int} {nq:Nat} (hl:u0.length=nq+v.length) (hd:Digs u0) (h:val u0 < val v * pw nq):DivSt u0 v nq [] u0 (zerosL nq) :=
 ⟨hl,hd,zerosL_len _,fun k hk e=>by
  have h0:k=0:=by have:=congrArg List.length e;rw [fst_length hk] at this;simpa using this.symm
  subst h0
  exact LongAt.start h⟩
theorem DivSt.step {u0 v:List Int} {nq:Nat} {pre:List (Fin nq × Int)} {U Q l:List Int} {qh c:Int} (h:DivSt u0 v nq pre U Q) (x:Fin nq × Int) (dv:Digs v) (hv0:0 < val v) (h0:0≤qh)
  (hE:EstI U v (nq - 1 - x.1.1) qh) (ht:TakeAt U v (nq - 1 - x.1.1) qh (v.length+1) l c) (hc:¬ 0 < c):DivSt u0 v nq (pre++[x]) l (Q.set (nq - 1 - x.1.1) qh):=by
 refine ⟨by rw [ht.len];exact h.len,ht.digs,by rw [List.length_set];exact h.qlen,fun k hk e=>?_⟩
 rw [List.map_append] at e
 obtain ⟨m,rfl,hp,hx⟩:=fst_snoc hk e
 have hL:=h.at' m (by omega) hp
 rw [show nq - 1 - x.1.1=nq - 1 - m by omega] at *
 exact hL.step h.digs dv hv0 (by omega) rfl h.len h.qlen h0 ht hc (hE (hL.pre h.digs dv (by omega) rfl h.len).1)
theorem est_less {U v l:List Int} {j:Nat} {q c:Int} (du:Digs U) (h0:0≤q) (hj:j+v.length < U.length) (ht:TakeAt U v j q (v.length+1) l c) (hc:0 < c):1≤q∧EstI U v j (q - 1):=by
 have h:=(ht.carry hj).1 hc
 refine ⟨Decidable.byContradiction fun hn=>?_,fun _=>by rw [Int.sub_add_cancel];exact h⟩
 have:q=0:=by omega
 rw [this,Int.zero_mul] at h
 have:=(part_bound du j (v.length+1)).1
 omega
theorem KpQ.but {N B b1 g c:Nat} {W W':World} (h:SameBut c W W') (hB:B≤c) (h1:b1≠c) (h2:g≠c):KpQ N B b1 g W W':=⟨h.below (bw0 _ _) hB,h.block _ h1,fun l hl e=>⟨l,hl.but h h2,e⟩⟩
theorem KpQ.belowB {N B b1 g:Nat} {W W':World} (h:Below W.heap.size W W') (hB:B≤W.heap.size) (h1:b1 < W.heap.size):KpQ N B b1 g W W':=⟨h.mono hB,h.block _ h1,fun l hl e=>⟨l,hl.below h,e⟩⟩
theorem fold2 (t:Array Value) (p q:Tmp) (a b:Value):(#[p,q].zip #[a,b]).foldl (fun t (p,v)=>t.setIfInBounds p v) t=(t.setIfInBounds p a).setIfInBounds q b:=by simp
end Go.Proofs.YteepphiomcedfaaGreatDoor
namespace Go.Proofs.YteepphiomcedfaaGreatDoor
open Go.RowKit Go.Shelf
theorem takeV {W:World} {vg n cv:Nat} {lv V:List Int} (hl:BlkI W vg lv) (hV:lv.take n=V) (hn:n≤lv.length) (hc:lv.length=cv):V.length=n∧IsInts W (.slice (some ⟨vg,0,none⟩) n cv) V:=by
 subst hV
 exact ⟨by rw [List.length_take];omega,hl.isTake hn hc⟩
theorem estD {U V lv:List Int} {n j gU sc vg cv N:Nat} (W:World) (hr:RowI W gU sc U) (hl:BlkI W vg lv) (hn:n≤lv.length) (hc:lv.length=cv) (hV:lv.take n=V) (h2:2≤n) (du:Digs U) (dv:Digs V) (hN:U.length=N) (hj:j+n < N) (hul:N≤2000) (htop:500000000≤lim V (n - 1)) :
  Calls Tryz.prog 220 #[.slice (some ⟨gU,0,none⟩) N sc,.slice (some ⟨vg,0,none⟩) n cv,.int .i64 j] W fun e w'=>∃ q:Int,e=.returned (.int .i64 q)∧0≤q∧q≤2000000000∧EstI U V j q∧Below W.heap.size W w':=by
 obtain ⟨hVn,hI⟩:=takeV hl hV hn hc
 obtain ⟨m,rfl⟩:∃ m,n=m+2:=⟨n - 2,by omega⟩
 obtain ⟨f1,f2,f3⟩:=est_facts (u:=U) (v:=V) (j:=j) (n:=m) du dv hVn
 subst hN
 have e1:V.length - 1=m+1:=by omega
 have e2:V.length - 2=m:=by omega
 refine (estimateL_ok (u:=U) (v:=V) (j:=j) _ W hr hI du dv (by omega) (by omega) hul (by rw [e1];exact htop) (EstI U V j) ?_ f2 ?_).mono ?_
 ·rw [e1,hVn]
  have hz:(0:Int) < lim V (m+1):=by have:(500000000:Int)≤lim V (m+1):=htop;omega
  have h0:0≤lim U (j+(m+2)) * 1000000000+lim U (j+(m+2) - 1):=by
   have:=(du (j+(m+2))).1
   have:=(du (j+(m+2) - 1)).1
   omega
  refine f1 _ ((lim U (j+(m+2)) * 1000000000+lim U (j+(m+2) - 1)) % lim V (m+1)) (Int.ediv_nonneg h0 (by omega)) ?_ (Int.emod_lt_of_pos _ hz)
  rw [Int.mul_comm]
  exact Int.mul_ediv_add_emod _ _
 ·rw [e1,e2,hVn]
  exact f3
 ·rintro e w' ⟨q,rfl,q0,q1,hq,k,rfl⟩
  exact ⟨q,rfl,q0,q1,hq,bw2 (bw0 _ _) _⟩
theorem takeD {U V lv:List Int} {n j gU sc vg cv N:Nat} {q:Int} (W:World) (hr:RowI W gU sc U) (hl:BlkI W vg lv) (hne:gU≠vg) (hn:n≤lv.length) (hc:lv.length=cv) (hV:lv.take n=V) (du:Digs U) (dv:Digs V) (hN:U.length=N) (hj:j+n < N) (hul:N≤2000) (q0:0≤q) (q1:q≤4000000000) :
  Calls Tryz.prog 221 #[.slice (some ⟨gU,0,none⟩) N sc,.slice (some ⟨vg,0,none⟩) n cv,.int .i64 j,.int .i64 q] W fun e w'=>∃ l c,e=.returned (.bool (decide (0 < c)))∧RowI w' gU sc l∧TakeAt U V j q (V.length+1) l c∧SameBut gU W w':=by
 obtain ⟨hVn,hI⟩:=takeV hl hV hn hc
 subst hN
 exact takeL_ok _ W hr hI (fun b off k cap e=>by injection e with e1 _ _;injection e1 with e1;injection e1 with e1;omega) du dv (by omega) hul q0 q1
theorem restoreD {U V lv:List Int} {n j gU sc vg cv N:Nat} {q:Int} (W:World) (hr:RowI W gU sc U) (hl:BlkI W vg lv) (hne:gU≠vg) (hn:n≤lv.length) (hc:lv.length=cv) (hV:lv.take n=V) (du:Digs U) (dv:Digs V) (hN:U.length=N) (hj:j+n < N) (hul:N≤2000) (q0:0≤q) (q1:q≤4000000000) :
  Calls Tryz.prog 222 #[.slice (some ⟨gU,0,none⟩) N sc,.slice (some ⟨vg,0,none⟩) n cv,.int .i64 j,.int .i64 q] W fun e w'=>∃ l c,e=.returned (.slice (some ⟨gU,0,none⟩) N sc)∧RowI w' gU sc l∧GiveAt U V j q (V.length+1) l c∧SameBut gU W w':=by
 obtain ⟨hVn,hI⟩:=takeV hl hV hn hc
 subst hN
 exact restoreL_ok _ W hr hI (fun b off k cap e=>by injection e with e1 _ _;injection e1 with e1;injection e1 with e1;omega) du dv (by omega) hul q0 q1
end Go.Proofs.YteepphiomcedfaaGreatDoor
namespace Go.Proofs.YteepphiomcedfaaGreatDoor
open Go.RowKit Go.Shelf
attribute [local go_sem] Oper.semAt_some
theorem divide_less {a b:List Int} {x y:Int} (va vb:Value) (w:World) (hva:IsInts w va a) (hvb:IsInts w vb b) (ha:Num a x) (hb:Num b y) (hal:a.length≤900) (hbl:b.length≤900) (hlt:x < y) :
  Calls Tryz.prog 166 #[va,vb] w (RetDiv (x / y) (x % y) (max a.length 1) w):=by
 have HC:=Lib.hid (fun (W:World) (hB:Below w.heap.size w W)=>compareL_ok _ _ W (hva.below hB) (hvb.below hB) ha hb (by omega) (by omega))
 have HVA:=Lib.hid hva
 have HA:=Lib.hid ha
 have hx0:=ha.high.1
 obtain ⟨aa,ac,rfl⟩:=hva.slice
 obtain ⟨ba,bc,rfl⟩:=hvb.slice
 clear hva hvb ha hb
 refine (callsIn_wide (n:=5)).1 ?_
 refine callsIn_of_wp_marks Tryz.func166 rfl trivial ?_ rfl
 simp only [Tryz.ntmps166,List.size_toArray,List.length_cons,List.length_nil,Nat.reduceAdd,Nat.reduceSub,Array.replicate_succ,Array.replicate_zero,List.push_toArray,List.append_toArray,List.nil_append,List.cons_append]
 gi_wp2
 refine ⟨trivial,?_⟩
 have hb0:Below w.heap.size w (w.alloc (.cells #[.slice none 0 0] 51)):=qbl
 have x0:Boxed (w.alloc (.cells #[.slice none 0 0] 51)) w.heap.size 51 (.slice none 0 0):=Boxed.new _ _ _
 have hz0:(w.alloc (.cells #[.slice none 0 0] 51)).heap.size=w.heap.size+1:=by simp
 generalize w.alloc (.cells #[.slice none 0 0] 51)=W0 at *
 refine (callsIn_wide.2 (HC.out _ hb0)).mono ?_
 rintro e w1 ⟨r,rfl,hr1,hr2,hB1⟩
 have hr:r < 0:=hr1.2 hlt
 have x1:=boxed_below x0 hB1
 have hb1:Below w.heap.size w w1:=below_trans' hb0 hB1
 have f1:=x1.cell
 have g1:=x1.frozen
 clear hr1 hr2 hB1
 gi_wp2
 have hS:=sameBut_setCell w1 w.heap.size 0 (.slice none 0 0)
 have x2:=x1.set (.slice none 0 0)
 refine leaves_marks w.heap.size [] _ List.nodup_nil (fun D hD=>by cases hD) (fun W' hB' hcc=>?_)
 have z1:W'.cell? ⟨w.heap.size,0,none⟩=some (.slice none 0 0):=cell_keeps x2.cell hcc
 have l1:(loadVar 51 ⟨w.heap.size,0,none⟩).run Tryz.prog W'=.ok (.slice none 0 0) W':=by simp [go_sem,z1]
 have hbw:Below w.heap.size w W':=(hS.below hb1 (Nat.le_refl _)).trans hB'
 exact ⟨_,results_cell_tmp Tryz.results166 rfl l1,[],_,a,_,rfl,isInts_nil _,HVA.out.below hbw,⟨fun i=>by rw [lim_nil];exact ⟨by omega,by omega⟩,fun h=>absurd rfl h,by rw [Int.ediv_eq_zero_of_lt hx0 hlt];rfl⟩,by rw [Int.emod_eq_of_lt hx0 hlt];exact HA.out,by simp,by omega,hbw⟩
theorem divide_one {a b:List Int} {x y:Int} (va vb:Value) (w:World) (hva:IsInts w va a) (hvb:IsInts w vb b) (ha:Num a x) (hb:Num b y) (hal:a.length≤900) (hbl:b.length=1) (hlt:y≤x) :
  Calls Tryz.prog 166 #[va,vb] w (RetDiv (x / y) (x % y) (max a.length 1) w):=by
 have HC:=Lib.hid (fun (W:World) (hB:Below w.heap.size w W)=>compareL_ok _ _ W (hva.below hB) (hvb.below hB) ha hb (by omega) (by omega))
 have hy:lim b 0=y:=by rw [← hb.sum,val_top (n:=0) hbl];simp [vt,pw]
 have hy0:=hb.trim (by omega)
 rw [hbl,Nat.sub_self,hy] at hy0
 have hy1:=(hb.digs 0)
 rw [hy] at hy1
 obtain ⟨hy1,hy2⟩:=hy1
 have HD:=Lib.hid (fun (W:World) (hB:Below w.heap.size w W)=>divideShortL_ok (d:=y) va W (hva.below hB) ha hal (by omega) hy2)
 obtain ⟨aa,ac,rfl⟩:=hva.slice
 obtain ⟨ba,bc,rfl⟩:=hvb.slice
 obtain ⟨_,_,hcb⟩:=hvb.cells
 obtain ⟨bb,ob,rfl,hcell⟩:=hcb (by omega)
 have cb:=hcell 0 (by omega)
 rw [hy,Nat.add_zero] at cb
 have hl1:((b.length:Int) == 1)=true:=by rw [hbl];rfl
 have hl2:(0:Int) < (b.length:Int):=by omega
 clear hva hvb ha hb hcb hcell hbl hy
 refine (callsIn_wide (n:=5)).1 ?_
 refine callsIn_of_wp_marks Tryz.func166 rfl trivial ?_ rfl
 simp only [Tryz.ntmps166,List.size_toArray,List.length_cons,List.length_nil,Nat.reduceAdd,Nat.reduceSub,Array.replicate_succ,Array.replicate_zero,List.push_toArray,List.append_toArray,List.nil_append,List.cons_append]
 gi_wp2
 refine ⟨trivial,?_⟩
 have hb0:Below w.heap.size w (w.alloc (.cells #[.slice none 0 0] 51)):=qbl
 have x0:Boxed (w.alloc (.cells #[.slice none 0 0] 51)) w.heap.size 51 (.slice none 0 0):=Boxed.new _ _ _
 have hz0:(w.alloc (.cells #[.slice none 0 0] 51)).heap.size=w.heap.size+1:=by simp
 generalize w.alloc (.cells #[.slice none 0 0] 51)=W0 at *
 refine (callsIn_wide.2 (HC.out _ hb0)).mono ?_
 rintro e w1 ⟨r,rfl,hr1,hr2,hB1⟩
 have hr:¬ r < 0:=fun h=>by have:=hr1.1 h;omega
 have x1:=boxed_below x0 hB1
 have hb1:Below w.heap.size w w1:=below_trans' hb0 hB1
 have cb1:=keep hb1 cb
 clear hr1 hr2 hB1
 gi_wp2
 refine ⟨trivial,?_⟩
 refine (callsIn_wide.2 (HD.out _ hb1)).mono ?_
 rintro e w2 ⟨lq,vq,lr,vr,rfl,iq,ir,nq,nr,kq,kr,hB2⟩
 have hb2:Below w.heap.size w w2:=below_trans' hb1 hB2
 have x2:=boxed_below x1 hB2
 have f2:=x2.cell
 have g2:=x2.frozen
 obtain ⟨qa,qc,rfl⟩:=iq.is.slice
 obtain ⟨ra,rc,rfl⟩:=ir.is.slice
 have HQ:=Lib.hid iq
 have HR:=Lib.hid ir
 clear iq ir
 gi_wp2
 have hS:=sameBut_setCell w2 w.heap.size 0 (.slice qa lq.length qc)
 have x3:=x2.set (.slice qa lq.length qc)
 have iq2:=HQ.out.but hS (by have:=hb1.size;have:=x1.lt;omega)
 have ir2:=HR.out.but hS (by have:=hb1.size;have:=x1.lt;omega)
 refine leaves_marks w.heap.size [] _ List.nodup_nil (fun D hD=>by cases hD) (fun W' hB' hcc=>?_)
 have z1:W'.cell? ⟨w.heap.size,0,none⟩=some (.slice qa lq.length qc):=cell_keeps x3.cell hcc
 have l1:(loadVar 51 ⟨w.heap.size,0,none⟩).run Tryz.prog W'=.ok (.slice qa lq.length qc) W':=by simp [go_sem,z1]
 have hbw:Below w.heap.size w W':=(hS.below hb2 (Nat.le_refl _)).trans hB'
 exact ⟨_,results_cell_tmp Tryz.results166 rfl l1,lq,_,lr,_,rfl,OwnInts.is (ownsRow_keeps iq2 hcc),OwnInts.is (ownsRow_keeps ir2 hcc),nq,nr,kq,kr,hbw⟩
theorem num_one {f:Int} (h0:1≤f) (h1:f≤999999999):Num [f] f:=⟨digs_of fun i hi=>by
  have:i=0:=by simpa using hi
  subst this
  exact ⟨by show 0≤f;omega,h1⟩,fun _=>by show f≠0;omega,by show 0+f * 1=f;omega⟩
theorem divide_long {a b:List Int} {x y:Int} (va vb:Value) (w:World) (hva:IsInts w va a) (hvb:IsInts w vb b) (ha:Num a x) (hb:Num b y) (hal:a.length≤800) (hbl:b.length≤800) (h2:2≤b.length) (hlt:y≤x) :
  Calls Tryz.prog 166 #[va,vb] w (RetDiv (x / y) (x % y) (max a.length 1) w):=by
 have HC:=Lib.hid (fun (W:World) (hB:Below w.heap.size w W)=>compareL_ok _ _ W (hva.below hB) (hvb.below hB) ha hb (by omega) (by omega))
 obtain ⟨b1,hb1⟩:∃ t,lim b (b.length - 1)=t:=⟨_,rfl⟩
 have hb1d:=hb.digs (b.length - 1)
 rw [hb1] at hb1d
 obtain ⟨p1,p2⟩:=hb1d
 have hb1n:=hb.trim (by omega)
 rw [hb1] at hb1n
 obtain ⟨f,hf⟩:∃ f,1000000000 / (b1+1)=f:=⟨_,rfl⟩
 obtain ⟨f1,f2,_,_⟩:=norm_top (show 1≤b1 by omega) p2 hf.symm
 have hw1:IntKind.i64.wrap (b1+1)=b1+1:=IntWalk.i64_in _ (by omega)
 have ht1:(1000000000:Int).tdiv (b1+1)=f:=by rw [Int.tdiv_eq_ediv_of_nonneg (by omega)];exact hf
 have hz1:¬ b1+1=0:=by omega
 have hz2:(b1+1 == 0)=false:=by simp [hz1]
 have hw2:IntKind.i64.wrap f=f:=IntWalk.i64_in _ (by omega)
 have HND:=Lib.hid (fun v (hv:Num v (y * f))=>norm_div (n:=b.length - 1) hb (by omega) (by rw [hb1];exact hf.symm) hv)
 have HTA:=Lib.hid (fun (W:World) (hB:Below w.heap.size w W) (u:Value) (hu:IsInts W u [f])=>timesL_ok va u W (hva.below hB) hu ha (num_one f1 (by omega)) (by omega) (by simp))
 have HTB:=Lib.hid (fun (W:World) (hB:Below w.heap.size w W) (u:Value) (hu:IsInts W u [f])=>timesL_ok vb u W (hvb.below hB) hu hb (num_one f1 (by omega)) (by omega) (by simp))
 obtain ⟨aa,ac,rfl⟩:=hva.slice
 obtain ⟨ba,bc,rfl⟩:=hvb.slice
 obtain ⟨_,_,hcb⟩:=hvb.cells
 obtain ⟨bb,ob,rfl,hcell⟩:=hcb (by omega)
 have cb:=hcell (b.length - 1) (by omega)
 rw [hb1] at cb
 have hl1:((b.length:Int) == 1)=false:=by rw [beq_eq_false_iff_ne];omega
 have hl2:(b.length:Int) - 1 < (b.length:Int):=by omega
 have hl3:(0:Int)≤(b.length:Int) - 1:=by omega
 have hl4:((b.length:Int) - 1).toNat=b.length - 1:=by omega
 have hab:b.length≤a.length:=Nat.le_of_not_lt fun h=>by have:=ha.lt_of_length hb h;omega
 have HA:=Lib.hid ha
 have HB:=Lib.hid hb
 clear hva hvb ha hb hcb hcell hb1 hf
 refine (callsIn_wide (n:=5)).1 ?_
 refine callsIn_of_wp_marks Tryz.func166 rfl trivial ?_ rfl
 simp only [Tryz.ntmps166,List.size_toArray,List.length_cons,List.length_nil,Nat.reduceAdd,Nat.reduceSub,Array.replicate_succ,Array.replicate_zero,List.push_toArray,List.append_toArray,List.nil_append,List.cons_append]
 gi_wp2
 refine ⟨trivial,?_⟩
 have hb0:Below w.heap.size w (w.alloc (.cells #[.slice none 0 0] 51)):=qbl
 have x0:Boxed (w.alloc (.cells #[.slice none 0 0] 51)) w.heap.size 51 (.slice none 0 0):=Boxed.new _ _ _
 have hz0:(w.alloc (.cells #[.slice none 0 0] 51)).heap.size=w.heap.size+1:=by simp
 generalize w.alloc (.cells #[.slice none 0 0] 51)=W0 at *
 refine (callsIn_wide.2 (HC.out _ hb0)).mono ?_
 rintro e w1 ⟨r,rfl,hr1,hr2,hB1⟩
 have hr:¬ r < 0:=fun h=>by have:=hr1.1 h;omega
 have x1:=boxed_below x0 hB1
 have hb1:Below w.heap.size w w1:=below_trans' hb0 hB1
 have cb1:=keep hb1 cb
 clear hr1 hr2 hB1 x0
 gi_wp2
 refine ⟨trivial,?_⟩
 have hbA:Below w1.heap.size w1 (w1.alloc (.cells #[.int .i64 f] 3)):=qbl
 have xA:BlkI (w1.alloc (.cells #[.int .i64 f] 3)) w1.heap.size [f]:=BlkI.new (X:=w1) (l:=[f]) rfl
 generalize w1.alloc (.cells #[.int .i64 f] 3)=WA at *
 refine (callsIn_wide.2 (HTA.out _ (below_trans' hb1 hbA) _ xA.is)).mono ?_
 rintro e w2 ⟨mu,lu,rfl,blu,hlu,hmu,nu,zu,hB2⟩
 obtain ⟨i0,hi0,hz0',hz1',hz2'⟩:=info_parts Tryz.infoInt
 have hlu':lu.length=a.length+1+1:=by rw [hlu];rfl
 have hlt0:(lu.take mu).length=mu:=by rw [List.length_take];omega
 have hou:w2.ownsRow WA.heap.size 3 1 (.slice (some ⟨WA.heap.size,0,none⟩) mu (a.length+1+1)) mu (intVs (lu.take mu)):=by
  have h:=(blu.own (Nat.le_refl _) (by omega)).take' mu hmu
  unfold OwnInts at h
  rw [hlt0,hlu'] at h
  exact h
 have HOU:=Lib.hid hou
 have HNU:=Lib.hid nu
 have HBA:=Lib.hid (And.intro hbA hB2)
 have M1:=Lib.hid (show mu+1≤maxLen by unfold maxLen;omega)
 have M2:=Lib.hid (show (mu+1) * 8≤140737488355328 by omega)
 have M3:=Lib.hid (show WA.heap.size≤(w2.alloc (.cells #[.int .i64 0] 3)).heap.size by have:=hB2.size;simp;omega)
 have N4:=Lib.hid (fun (W':World) (h:(w2.alloc (.cells #[.int .i64 0] 3)).grownBy W' (some WA.heap.size))=>Below.grown (bw4 hB2 _) h (by have:=hB2.size;simp;omega) (fun j hj=>by cases hj;exact Nat.le_refl _))
 clear hou nu zu blu hlu hbA hB2
 gi_wp2_with (gi_at_builtin;refine wpListIn_append_own _ rfl _ _ 51 rfl WA.heap.size 3 i0 (.int .i64 0) 1 8 Tryz.underlying51 hi0 hz0' hz1' hz2' rfl (by decide) _ _ _ rfl (HOU.out.alloc _) ⟨w2.heap.size,0,none⟩ 1 1 [.int .i64 0] rfl rfl (cell_one_new _ _ _) (by simp [Value.oneCell']) M1.out M2.out M3.out ?_;intro v' w4 hown0 hgrow _;have hb4:=Lib.hid (N4.out _ hgrow);obtain ⟨su,sc,rfl,_⟩:=row_shape1 hown0;have HOW:=Lib.hid hown0;clear hown0 hgrow)
 have hmu2:a.length≤mu:=by
  refine Decidable.byContradiction fun hc=>?_
  have h1:=HA.out.low (by omega)
  have h2:=HNU.out.high.2
  rw [hlt0] at h2
  have h3:=pw_mono (show mu≤a.length - 1 by omega)
  have h4:x * 1≤x * f:=Int.mul_le_mul_of_nonneg_left f1 (by have:=HA.out.high.1;omega)
  omega
 refine ⟨trivial,?_⟩
 have hbw4:Below w.heap.size w w4:=below_trans' hb1 (below_trans' HBA.out.1 hb4.out)
 have hbC:Below w4.heap.size w4 (w4.alloc (.cells #[.int .i64 f] 3)):=qbl
 have xC:BlkI (w4.alloc (.cells #[.int .i64 f] 3)) w4.heap.size [f]:=BlkI.new (X:=w4) (l:=[f]) rfl
 generalize w4.alloc (.cells #[.int .i64 f] 3)=WC at *
 refine (callsIn_wide.2 (HTB.out _ (below_trans' hbw4 hbC) _ xC.is)).mono ?_
 rintro e w5 ⟨mv,lv,rfl,blv,hlv,hmv,nv,zv,hB5⟩
 have hlv':lv.length=b.length+1+1:=by rw [hlv];rfl
 have hlt1:(lv.take mv).length=mv:=by rw [List.length_take];omega
 obtain ⟨hnd1,hnd2⟩:=HND.out _ nv
 have hmvb:mv=b.length:=by rw [← hlt1,hnd1];omega
 subst hmvb
 have HNV:=Lib.hid nv
 have HBV:=Lib.hid blv
 have HND2:=Lib.hid hnd2
 have hb5:Below w.heap.size w w5:=below_trans' (below_trans' hbw4 hbC) hB5
 have x5:=boxed_below (boxed_below (boxed_below (boxed_below x1 HBA.out.1) hb4.out) hbC) hB5
 have HU5:=Lib.hid (fun j (hj:j < w4.heap.size)=>(hB5.block j (by have:=hbC.size;omega)).trans (hbC.block j hj))
 have hWC:=hbC.size
 have hW45:=hB5.size
 have hW4A:=hb4.out.size
 have hWA1:=HBA.out.1.size
 have hgv:w4.heap.size≤WC.heap.size:=hWC
 clear nv zv blv hlv hnd1 hnd2 hB5 hbC
 gi_wp2
 have hb6:Below w5.heap.size w5 ((w5.alloc (.cells #[.slice su (mu+1) sc] 51)).alloc (.cells #[.slice (some ⟨WC.heap.size,0,none⟩) b.length (b.length+1+1)] 51)):=qbl
 have y7:Boxed ((w5.alloc (.cells #[.slice su (mu+1) sc] 51)).alloc (.cells #[.slice (some ⟨WC.heap.size,0,none⟩) b.length (b.length+1+1)] 51)) w5.heap.size 51 (.slice su (mu+1) sc):=(Boxed.new w5 _ _).alloc _
 have y8:Boxed ((w5.alloc (.cells #[.slice su (mu+1) sc] 51)).alloc (.cells #[.slice (some ⟨WC.heap.size,0,none⟩) b.length (b.length+1+1)] 51)) (w5.heap.size+1) 51 (.slice (some ⟨WC.heap.size,0,none⟩) b.length (b.length+1+1)):=boxed_new' (by simp)
 have hz6:((w5.alloc (.cells #[.slice su (mu+1) sc] 51)).alloc (.cells #[.slice (some ⟨WC.heap.size,0,none⟩) b.length (b.length+1+1)] 51)).heap.size=w5.heap.size+2:=by simp
 generalize ((w5.alloc (.cells #[.slice su (mu+1) sc] 51)).alloc (.cells #[.slice (some ⟨WC.heap.size,0,none⟩) b.length (b.length+1+1)] 51))=W6 at *
 have x6:=boxed_below x5 hb6
 have c7:=y7.cell
 have hml:¬ ((mu:Int)+1 < (a.length:Int)+1):=by omega
 have hml2:¬ ((mu:Int) < (a.length:Int)):=by omega
 gi_loopg [44] 0 (fun g v wr=>g=0∧wr=W6)
 case atStart=>exact ⟨rfl,rfl⟩
 case round =>
  obtain ⟨rfl,hwr⟩:=hrel
  subst wr
  obtain ⟨nq,hnq⟩:∃ nq:Nat,mu+1 - b.length=nq:=⟨_,rfl⟩
  have hnq2:(mu:Int)+1 - (b.length:Int)=(nq:Int):=by omega
  have hmk:=fun (W:World)=>run_makeI W nq (by omega) (nq:Int) rfl
  have hw9:IntKind.i64.wrap ((mu:Int)+1 - (b.length:Int))=(nq:Int):=by rw [hnq2];exact IntWalk.i64_in _ (by omega)
  have f6:=x6.frozen
  have c6:=x6.cell
  have c8:=y8.cell
  have z6:=x6.lt
  have z5:=x5.lt
  have x6a:=x6.alloc (.cells (intVs (zerosL nq)).toArray 3)
  have c6a:=x6a.cell
  have f6a:=x6a.frozen
  have c6b:=(x6a.set (.slice (some ⟨W6.heap.size,0,none⟩) nq nq)).cell
  gi_wp2
  refine ⟨trivial,?_⟩
  have hS7:=sameBut_setCell (W6.alloc (.cells (intVs (zerosL nq)).toArray 3)) w.heap.size 0 (.slice (some ⟨w5.heap.size+2,0,none⟩) nq nq)
  have xq:=(BlkI.new (X:=W6) (n:=w5.heap.size+2) (l:=zerosL nq) hz6).but hS7 (by omega)
  have x7:=x6a.set (.slice (some ⟨w5.heap.size+2,0,none⟩) nq nq)
  have z7:=Boxed.but (y7.alloc (.cells (intVs (zerosL nq)).toArray 3)) hS7 (by omega)
  have z8:=Boxed.but (y8.alloc (.cells (intVs (zerosL nq)).toArray 3)) hS7 (by omega)
  have hsz7:((W6.alloc (.cells (intVs (zerosL nq)).toArray 3)).setCell ⟨w.heap.size,0,none⟩ (.slice (some ⟨w5.heap.size+2,0,none⟩) nq nq)).heap.size=w5.heap.size+3:=by simp [hz6]
  generalize ((W6.alloc (.cells (intVs (zerosL nq)).toArray 3)).setCell ⟨w.heap.size,0,none⟩ (.slice (some ⟨w5.heap.size+2,0,none⟩) nq nq))=W7 at *
  refine (callsIn_wide.2 (backward_any _ _ _ _)).mono ?_
  rintro e w9 ⟨rfl,rfl⟩
  clear c6a f6a c6b c7 c8 c6 f6
  gi_wp2
  have hwlt:=Boxed.lt x1
  have hwle:=hb1.size
  have hle:(lu.take mu++[(0:Int)]).length=mu+1:=by rw [List.length_append,hlt0];rfl
  have hvle:intVs (lu.take mu++[(0:Int)])=intVs (lu.take mu)++[Value.int .i64 0]:=by simp [intVs]
  have hOW:OwnInts w4 WA.heap.size (.slice su (mu+1) sc) (lu.take mu++[0]):=by
   have h:=HOW.out
   unfold OwnInts
   rw [hle,hvle]
   exact h
  obtain ⟨gU,rfl,hgU,-,hrow4⟩:=hOW.row (by simp)
  have hgU4:=hrow4.lt
  have hrow7:=((((hrow4.of (HU5.out gU hgU4)).below hb6).below (bw4 (bw0 _ _) (.cells (intVs (zerosL nq)).toArray 3))).but hS7 (by omega))
  have hlv7:=(((HBV.out.below hb6).below (bw4 (bw0 _ _) (.cells (intVs (zerosL nq)).toArray 3))).but hS7 (by omega))
  have hb7:Below w.heap.size w W7:=hS7.below (bw4 (below_trans' hb5 hb6) _) (Nat.le_refl _)
  have hb8:Below w.heap.size w (W7.alloc (.cells #[.slice (some ⟨w5.heap.size+2,0,none⟩) nq nq] 51)):=bw4 hb7 _
  have hz8:(W7.alloc (.cells #[.slice (some ⟨w5.heap.size+2,0,none⟩) nq nq] 51)).heap.size=w5.heap.size+4:=by simp [hsz7]
  have hBa:Below W7.heap.size W7 (W7.alloc (.cells #[.slice (some ⟨w5.heap.size+2,0,none⟩) nq nq] 51)):=bw4 (bw0 _ _) _
  have hgv5:=HBV.out.lt
  have hDB:DivB w.heap.size gU WC.heap.size w5.heap.size sc (mu+1) nq b.length (b.length+1+1) (lu.take mu++[0]) (zerosL nq) lv (W7.alloc (.cells #[.slice (some ⟨w5.heap.size+2,0,none⟩) nq nq] 51)) :=
   ⟨by have:=hb1.size;omega,by omega,hgv5,boxed_below x7 hBa,boxed_below z7 hBa,boxed_below z8 hBa,boxed_new' hsz7,xq.below hBa,hlv7.below hBa,hrow7.below hBa⟩
  obtain ⟨V,hV⟩:∃ V,lv.take b.length=V:=⟨_,rfl⟩
  have hVl:V.length=b.length:=by rw [← hV];exact hlt1
  have hNV:=HNV.out
  rw [hV] at hNV
  have htop:=HND2.out
  rw [hV] at htop
  have hval0:val (lu.take mu++[0])=x * f:=by
   rw [← HNU.out.sum]
   refine val_of_lim fun i=>?_
   by_cases hi:i < (lu.take mu).length
   ·exact lim_snoc_lt hi
   ·by_cases hi2:i=(lu.take mu).length
    ·rw [hi2,lim_snoc,lim_out (Nat.le_refl _)]
    ·rw [lim_out (by simp at hi hi2 ⊢;omega),lim_out (by omega)]
  have hdig0:Digs (lu.take mu++[0]):=digs_of fun i hi=>by
   by_cases hi2:i < (lu.take mu).length
   ·rw [lim_snoc_lt hi2];exact HNU.out.digs i
   ·have:i=(lu.take mu).length:=by rw [List.length_append] at hi;simp only [List.length_cons,List.length_nil] at hi;omega
    rw [this,lim_snoc];exact ⟨by omega,by omega⟩
  have hvpos:0 < val V:=by
   have h1:=hNV.low (by omega)
   have h2:=pw_pos (V.length - 1)
   rw [hNV.sum];omega
  have hlt0':val (lu.take mu++[0]) < val V * pw nq:=by
   have h1:=HNU.out.high.2
   rw [hlt0] at h1
   have h2:=hNV.low (by omega)
   rw [hVl] at h2
   have h3:pw (b.length - 1) * pw nq≤y * f * pw nq:=Int.mul_le_mul_of_nonneg_right h2 (Int.le_of_lt (pw_pos _))
   rw [← pw_add,show b.length - 1+nq=mu by omega] at h3
   rw [hval0,hNV.sum]
   omega
  have hSt0:DivSt (lu.take mu++[0]) V nq [] (lu.take mu++[0]) (zerosL nq):=DivSt.start (by rw [List.length_append,hlt0,hVl];simp only [List.length_cons,List.length_nil];omega) hdig0 hlt0'
  have HNV':=Lib.hid hNV
  have HTOP:=Lib.hid htop
  have HVP:=Lib.hid hvpos
  have HV:=Lib.hid hV
  have HVL:=Lib.hid hVl
  have HV0:=Lib.hid hval0
  have HY0:=Lib.hid (show 0 < y by have h1:=HB.out.low (by omega);have h2:=pw_pos (b.length - 1);omega)
  clear hOW hrow4 hrow7 hlv7 hNV htop hvpos hV hVl hval0 hdig0 hlt0' hBa hS7 x7 xq z7 z8
  generalize (W7.alloc (.cells #[.slice (some ⟨w5.heap.size+2,0,none⟩) nq nq] 51))=W8 at *
  refine wpIn_rangeFunc_ownH rfl (by omega) (gf:=258) (lb:=#[.pointer (some ⟨w5.heap.size+3,0,none⟩)]) rfl trivial (enters_of Tryz.func258 (by kernel_rfl) rfl)
   (back2_stops nq _ (by omega) (w5.heap.size+3) w.heap.size (w5.heap.size+2) nq (by omega) W8 ⟨_,hDB.q,zerosL_len _⟩ (Boxed.cell hDB.i)) KpQ.t (KpQ.b (m:=W8.heap.size) hb8.size (by omega) (by omega)) (bw0 _ _) (fun _=>rfl)
   (fun pre W=>(Below w.heap.size w W∧w5.heap.size+4≤W.heap.size)∧(∃ U Q,DivB w.heap.size gU WC.heap.size w5.heap.size sc (mu+1) nq b.length (b.length+1+1) U Q lv W∧DivSt (lu.take mu++[0]) V nq pre U Q))
   (fun _ _ _=>False)
   (OwnFrom.and (OwnFrom.and (ownFrom_below (Nat.le_refl _) (by omega)) (fun s A B row hs hg hr=>Nat.le_trans hs hg.size)) (fun s X Y row hs hg hr=>by obtain ⟨U,Q,h1,h2⟩:=hs;exact ⟨U,Q,divB_own () X Y row h1 hg hr,h2⟩))
   (fun _ _ _ _ _ hs _ _=>hs)
   ⟨⟨hb8,by omega⟩,_,_,hDB,hSt0⟩
   (fun x a' W=>∃ jj:Nat,jj=nq - 1 - x.1.1∧a'={ tmps:=#[.slice aa a.length ac,.slice (some ⟨bb,ob,none⟩) b.length bc,undef,undef,.pointer (some ⟨w.heap.size,0,none⟩),.slice none 0 0,.int .i64 f,.pointer (some ⟨w5.heap.size,0,none⟩),.pointer (some ⟨w5.heap.size+1,0,none⟩),.int .i64 (jj:Int),undef,.slice aa a.length ac,.slice (some ⟨bb,ob,none⟩) b.length bc,.int .i64 r,.bool (decide (r < 0)),undef,.slice (some ⟨bb,ob,none⟩) b.length bc,.int .i64 b.length,.bool false,undef,undef,undef,undef,undef,undef,undef,.slice (some ⟨bb,ob,none⟩) b.length bc,.slice (some ⟨bb,ob,none⟩) b.length bc,.int .i64 b.length,.int .i64 ((b.length:Int) - 1),.pointer (some ⟨bb,ob+(b.length - 1),none⟩),.int .i64 b1,.int .i64 (b1+1),.int .i64 f,.slice aa a.length ac,.int .i64 f,.slice (some ⟨w1.heap.size,0,none⟩) 1 1,.slice (some ⟨WA.heap.size,0,none⟩) mu (a.length+1+1),.slice (some ⟨w2.heap.size,0,none⟩) 1 1,.slice (some ⟨gU,0,none⟩) (mu+1) sc,.slice (some ⟨bb,ob,none⟩) b.length bc,.int .i64 f,.slice (some ⟨w4.heap.size,0,none⟩) 1 1,.slice (some ⟨WC.heap.size,0,none⟩) b.length (b.length+1+1),.slice (some ⟨gU,0,none⟩) (mu+1) sc,.int .i64 ((mu:Int)+1),.slice aa a.length ac,.int .i64 a.length,.int .i64 ((a.length:Int)+1),.bool false,u50,u51,u52,.slice (some ⟨gU,0,none⟩) (mu+1) sc,.int .i64 ((mu:Int)+1),.slice (some ⟨WC.heap.size,0,none⟩) b.length (b.length+1+1),.int .i64 b.length,.int .i64 nq,.slice (some ⟨w5.heap.size+2,0,none⟩) nq nq,.slice (some ⟨w5.heap.size+2,0,none⟩) nq nq,.func (.func 258) #[] #[.pointer (some ⟨w5.heap.size+3,0,none⟩)],.int .i64 (jj:Int),.int .i64 x.2,undef,undef,undef,undef,undef,undef,undef,undef,undef,undef,undef,undef,undef,undef,undef,undef,undef,undef,undef,undef,undef,undef,undef,undef,undef,undef,undef,undef,undef,undef],defers:=[] })
   (fun x a' _ X Y row hs hg hr=>hs)
   ?assign ?body ?done ?stop
  case assign =>
   rintro l1 pre x W K ⟨⟨hB,hz⟩,hS⟩ hK
   unfold encQ
   simp only [fold2,bw7,bw9,bw8]
   gi_wp2
   exact hK _ _ (KeepsFrom.refl _ _) ⟨(bw0 _ _).mono hB.size,rfl,fun l h1 h2=>⟨l,h1,h2⟩⟩ ⟨⟨hB,hz⟩,hS⟩ ⟨nq - 1 - x.1.1,rfl,by rw [show ((nq - 1 - x.1.1:Nat):Int)=(nq:Int) - 1 - (x.1.1:Int) by have:=x.1.2;omega]⟩
  case body =>
   rintro l1 pre x a' W hl1 ⟨rr,hr⟩ ⟨⟨hB,hz⟩,U,Q,hD,hSt⟩ ⟨jj,hjj,rfl⟩ hlt
   have hxl:=x.1.2
   have hUl:U.length=mu+1:=by rw [hSt.len,HVL.out];omega
   have hjn:jj+b.length < mu+1:=by omega
   have HE:=Lib.hid (fun (W':World) (hr:RowI W' gU sc U) (hl:BlkI W' WC.heap.size lv)=>estD (n:=b.length) (j:=jj) (cv:=b.length+1+1) (N:=mu+1) W' hr hl (by omega) hlv' HV.out h2 hSt.digs HNV'.out.digs hUl hjn (by omega) HTOP.out)
   have HTK:=Lib.hid (fun (q:Int) (W':World) (hr:RowI W' gU sc U) (hl:BlkI W' WC.heap.size lv) (q0:0≤q) (q1:q≤4000000000)=>takeD (q:=q) (n:=b.length) (j:=jj) (cv:=b.length+1+1) (N:=mu+1) W' hr hl (by omega) (by omega) hlv' HV.out hSt.digs HNV'.out.digs hUl hjn (by omega) q0 q1)
   have HRS:=Lib.hid (fun (q:Int) (l:List Int) (c:Int) (hT:TakeAt U V jj q (V.length+1) l c) (W':World) (hr:RowI W' gU sc l) (hl:BlkI W' WC.heap.size lv) (q0:0≤q) (q1:q≤4000000000)=>restoreD (q:=q) (n:=b.length) (j:=jj) (cv:=b.length+1+1) (N:=mu+1) W' hr hl (by omega) (by omega) hlv' HV.out hT.digs HNV'.out.digs (by rw [hT.len];exact hUl) hjn (by omega) q0 q1)
   have HLS:=Lib.hid (fun (q:Int) (l:List Int) (c:Int) (hT:TakeAt U V jj q (V.length+1) l c) (q0:0≤q) (hc:0 < c)=>est_less hSt.digs q0 (by rw [hUl,HVL.out];exact hjn) hT hc)
   have HGB:=Lib.hid (fun (q:Int) (l m:List Int) (c d:Int) (hT:TakeAt U V jj q (V.length+1) l c) (hG:GiveAt l V jj q (V.length+1) m d)=>give_back hSt.digs hT hG (by rw [hUl,HVL.out];exact hjn))
   have HSP:=Lib.hid (fun (q:Int) (l:List Int) (c:Int) (q0:0≤q) (hE:EstI U V jj q) (hT:TakeAt U V jj q (V.length+1) l c) (hc:¬ 0 < c)=>hSt.step x HNV'.out.digs HVP.out q0 (hjj ▸ hE) (hjj ▸ hT) hc)
   have hQl:=hSt.qlen
   have hjq:jj < nq:=by omega
   have HDD:=Lib.hid hD
   have cu:=Boxed.cell hD.u
   have cv:=Boxed.cell hD.v
   have HJJ:=Lib.hid hjj
   clear hSt hD hjj
   simp only []
   gi_wp2
   refine ⟨trivial,?_⟩
   refine (CallsIn.inRound l1 (callsIn_wide.2 (HE.out _ HDD.out.w HDD.out.l))).mono ?_
   rintro e wa ⟨q,rfl,q0,q1,hq,hBa⟩
   have HQ:=Lib.hid hq
   have HD1:=Lib.hid (HDD.out.below hBa)
   have HK1:=Lib.hid (And.intro (keepsFrom_below (m:=W8.heap.size) hBa) (KpQ.belowB (N:=nq) (B:=w.heap.size) (b1:=w5.heap.size+3) (g:=w5.heap.size+2) hBa hB.size (by omega)))
   have hBw:=hB.trans (hBa.mono hB.size)
   have hzw:w5.heap.size+4≤wa.heap.size:=Nat.le_trans hz hBa.size
   clear hq hBa cu cv HE
   gi_wp2
   gi_loopg [10] (q.toNat) (fun g v wr=>∃ q:Int,g=q.toNat∧v=.int .i64 q∧0≤q∧q≤2000000000∧Hid (EstI U V jj q)∧Hid (DivB w.heap.size gU WC.heap.size w5.heap.size sc (mu+1) nq b.length (b.length+1+1) U Q lv wr)∧Hid (KeepsFrom W8.heap.size W wr∧KpQ nq w.heap.size (w5.heap.size+3) (w5.heap.size+2) W wr)∧Below w.heap.size w wr∧w5.heap.size+4≤wr.heap.size)
   case atStart=>exact ⟨q,rfl,rfl,q0,q1,HQ,HD1,HK1,hBw,hzw⟩
   case round =>
    clear q0 q1 HQ HD1 HK1 hBw hzw
    obtain ⟨q,rfl,rfl,q0,q1,HQ,HD1,HK1,hBw,hzw⟩:=hrel
    have cu:=Boxed.cell HD1.out.u
    have cv:=Boxed.cell HD1.out.v
    gi_wp2
    refine ⟨trivial,?_⟩
    refine (CallsIn.inRound l1 (callsIn_wide.2 (HTK.out q _ HD1.out.w HD1.out.l q0 (by omega)))).mono ?_
    rintro e wt ⟨l,c,rfl,hrt,hTA,hSt1⟩
    have HTA:=Lib.hid hTA
    have HD2:=Lib.hid (HD1.out.row hSt1 hrt)
    have HK2:=Lib.hid (And.intro (HK1.out.1.trans (keepsFrom_but (m:=W8.heap.size) hSt1 (by omega))) (HK1.out.2.t (KpQ.but (N:=nq) (B:=w.heap.size) (b1:=w5.heap.size+3) (g:=w5.heap.size+2) hSt1 (by omega) (by omega) (by omega))))
    have hBw2:Below w.heap.size w wt:=hSt1.below hBw (by omega)
    have hzw2:w5.heap.size+4≤wt.heap.size:=by rw [hSt1.size];exact hzw
    clear hTA hrt hSt1 cu cv HD1 HK1 hBw hzw
    by_cases hc:0 < c
    ·obtain ⟨hq1,hEq⟩:=HLS.out q l c HTA.out q0 hc
     have HEQ:=Lib.hid hEq
     have hcb:decide (0 < c)=true:=decide_eq_true hc
     have hwq:IntKind.i64.wrap (q - 1)=q - 1:=IntWalk.i64_in _ (by omega)
     have cu:=Boxed.cell HD2.out.u
     have cv:=Boxed.cell HD2.out.v
     clear hEq
     gi_wp2
     refine ⟨trivial,?_⟩
     refine (CallsIn.inRound l1 (callsIn_wide.2 (HRS.out q l c HTA.out _ HD2.out.w HD2.out.l q0 (by omega)))).mono ?_
     rintro e wg ⟨m,d,rfl,hrg,hGA,hSg⟩
     obtain rfl:=HGB.out q l m c d HTA.out hGA
     have HD3:=Lib.hid (HD2.out.row hSg hrg)
     have HK3:=Lib.hid (And.intro (HK2.out.1.trans (keepsFrom_but (m:=W8.heap.size) hSg (by omega))) (HK2.out.2.t (KpQ.but (N:=nq) (B:=w.heap.size) (b1:=w5.heap.size+3) (g:=w5.heap.size+2) hSg (by omega) (by omega) (by omega))))
     have hBw3:Below w.heap.size w wg:=hSg.below hBw2 (by omega)
     have hzw3:w5.heap.size+4≤wg.heap.size:=by rw [hSg.size];exact hzw2
     have fu:=Boxed.frozen HD3.out.u
     have cu3:=Boxed.cell HD3.out.u
     have zu:=Boxed.lt HD3.out.u
     clear hrg hGA hSg HD2 HK2 hBw2 hzw2 cu cv
     gi_wp2
     have hSb:=sameBut_setCell wg w5.heap.size 0 (.slice (some ⟨gU,0,none⟩) (mu+1) sc)
     have HD4:=Lib.hid (HD3.out.box hSb (Boxed.set _ HD3.out.u))
     have HK4:=Lib.hid (And.intro (HK3.out.1.trans (keepsFrom_but (m:=W8.heap.size) hSb (by omega))) (HK3.out.2.t (KpQ.but (N:=nq) (B:=w.heap.size) (b1:=w5.heap.size+3) (g:=w5.heap.size+2) hSb (by omega) (by omega) (by omega))))
     have hBw4:=hSb.below hBw3 (by omega)
     have hzw4:=hSb.size
     clear hSb
     gi_roundg (q - 1).toNat
     case rel=>exact ⟨q - 1,rfl,rfl,by omega,by omega,HEQ,HD4,HK4,hBw4,by rw [hzw4];exact hzw3⟩
     case measure=>omega
    ·have hcb:decide (0 < c)=false:=decide_eq_false hc
     have cr:=Boxed.cell HD2.out.r
     have f1:=HD2.out.q.cell (p:=jj) (by omega)
     have g1:=HD2.out.q.frozen jj
     have hj1:(jj:Int) < (nq:Int):=by omega
     have hj0:(0:Int)≤(jj:Int):=by omega
     have hjt:((jj:Int)).toNat=jj:=by omega
     gi_wp2
     have hSq:=sameBut_setCell wt (w5.heap.size+2) jj (.int .i64 q)
     have HD3:=HD2.out.quo hSq (HD2.out.q.set jj q)
     have hST:=HSP.out q l c q0 HQ.out HTA.out hc
     rw [← HJJ.out] at hST
     exact ⟨HK2.out.1.trans (keepsFrom_but hSq (by omega)),⟨HK2.out.2.1.trans ((hSq.below (bw0 _ _) (by omega)).mono (Nat.le_refl _)),(hSq.block _ (by omega)).trans HK2.out.2.2.1,fun l' hl' e'=>⟨_,HD3.q,by rw [List.length_set];exact hQl⟩⟩,⟨hSq.below hBw2 (by omega),by rw [hSq.size];exact hzw2⟩,_,_,HD3,hST⟩
  case done =>
   rintro D ys W hD hys ⟨⟨hB,hz⟩,U,Q,hDv,hSt⟩ hK
   have hUl:U.length=mu+1:=by rw [hSt.len,HVL.out];omega
   have hQl:=hSt.qlen
   have hLA:=hSt.at' nq (Nat.le_refl _) (by rw [hys,fst_all])
   have HFIN:=Lib.hid (hLA.fin hSt.digs HV0.out HNV'.out.sum f1 HY0.out)
   have HTU:=Lib.hid (fun (W':World) (h:RowI W' gU sc U)=>trim_ok U (some ⟨gU,0,none⟩) (mu+1) sc W' (by have:=h.is;rwa [hUl] at this) (by omega))
   have HTQ:=Lib.hid (fun (W':World) (h:BlkI W' (w5.heap.size+2) Q)=>trim_ok Q (some ⟨w5.heap.size+2,0,none⟩) nq nq W' (by have:=h.is;rwa [hQl] at this) (by omega))
   have HDG:=Lib.hid (And.intro hSt.digs hLA.digs)
   have HDV:=Lib.hid hDv
   have cu:=Boxed.cell hDv.u
   clear hSt hLA hDv
   gi_wp2
   refine ⟨trivial,?_⟩
   refine (callsIn_wide.2 (HTU.out _ HDV.out.w)).mono ?_
   rintro e wt ⟨m1,hm1,rfl,ht1,hl1,rfl⟩
   have hnu:Num (U.take m1) (val U):=⟨fun i=>by rw [hl1];exact HDG.out.1 i,ht1,val_of_lim hl1⟩
   have hrt:=(HDV.out.w.take' m1 hm1).is
   have HDS:=Lib.hid (divideShortL_ok (d:=f) _ wt hrt hnu (by rw [List.length_take];omega) f1 (by omega))
   clear hnu hrt ht1 hl1 HTU
   have hl9:(U.take m1).length=m1:=by rw [List.length_take];omega
   rw [hl9] at HDS
   clear cu
   gi_wp2
   refine ⟨trivial,?_⟩
   refine (callsIn_wide.2 HDS.out).mono ?_
   rintro e wd ⟨lr,vr,lz,vz,rfl,ir,iz,nr,nz,kr,kz,hBd⟩
   obtain ⟨ra,rc,rfl⟩:=ir.is.slice
   obtain ⟨za,zc,rfl⟩:=iz.is.slice
   have HDV2:=Lib.hid (HDV.out.below hBd)
   have HIR:=Lib.hid ir
   have HNR:=Lib.hid nr
   have hbd:=hB.trans (hBd.mono hB.size)
   have hKd:=(hBd.block D (Array.getElem?_eq_some_iff.1 hK).1).trans hK
   have HZ:=Lib.hid hB.size
   have cr:=Boxed.cell HDV2.out.r
   have HW0:=Lib.hid (show w.heap.size < wt.heap.size by omega)
   clear ir iz nr nz kr kz hBd HDS
   gi_wp2
   refine ⟨trivial,?_⟩
   refine (callsIn_wide.2 (HTQ.out _ HDV2.out.q)).mono ?_
   rintro e we ⟨m2,hm2,rfl,ht2,hl2,rfl⟩
   have HQ2:=Lib.hid (And.intro hm2 (And.intro ht2 hl2))
   have fr:=Boxed.frozen HDV2.out.r
   have zr:=Boxed.lt HDV2.out.r
   clear hm2 ht2 hl2
   gi_wp2
   have hSr:=sameBut_setCell we w.heap.size 0 (.slice (some ⟨w5.heap.size+2,0,none⟩) m2 nq)
   have xr:=Boxed.set (.slice (some ⟨w5.heap.size+2,0,none⟩) m2 nq) HDV2.out.r
   have hqb:=HDV2.out.q.but hSr (by omega)
   have hir:=HIR.out.but hSr HW0.out
   refine leaves_marks w.heap.size [D] _ (by simp) (fun E hE=>?_) (fun W' hB' hcc=>?_)
   ·obtain rfl:E=D:=by simpa using hE
    exact ⟨by omega,(hSr.block _ (by omega)).trans hKd⟩
   ·have z1:W'.cell? ⟨w.heap.size,0,none⟩=some (.slice (some ⟨w5.heap.size+2,0,none⟩) m2 nq):=cell_keeps (Boxed.cell xr) hcc
    have l1:(loadVar 51 ⟨w.heap.size,0,none⟩).run Tryz.prog W'=.ok (.slice (some ⟨w5.heap.size+2,0,none⟩) m2 nq) W':=by simp [go_sem,z1]
    obtain ⟨g1,g2,_⟩:=HFIN.out
    obtain ⟨hm2,ht2,hl2⟩:=HQ2.out
    have hy0:=HY0.out
    have hx1:=HA.out.high
    have hq1:x / y≤x:=Int.ediv_le_self _ hx1.1
    have hr1:x % y < y:=Int.emod_lt_of_pos _ hy0
    have hnQ:Num (Q.take m2) (x / y):=⟨fun i=>by rw [hl2];exact HDG.out.2 i,ht2,(val_of_lim hl2).trans g1⟩
    have hnR:Num lr (x % y):=by have:=HNR.out;rwa [g2] at this
    have hqblk:BlkI W' (w5.heap.size+2) Q:=hcc _ _ hqb rfl
    exact ⟨_,results_cell_tmp Tryz.results166 rfl l1,Q.take m2,_,lr,_,rfl,hqblk.isTake hm2 hQl,OwnInts.is (ownsRow_keeps hir hcc),hnQ,hnR,Nat.le_trans (hnQ.length_le (by omega)) (Nat.le_max_left _ _),Nat.le_trans (hnR.length_le (by omega)) (Nat.le_max_left _ _),(hSr.below hbd (Nat.le_refl _)).trans hB'⟩
  case stop =>
   rintro D c pre W _ _ h _
   exact h.elim
end Go.Proofs.YteepphiomcedfaaGreatDoor
