/- Joined texts: WOpenS, WGaugeLaw. -/
import Derived.Test.YtbbclfbpllbbbaaGreatDoorJ16
set_option maxRecDepth 100000
set_option linter.unusedVariables false
set_option linter.unusedSimpArgs false
set_option maxHeartbeats 12800000
namespace Go.Proofs.YtbbclfbpllbbbaaGreatDoor
open Go.ChangeShapes Go.WideShapes Go.ChangeAt Go.RowKit Go.Deep
theorem open_surd {H:Type} {enc:TypeId × Value→H} {W:World} {base:Nat} {v:Value} {d:DataW H} {p:List MemPlace}
  (hval:Value.okWide Tryz.prog W .any base 25 v) (hd:DataW.Trod enc Tryz.prog W 0 (fun _=>true) true 25 v d p):∃ L:TTexts,IsTerms W v L∧L.length≤maxLen:=by
 obtain ⟨a0,len0,cap0,rfl⟩:=okWide_slice Tryz.underlying25 hval
 obtain ⟨fuel,h⟩:=hd
 rcases open_slice_pairs Tryz.underlying25 Tryz.underlying70 cellTerm rfl rfl cellNumT cellNumT h with ⟨hv,_⟩|⟨a,len,cap,m,n',V0,V1,D0,D1,P0,P1,hv,_,hlc,hcm,hm,hx,hel⟩
 ·simp [Value.cells] at hv
  obtain ⟨rfl,rfl,rfl⟩:=hv
  exact ⟨[],⟨none,0,rfl,Nat.zero_le _,fun h=>absurd rfl h⟩,Nat.zero_le _⟩
 ·simp [Value.cells] at hv
  obtain ⟨rfl,rfl,rfl⟩:=hv
  simp only [if_true] at hm
  subst hm
  have each:∀ i,i < m→∃ t:ByteArray × ByteArray,V0 i=.string t.1∧V1 i=.string t.2:=by
   intro i hi
   obtain ⟨_,_,h2,h3⟩:=hel i hi
   obtain ⟨s,e1,_,e2⟩:=DataW.trod_string Tryz.underlying34 h2
   obtain ⟨t,e3,_,e4⟩:=DataW.trod_string Tryz.underlying34 h3
   exact ⟨(s,t),by simpa using e1,by simpa using e3⟩
  obtain ⟨T,hT⟩:=choose_ltT each
  refine ⟨(List.range len0).map T,⟨some a,m,by simp,by simp;omega,fun hl=>?_⟩,by simp;omega⟩
  have h0:0 < len0:=by
   rcases Nat.eq_zero_or_pos len0 with h0|h0
   ·subst h0;simp at hl
   ·exact h0
  have ha:a=⟨a.block,a.off,none⟩:=at_noneT (by have:=(hel 0 (by omega)).1;rwa [Nat.zero_mul] at this)
  refine ⟨a.block,a.off,by rw [← ha],fun k hk=>?_⟩
  have hk':k < len0:=by simpa using hk
  obtain ⟨h1,h2,_,_⟩:=hel k (by omega)
  rw [tt_map T hk']
  obtain ⟨e1,e2⟩:=hT k (by omega)
  rw [ha] at h1 h2
  rw [addr_addO,e1] at h1
  rw [addr_addO,e2] at h2
  exact ⟨h1,by rw [Nat.add_assoc];exact h2⟩
theorem cellIntT:Tryz.prog.cellsOf 3=1:=by kernel_rfl
theorem open_tile {H:Type} {enc:TypeId × Value→H} {W:World} {base:Nat} {v:Value} {d:DataW H} {p:List MemPlace}
  (hval:Value.okWide Tryz.prog W .any base 49 v) (h:DataW.Trod enc Tryz.prog W 0 (fun _=>true) true 49 v d p):∃ a b c e:Int,v=.agg #[.int .i64 a,.int .i64 b,.int .i64 c,.int .i64 e]:=by
 obtain ⟨cs,rfl,hcs⟩:=okWide_struct Tryz.underlying49 hval
 obtain ⟨fuel,hf⟩:=h
 obtain ⟨xs,k,_,hx,hlen,hxl,hfs⟩:=DataW.trod_struct Tryz.underlying49 hf
 have e1:Tryz.prog.cellsOf 49=4:=by kernel_rfl
 rw [e1] at hcs
 obtain ⟨u0,u1,u2,u3,rfl⟩:∃ u0 u1 u2 u3,cs=#[u0,u1,u2,u3]:=by
  match cs,hcs with
  | ⟨[u0,u1,u2,u3]⟩,_=>exact ⟨u0,u1,u2,u3,rfl⟩
 obtain ⟨y0,y1,y2,y3,rfl⟩:∃ y0 y1 y2 y3,xs=[y0,y1,y2,y3]:=by
  match xs,hxl with
  | [y0,y1,y2,y3],_=>exact ⟨y0,y1,y2,y3,rfl⟩
 have g0:DataW.trod enc Tryz.prog W 0 (fun _=>true) true k 3 [u0]=some y0:=by
  have h:DataW.trod enc Tryz.prog W 0 (fun _=>true) true k 3 (([u0,u1,u2,u3].drop 0).take (Tryz.prog.cellsOf 3))=some y0:=hfs 0 _ rfl
  rw [cellIntT] at h
  exact h
 have g1:DataW.trod enc Tryz.prog W 0 (fun _=>true) true k 3 [u1]=some y1:=by
  have h:DataW.trod enc Tryz.prog W 0 (fun _=>true) true k 3 (([u0,u1,u2,u3].drop 1).take (Tryz.prog.cellsOf 3))=some y1:=hfs 1 _ rfl
  rw [cellIntT] at h
  exact h
 have g2:DataW.trod enc Tryz.prog W 0 (fun _=>true) true k 3 [u2]=some y2:=by
  have h:DataW.trod enc Tryz.prog W 0 (fun _=>true) true k 3 (([u0,u1,u2,u3].drop 2).take (Tryz.prog.cellsOf 3))=some y2:=hfs 2 _ rfl
  rw [cellIntT] at h
  exact h
 have g3:DataW.trod enc Tryz.prog W 0 (fun _=>true) true k 3 [u3]=some y3:=by
  have h:DataW.trod enc Tryz.prog W 0 (fun _=>true) true k 3 (([u0,u1,u2,u3].drop 3).take (Tryz.prog.cellsOf 3))=some y3:=hfs 3 _ rfl
  rw [cellIntT] at h
  exact h
 obtain ⟨a,q0,_,_⟩:=DataW.trod_int Tryz.underlying3 g0
 obtain ⟨b,q1,_,_⟩:=DataW.trod_int Tryz.underlying3 g1
 obtain ⟨c,q2,_,_⟩:=DataW.trod_int Tryz.underlying3 g2
 obtain ⟨e,q3,_,_⟩:=DataW.trod_int Tryz.underlying3 g3
 simp at q0 q1 q2 q3
 subst q0 q1 q2 q3
 exact ⟨a,b,c,e,rfl⟩
end Go.Proofs.YtbbclfbpllbbbaaGreatDoor
namespace Go.Proofs.YtbbclfbpllbbbaaGreatDoor
open Go.RowKit Go.Shelf
theorem gaugeLaw (wd ln lp tl:Int) (L:TTexts) (v:Value) (w:World) (hW:Wor w) (hv:IsTerms w v L) (hmx:L.length≤maxLen) :
  Calls Tryz.prog 5 #[.agg #[.int .i64 wd,.int .i64 ln,.int .i64 lp,.int .i64 tl],v] w (RetB (.bool true) w):=by
 have HGR:=Lib.hid (fun W (hB:Below w.heap.size w W)=>great04_ok L v W (hv.below hB) hmx)
 have HAW:=Lib.hid (fun W (hB:Below w.heap.size w W)=>awake47_ok W (hW.below hB))
 have HCK:=Lib.hid (fun W=>tileCheck_ok wd ln lp tl W)
 have HGA:=Lib.hid (fun (h:∀ k,k < L.length→Few L k) W (hB:Below w.heap.size w W)=>Gauge_ok L wd ln lp tl v W (hW.below hB) (hv.below hB) (few_sz h) (fun hS=>Nat.le_trans (few_len h hS) (by decide)))
 have HFL:=Lib.hid (fun (h:∀ k,k < L.length→Few L k) (hS:SurdOk L)=>few_len h hS)
 have HW:=Lib.hid hW
 have HV:=Lib.hid hv
 obtain ⟨va,vc,rfl,_⟩:=hv
 clear hW hmx
 go_enter Tryz.func5,Tryz.ntmps5
 go_wp2_with fail
 have hb0:Below w.heap.size w (w.alloc (.cells #[.int .i64 wd,.int .i64 ln,.int .i64 lp,.int .i64 tl] 49)):=qbl
 have x0:BoxQ4 49 (w.alloc (.cells #[.int .i64 wd,.int .i64 ln,.int .i64 lp,.int .i64 tl] 49)) w.heap.size (.int .i64 wd) (.int .i64 ln) (.int .i64 lp) (.int .i64 tl):=BoxQ4.new rfl
 generalize w.alloc (.cells #[.int .i64 wd,.int .i64 ln,.int .i64 lp,.int .i64 tl] 49)=W0 at *
 refine (HGR.out _ hb0).mono ?_
 rintro e w1 ⟨g,rfl,hg,hB1⟩
 have hb1:=below_trans' hb0 hB1
 replace x0:=x0.below hB1
 clear hB1 HGR hb0
 cases g
 rotate_left
 ·clear hg x0 HGA HCK HFL
  go_wp2_with fail
  refine (HAW.out _ hb1).mono ?_
  rintro e w5 ⟨rfl,hB5⟩
  have hb5:=below_trans' hb1 hB5
  clear hB5
  go_wp2_with fail
  go_ret
  exact ⟨rfl,hb5⟩
 obtain ⟨_,hfew⟩:=hg.out rfl
 have HG2:=Lib.hid (HGA.out hfew)
 have HFW:=Lib.hid (HFL.out hfew)
 have c0:=x0.c0
 have c1:=x0.c1
 have c2:=x0.c2
 have c3:=x0.c3
 clear hg hfew HGA HFL
 go_wp2_with fail
 refine (HCK.out _).mono ?_
 rintro e w2 ⟨k2,rfl,hk2,hB2⟩
 have hb2:=below_trans' hb1 hB2
 replace x0:=x0.below hB2
 clear hB2 hb1 c0 c1 c2 c3 HCK
 by_cases h2:k2=0
 rotate_left
 ·clear hk2 x0 HG2 HFW
  go_wp2_with fail
  refine (HAW.out _ hb2).mono ?_
  rintro e w6 ⟨rfl,hB6⟩
  have hb6:=below_trans' hb2 hB6
  clear hB6
  go_wp2_with fail
  go_ret
  exact ⟨rfl,hb6⟩
 obtain ⟨_,⟨t2,t3⟩,⟨t4,t5⟩,t6,t7⟩:=hk2.out.1 h2
 subst h2
 have c0:=x0.c0
 have c1:=x0.c1
 have c2:=x0.c2
 have c3:=x0.c3
 clear hk2
 go_wp2_with fail
 refine (HG2.out _ hb2).mono ?_
 rintro e w3 ⟨u3,n,e3,L3,rfl,hu3,her,hok,_,hB3⟩
 have hb3:=below_trans' hb2 hB3
 replace x0:=x0.below hB3
 clear hB3 hb2 c0 c1 c2 c3 HG2
 by_cases h3:e3=0
 rotate_left
 ·obtain ⟨rfl,rfl⟩:=her.out h3
  obtain ⟨p3,q3,rfl,_⟩:=hu3
  have hl0:([]:TTexts).length=0:=rfl
  clear her hok x0 HFW
  go_wp2_with fail
  refine (HAW.out _ hb3).mono ?_
  rintro e w6 ⟨rfl,hB6⟩
  have hb6:=below_trans' hb3 hB6
  clear hB6
  go_wp2_with fail
  go_ret
  exact ⟨rfl,hb6⟩
 obtain ⟨_,T,TG,G⟩:=hok.out h3
 have HG:=Lib.hid G
 have hn1:=G.n1
 have hn2:=G.n2
 have hl4:L.length≤4:=HFW.out ⟨T,G.surd⟩
 have HU3:=Lib.hid hu3
 subst h3
 obtain ⟨p3,q3,rfl,_⟩:=hu3
 clear her hok G HFW
 -- the number of courses
 have H4:=Lib.hid (fun W (hB:Below w.heap.size w W)=>(by
  have h:=(OfI_ok n 1 W (HW.out.glo.below hB) (by omega) (by omega) (by decide) (by decide)).mono fun e w' h=>h.bb
  rw [divInt_one] at h
  exact h:Calls Tryz.prog 23 #[.int .i64 n,.int .i64 1] W (RetB (.tuple #[.string (numS (n:Rat)),.int .i64 0]) W)))
 have hnz:Sz 5 (n:Rat):=sz_int (by omega) (by decide)
 have hl3:L3.length≤5:=by have:=HG.out.len;omega
 have H5:=Lib.hid (fun W (hB3:Below w3.heap.size w3 W)=>ScaleX_ok TG (n:Rat) none L3 _ (numS (n:Rat)) W (HW.out.glo.below (below_trans' hb3 hB3)) (HW.out.pri.below (below_trans' hb3 hB3)) (HU3.out.below hB3) HG.out.res (numS_list _) (hnz.mono (by decide)) (fun d h=>nomatch h))
 go_wp2_with fail
 refine (H4.out _ hb3).mono ?_
 rintro e w4 ⟨rfl,hB4⟩
 have hb4:=below_trans' hb3 hB4
 replace x0:=x0.below hB4
 have H5':=Lib.hid (H5.out w4 hB4)
 replace HU3:=Lib.hid (HU3.out.below hB4)
 generalize numS (n:Rat)=sn at *
 clear hB4 H4 H5 hb3 hnz
 go_wp2_with fail
 refine H5'.out.mono ?_
 rintro e w5 ⟨ua,ca,La,rfl,hua,hTa,_,hB5⟩
 have hb5:=below_trans' hb4 hB5
 replace x0:=x0.below hB5
 replace HU3:=Lib.hid (HU3.out.below hB5)
 have HUA:=Lib.hid hua
 obtain ⟨pa,qa,rfl,_⟩:=hua
 clear hB5 H5' hb4
 -- length and tail
 have H6:=Lib.hid (fun W (hB:Below w.heap.size w W)=>number47_ok tl W (HW.out.glo.below hB) (HW.out.pri.below hB) (by omega) (by omega))
 have htsz:Sz 4 (tl:Rat):=sz_int (by omega) (by decide)
 have HTR:=Lib.hid (show ResT L T from HG.out.surd.res (by omega))
 have H7:=Lib.hid (fun (x:Value) W (hB:Below w.heap.size w W) (hx:IsTerms W x (oneL (tl:Rat) 1))=>AddX_ok T (oneT (tl:Rat) 1) none L (oneL (tl:Rat) 1) _ x W (HW.out.glo.below hB) (HW.out.pri.below hB) (HV.out.below hB) hx HTR.out ((oneSurd (htsz.mono (by decide))).res (Nat.le_trans (oneL_len _ 1) (by decide))) (by have:=oneL_len (tl:Rat) 1;omega) (fun d h=>nomatch h))
 have hEL:Hid ((oneL (tl:Rat) 1).length≤1):=Lib.hid (oneL_len _ 1)
 have HVT:Hid (∀ P,valT T P+valT (oneT (tl:Rat) 1) P=valT T P+(tl:Rat)):=Lib.hid (fun P=>by rw [valT_oneT])
 have c3:=x0.c3
 clear htsz
 go_wp2_with fail
 refine (H6.out _ hb5).mono ?_
 rintro e w6 ⟨ut,rfl,hut,hB6⟩
 have hb6:=below_trans' hb5 hB6
 have H7':=Lib.hid (H7.out ut w6 hb6 hut)
 replace x0:=x0.below hB6
 replace HU3:=Lib.hid (HU3.out.below hB6)
 replace HUA:=Lib.hid (HUA.out.below hB6)
 obtain ⟨pt,qt,rfl,_⟩:=hut
 clear hB6 H6 H7 hb5 c3
 go_wp2_with fail
 refine H7'.out.mono ?_
 rintro e w7 ⟨uw,cw,Lw,rfl,huw,hTw,_,hB7⟩
 have hb7:=below_trans' hb6 hB7
 replace x0:=x0.below hB7
 replace HU3:=Lib.hid (HU3.out.below hB7)
 replace HUA:=Lib.hid (HUA.out.below hB7)
 have HUW:=Lib.hid huw
 obtain ⟨pw',qw,rfl,_⟩:=huw
 clear hB7 H7' hb6
 by_cases hca:ca=0
 rotate_left
 ·clear hTa hTw x0 HG HVT hEL HTR
  go_wp2_with fail
  refine (HAW.out _ hb7).mono ?_
  rintro e w8 ⟨rfl,hB8⟩
  have hb8:=below_trans' hb7 hB8
  clear hB8
  go_wp2_with fail
  go_ret
  exact ⟨rfl,hb8⟩
 by_cases hcw:cw=0
 rotate_left
 ·subst hca
  clear hTa hTw x0 HG HVT hEL HTR
  go_wp2_with fail
  refine (HAW.out _ hb7).mono ?_
  rintro e w8 ⟨rfl,hB8⟩
  have hb8:=below_trans' hb7 hB8
  clear hB8
  go_wp2_with fail
  go_ret
  exact ⟨rfl,hb8⟩
 obtain ⟨hla,TA,hRA,hNA,_⟩:=hTa.out hca
 obtain ⟨hlw,TW,hRW,hNW,_⟩:=hTw.out hcw
 have HNA:=Lib.hid hNA
 have HNW:Hid (Near0 (fun P=>valT TW P - (valT T P+(tl:Rat)))):=Lib.hid (by
  have e:(fun P=>valT TW P - (valT T P+(tl:Rat)))=(fun P=>valT TW P - (valT T P+valT (oneT (tl:Rat) 1) P)):=funext fun P=>by rw [HVT.out P]
  rw [e];exact hNW)
 have HRA:=Lib.hid hRA
 have HRW:=Lib.hid hRW
 have hlaN:La.length≤5:=by omega
 have hlwN:Lw.length≤5:=by have:=hEL.out;omega
 subst hca
 subst hcw
 clear hTa hTw hNA hNW hRA hRW hla hlw hEL HVT
 have H8:=Lib.hid (fun W (hB:Below w7.heap.size w7 W)=>CompareX_ok TA TW False La Lw _ _ W (HW.out.glo.below (below_trans' hb7 hB)) (HW.out.pri.below (below_trans' hb7 hB)) (HW.out.spl.below (below_trans' hb7 hB)) (HUA.out.below hB) (HUW.out.below hB) HRA.out HRW.out (by omega) (fun h=>h.elim))
 go_wp2_with fail
 refine (H8.out _ (bw0 _ _)).mono ?_
 rintro e w8 ⟨s8,c8,rfl,_,hs8,_,hB8⟩
 have hb8:=below_trans' hb7 hB8
 replace x0:=x0.below hB8
 replace HU3:=Lib.hid (HU3.out.below hB8)
 replace HUW:=Lib.hid (HUW.out.below hB8)
 have hsame:c8=0→s8=0:=fun h=>gauge_same (v:=fun P=>valT T P+(tl:Rat)) hn1 HG.out.val HNA.out HNW.out (hs8.out h)
 have HSA:=Lib.hid hsame
 clear hB8 H8 hb7 hs8 hsame HUA
 -- at most a unit high
 have hwu:IntKind.i64.wrap (ln - lp)=ln - lp:=IntWalk.i64_in _ (by omega)
 have H9:=Lib.hid (fun W (hB:Below w.heap.size w W)=>number47_ok (ln - lp) W (HW.out.glo.below hB) (HW.out.pri.below hB) (by omega) (by omega))
 have husz:Sz 4 ((ln - lp:Int):Rat):=sz_int (by omega) (by decide)
 have H10:=Lib.hid (fun (x:Value) W (hB:Below w.heap.size w W) (h3:IsTerms W (.slice p3 L3.length q3) L3) (hx:IsTerms W x (oneL ((ln - lp:Int):Rat) 1))=>(CompareX_ok TG (oneT ((ln - lp:Int):Rat) 1) False L3 (oneL ((ln - lp:Int):Rat) 1) _ x W (HW.out.glo.below hB) (HW.out.pri.below hB) (HW.out.spl.below hB) h3 hx HG.out.res ((oneSurd (husz.mono (by decide))).res (Nat.le_trans (oneL_len _ 1) (by decide))) (by have:=oneL_len ((ln - lp:Int):Rat) 1;omega) (fun h=>h.elim)).mono fun e w' h=>(by
   obtain ⟨s,c,he,hr,hs,_,hB⟩:=h
   exact ⟨s,c,he,fun h0=>gauge_high (by omega) hn1 HG.out.ceil HG.out.val ((hs.out h0).cong fun P=>by rw [valT_oneT]),hB⟩:∃ s c:Int,e=.returned (.tuple #[.int .i64 s,.int .i64 c])∧(c=0→s≤0)∧Below W.heap.size W w'))
 have c1:=x0.c1
 have c2:=x0.c2
 generalize oneL ((ln - lp:Int):Rat) 1=LU at *
 clear husz
 go_wp2_with fail
 refine (H9.out _ hb8).mono ?_
 rintro e w9 ⟨uu,rfl,huu,hB9⟩
 have hb9:=below_trans' hb8 hB9
 have H10':=Lib.hid (H10.out uu w9 hb9 (HU3.out.below hB9) huu)
 replace x0:=x0.below hB9
 replace HUW:=Lib.hid (HUW.out.below hB9)
 obtain ⟨pu,qu,rfl,_⟩:=huu
 clear hB9 H9 H10 hb8 c1 c2 HU3
 go_wp2_with fail
 refine H10'.out.mono ?_
 rintro e w10 ⟨s10,c10,rfl,hs10,hB10⟩
 have hb10:=below_trans' hb9 hB10
 replace x0:=x0.below hB10
 replace HUW:=Lib.hid (HUW.out.below hB10)
 have HHI:=Lib.hid hs10
 clear hB10 H10' hb9 hs10
 -- with one course less
 have hwn:IntKind.i64.wrap (n - 1)=n - 1:=IntWalk.i64_in _ (by omega)
 have hm1:(n - 1) * (ln - lp)≤4096 * 2000:=Int.mul_le_mul (by omega) (by omega) (by omega) (by omega)
 have hm0:0≤(n - 1) * (ln - lp):=Int.mul_nonneg (by omega) (by omega)
 have hwm:IntKind.i64.wrap ((n - 1) * (ln - lp))=(n - 1) * (ln - lp):=IntWalk.i64_in _ (by omega)
 have H11:=Lib.hid (fun W (hB:Below w.heap.size w W)=>number47_ok ((n - 1) * (ln - lp)) W (HW.out.glo.below hB) (HW.out.pri.below hB) (by omega) (by omega))
 have hmsz:Sz 10 (((n - 1) * (ln - lp):Int):Rat):=sz_int (by omega) (by decide)
 have H12:=Lib.hid (fun (x:Value) W (hB:Below w.heap.size w W) (hw:IsTerms W (.slice pw' Lw.length qw) Lw) (hx:IsTerms W x (oneL (((n - 1) * (ln - lp):Int):Rat) 1))=>(CompareX_ok (oneT (((n - 1) * (ln - lp):Int):Rat) 1) TW False (oneL (((n - 1) * (ln - lp):Int):Rat) 1) Lw x _ W (HW.out.glo.below hB) (HW.out.pri.below hB) (HW.out.spl.below hB) hx hw ((oneSurd (hmsz.mono (by decide))).res (Nat.le_trans (oneL_len _ 1) (by decide))) HRW.out (by have:=oneL_len (((n - 1) * (ln - lp):Int):Rat) 1;omega) (fun h=>h.elim)).mono fun e w' h=>(by
   obtain ⟨s,c,he,hr,hs,_,hB⟩:=h
   exact ⟨s,c,he,fun h0=>gauge_less (by omega) HG.out.ceil HNW.out ((hs.out h0).cong fun P=>by rw [valT_oneT]),hB⟩:∃ s c:Int,e=.returned (.tuple #[.int .i64 s,.int .i64 c])∧(c=0→s=-1)∧Below W.heap.size W w'))
 obtain ⟨M,hM⟩:∃ M,(n - 1) * (ln - lp)=M:=⟨_,rfl⟩
 replace hwm:=hwm.trans hM
 rw [hM] at H11 H12
 generalize oneL (M:Rat) 1=LM at *
 have c1:=x0.c1
 have c2:=x0.c2
 clear hmsz hm1 hm0 hM
 go_wp2_with fail
 refine (H11.out _ hb10).mono ?_
 rintro e w11 ⟨um,rfl,hum,hB11⟩
 have hb11:=below_trans' hb10 hB11
 have H12':=Lib.hid (H12.out um w11 hb11 (HUW.out.below hB11) hum)
 obtain ⟨pm,qm,rfl,_⟩:=hum
 clear hB11 H11 H12 hb10 c1 c2 HUW x0
 go_wp2_with fail
 refine H12'.out.mono ?_
 rintro e w12 ⟨s12,c12,rfl,hs12,hB12⟩
 have hb12:=below_trans' hb11 hB12
 have HLE:=Lib.hid hs12
 clear hB12 H12' hb11 hs12 hwm hwn hwu HG HTR HRA HRW HNA HNW
 have k1:¬ c8=0∨(c8=0∧s8=0):=by
  by_cases h:c8=0
  ·exact .inr ⟨h,HSA.out h⟩
  ·exact .inl h
 have k2:¬ c10=0∨(c10=0∧s10≤0):=by
  by_cases h:c10=0
  ·exact .inr ⟨h,HHI.out h⟩
  ·exact .inl h
 have k3:¬ c12=0∨(c12=0∧s12 < 0):=by
  by_cases h:c12=0
  ·exact .inr ⟨h,by have:=HLE.out h;omega⟩
  ·exact .inl h
 clear HSA HHI HLE
 rcases k1 with k1|⟨rfl,rfl⟩<;>rcases k2 with k2|⟨rfl,k2⟩<;>rcases k3 with k3|⟨rfl,k3⟩
 all_goals (
  go_wp2_with fail
  refine (HAW.out _ hb12).mono ?_
  rintro e w13 ⟨rfl,hB13⟩
  have hb13:=below_trans' hb12 hB13
  clear hB13
  go_wp2_with fail
  go_ret
  exact ⟨rfl,hb13⟩)
end Go.Proofs.YtbbclfbpllbbbaaGreatDoor
