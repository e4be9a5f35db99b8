/- Joined texts: WBevD, WBevK, WBevF, WSeat, WMark, WRebNum, WSame04, WAwake56. -/
import Derived.Test.YtbbclfbpllbbbaaGreatDoorJ14
import Derived.Test.YtbbclfbpllbbbaaGreatDoorJ09
set_option maxRecDepth 100000
set_option linter.unusedVariables false
set_option linter.unusedSimpArgs false
set_option maxHeartbeats 12800000
namespace Go.Proofs.YtbbclfbpllbbbaaGreatDoor
open Go.RowKit Go.Shelf
theorem bMake_ok (b:Nat) (c q:Rat) (n:Nat) (S:Rat) (x y:ByteArray) (u:Value) (w:World) (hG:Glo w) (hP:Pri w) (hb:BvBox w b) (h:OneC [(c,q)] n) (hg:gsum [(c,q)]=S) (hx:x.data.toList=ratText c) (hy:y.data.toList=ratText q) (hu:IsTerms w u [(x,y)]) :
  Calls Tryz.prog 74 #[.pointer (some ⟨b,0,none⟩),u] w (RetSd (oneL S n) w):=by
 have H:=Lib.hid (by rw [← hg];exact Make_ok [(c,q)] n [(x,y)] u w hG hP h (isRaw_one hx hy) hu:Calls Tryz.prog 15 #[u] w (RetSd (oneL S n) w))
 have c0:=BoxT1.c0 hb
 obtain ⟨va,vc,rfl,_⟩:=hu
 generalize oneL S n=L at *
 clear hG hP hb h hg hx hy
 go_enter Tryz.func74,Tryz.ntmps74
 go_wp2_with fail
 refine H.out.mono ?_
 rintro e w4 ⟨u,rfl,hu,hB4⟩
 have HU:=Lib.hid hu
 obtain ⟨ua,uc,rfl,_⟩:=hu
 go_wp2_with fail
 go_ret2
 exact ⟨_,rfl,HU.out,hB4⟩
theorem bDir_ok (b:Nat) {k f o wd dp:Int} {x y z x' y' z':ByteArray} {p q r p' q' r':Rat} (h:MemOk k f o wd dp x y z x' y' z' p q r p' q' r') (w:World) (hG:Glo w) (hb:BvBox w b) :
  Calls Tryz.prog 72 #[.pointer (some ⟨b,0,none⟩),.agg (memA k f o wd dp x y z x' y' z')] w (RetB (.agg #[.string (numS (p' - p)),.string (numS (q' - q)),.string (numS (r' - r))]) w):=by
 have H2:=Lib.hid (fun W hG=>vSub_ok x' y' z' x y z p' q' r' p q r W hG h.hx' h.hy' h.hz' h.hx h.hy h.hz)
 have HG:=Lib.hid hG
 generalize p' - p=P at *
 generalize q' - q=Q at *
 generalize r' - r=R at *
 unfold memA at *
 clear hG h
 go_enter Tryz.func72,Tryz.ntmps72
 go_wp2_with fail
 have hb0:Below w.heap.size w ((w.alloc (.cells #[.int .i64 k,.int .i64 f,.int .i64 o,.string x,.string y,.string z,.string x',.string y',.string z',.int .i64 wd,.int .i64 dp] 63)).alloc (.cells #[.string ⟨#[]⟩,.string ⟨#[]⟩,.string ⟨#[]⟩] 37)):=qbl
 have xc:BvBox ((w.alloc (.cells #[.int .i64 k,.int .i64 f,.int .i64 o,.string x,.string y,.string z,.string x',.string y',.string z',.int .i64 wd,.int .i64 dp] 63)).alloc (.cells #[.string ⟨#[]⟩,.string ⟨#[]⟩,.string ⟨#[]⟩] 37)) b:=hb.below (bw4 (bw4 (bw0 _ _) _) _)
 have zb:b < w.heap.size:=BoxT1.lt hb
 have x2:BoxT3 37 ((w.alloc (.cells #[.int .i64 k,.int .i64 f,.int .i64 o,.string x,.string y,.string z,.string x',.string y',.string z',.int .i64 wd,.int .i64 dp] 63)).alloc (.cells #[.string ⟨#[]⟩,.string ⟨#[]⟩,.string ⟨#[]⟩] 37)) (w.heap.size+1) (.string ⟨#[]⟩) (.string ⟨#[]⟩) (.string ⟨#[]⟩):=BoxT3.new (by simp)
 generalize ((w.alloc (.cells #[.int .i64 k,.int .i64 f,.int .i64 o,.string x,.string y,.string z,.string x',.string y',.string z',.int .i64 wd,.int .i64 dp] 63)).alloc (.cells #[.string ⟨#[]⟩,.string ⟨#[]⟩,.string ⟨#[]⟩] 37))=W0 at *
 refine (H2.out W0 (HG.out.below hb0)).mono ?_
 rintro e w2 ⟨a1,b1,c1,ha,hb1,hc,rfl,hB2⟩
 obtain rfl:=numS_of ha
 obtain rfl:=numS_of hb1
 obtain rfl:=numS_of hc
 have hb2:=below_trans' hb0 hB2
 replace x2:=x2.below hB2
 replace xc:=xc.below hB2
 generalize numS P=A at *
 generalize numS Q=B at *
 generalize numS R=C at *
 clear hB2 hb0 H2 ha hb1 hc hb
 have e0:=BoxT1.c0 (xc.below (bw4 (bw0 _ _) (.cells #[.string A,.string B,.string C] 37)))
 have z2:w.heap.size+1 < w2.heap.size:=x2.lt
 go_wp2_with (first|(refine wpList_store1 rfl _ _ _ _ rfl (xc.below (bw4 (bw0 _ _) (.cells #[.string A,.string B,.string C] 37))) Tryz.infoErrno rfl rfl rfl ?_;intro Wy hSy hxy;have hby:Below w.heap.size w Wy:=(bw4 hb2 _).trans (below_same (xc.below (bw4 (bw0 _ _) (.cells #[.string A,.string B,.string C] 37))) hSy hxy);have y2:BoxT3 37 Wy (w.heap.size+1) (.string ⟨#[]⟩) (.string ⟨#[]⟩) (.string ⟨#[]⟩):=(x2.below (bw4 (bw0 _ _) (.cells #[.string A,.string B,.string C] 37))).but hSy (by omega);have y5:BoxT3 37 Wy w2.heap.size (.string A) (.string B) (.string C):=(BoxT3.new rfl:BoxT3 37 (w2.alloc (.cells #[.string A,.string B,.string C] 37)) w2.heap.size (.string A) (.string B) (.string C)).but hSy (by omega);have f0:=y5.c0;have f1:=y5.c1;have f2:=y5.c2;clear hSy hxy xc x2 hb2 e0)|(refine wpList_store3 rfl _ _ _ rfl y2 Tryz.infoSpot rfl rfl rfl rfl rfl ?_;intro Wz hS hx;have hbz:Below w.heap.size w Wz:=hS.below hby (by omega);have g0:=hx.c0;have g1:=hx.c1;have g2:=hx.c2;clear hS y2 hby f0 f1 f2 y5))
 refine bodyPost_ret (v:=.agg #[.string A,.string B,.string C]) (by simp [results,Tryz.results72,go_sem,g0,g1,g2]) rfl ?_
 exact ⟨rfl,hbz⟩
end Go.Proofs.YtbbclfbpllbbbaaGreatDoor
namespace Go.Proofs.YtbbclfbpllbbbaaGreatDoor
open Go.RowKit Go.Shelf
theorem isStrs6 {t:TypeId} {W:World} {b:Nat} {x y z x' y' z':ByteArray} (h:BoxCs t W b #[.string x,.string y,.string z,.string x',.string y',.string z']):IsStrs W (.slice (some ⟨b,0,none⟩) 6 6) [x,y,z,x',y',z'] :=
 ⟨some ⟨b,0,none⟩,6,rfl,fun _=>⟨b,0,rfl,fun k hk=>by
  match k,hk with
  | 0,_=>exact BoxCs.c h 0
  | 1,_=>exact BoxCs.c h 1
  | 2,_=>exact BoxCs.c h 2
  | 3,_=>exact BoxCs.c h 3
  | 4,_=>exact BoxCs.c h 4
  | 5,_=>exact BoxCs.c h 5⟩⟩
theorem bCheck_ok (g:Nat) {k f o wd dp:Int} {x y z x' y' z':ByteArray} {p q r p' q' r':Rat} (h:MemOk k f o wd dp x y z x' y' z' p q r p' q' r') (w:World) (hG:Glo w) (hb:BoxM w g (memA k f o wd dp x y z x' y' z')) :
  Calls Tryz.prog 71 #[.slice (some ⟨g,0,none⟩) 1 1] w (RetB (.int .i64 0) w):=by
 have H1:=Lib.hid (fun W hG=>h.check W hG)
 have H2:=Lib.hid (fun (v:Value) W (hG:Glo W) (hv:IsStrs W v [x,y,z,x',y',z'])=>containsNum_no 125 [x,y,z,x',y',z'] v W hv (by show 6≤100000;decide) (enters_of Tryz.func125 (by kernel_rfl) rfl) (fun k hk W' hB=>by
  match k,hk with
  | 0,_=>exact bLong_ok x W' (hG.below hB) h.hx
  | 1,_=>exact bLong_ok y W' (hG.below hB) h.hy
  | 2,_=>exact bLong_ok z W' (hG.below hB) h.hz
  | 3,_=>exact bLong_ok x' W' (hG.below hB) h.hx'
  | 4,_=>exact bLong_ok y' W' (hG.below hB) h.hy'
  | 5,_=>exact bLong_ok z' W' (hG.below hB) h.hz'))
 have HG:=Lib.hid hG
 unfold memA at *
 have HM:=Lib.hid hb
 clear hG h hb
 go_enter Tryz.func71,Tryz.ntmps71
 go_wp2_with fail
 go_loopw [9] (fun i wr=>Below w.heap.size w wr∧(i=.int .i64 0∨i=.int .i64 1)) (fun i _=>1 - (intOf i).toNat)
 case atStart=>exact ⟨bw0 _ _,.inl rfl⟩
 case round =>
  obtain ⟨hB,rfl|rfl⟩:=hrel
  ·obtain ⟨c0,c1,c2,c3,c4,c5,c6,c7,c8,c9,c10⟩:=boxM_cells (BoxCs.below HM.out hB)
   go_wp2_with fail
   refine (H1.out _ (HG.out.below (bw4 hB _))).mono ?_
   rintro e w1 ⟨rfl,hB1⟩
   have hb1:Below w.heap.size w w1:=below_trans' (bw4 hB _) hB1
   clear hB1 hB c0 c1 c2 c3 c4 c5 c6 c7 c8 c9 c10
   go_wp2_with fail
   go_roundw
   case rel=>exact ⟨hb1,.inr rfl⟩
   case measure=>simp [intOf]
  ·go_wp2_with fail
   go_loopw [19] (fun i wq=>Below w.heap.size w wq∧(i=.int .i64 0∨i=.int .i64 1)) (fun i _=>1 - (intOf i).toNat)
   case atStart=>exact ⟨hB,.inl rfl⟩
   case round =>
    obtain ⟨hB',rfl|rfl⟩:=hrel
    ·obtain ⟨c0,c1,c2,c3,c4,c5,c6,c7,c8,c9,c10⟩:=boxM_cells (BoxCs.below HM.out hB')
     go_wp2_with fail
     refine (H2.out _ _ (HG.out.below (bw4 (bw4 hB' _) _)) (isStrs6 (t:=34) (BoxCs.new (by simp)))).mono ?_
     rintro e w2 ⟨rfl,hB2⟩
     have hb2:Below w.heap.size w w2:=below_trans' (bw4 (bw4 hB' _) _) hB2
     clear hB2 hB' c0 c1 c2 c3 c4 c5 c6 c7 c8 c9 c10
     go_wp2_with fail
     go_roundw
     case rel=>exact ⟨hb2,.inr rfl⟩
     case measure=>simp [intOf]
    ·go_wp2_with fail
     go_ret
     exact ⟨rfl,hB'⟩
end Go.Proofs.YtbbclfbpllbbbaaGreatDoor
namespace Go.Proofs.YtbbclfbpllbbbaaGreatDoor
open Go.RowKit Go.Shelf
theorem bFlat_ok (b:Nat) (x y z:ByteArray) (p q:Rat) (w:World) (hG:Glo w) (hb:BvBox w b) (hx:IsS x p) (hy:IsS y q) (h1:Small (p * p)) (h2:Small (q * q)) :
  Calls Tryz.prog 73 #[.pointer (some ⟨b,0,none⟩),.agg #[.string x,.string y,.string z],.agg #[.string x,.string y,.string z]] w (RetB (.string (numS (p * p+q * q))) w):=by
 have HM1:=Lib.hid (fun W (hB:Below w.heap.size w W)=>bMul_ok b x x p p W (hG.below hB) (hb.below hB) hx hx)
 have HM2:=Lib.hid (fun W (hB:Below w.heap.size w W)=>bMul_ok b y y q q W (hG.below hB) (hb.below hB) hy hy)
 have HAD:=Lib.hid (fun W (hB:Below w.heap.size w W)=>bAdd_ok b (numS (p * p)) (numS (q * q)) (p * p) (q * q) W (hG.below hB) (hb.below hB) ⟨numS_list _,h1⟩ ⟨numS_list _,h2⟩)
 generalize numS (p * p+q * q)=S at *
 generalize numS (p * p)=P at *
 generalize numS (q * q)=Q at *
 clear hG hb hx hy h1 h2
 go_enter Tryz.func73,Tryz.ntmps73
 go_wp2_with fail
 have hb0:Below w.heap.size w ((w.alloc (.cells #[.string x,.string y,.string z] 37)).alloc (.cells #[.string x,.string y,.string z] 37)):=qbl
 have x0:BoxT3 37 ((w.alloc (.cells #[.string x,.string y,.string z] 37)).alloc (.cells #[.string x,.string y,.string z] 37)) w.heap.size (.string x) (.string y) (.string z):=(BoxT3.new rfl).below (bw4 (bw0 _ _) _)
 have x1:BoxT3 37 ((w.alloc (.cells #[.string x,.string y,.string z] 37)).alloc (.cells #[.string x,.string y,.string z] 37)) (w.heap.size+1) (.string x) (.string y) (.string z):=BoxT3.new (by simp)
 generalize ((w.alloc (.cells #[.string x,.string y,.string z] 37)).alloc (.cells #[.string x,.string y,.string z] 37))=W7 at *
 have hR:Below W7.heap.size W7 W7.drew:=(bw0 _ _).drew
 refine region_S (F:=[]) (R:=(fun w'=>Below W7.heap.size W7 w')) 15 #[false,false,false,false,false,false,false,false,false,false,false,false,false,false,false] (by kernel_rfl) (by kernel_rfl) (by kernel_rfl) (fun _ _ _ _ _ h=>h) (fun Q' hQ' hN=>?_)
 generalize W7.drew=wd at *
 refine tkS 7 (i:=0) (v:=?_) (fw:=5) hQ' hR rfl ?_ ?_;rotate_left;(focus (intro wq hRq;have c0:=(x0.below hRq).c0;have c1:=(x0.below hRq).c1;have d0:=(x1.below hRq).c0;have d1:=(x1.below hRq).c1;go_simp;(try with_reducible rfl)));(try simp only [Act.put,bw7,bw8,bw9])
 refine tkS 8 (i:=1) (v:=?_) (fw:=5) hQ' hR rfl ?_ ?_;rotate_left;(focus (intro wq hRq;have c0:=(x0.below hRq).c0;have c1:=(x0.below hRq).c1;have d0:=(x1.below hRq).c0;have d1:=(x1.below hRq).c1;go_simp;(try with_reducible rfl)));(try simp only [Act.put,bw7,bw8,bw9])
 refine tkS 9 (i:=2) (v:=?_) (fw:=5) hQ' hR rfl ?_ ?_;rotate_left;(focus (intro wq hRq;have c0:=(x0.below hRq).c0;have c1:=(x0.below hRq).c1;have d0:=(x1.below hRq).c0;have d1:=(x1.below hRq).c1;go_simp;(try with_reducible rfl)));(try simp only [Act.put,bw7,bw8,bw9])
 refine tkS 10 (i:=3) (v:=?_) (fw:=5) hQ' hR rfl ?_ ?_;rotate_left;(focus (intro wq hRq;have c0:=(x0.below hRq).c0;have c1:=(x0.below hRq).c1;have d0:=(x1.below hRq).c0;have d1:=(x1.below hRq).c1;go_simp;(try with_reducible rfl)));(try simp only [Act.put,bw7,bw8,bw9])
 refine tkS 11 (i:=4) (v:=?_) (fw:=5) hQ' hR rfl ?_ ?_;rotate_left;(focus (intro wq hRq;have c0:=(x0.below hRq).c0;have c1:=(x0.below hRq).c1;have d0:=(x1.below hRq).c0;have d1:=(x1.below hRq).c1;go_simp;(try with_reducible rfl)));(try simp only [Act.put,bw7,bw8,bw9])
 refine tkS 12 (i:=5) (v:=?_) (fw:=5) hQ' hR rfl ?_ ?_;rotate_left;(focus (intro wq hRq;have c0:=(x0.below hRq).c0;have c1:=(x0.below hRq).c1;have d0:=(x1.below hRq).c0;have d1:=(x1.below hRq).c1;go_simp;(try with_reducible rfl)));(try simp only [Act.put,bw7,bw8,bw9])
 refine tkS 14 (i:=7) (v:=?_) (fw:=5) hQ' hR rfl ?_ ?_;rotate_left;(focus (intro wq hRq;have c0:=(x0.below hRq).c0;have c1:=(x0.below hRq).c1;have d0:=(x1.below hRq).c0;have d1:=(x1.below hRq).c1;go_simp;(try with_reducible rfl)));(try simp only [Act.put,bw7,bw8,bw9])
 refine tkS 15 (i:=8) (v:=?_) (fw:=5) hQ' hR rfl ?_ ?_;rotate_left;(focus (intro wq hRq;have c0:=(x0.below hRq).c0;have c1:=(x0.below hRq).c1;have d0:=(x1.below hRq).c0;have d1:=(x1.below hRq).c1;go_simp;(try with_reducible rfl)));(try simp only [Act.put,bw7,bw8,bw9])
 refine tkS 16 (i:=9) (v:=?_) (fw:=5) hQ' hR rfl ?_ ?_;rotate_left;(focus (intro wq hRq;have c0:=(x0.below hRq).c0;have c1:=(x0.below hRq).c1;have d0:=(x1.below hRq).c0;have d1:=(x1.below hRq).c1;go_simp;(try with_reducible rfl)));(try simp only [Act.put,bw7,bw8,bw9])
 refine tkS 17 (i:=10) (v:=?_) (fw:=5) hQ' hR rfl ?_ ?_;rotate_left;(focus (intro wq hRq;have c0:=(x0.below hRq).c0;have c1:=(x0.below hRq).c1;have d0:=(x1.below hRq).c0;have d1:=(x1.below hRq).c1;go_simp;(try with_reducible rfl)));(try simp only [Act.put,bw7,bw8,bw9])
 refine tkS 18 (i:=11) (v:=?_) (fw:=5) hQ' hR rfl ?_ ?_;rotate_left;(focus (intro wq hRq;have c0:=(x0.below hRq).c0;have c1:=(x0.below hRq).c1;have d0:=(x1.below hRq).c0;have d1:=(x1.below hRq).c1;go_simp;(try with_reducible rfl)));(try simp only [Act.put,bw7,bw8,bw9])
 refine wpAnyS_ready (rs:=[6]) (by kernel_rfl) (by simp) ?_
 refine stepR (i:=6) rfl (by kernel_rfl) (fun K hK=>?_) (AllReadyS.nil)
 go_simp
 refine (HM1.out _ (below_trans' hb0 hR)).mono ?_
 rintro e wn ⟨rfl,hB'⟩
 replace hR:=below_trans' hR hB'
 clear hB'
 refine hK.out _ _ hR ?_
 clear hK K
 (try simp only [Act.put,bw7,bw8,bw9])
 refine wpAnyS_ready (rs:=[12]) (by kernel_rfl) (by simp) ?_
 refine stepR (i:=12) rfl (by kernel_rfl) (fun K hK=>?_) (AllReadyS.nil)
 go_simp
 refine (HM2.out _ (below_trans' hb0 hR)).mono ?_
 rintro e wn ⟨rfl,hB'⟩
 replace hR:=below_trans' hR hB'
 clear hB'
 refine hK.out _ _ hR ?_
 clear hK K
 (try simp only [Act.put,bw7,bw8,bw9])
 refine wpAnyS_ready (rs:=[13]) (by kernel_rfl) (by simp) ?_
 refine stepR (i:=13) rfl (by kernel_rfl) (fun K hK=>?_) (AllReadyS.nil)
 go_simp
 refine (HAD.out _ (below_trans' hb0 hR)).mono ?_
 rintro e wn ⟨rfl,hB'⟩
 replace hR:=below_trans' hR hB'
 clear hB'
 refine hK.out _ _ hR ?_
 clear hK K
 (try simp only [Act.put,bw7,bw8,bw9])
 refine tkS 6 (i:=14) (v:=?_) (fw:=5) hQ' hR rfl ?_ ?_;rotate_left;(focus (intro wq hRq;have c0:=(x0.below hRq).c0;have c1:=(x0.below hRq).c1;have d0:=(x1.below hRq).c0;have d1:=(x1.below hRq).c1;go_simp;(try with_reducible rfl)));(try simp only [Act.put,bw7,bw8,bw9])
 refine wpAnyS_done (by kernel_rfl) ?_ _
 refine hN.out _ _ ?_
 have hbz:=below_trans' hb0 hR
 go_wp2_with fail
 go_ret
 exact ⟨rfl,hbz⟩
end Go.Proofs.YtbbclfbpllbbbaaGreatDoor
namespace Go.Proofs.YtbbclfbpllbbbaaGreatDoor
open Go.RowKit Go.Shelf
theorem seat_ok {k f o wd dp:Int} {x y z x' y' z':ByteArray} {p q r p' q' r':Rat} (h:MemOk k f o wd dp x y z x' y' z' p q r p' q' r') (w:World) (hG:Glo w) (hP:Pri w) (hd:DirOk (p' - p) (q' - q) (r' - r)) (hr0:0≤(r' - r).num)
  {D:Rat} (hD:(p' - p) * (p' - p)+(q' - q) * (q' - q)=D) (hD0:D≠0) {n:Nat} {S:Rat} (h1:OneC [(r' - r,1 / D)] n) (hg:gsum [(r' - r,1 / D)]=S) :
  Calls Tryz.prog 28 #[.agg (memA k f o wd dp x y z x' y' z')] w (RetSd (oneL S n) w):=by
 have H1:=Lib.hid (fun g W hG hb=>bCheck_ok g h W hG hb)
 have H2:=Lib.hid (fun b W hG hb=>bDir_ok b h W hG hb)
 have H3:=Lib.hid (fun b W hG hb=>bFlat_ok b (numS (p' - p)) (numS (q' - q)) (numS (r' - r)) (p' - p) (q' - q) W hG hb ⟨numS_list _,hd.s1⟩ ⟨numS_list _,hd.s2⟩ hd.h1 hd.h2)
 have H4:=Lib.hid (fun W=>size_ok (r' - r) (numS (r' - r)) W (numS_list _) hr0)
 have hDs:Small D:=hD ▸ hd.h4
 rw [hD] at H3
 have H5:=Lib.hid (fun b W hG hb=>bDiv_ok b ⟨#[49]⟩ (numS D) 1 D W hG hb ⟨one_list,by unfold Small;decide⟩ ⟨numS_list _,hDs⟩ hD0)
 have H6:=Lib.hid (fun b u W hG hP hb hu=>bMake_ok b (r' - r) (1 / D) n S (numS (r' - r)) (numS (1 / D)) u W hG hP hb h1 hg (numS_list _) (numS_list _) hu)
 have hne:((numS D).toList == [48])=false:=by rw [Lib.toList_data,numS_list,text_eq0,decide_eq_false hD0]
 have HG:=Lib.hid hG
 have HP:=Lib.hid hP
 generalize numS (1 / D)=I at *
 generalize numS D=E at *
 generalize numS (p' - p)=A at *
 generalize numS (q' - q)=B at *
 generalize numS (r' - r)=C at *
 generalize oneL S n=L at *
 unfold memA at *
 clear hG hP h hd hr0 hD hD0 h1 hg hDs
 go_enter Tryz.func28,Tryz.ntmps28
 go_wp2_with fail
 have hb0:Below w.heap.size w ((w.alloc (.cells #[.int .i64 k,.int .i64 f,.int .i64 o,.string x,.string y,.string z,.string x',.string y',.string z',.int .i64 wd,.int .i64 dp] 63)).alloc (.cells #[.int .i64 k,.int .i64 f,.int .i64 o,.string x,.string y,.string z,.string x',.string y',.string z',.int .i64 wd,.int .i64 dp] 63)):=qbl
 have x0:BoxM ((w.alloc (.cells #[.int .i64 k,.int .i64 f,.int .i64 o,.string x,.string y,.string z,.string x',.string y',.string z',.int .i64 wd,.int .i64 dp] 63)).alloc (.cells #[.int .i64 k,.int .i64 f,.int .i64 o,.string x,.string y,.string z,.string x',.string y',.string z',.int .i64 wd,.int .i64 dp] 63)) w.heap.size #[.int .i64 k,.int .i64 f,.int .i64 o,.string x,.string y,.string z,.string x',.string y',.string z',.int .i64 wd,.int .i64 dp]:=(BoxCs.new rfl).below (bw4 (bw0 _ _) _)
 have x1:BoxM ((w.alloc (.cells #[.int .i64 k,.int .i64 f,.int .i64 o,.string x,.string y,.string z,.string x',.string y',.string z',.int .i64 wd,.int .i64 dp] 63)).alloc (.cells #[.int .i64 k,.int .i64 f,.int .i64 o,.string x,.string y,.string z,.string x',.string y',.string z',.int .i64 wd,.int .i64 dp] 63)) (w.heap.size+1) #[.int .i64 k,.int .i64 f,.int .i64 o,.string x,.string y,.string z,.string x',.string y',.string z',.int .i64 wd,.int .i64 dp]:=BoxCs.new (by simp)
 generalize ((w.alloc (.cells #[.int .i64 k,.int .i64 f,.int .i64 o,.string x,.string y,.string z,.string x',.string y',.string z',.int .i64 wd,.int .i64 dp] 63)).alloc (.cells #[.int .i64 k,.int .i64 f,.int .i64 o,.string x,.string y,.string z,.string x',.string y',.string z',.int .i64 wd,.int .i64 dp] 63))=W0 at *
 refine (H1.out (w.heap.size+1) W0 (HG.out.below hb0) x1).mono ?_
 rintro e w1 ⟨rfl,hB1⟩
 have hb1:=below_trans' hb0 hB1
 replace x0:=BoxCs.below x0 hB1
 clear hB1 hb0 H1 x1
 obtain ⟨c0,c1,c2,c3,c4,c5,c6,c7,c8,c9,c10⟩:=boxM_cells (BoxCs.below x0 (bw4 (bw0 _ _) (.cells #[.int .i64 0] 134)))
 go_wp2_with fail
 have hb2:Below w.heap.size w (w1.alloc (.cells #[.int .i64 0] 134)):=bw4 hb1 _
 have xc:BvBox (w1.alloc (.cells #[.int .i64 0] 134)) w1.heap.size:=BoxT1.new rfl
 clear hb1 x0 c0 c1 c2 c3 c4 c5 c6 c7 c8 c9 c10
 generalize w1.alloc (.cells #[.int .i64 0] 134)=W2 at *
 generalize w1.heap.size=g at *
 refine (H2.out g W2 (HG.out.below hb2) xc).mono ?_
 rintro e w3 ⟨rfl,hB3⟩
 have hb3:=below_trans' hb2 hB3
 replace xc:=xc.below hB3
 clear hB3 hb2 H2
 go_wp2_with fail
 have hb4:Below w.heap.size w (w3.alloc (.cells #[.string A,.string B,.string C] 37)):=bw4 hb3 _
 have x4:BoxT3 37 (w3.alloc (.cells #[.string A,.string B,.string C] 37)) w3.heap.size (.string A) (.string B) (.string C):=BoxT3.new rfl
 replace xc:=xc.below (bw4 (bw0 _ _) (.cells #[.string A,.string B,.string C] 37))
 clear hb3
 generalize w3.alloc (.cells #[.string A,.string B,.string C] 37)=W4 at *
 generalize w3.heap.size=s4 at *
 refine (H3.out g W4 (HG.out.below hb4) xc).mono ?_
 rintro e w5 ⟨rfl,hB5⟩
 have hb5:=below_trans' hb4 hB5
 replace xc:=xc.below hB5
 replace x4:=x4.below hB5
 have d0:=BoxT1.c0 xc
 have e2:=x4.c2
 clear hB5 hb4 H3
 go_wp2_with fail
 refine (H4.out _).mono ?_
 rintro e w6 ⟨rfl,hB6⟩
 have hb6:=below_trans' hb5 hB6
 replace xc:=xc.below hB6
 clear hB6 hb5 H4 d0 e2 x4
 go_wp2_with fail
 refine (H5.out g _ (HG.out.below hb6) xc).mono ?_
 rintro e w7 ⟨rfl,hB7⟩
 have hb7:=below_trans' hb6 hB7
 replace xc:=xc.below hB7
 clear hB7 hb6 H5
 go_wp2_with fail
 have hb8:Below w.heap.size w (w7.alloc (.cells #[.string C,.string I] 70)):=bw4 hb7 _
 have y0:BoxT2 70 (w7.alloc (.cells #[.string C,.string I] 70)) w7.heap.size (.string C) (.string I):=BoxT2.new rfl
 replace xc:=xc.below (bw4 (bw0 _ _) (.cells #[.string C,.string I] 70))
 generalize w7.alloc (.cells #[.string C,.string I] 70)=W8 at *
 refine (H6.out g _ W8 (HG.out.below hb8) (HP.out.below hb8) xc (isTerms_one y0)).mono ?_
 rintro e w9 ⟨u,rfl,hu,hB9⟩
 have hb9:=below_trans' hb8 hB9
 have HU:=Lib.hid hu
 obtain ⟨ua,uc,rfl,_⟩:=hu
 clear hB9 hb8 H6 y0 xc
 go_wp2_with fail
 go_ret2
 exact ⟨_,rfl,HU.out,hb9⟩
end Go.Proofs.YtbbclfbpllbbbaaGreatDoor
namespace Go.Proofs.YtbbclfbpllbbbaaGreatDoor
open Go.RowKit Go.Shelf
theorem Small.sz {q:Rat} (h:Small q):Sz 8 q:=h
theorem hNumber_ok (x:ByteArray) (p:Rat) (w:World) (hG:Glo w) (hP:Pri w) (hx:IsS x p) :
  Calls Tryz.prog 78 #[.string x] w (RetSd (oneL p 1) w):=by
 have hS:=oneC_unit (c:=p) (hx.2.sz.mono (by decide))
 have H3:=Lib.hid (fun (u:Value) W hG hP (hu:IsTerms W u [(x,(⟨#[49]⟩:ByteArray))])=>(by rw [← hS.2];exact Make_ok [(p,1)] 1 [(x,(⟨#[49]⟩:ByteArray))] u W hG hP hS.1 (isRaw_one hx.1 one_list) hu:Calls Tryz.prog 15 #[u] W (RetSd (oneL p 1) W)))
 have HG:=Lib.hid hG
 have HP:=Lib.hid hP
 generalize oneL p 1=L at *
 clear hG hP hx hS
 go_enter Tryz.func78,Tryz.ntmps78
 go_wp2_with fail
 have hb3:Below w.heap.size w (w.alloc (.cells #[.string x,.string ⟨#[49]⟩] 70)):=bw4 (bw0 _ _) _
 have y0:BoxT2 70 (w.alloc (.cells #[.string x,.string ⟨#[49]⟩] 70)) w.heap.size (.string x) (.string ⟨#[49]⟩):=BoxT2.new rfl
 generalize w.alloc (.cells #[.string x,.string ⟨#[49]⟩] 70)=W3 at *
 refine (H3.out _ W3 (HG.out.below hb3) (HP.out.below hb3) (isTerms_one y0)).mono ?_
 rintro e w4 ⟨u,rfl,hu,hB4⟩
 have hb4:=below_trans' hb3 hB4
 have HU:=Lib.hid hu
 obtain ⟨ua,uc,rfl,_⟩:=hu
 clear hB4 hb3 y0
 go_wp2_with fail
 go_ret2
 exact ⟨_,rfl,HU.out,hb4⟩
theorem hMark_ok (x y z:ByteArray) (p q r:Rat) (w:World) (hG:Glo w) (hP:Pri w) (hx:IsS x p) (hy:IsS y q) (hz:IsS z r) :
  Calls Tryz.prog 29 #[.agg #[.string x,.string y,.string z]] w (RetMk (oneL p 1) (oneL q 1) (oneL r 1) w):=by
 have H0:=Lib.hid (fun W hG=>vCheck_ok x y z p q r W hG hx.q hy.q hz.q)
 have H1:=Lib.hid (fun W hG hP=>hNumber_ok x p W hG hP hx)
 have H2:=Lib.hid (fun W hG hP=>hNumber_ok y q W hG hP hy)
 have H3:=Lib.hid (fun W hG hP=>hNumber_ok z r W hG hP hz)
 have HG:=Lib.hid hG
 have HP:=Lib.hid hP
 generalize oneL p 1=X at *
 generalize oneL q 1=Y at *
 generalize oneL r 1=Z at *
 clear hG hP hx hy hz
 go_enter Tryz.func29,Tryz.ntmps29
 go_wp2_with fail
 have hb0:Below w.heap.size w ((w.alloc (.cells #[.string x,.string y,.string z] 37)).alloc (.cells #[.slice none 0 0,.slice none 0 0,.slice none 0 0] 41)):=qbl
 have x0:BoxT3 37 ((w.alloc (.cells #[.string x,.string y,.string z] 37)).alloc (.cells #[.slice none 0 0,.slice none 0 0,.slice none 0 0] 41)) w.heap.size (.string x) (.string y) (.string z):=(BoxT3.new rfl).below (bw4 (bw0 _ _) _)
 have x2:BoxT3 41 ((w.alloc (.cells #[.string x,.string y,.string z] 37)).alloc (.cells #[.slice none 0 0,.slice none 0 0,.slice none 0 0] 41)) (w.heap.size+1) (.slice none 0 0) (.slice none 0 0) (.slice none 0 0):=BoxT3.new (by simp)
 generalize ((w.alloc (.cells #[.string x,.string y,.string z] 37)).alloc (.cells #[.slice none 0 0,.slice none 0 0,.slice none 0 0] 41))=W0 at *
 refine (H0.out W0 (HG.out.below hb0)).mono ?_
 rintro e w1 ⟨rfl,hB1⟩
 have hb1:=below_trans' hb0 hB1
 replace x0:=x0.below hB1
 replace x2:=x2.below hB1
 have c0:=(x0.below (bw4 (bw0 _ _) (.cells #[.slice none 0 0,.slice none 0 0,.slice none 0 0] 140))).c0
 have c1:=(x0.below (bw4 (bw0 _ _) (.cells #[.slice none 0 0,.slice none 0 0,.slice none 0 0] 140))).c1
 have c2:=(x0.below (bw4 (bw0 _ _) (.cells #[.slice none 0 0,.slice none 0 0,.slice none 0 0] 140))).c2
 clear hB1 hb0 H0
 go_wp2_with fail
 have hb4:Below w.heap.size w ((w1.alloc (.cells #[.slice none 0 0,.slice none 0 0,.slice none 0 0] 140)).alloc (.cells #[.string x,.string y,.string z] 34)):=bw4 (bw4 hb1 _) _
 have z1:w.heap.size+1 < w1.heap.size:=x2.lt
 replace x2:=x2.below (bw4 (bw4 (bw0 _ _) (.cells #[.slice none 0 0,.slice none 0 0,.slice none 0 0] 140)) (.cells #[.string x,.string y,.string z] 34))
 have x5:BoxT3 140 ((w1.alloc (.cells #[.slice none 0 0,.slice none 0 0,.slice none 0 0] 140)).alloc (.cells #[.string x,.string y,.string z] 34)) w1.heap.size (.slice none 0 0) (.slice none 0 0) (.slice none 0 0):=(BoxT3.new rfl).below (bw4 (bw0 _ _) _)
 have x6:BoxT3 34 ((w1.alloc (.cells #[.slice none 0 0,.slice none 0 0,.slice none 0 0] 140)).alloc (.cells #[.string x,.string y,.string z] 34)) (w1.heap.size+1) (.string x) (.string y) (.string z):=BoxT3.new (by simp)
 clear hb1 x0 c0 c1 c2
 generalize ((w1.alloc (.cells #[.slice none 0 0,.slice none 0 0,.slice none 0 0] 140)).alloc (.cells #[.string x,.string y,.string z] 34))=W4 at *
 generalize w1.heap.size=m1 at *
 go_loopw [24] (fun i wr=>Below w.heap.size w wr∧BoxT3 41 wr (w.heap.size+1) (.slice none 0 0) (.slice none 0 0) (.slice none 0 0)∧BoxT3 34 wr (m1+1) (.string x) (.string y) (.string z)∧∃ (a1:Option Addr) (n1 k1:Nat) (a2:Option Addr) (n2 k2:Nat) (a3:Option Addr) (n3 k3:Nat),BoxT3 140 wr m1 (.slice a1 n1 k1) (.slice a2 n2 k2) (.slice a3 n3 k3)∧((i=.int .i64 0)∨(i=.int .i64 1∧Hid (IsTerms wr (.slice a1 n1 k1) X))∨(i=.int .i64 2∧Hid (IsTerms wr (.slice a1 n1 k1) X∧IsTerms wr (.slice a2 n2 k2) Y))∨(i=.int .i64 3∧Hid (IsTerms wr (.slice a1 n1 k1) X∧IsTerms wr (.slice a2 n2 k2) Y∧IsTerms wr (.slice a3 n3 k3) Z)))) (fun i _=>3 - (intOf i).toNat)
 case atStart=>exact ⟨hb4,x2,x6,_,_,_,_,_,_,_,_,_,x5,.inl rfl⟩
 case round =>
  obtain ⟨hB,b2,b4,a1,n1,k1,a2,n2,k2,a3,n3,k3,b3,hst⟩:=hrel
  have c0:=b4.c0
  have c1:=b4.c1
  have c2:=b4.c2
  rcases hst with rfl|⟨rfl,ha⟩|⟨rfl,ha⟩|⟨rfl,ha⟩
  ·go_wp2_with fail
   refine (H1.out _ (HG.out.below hB) (HP.out.below hB)).mono ?_
   rintro e w5 ⟨u,rfl,hu,hB5⟩
   have hb5:=below_trans' hB hB5
   replace b2:=b2.below hB5
   replace b3:=b3.below hB5
   replace b4:=b4.below hB5
   have HU:=Lib.hid hu
   obtain ⟨ua,uc,rfl,_⟩:=hu
   have d0:=b3.c0
   have fz:=b3.frz 0
   have hst':=Lib.hid (True.intro)
   clear hB5 hB c0 c1 c2
   go_wp2_with fail
   go_roundw
   case rel=>exact ⟨hb5.setCell (by show w.heap.size≤m1;omega) _,b2.but (sameBut_setCell _ _ _ _) (by omega),b4.but (sameBut_setCell _ _ _ _) (by omega),_,_,_,_,_,_,_,_,_,b3.set0 _,.inr (.inl ⟨rfl,Lib.hid (HU.out.butM b3 (sameBut_setCell _ _ _ _))⟩)⟩
   case measure=>simp [intOf]
  ·go_wp2_with fail
   refine (H2.out _ (HG.out.below hB) (HP.out.below hB)).mono ?_
   rintro e w5 ⟨u,rfl,hu,hB5⟩
   have hb5:=below_trans' hB hB5
   replace b2:=b2.below hB5
   replace b3:=b3.below hB5
   replace b4:=b4.below hB5
   have HU:=Lib.hid hu
   obtain ⟨ua,uc,rfl,_⟩:=hu
   have d0:=b3.c1
   have fz:=b3.frz 1
   have hst':=Lib.hid ((ha.out.below hB5:IsTerms w5 _ X))
   clear hB5 hB c0 c1 c2
   go_wp2_with fail
   go_roundw
   case rel=>exact ⟨hb5.setCell (by show w.heap.size≤m1;omega) _,b2.but (sameBut_setCell _ _ _ _) (by omega),b4.but (sameBut_setCell _ _ _ _) (by omega),_,_,_,_,_,_,_,_,_,b3.set1 _,.inr (.inr (.inl ⟨rfl,Lib.hid ⟨hst'.out.butM b3 (sameBut_setCell _ _ _ _),HU.out.butM b3 (sameBut_setCell _ _ _ _)⟩⟩))⟩
   case measure=>simp [intOf]
  ·go_wp2_with fail
   refine (H3.out _ (HG.out.below hB) (HP.out.below hB)).mono ?_
   rintro e w5 ⟨u,rfl,hu,hB5⟩
   have hb5:=below_trans' hB hB5
   replace b2:=b2.below hB5
   replace b3:=b3.below hB5
   replace b4:=b4.below hB5
   have HU:=Lib.hid hu
   obtain ⟨ua,uc,rfl,_⟩:=hu
   have d0:=b3.c2
   have fz:=b3.frz 2
   have hst':=Lib.hid ((⟨ha.out.1.below hB5,ha.out.2.below hB5⟩:IsTerms w5 _ X∧IsTerms w5 _ Y))
   clear hB5 hB c0 c1 c2
   go_wp2_with fail
   go_roundw
   case rel=>exact ⟨hb5.setCell (by show w.heap.size≤m1;omega) _,b2.but (sameBut_setCell _ _ _ _) (by omega),b4.but (sameBut_setCell _ _ _ _) (by omega),_,_,_,_,_,_,_,_,_,b3.set2 _,.inr (.inr (.inr ⟨rfl,Lib.hid ⟨hst'.out.1.butM b3 (sameBut_setCell _ _ _ _),hst'.out.2.butM b3 (sameBut_setCell _ _ _ _),HU.out.butM b3 (sameBut_setCell _ _ _ _)⟩⟩))⟩
   case measure=>simp [intOf]
  ·have e0:=b3.c0
   have e1:=b3.c1
   have e2:=b3.c2
   clear c0 c1 c2
   go_wp2_with (refine wpList_store3 rfl _ _ _ rfl b2 Tryz.infoMark rfl rfl rfl rfl rfl ?_;intro Wz hS hx;have hbz:Below w.heap.size w Wz:=hS.below hB (by omega);have g0:=hx.c0;have g1:=hx.c1;have g2:=hx.c2;have hz1:=Lib.hid (ha.out.1.butM b2 hS);have hz2:=Lib.hid (ha.out.2.1.butM b2 hS);have hz3:=Lib.hid (ha.out.2.2.butM b2 hS);clear hS b2 hB e0 e1 e2)
   refine bodyPost_ret (v:=.tuple #[.agg #[.slice a1 n1 k1,.slice a2 n2 k2,.slice a3 n3 k3],.int .i64 0]) (by simp [results,Tryz.results29,go_sem,g0,g1,g2]) rfl ?_
   exact ⟨_,_,_,rfl,hz1.out,hz2.out,hz3.out,hbz⟩
end Go.Proofs.YtbbclfbpllbbbaaGreatDoor
namespace Go.Proofs.YtbbclfbpllbbbaaGreatDoor
open Go.RowKit Go.Shelf
theorem reb_q (X Y Z N2 N3:Int) (h2:N2=X * X+Y * Y) (h3:N3=N2+Z * Z) (hp2:0 < N2) (hp3:0 < N3) (a b c:Rat) (ha:a=Rat.divInt X 3) (hb:b=Rat.divInt Y 3) (hc:c=Rat.divInt Z 3) :
  a * a+b * b=Rat.divInt N2 9∧a * a+b * b+c * c=Rat.divInt N3 9∧1 / (a * a+b * b)=Rat.divInt 9 N2∧1 / ((X:Rat) * X+(Y:Rat) * Y)=Rat.divInt 1 N2∧(X:Rat) * X+(Y:Rat) * Y=(N2:Rat)∧1+c * c * (1 / (a * a+b * b))=Rat.divInt N3 N2∧1 / (1+c * c * (1 / (a * a+b * b)))=Rat.divInt N2 N3
  ∧ (1 / 3:Rat) * (1 / 3)=Rat.divInt N3 9 * (1 / (1+c * c * (1 / (a * a+b * b)))) * (1 / ((X:Rat) * X+(Y:Rat) * Y))
  ∧ c * c=Rat.divInt N3 9 * (1 / (1+c * c * (1 / (a * a+b * b)))) * (c * c * (1 / (a * a+b * b))):=by
 have e2:(N2:Rat)=(X:Rat) * X+(Y:Rat) * Y:=by rw [h2,Rat.intCast_add,Rat.intCast_mul,Rat.intCast_mul]
 have e3:(N3:Rat)=(N2:Rat)+(Z:Rat) * Z:=by rw [h3,Rat.intCast_add,Rat.intCast_mul]
 have z2:(N2:Rat)≠0:=fun h=>by have:=Rat.intCast_eq_zero_iff.1 h;omega
 have z3:(N3:Rat)≠0:=fun h=>by have:=Rat.intCast_eq_zero_iff.1 h;omega
 rw [ha,hb,hc]
 simp only [Rat.divInt_eq_div]
 have k3:((3:Int):Rat)=3:=rfl
 have k9:((9:Int):Rat)=9:=rfl
 have k1:((1:Int):Rat)=1:=rfl
 rw [k3,k9,k1]
 clear h2 h3 hp2 hp3 ha hb hc a b c
 generalize (X:Rat)=x at *
 generalize (Y:Rat)=y at *
 generalize (Z:Rat)=z at *
 generalize (N2:Rat)=m at *
 generalize (N3:Rat)=n at *
 have s1:x / 3 * (x / 3)+y / 3 * (y / 3)=m / 9:=by grind
 have z4:m / 9≠0:=by grind
 rw [s1]
 have s2:1+z / 3 * (z / 3) * (1 / (m / 9))=n / m:=by grind
 rw [s2]
 refine ⟨rfl,by grind,by grind,by grind,by grind,rfl,by grind,by grind,by grind⟩
theorem third_sub (a b:Int):Rat.divInt a 3 - Rat.divInt b 3=Rat.divInt (a - b) 3:=by
 simp only [Rat.divInt_eq_div,Rat.intCast_sub]
 grind
theorem third_inj {a b:Int} (h:Rat.divInt a 3=Rat.divInt b 3):a=b:=by
 simp only [Rat.divInt_eq_div] at h
 have h2:(a:Rat)=(b:Rat):=by
  have k3:((3:Int):Rat)=3:=rfl
  rw [k3] at h
  grind
 exact Rat.intCast_inj.1 h2
theorem sq_le {X:Int} (h0 : -255≤X) (h1:X≤255):0≤X * X∧X * X≤65025∧(X≠0→0 < X * X):=by
 obtain ⟨n,rfl|rfl⟩:=X.eq_nat_or_neg
 ·have hn:n * n≤255 * 255:=Nat.mul_le_mul (by omega) (by omega)
  have e:(n:Int) * (n:Int)=((n * n:Nat):Int):=(Int.natCast_mul n n).symm
  rw [e]
  exact ⟨by omega,by omega,fun h=>by have:0 < n * n:=Nat.mul_pos (by omega) (by omega);omega⟩
 ·have hn:n * n≤255 * 255:=Nat.mul_le_mul (by omega) (by omega)
  have e : -(n:Int) * -(n:Int)=((n * n:Nat):Int):=by rw [Int.neg_mul_neg];exact (Int.natCast_mul n n).symm
  rw [e]
  exact ⟨by omega,by omega,fun h=>by have:0 < n * n:=Nat.mul_pos (by omega) (by omega);omega⟩
structure RebIn (fx fy fz tx ty tz:Int):Prop where
 a1 : -128≤fx∧fx≤127
 a2 : -128≤fy∧fy≤127
 a3 : -128≤fz∧fz≤127
 b1 : -128≤tx∧tx≤127
 b2 : -128≤ty∧ty≤127
 b3 : -128≤tz∧tz≤127
 ne:¬ (fx=tx∧fy=ty)
 up:fz≤tz
theorem small_third {n:Int} (h0 : -255≤n) (h1:n≤255):Sz 3 (Rat.divInt n 3):=sz_divInt (by decide) (by omega) (by decide)
theorem small_of {k:Nat} {q:Rat} (h:Sz k q) (hk:k≤8):Small q:=(h.mono hk:Sz 8 q)
theorem isS_third {n:Int} (h0 : -255≤n) (h1:n≤255):IsS (numS (Rat.divInt n 3)) (Rat.divInt n 3):=⟨numS_list _,small_of (small_third h0 h1) (by decide)⟩
theorem isR_third {n:Int} (h0 : -255≤n) (h1:n≤255):IsR 10 (numS (Rat.divInt n 3)) (Rat.divInt n 3):=⟨numS_list _,(small_third h0 h1).mono (by decide)⟩
theorem isR_int {n:Int} (h0 : -255≤n) (h1:n≤255):IsR 10 (numS (n:Rat)) (n:Rat):=⟨numS_list _,sz_int (k:=10) (by omega) (by decide)⟩
theorem rebMem {fx fy fz tx ty tz:Int} (h:RebIn fx fy fz tx ty tz):MemOk 6 0 (-1) 80 200 (numS (Rat.divInt fx 3)) (numS (Rat.divInt fy 3)) (numS (Rat.divInt fz 3)) (numS (Rat.divInt tx 3)) (numS (Rat.divInt ty 3)) (numS (Rat.divInt tz 3)) (Rat.divInt fx 3) (Rat.divInt fy 3) (Rat.divInt fz 3) (Rat.divInt tx 3) (Rat.divInt ty 3) (Rat.divInt tz 3):=by
 obtain ⟨a1,a2,a3,b1,b2,b3,ne,up⟩:=h
 refine ⟨by decide,by decide,by decide,by decide,by decide,by decide,by decide,by decide,isS_third (by omega) (by omega),isS_third (by omega) (by omega),isS_third (by omega) (by omega),isS_third (by omega) (by omega),isS_third (by omega) (by omega),isS_third (by omega) (by omega),?_⟩
 rintro ⟨h1,h2,_⟩
 exact ne ⟨third_inj h1,third_inj h2⟩
theorem compare_same {c:Rat} (hc:Sz 59 c) (u v:Value) (w:World) (hG:Glo w) (hP:Pri w) (hu:IsTerms w u (oneL c 1)) (hv:IsTerms w v (oneL c 1)):Calls Tryz.prog 19 #[u,v] w (RetB (.tuple #[.int .i64 0,.int .i64 0]) w):=by
 have hd:=oneC_diff hc
 have hi:SurdIs (oneL c 1) (oneT c 1):=by have h:=(oneC_unit (c:=c) (hc.mono (by decide))).1.is;rwa [(oneC_unit (c:=c) (hc.mono (by decide))).2] at h
 exact CompareZ_ok _ _ 1 _ _ u v w hG hP hu hv hi hi hd.1 hd.2
structure RebCalls (fx fy fz tx ty tz:Int) (LL SS LX LY LZ:TTexts):Prop where
 len:∀ w,Glo w→Pri w→Calls Tryz.prog 27 #[.agg (memA 6 0 (-1) 80 200 (numS (Rat.divInt fx 3)) (numS (Rat.divInt fy 3)) (numS (Rat.divInt fz 3)) (numS (Rat.divInt tx 3)) (numS (Rat.divInt ty 3)) (numS (Rat.divInt tz 3)))] w (RetSd LL w)
 seat:∀ w,Glo w→Pri w→Calls Tryz.prog 28 #[.agg (memA 6 0 (-1) 80 200 (numS (Rat.divInt fx 3)) (numS (Rat.divInt fy 3)) (numS (Rat.divInt fz 3)) (numS (Rat.divInt tx 3)) (numS (Rat.divInt ty 3)) (numS (Rat.divInt tz 3)))] w (RetSd SS w)
 reb:∀ u v w,Glo w→Pri w→IsTerms w u LL→IsTerms w v SS→Calls Tryz.prog 17 #[.agg #[.string (numS (Rat.divInt fx 3)),.string (numS (Rat.divInt fy 3)),.string (numS (Rat.divInt fz 3))],.agg #[.string (numS ((tx - fx:Int):Rat)),.string (numS ((ty - fy:Int):Rat)),.string ⟨#[48]⟩],u,v] w (RetMk LX LY LZ w)
 mark:∀ w,Glo w→Pri w→Calls Tryz.prog 29 #[.agg #[.string (numS (Rat.divInt tx 3)),.string (numS (Rat.divInt ty 3)),.string (numS (Rat.divInt tz 3))]] w (RetMk LX LY LZ w)
 cx:∀ u v w,Glo w→Pri w→IsTerms w u LX→IsTerms w v LX→Calls Tryz.prog 19 #[u,v] w (RetB (.tuple #[.int .i64 0,.int .i64 0]) w)
 cy:∀ u v w,Glo w→Pri w→IsTerms w u LY→IsTerms w v LY→Calls Tryz.prog 19 #[u,v] w (RetB (.tuple #[.int .i64 0,.int .i64 0]) w)
 cz:∀ u v w,Glo w→Pri w→IsTerms w u LZ→IsTerms w v LZ→Calls Tryz.prog 19 #[u,v] w (RetB (.tuple #[.int .i64 0,.int .i64 0]) w)
theorem divInt_num_nonneg {n d:Int} (hn:0≤n) (hd:0 < d):0≤(Rat.divInt n d).num:=by
 have h:(0:Rat)≤Rat.divInt n d:=(Rat.divInt_nonneg_iff_of_pos_right hd).2 hn
 exact Rat.num_nonneg.2 h
theorem pos_of_num {q:Rat} (h:0 < q.num):0 < q:=by
 rw [Rat.lt_iff]
 simpa using h
theorem divInt_num_pos {n d:Int} (hn:0 < n) (hd:0 < d):0 < (Rat.divInt n d).num:=by
 refine num_of_pos ?_
 rw [Rat.divInt_eq_div,Rat.div_def]
 exact Rat.mul_pos (Rat.intCast_pos.2 hn) (Rat.inv_pos.2 (Rat.intCast_pos.2 hd))
theorem rebCalls {fx fy fz tx ty tz:Int} (h:RebIn fx fy fz tx ty tz):∃ LL SS LX LY LZ:TTexts,RebCalls fx fy fz tx ty tz LL SS LX LY LZ:=by
 have hM:=rebMem h
 obtain ⟨a1,a2,a3,b1,b2,b3,ne,up⟩:=h
 obtain ⟨X,hX⟩:∃ X,tx - fx=X:=⟨_,rfl⟩
 obtain ⟨Y,hY⟩:∃ X,ty - fy=X:=⟨_,rfl⟩
 obtain ⟨Z,hZ⟩:∃ X,tz - fz=X:=⟨_,rfl⟩
 have sX:=sq_le (X:=X) (by omega) (by omega)
 have sY:=sq_le (X:=Y) (by omega) (by omega)
 have sZ:=sq_le (X:=Z) (by omega) (by omega)
 have n2:0 < X * X+Y * Y:=by
  by_cases hx:X=0
  ·have:=sY.2.2 (fun hy=>ne ⟨by omega,by omega⟩);omega
  ·have:=sX.2.2 hx;omega
 obtain ⟨N2,h2⟩:∃ N,N=X * X+Y * Y:=⟨_,rfl⟩
 obtain ⟨N3,h3⟩:∃ N,N=N2+Z * Z:=⟨_,rfl⟩
 have p2:0 < N2:=by omega
 have p3:0 < N3:=by omega
 have u2:N2≤200000:=by omega
 have u3:N3≤200000:=by omega
 have d1:Rat.divInt tx 3 - Rat.divInt fx 3=Rat.divInt X 3:=by rw [third_sub,hX]
 have d2:Rat.divInt ty 3 - Rat.divInt fy 3=Rat.divInt Y 3:=by rw [third_sub,hY]
 have d3:Rat.divInt tz 3 - Rat.divInt fz 3=Rat.divInt Z 3:=by rw [third_sub,hZ]
 have zx:=small_third (n:=X) (by omega) (by omega)
 have zy:=small_third (n:=Y) (by omega) (by omega)
 have zz:=small_third (n:=Z) (by omega) (by omega)
 obtain ⟨q1,q2,q3,q4,q5,q6,q7,q8,q9⟩:=reb_q X Y Z N2 N3 h2 h3 p2 p3 _ _ _ rfl rfl rfl
 have D1:Sz 6 (Rat.divInt N2 9):=sz_divInt (by decide) (by omega) (by decide)
 have D2:Sz 6 (Rat.divInt N3 9):=sz_divInt (by decide) (by omega) (by decide)
 have D3:Sz 6 (Rat.divInt 9 N2):=sz_divInt p2 (by decide) (by omega)
 have D4:Sz 6 (Rat.divInt 1 N2):=sz_divInt p2 (by decide) (by omega)
 have D6:Sz 6 (Rat.divInt N3 N2):=sz_divInt p2 (by omega) (by omega)
 have D7:Sz 6 (Rat.divInt N2 N3):=sz_divInt p3 (by omega) (by omega)
 have hdir:DirOk (Rat.divInt tx 3 - Rat.divInt fx 3) (Rat.divInt ty 3 - Rat.divInt fy 3) (Rat.divInt tz 3 - Rat.divInt fz 3):=by
  rw [d1,d2,d3]
  refine ⟨small_of zx (by decide),small_of zy (by decide),small_of zz (by decide),small_of (zx.mul zx) (by decide),small_of (zy.mul zy) (by decide),small_of (zz.mul zz) (by decide),?_,?_,?_⟩
  ·rw [q1];exact small_of D1 (by decide)
  ·rw [q2];exact D2.mono (by decide)
  ·rw [q2];exact divInt_num_pos p3 (by decide)
 -- the length
 have P3:=divInt_num_pos p3 (show (0:Int) < 9 by decide)
 obtain ⟨l1,l2,l3,l4,l5,l6⟩:=oneC_root (c:=1) (k:=6) (sz1 (by decide)) (by decide +kernel) D2 P3 (by decide)
 have lv:=(normQ_val P3).1
 have hLen:=fun w hG hP=>tLength_ok hM w hG hP hdir
 rw [d1,d2,d3,q2] at hLen
 -- the seat
 have P9:=divInt_num_pos (show (0:Int) < 9 by decide) p2
 obtain ⟨s1,s2,s3,s4,s5,s6⟩:=oneC_root (c:=1) (k:=6) (sz1 (by decide)) (by decide +kernel) D3 P9 (by decide)
 have sv:=(normQ_val P9).1
 have snm:=normQ_nm P9
 have hq90:Rat.divInt 9 N2≠0:=fun h=>by rw [h] at P9;simp at P9
 have hS:OneC [(Rat.divInt Z 3,Rat.divInt 9 N2)] (normQ (Rat.divInt 9 N2)).2∧gsum [(Rat.divInt Z 3,Rat.divInt 9 N2)]=Rat.divInt Z 3 * (normQ (Rat.divInt 9 N2)).1:=by
  by_cases hz0:Rat.divInt Z 3=0
  ·rw [hz0]
   have e:tv (0,Rat.divInt 9 N2)=0:=tv_zero
   exact ⟨oneC_single (sz0 (by decide)) (D3.mono (by decide)) (by omega) (fun h=>absurd rfl h) s6 (Nat.lt_of_lt_of_le s5 (by decide)) (.inr snm) (by rw [e];exact sz0 (by decide)),by rw [gsum_one,e,Rat.zero_mul]⟩
  ·obtain ⟨t1,t2,_⟩:=oneC_root (k:=6) (zz.mono (by decide)) hz0 D3 P9 (by decide)
   exact ⟨t1,t2⟩
 have hD0:Rat.divInt N2 9≠0:=fun h=>by have:=divInt_num_pos p2 (show (0:Int) < 9 by decide);rw [h] at this;simp at this
 have hSeat:=fun w hG hP=>seat_ok hM w hG hP hdir (by rw [d3];exact divInt_num_nonneg (by omega) (by decide)) (D:=Rat.divInt N2 9) (n:=(normQ (Rat.divInt 9 N2)).2) (S:=Rat.divInt Z 3 * (normQ (Rat.divInt 9 N2)).1) (by rw [d1,d2,q1]) hD0 (by rw [d3,← q1,q3];exact hS.1) (by rw [d3,← q1,q3];exact hS.2)
 have hTL:=l1.is
 rw [l2,Rat.one_mul,oneT_ne (ne_of_pos l3)] at hTL
 have hTS:=hS.1.is
 rw [hS.2] at hTS
 generalize hl:(normQ (Rat.divInt N3 9)).1=l at *
 generalize hn:(normQ (Rat.divInt N3 9)).2=n at *
 generalize hc:(normQ (Rat.divInt 9 N2)).1=c at *
 generalize hm:(normQ (Rat.divInt 9 N2)).2=m at *
 have eX:∀ (a b:Int),Rat.divInt a 3+1 / 3 * ((b - a:Int):Rat)=Rat.divInt b 3:=fun a b=>by
  simp only [Rat.divInt_eq_div,Rat.intCast_sub]
  have k3:((3:Int):Rat)=3:=rfl
  rw [k3]
  grind
 have eZ:Rat.divInt fz 3+Rat.divInt Z 3=Rat.divInt tz 3:=by
  rw [← d3];grind
 have hcc:Rat.divInt Z 3 * Rat.divInt Z 3 * Rat.divInt 9 N2=Rat.divInt Z 3 * c * (Rat.divInt Z 3 * c) * ((m:Nat):Rat):=by
  rw [← sv];clear q1 q2 q3 q4 q5 q6 q7 q8 q9 eX eZ lv sv hLen hSeat hTL hTS hS;grind
 rw [q3] at q6 q7 q8 q9
 rw [← lv] at q8 q9
 refine ⟨_,_,oneL (Rat.divInt tx 3) 1,oneL (Rat.divInt ty 3) 1,oneL (Rat.divInt tz 3) 1,hLen,hSeat,?_,?_,?_,?_,?_⟩
 ·intro u v w hG hP hu hv
  rw [hX,hY]
  have e1:=eX fx tx
  have e2:=eX fy ty
  rw [hX] at e1
  rw [hY] at e2
  have hF0:(0:Rat) < 1 / 3:=by decide +kernel
  have hR:=Rebuild_rat (Rat.divInt fx 3) (Rat.divInt fy 3) (Rat.divInt fz 3) (X:Rat) (Y:Rat) l (Rat.divInt Z 3 * Rat.divInt Z 3 * Rat.divInt 9 N2) (1 / 3) (Rat.divInt Z 3) n _ _ (oneT (Rat.divInt Z 3 * c) m) (numS (Rat.divInt fx 3)) (numS (Rat.divInt fy 3)) (numS (Rat.divInt fz 3)) (numS (X:Rat)) (numS (Y:Rat)) ⟨#[48]⟩ u v w hG hP
   (isR_third (by omega) (by omega)) (isR_third (by omega) (by omega)) (isR_third (by omega) (by omega)) (isR_int (by omega) (by omega)) (isR_int (by omega) (by omega)) rfl hu hv hTL hTS l3 (l4.mono (by decide)) (Nat.lt_of_lt_of_le l5 (by decide))
   ?_ (by rw [q6];exact pos_of_num (divInt_num_pos p3 p2)) (by rw [q7];exact D7.mono (by decide)) (by rw [q6];exact D6.mono (by decide)) (by rw [q5];exact pos_of_num (by show 0 < N2;exact p2)) (by rw [q4];exact D4.mono (by decide)) hF0 ⟨by decide +kernel,by decide +kernel⟩ q8 ?_
  ·rw [e1,e2,eZ] at hR
   exact hR
  ·by_cases hz0:Z=0
   ·subst hz0
    have e0:Rat.divInt 0 3=0:=by decide +kernel
    rw [e0,Rat.zero_mul,oneT_zero,Rat.zero_mul,Rat.zero_mul]
    exact .inl ⟨rfl,rfl⟩
   ·have hzp:0 < Rat.divInt Z 3:=pos_of_num (divInt_num_pos (by omega) (by decide))
    have hsp:0 < Rat.divInt Z 3 * c:=Rat.mul_pos hzp s3
    exact .inr ⟨_,m,oneT_ne (ne_of_pos hsp),hsp,(zz.mul s4).mono (by decide),Nat.lt_of_lt_of_le s5 (by decide),hcc⟩
  ·by_cases hz0:Z=0
   ·subst hz0
    have e0:Rat.divInt 0 3=0:=by decide +kernel
    rw [e0,Rat.zero_mul,oneT_zero]
    exact .inl ⟨rfl,rfl⟩
   ·have hzp:0 < Rat.divInt Z 3:=pos_of_num (divInt_num_pos (by omega) (by decide))
    exact .inr ⟨hzp,zz.mono (by decide),q9⟩
 ·intro w hG hP
  exact hMark_ok _ _ _ _ _ _ w hG hP (isS_third (by omega) (by omega)) (isS_third (by omega) (by omega)) (isS_third (by omega) (by omega))
 ·intro u v w hG hP hu hv
  exact compare_same ((small_third (n:=tx) (by omega) (by omega)).mono (by decide)) u v w hG hP hu hv
 ·intro u v w hG hP hu hv
  exact compare_same ((small_third (n:=ty) (by omega) (by omega)).mono (by decide)) u v w hG hP hu hv
 ·intro u v w hG hP hu hv
  exact compare_same ((small_third (n:=tz) (by omega) (by omega)).mono (by decide)) u v w hG hP hu hv
end Go.Proofs.YtbbclfbpllbbbaaGreatDoor
namespace Go.Proofs.YtbbclfbpllbbbaaGreatDoor
open Go.RowKit
theorem same04_ok (L:TTexts) (u v:Value) (w:World) (hu:IsTerms w u L) (hv:IsTerms w v L) (hl:L.length≤100000) :
  Calls Tryz.prog 13 #[u,v] w (RetB (.bool true) w):=by
 obtain ⟨a,cap,rfl,hcap,h⟩:=hu
 obtain ⟨a2,cap2,rfl,hcap2,h2⟩:=hv
 have HC:=Lib.hid h
 have HD:=Lib.hid h2
 clear h h2
 go_enter Tryz.func13,Tryz.ntmps13
 go_wp2_with fail
 go_loopw [5] (fun i wr=>∃ k:Nat,k≤L.length∧i=.int .i64 k∧Below w.heap.size w wr) (fun i _=>L.length - (intOf i).toNat)
 case atStart=>exact ⟨0,by omega,rfl,bw0 _ _⟩
 case round =>
  obtain ⟨k,hk,rfl,hB⟩:=hrel
  by_cases hlt:k < L.length
  ·obtain ⟨b,off,rfl,hc⟩:=HC.out (fun h=>by rw [h] at hlt;simp at hlt)
   obtain ⟨b2,off2,rfl,hd⟩:=HD.out (fun h=>by rw [h] at hlt;simp at hlt)
   obtain ⟨d0,d1⟩:=(hc k hlt).below (w':=wr) hB
   obtain ⟨e0,e1⟩:=(hd k hlt).below (w':=wr) hB
   have hltI:(k:Int) < (L.length:Int):=by omega
   have hk1:IntKind.i64.wrap ((k:Int)+1)=((k+1:Nat):Int):=IntWalk.i64_in _ (by omega)
   clear hc hd
   generalize (tt L k).1=x at *
   generalize (tt L k).2=y at *
   go_wp2_with fail
   go_quiet (fail)
   go_wp2_with fail
   go_roundw
   case rel=>exact ⟨k+1,by omega,by go_num,qbl⟩
   case measure=>simp [intOf];omega
  ·have e:k=L.length:=by omega
   subst e
   go_wp2_with fail
   go_ret
   exact ⟨rfl,hB⟩
end Go.Proofs.YtbbclfbpllbbbaaGreatDoor
namespace Go.Proofs.YtbbclfbpllbbbaaGreatDoor
open Go.RowKit Go.Shelf
attribute [local go_sem] Oper.semAt_some
theorem lawOne_ok (x y:ByteArray) (w:World):Calls Tryz.prog 16 #[.string x,.string y] w (RetT1 [(x,y)] w):=by
 have y0:BoxT2 70 (w.alloc (.cells #[.string x,.string y] 70)) w.heap.size (.string x) (.string y):=BoxT2.new rfl
 have H:=Lib.hid (isTerms_one y0)
 clear y0
 go_enter Tryz.func16,Tryz.ntmps16
 go_wp2_with fail
 go_ret
 exact ⟨_,rfl,H.out,qbl⟩
theorem sameMark_ok (X Y Z:TTexts) (a1 b1 c1 a2 b2 c2:Value) (w:World) (h1:IsTerms w a1 X) (h2:IsTerms w b1 Y) (h3:IsTerms w c1 Z) (k1:IsTerms w a2 X) (k2:IsTerms w b2 Y) (k3:IsTerms w c2 Z) (hX:X.length≤100) (hY:Y.length≤100) (hZ:Z.length≤100) :
  Calls Tryz.prog 30 #[.agg #[a1,b1,c1],.agg #[a2,b2,c2]] w (RetB (.bool true) w):=by
 have H1:=Lib.hid (fun W (hB:Below w.heap.size w W)=>same04_ok X a1 a2 W (h1.below hB) (k1.below hB) (by omega))
 have H2:=Lib.hid (fun W (hB:Below w.heap.size w W)=>same04_ok Y b1 b2 W (h2.below hB) (k2.below hB) (by omega))
 have H3:=Lib.hid (fun W (hB:Below w.heap.size w W)=>same04_ok Z c1 c2 W (h3.below hB) (k3.below hB) (by omega))
 obtain ⟨p1,q1,rfl,_⟩:=h1
 obtain ⟨p2,q2,rfl,_⟩:=h2
 obtain ⟨p3,q3,rfl,_⟩:=h3
 obtain ⟨p4,q4,rfl,_⟩:=k1
 obtain ⟨p5,q5,rfl,_⟩:=k2
 obtain ⟨p6,q6,rfl,_⟩:=k3
 go_enter Tryz.func30,Tryz.ntmps30
 go_wp2_with fail
 have hb0:Below w.heap.size w ((w.alloc (.cells #[.slice p1 X.length q1,.slice p2 Y.length q2,.slice p3 Z.length q3] 41)).alloc (.cells #[.slice p4 X.length q4,.slice p5 Y.length q5,.slice p6 Z.length q6] 41)):=qbl
 have x0:BoxT3 41 ((w.alloc (.cells #[.slice p1 X.length q1,.slice p2 Y.length q2,.slice p3 Z.length q3] 41)).alloc (.cells #[.slice p4 X.length q4,.slice p5 Y.length q5,.slice p6 Z.length q6] 41)) w.heap.size (.slice p1 X.length q1) (.slice p2 Y.length q2) (.slice p3 Z.length q3):=(BoxT3.new rfl).below (bw4 (bw0 _ _) _)
 have x1:BoxT3 41 ((w.alloc (.cells #[.slice p1 X.length q1,.slice p2 Y.length q2,.slice p3 Z.length q3] 41)).alloc (.cells #[.slice p4 X.length q4,.slice p5 Y.length q5,.slice p6 Z.length q6] 41)) (w.heap.size+1) (.slice p4 X.length q4) (.slice p5 Y.length q5) (.slice p6 Z.length q6):=BoxT3.new (by simp)
 generalize (w.alloc (.cells #[.slice p1 X.length q1,.slice p2 Y.length q2,.slice p3 Z.length q3] 41)).alloc (.cells #[.slice p4 X.length q4,.slice p5 Y.length q5,.slice p6 Z.length q6] 41)=W0 at *
 refine (H1.out _ hb0).mono ?_
 rintro e w1 ⟨rfl,hB1⟩
 have hb1:=below_trans' hb0 hB1
 replace x0:=x0.below hB1
 replace x1:=x1.below hB1
 have d0:=x0.c1
 have d1:=x1.c1
 clear hB1 hb0
 go_wp2_with fail
 refine (H2.out _ hb1).mono ?_
 rintro e w2 ⟨rfl,hB2⟩
 have hb2:=below_trans' hb1 hB2
 replace x0:=x0.below hB2
 replace x1:=x1.below hB2
 have e0:=x0.c2
 have e1:=x1.c2
 clear hB2 hb1 d0 d1
 go_wp2_with fail
 refine (H3.out _ hb2).mono ?_
 rintro e w3 ⟨rfl,hB3⟩
 have hb3:=below_trans' hb2 hB3
 clear hB3 hb2
 go_wp2_with fail
 go_ret
 exact ⟨rfl,hb3⟩
def exL:TTexts:=[(⟨#[49]⟩,⟨#[49]⟩),(⟨#[50]⟩,⟨#[51]⟩)]
def exT:Terms:=[(1,1),(2,3)]
theorem ex_is:SurdIs exL exT:=by
 refine ⟨by decide,rfl,fun k hk=>?_,fun k hk=>?_,fun i k hik hk=>?_⟩
 ·have hk':k < 2:=hk
  match k,hk' with
  | 0,_=>exact ⟨by decide +kernel,by decide +kernel,by decide +kernel,by decide +kernel,by decide +kernel,by decide,by decide +kernel,.inl rfl⟩
  | 1,_=>exact ⟨by decide +kernel,by decide +kernel,by decide +kernel,by decide +kernel,by decide +kernel,by decide,by decide +kernel,.inr (by decide +kernel)⟩
 ·have hk':k+1 < 2:=hk
  obtain rfl:k=0:=by omega
  decide
 ·have hk':k < 2:=hk
  obtain rfl:k=1:=by omega
  obtain rfl:i=0:=by omega
  decide +kernel
theorem ex_text:surdT exT=[49,43,50,114,51]:=by decide +kernel
theorem ten_is:SurdIs [(⟨#[49,48]⟩,⟨#[49]⟩)] [((10:Rat),1)]:=by
 refine ⟨by decide,rfl,fun k hk=>?_,fun k hk=>?_,fun i k hik hk=>?_⟩
 ·obtain rfl:k=0:=by simpa using hk
  exact ⟨by decide +kernel,by decide +kernel,by decide +kernel,by decide +kernel,by decide +kernel,by decide,by decide +kernel,.inl rfl⟩
 ·simp at hk
 ·simp at hk;omega
theorem threeq_is:SurdIs [(⟨#[51,47,52]⟩,⟨#[49]⟩)] [((3 / 4:Rat),1)]:=by
 refine ⟨by decide,rfl,fun k hk=>?_,fun k hk=>?_,fun i k hik hk=>?_⟩
 ·obtain rfl:k=0:=by simpa using hk
  exact ⟨by decide +kernel,by decide +kernel,by decide +kernel,by decide +kernel,by decide +kernel,by decide,by decide +kernel,.inl rfl⟩
 ·simp at hk
 ·simp at hk;omega
theorem isR_of {k:Nat} {s:ByteArray} {q:Rat} (h:s.data.toList=ratText q) (h1:q.num.natAbs < 10 ^ k) (h2:q.den < 10 ^ k):IsR k s q:=⟨h,h1,h2⟩
theorem exReb (u v:Value) (w:World) (hG:Glo w) (hP:Pri w) (hu:IsTerms w u [(⟨#[49,48]⟩,⟨#[49]⟩)]) (hv:IsTerms w v [(⟨#[51,47,52]⟩,⟨#[49]⟩)]) :
  Calls Tryz.prog 17 #[.agg #[.string ⟨#[48]⟩,.string ⟨#[48]⟩,.string ⟨#[48]⟩],.agg #[.string ⟨#[51]⟩,.string ⟨#[52]⟩,.string ⟨#[48]⟩],u,v] w (RetMk [(⟨#[50,52,47,53]⟩,⟨#[49]⟩)] [(⟨#[51,50,47,53]⟩,⟨#[49]⟩)] [(⟨#[54]⟩,⟨#[49]⟩)] w):=by
 have z:IsR 10 (⟨#[48]⟩:ByteArray) 0:=isR_of (by decide +kernel) (by decide +kernel) (by decide +kernel)
 have h:=Rebuild_rat 0 0 0 3 4 10 (9 / 16) (8 / 5) 6 1 [(⟨#[49,48]⟩,⟨#[49]⟩)] [(⟨#[51,47,52]⟩,⟨#[49]⟩)] [((3 / 4:Rat),1)] ⟨#[48]⟩ ⟨#[48]⟩ ⟨#[48]⟩ ⟨#[51]⟩ ⟨#[52]⟩ ⟨#[48]⟩ u v w hG hP z z z
  (isR_of (by decide +kernel) (by decide +kernel) (by decide +kernel)) (isR_of (by decide +kernel) (by decide +kernel) (by decide +kernel)) rfl hu hv ten_is threeq_is (by decide +kernel) ⟨by decide +kernel,by decide +kernel⟩ (by decide) (.inr ⟨3 / 4,1,rfl,by decide +kernel,⟨by decide +kernel,by decide +kernel⟩,by decide,by decide +kernel⟩)
  (by decide +kernel) ⟨by decide +kernel,by decide +kernel⟩ ⟨by decide +kernel,by decide +kernel⟩ (by decide +kernel) ⟨by decide +kernel,by decide +kernel⟩ (by decide +kernel) ⟨by decide +kernel,by decide +kernel⟩ (by decide +kernel) (.inr ⟨by decide +kernel,⟨by decide +kernel,by decide +kernel⟩,by decide +kernel⟩)
 have e1:oneL (0+8 / 5 * 3) 1=[(⟨#[50,52,47,53]⟩,⟨#[49]⟩)]:=by
  have e:(0+8 / 5 * 3:Rat)≠0:=by decide +kernel
  unfold oneL
  rw [if_neg e,(numS_of (s:=⟨#[50,52,47,53]⟩) (q:=0+8 / 5 * 3) (by decide +kernel)).symm,(decS_of (r:=⟨#[49]⟩) (n:=1) (by decide +kernel)).symm]
 have e2:oneL (0+8 / 5 * 4) 1=[(⟨#[51,50,47,53]⟩,⟨#[49]⟩)]:=by
  have e:(0+8 / 5 * 4:Rat)≠0:=by decide +kernel
  unfold oneL
  rw [if_neg e,(numS_of (s:=⟨#[51,50,47,53]⟩) (q:=0+8 / 5 * 4) (by decide +kernel)).symm,(decS_of (r:=⟨#[49]⟩) (n:=1) (by decide +kernel)).symm]
 have e3:oneL (0+6) 1=[(⟨#[54]⟩,⟨#[49]⟩)]:=by
  have e:(0+6:Rat)≠0:=by decide +kernel
  unfold oneL
  rw [if_neg e,(numS_of (s:=⟨#[54]⟩) (q:=0+6) (by decide +kernel)).symm,(decS_of (r:=⟨#[49]⟩) (n:=1) (by decide +kernel)).symm]
 rw [e1,e2,e3] at h
 exact h
theorem awake56_ok (w:World) (hG:Glo w) (hP:Pri w):Calls Tryz.prog 9 #[] w (RetB (.bool true) w):=by
 have HG:=Lib.hid hG
 have HP:=Lib.hid hP
 have HTX:=Lib.hid (fun v W hG hP (hv:IsTerms W v exL)=>mText_ok exL v W hG hP hv ex_is.sizes)
 have HSU:=Lib.hid (fun W hG hP=>mSurd_ok (⟨#[49,43,50,114,51]⟩:ByteArray) W hG hP (by decide))
 have HON:=Lib.hid (fun x y W=>lawOne_ok x y W)
 have HRB:=Lib.hid (fun u v W hG hP hu hv=>exReb u v W hG hP hu hv)
 have HSM:=Lib.hid (fun a b c d e f W h1 h2 h3 k1 k2 k3=>sameMark_ok [(⟨#[50,52,47,53]⟩,⟨#[49]⟩)] [(⟨#[51,50,47,53]⟩,⟨#[49]⟩)] [(⟨#[54]⟩,⟨#[49]⟩)] a b c d e f W h1 h2 h3 k1 k2 k3 (by decide) (by decide) (by decide))
 clear hG hP
 go_enter Tryz.func9,Tryz.ntmps9
 go_wp2_with fail
 have hb1:Below w.heap.size w (w.alloc (.cells #[.string ⟨#[49]⟩,.string ⟨#[49]⟩,.string ⟨#[50]⟩,.string ⟨#[51]⟩] 70)):=bw4 (bw0 _ _) _
 have ht1:IsTerms (w.alloc (.cells #[.string ⟨#[49]⟩,.string ⟨#[49]⟩,.string ⟨#[50]⟩,.string ⟨#[51]⟩] 70)) (.slice (some ⟨w.heap.size,0,none⟩) 2 2) exL:=⟨_,2,rfl,by decide,fun _=>⟨_,0,rfl,fun k hk=>by
  have hk':k < 2:=hk
  match k,hk' with
  | 0,_=>exact ⟨by simp [go_sem];rfl,by simp [go_sem];rfl⟩
  | 1,_=>exact ⟨by simp [go_sem];rfl,by simp [go_sem];rfl⟩⟩⟩
 generalize w.alloc (.cells #[.string ⟨#[49]⟩,.string ⟨#[49]⟩,.string ⟨#[50]⟩,.string ⟨#[51]⟩] 70)=W1 at *
 refine (HTX.out _ W1 (HG.out.below hb1) (HP.out.below hb1) ht1).mono ?_
 rintro e w2 ⟨s,k,rfl,hs,hB2⟩
 have hb2:=below_trans' hb1 hB2
 obtain ⟨rfl,rfl⟩:k=0∧s=⟨#[49,43,50,114,51]⟩:=by
  rcases hs.out with ⟨T,h1,h2,h3⟩|⟨h1,_⟩
  ·refine ⟨h2,?_⟩
   obtain rfl:=h1.uniq ex_is
   exact ByteArray.ext (Array.toList_inj.1 (h3.trans ex_text))
  ·exact absurd ⟨_,ex_is⟩ h1
 clear hs hB2 hb1 ht1 HTX
 go_wp2_with fail
 refine (HSU.out _ (HG.out.below hb2) (HP.out.below hb2)).mono ?_
 rintro e w3 ⟨v,k,rfl,hv,hB3⟩
 have hb3:=below_trans' hb2 hB3
 obtain ⟨rfl,hvt⟩:k=0∧IsTerms w3 v exL:=by
  rcases hv.out with ⟨h1,L,T,h2,h3,h4⟩|⟨_,_,h1⟩
  ·refine ⟨h1,?_⟩
   have e:=surdT_inj h2 ex_is (h3.symm.trans ex_text.symm)
   subst e
   rw [ex_is.texts h2];exact h4
  ·exact absurd ⟨exL,exT,ex_is,ex_text.symm⟩ h1
 have HVT:=Lib.hid hvt
 obtain ⟨va,vc,rfl,_,hvc⟩:=hvt
 have hl2:exL.length=2:=rfl
 rw [hl2] at HVT hvc ⊢
 obtain ⟨b,off,rfl,hcell⟩:=hvc (by decide)
 have c3:w3.cell? ⟨b,off+2+1,none⟩=some (.string ⟨#[51]⟩):=by have:=(hcell 1 (by decide)).2;simpa [exL,tt] using this
 clear hv hB3 hb2 HSU hcell hvc
 go_wp2_with fail
 refine (HON.out _ _ _).mono ?_
 rintro e w4 ⟨u,rfl,hu,hB4⟩
 have hb4:=below_trans' hb3 hB4
 have HU:=Lib.hid hu
 obtain ⟨ua,uc,rfl,_⟩:=hu
 replace c3:=keep hB4 c3
 clear hB4 hb3
 go_wp2_with fail
 refine (HON.out _ _ _).mono ?_
 rintro e w5 ⟨x,rfl,hx,hB5⟩
 have hb5:=below_trans' hb4 hB5
 have HU2:=Lib.hid (HU.out.below hB5)
 have HX:=Lib.hid hx
 obtain ⟨xa,xc,rfl,_⟩:=hx
 replace c3:=keep hB5 c3
 clear hB5 hb4 HU
 go_wp2_with fail
 refine (HRB.out _ _ _ (HG.out.below hb5) (HP.out.below hb5) HU2.out HX.out).mono ?_
 rintro e w6 ⟨mx,my,mz,rfl,hmx,hmy,hmz,hB6⟩
 have hb6:=below_trans' hb5 hB6
 replace c3:=keep hB6 c3
 have HMX:=Lib.hid hmx
 have HMY:=Lib.hid hmy
 have HMZ:=Lib.hid hmz
 obtain ⟨xa1,xc1,rfl,_⟩:=hmx
 obtain ⟨ya1,yc1,rfl,_⟩:=hmy
 obtain ⟨za1,zc1,rfl,_⟩:=hmz
 clear hB6 hb5 HU2 HX
 go_wp2_with fail
 have hB7:Below w6.heap.size w6 (w6.alloc (.cells #[.slice xa1 1 xc1,.slice ya1 1 yc1,.slice za1 1 zc1] 41)):=bw4 (bw0 _ _) _
 have hb7:=below_trans' hb6 hB7
 have x5:BoxT3 41 (w6.alloc (.cells #[.slice xa1 1 xc1,.slice ya1 1 yc1,.slice za1 1 zc1] 41)) w6.heap.size (.slice xa1 1 xc1) (.slice ya1 1 yc1) (.slice za1 1 zc1):=BoxT3.new rfl
 replace c3:=keep hB7 c3
 replace HMX:=Lib.hid (HMX.out.below hB7)
 replace HMY:=Lib.hid (HMY.out.below hB7)
 replace HMZ:=Lib.hid (HMZ.out.below hB7)
 clear hB7 hb6
 generalize w6.alloc (.cells #[.slice xa1 1 xc1,.slice ya1 1 yc1,.slice za1 1 zc1] 41)=W7 at *
 have hR:Below W7.heap.size W7 W7.drew:=(bw0 _ _).drew
 refine region_S (F:=[]) (R:=(fun w'=>Below W7.heap.size W7 w')) 30 #[false,false,false,false,false,false,false,false,false,false,false,false,false,false,false,false,false,false,false,false,false,false,false,false,false,false,false,false,false,false] (by kernel_rfl) (by kernel_rfl) (by kernel_rfl) (fun _ _ _ _ _ h=>h) (fun Q' hQ' hN=>?_)
 generalize W7.drew=wd at *
 refine tkS 26 (i:=0) (v:=?_) (fw:=5) hQ' hR rfl ?_ ?_;rotate_left;(focus (intro wq hRq;have q3:=keep hRq c3;have x0:=(x5.below hRq).c0;have x1:=(x5.below hRq).c1;have x2:=(x5.below hRq).c2;go_simp;(try with_reducible rfl)));(try simp only [Act.put,bw7,bw8,bw9])
 refine tkS 27 (i:=1) (v:=?_) (fw:=5) hQ' hR rfl ?_ ?_;rotate_left;(focus (intro wq hRq;have q3:=keep hRq c3;have x0:=(x5.below hRq).c0;have x1:=(x5.below hRq).c1;have x2:=(x5.below hRq).c2;go_simp;(try with_reducible rfl)));(try simp only [Act.put,bw7,bw8,bw9])
 refine tkS 28 (i:=2) (v:=?_) (fw:=5) hQ' hR rfl ?_ ?_;rotate_left;(focus (intro wq hRq;have q3:=keep hRq c3;have x0:=(x5.below hRq).c0;have x1:=(x5.below hRq).c1;have x2:=(x5.below hRq).c2;go_simp;(try with_reducible rfl)));(try simp only [Act.put,bw7,bw8,bw9])
 refine tkS 29 (i:=3) (v:=?_) (fw:=5) hQ' hR rfl ?_ ?_;rotate_left;(focus (intro wq hRq;have q3:=keep hRq c3;have x0:=(x5.below hRq).c0;have x1:=(x5.below hRq).c1;have x2:=(x5.below hRq).c2;go_simp;(try with_reducible rfl)));(try simp only [Act.put,bw7,bw8,bw9])
 refine tkS 30 (i:=4) (v:=?_) (fw:=5) hQ' hR rfl ?_ ?_;rotate_left;(focus (intro wq hRq;have q3:=keep hRq c3;have x0:=(x5.below hRq).c0;have x1:=(x5.below hRq).c1;have x2:=(x5.below hRq).c2;go_simp;(try with_reducible rfl)));(try simp only [Act.put,bw7,bw8,bw9])
 refine tkS 31 (i:=5) (v:=?_) (fw:=5) hQ' hR rfl ?_ ?_;rotate_left;(focus (intro wq hRq;have q3:=keep hRq c3;have x0:=(x5.below hRq).c0;have x1:=(x5.below hRq).c1;have x2:=(x5.below hRq).c2;go_simp;(try with_reducible rfl)));(try simp only [Act.put,bw7,bw8,bw9])
 refine tkS 32 (i:=6) (v:=?_) (fw:=5) hQ' hR rfl ?_ ?_;rotate_left;(focus (intro wq hRq;have q3:=keep hRq c3;have x0:=(x5.below hRq).c0;have x1:=(x5.below hRq).c1;have x2:=(x5.below hRq).c2;go_simp;(try with_reducible rfl)));(try simp only [Act.put,bw7,bw8,bw9])
 refine tkS 33 (i:=7) (v:=?_) (fw:=5) hQ' hR rfl ?_ ?_;rotate_left;(focus (intro wq hRq;have q3:=keep hRq c3;have x0:=(x5.below hRq).c0;have x1:=(x5.below hRq).c1;have x2:=(x5.below hRq).c2;go_simp;(try with_reducible rfl)));(try simp only [Act.put,bw7,bw8,bw9])
 refine tkS 34 (i:=8) (v:=?_) (fw:=5) hQ' hR rfl ?_ ?_;rotate_left;(focus (intro wq hRq;have q3:=keep hRq c3;have x0:=(x5.below hRq).c0;have x1:=(x5.below hRq).c1;have x2:=(x5.below hRq).c2;go_simp;(try with_reducible rfl)));(try simp only [Act.put,bw7,bw8,bw9])
 refine tkS 35 (i:=9) (v:=?_) (fw:=5) hQ' hR rfl ?_ ?_;rotate_left;(focus (intro wq hRq;have q3:=keep hRq c3;have x0:=(x5.below hRq).c0;have x1:=(x5.below hRq).c1;have x2:=(x5.below hRq).c2;go_simp;(try with_reducible rfl)));(try simp only [Act.put,bw7,bw8,bw9])
 refine tkS 36 (i:=10) (v:=?_) (fw:=5) hQ' hR rfl ?_ ?_;rotate_left;(focus (intro wq hRq;have q3:=keep hRq c3;have x0:=(x5.below hRq).c0;have x1:=(x5.below hRq).c1;have x2:=(x5.below hRq).c2;go_simp;(try with_reducible rfl)));(try simp only [Act.put,bw7,bw8,bw9])
 refine tkS 37 (i:=11) (v:=?_) (fw:=5) hQ' hR rfl ?_ ?_;rotate_left;(focus (intro wq hRq;have q3:=keep hRq c3;have x0:=(x5.below hRq).c0;have x1:=(x5.below hRq).c1;have x2:=(x5.below hRq).c2;go_simp;(try with_reducible rfl)));(try simp only [Act.put,bw7,bw8,bw9])
 refine tkS 38 (i:=12) (v:=?_) (fw:=5) hQ' hR rfl ?_ ?_;rotate_left;(focus (intro wq hRq;have q3:=keep hRq c3;have x0:=(x5.below hRq).c0;have x1:=(x5.below hRq).c1;have x2:=(x5.below hRq).c2;go_simp;(try with_reducible rfl)));(try simp only [Act.put,bw7,bw8,bw9])
 refine tkS 39 (i:=13) (v:=?_) (fw:=5) hQ' hR rfl ?_ ?_;rotate_left;(focus (intro wq hRq;have q3:=keep hRq c3;have x0:=(x5.below hRq).c0;have x1:=(x5.below hRq).c1;have x2:=(x5.below hRq).c2;go_simp;(try with_reducible rfl)));(try simp only [Act.put,bw7,bw8,bw9])
 refine tkS 40 (i:=14) (v:=?_) (fw:=5) hQ' hR rfl ?_ ?_;rotate_left;(focus (intro wq hRq;have q3:=keep hRq c3;have x0:=(x5.below hRq).c0;have x1:=(x5.below hRq).c1;have x2:=(x5.below hRq).c2;go_simp;(try with_reducible rfl)));(try simp only [Act.put,bw7,bw8,bw9])
 refine tkS 41 (i:=15) (v:=?_) (fw:=5) hQ' hR rfl ?_ ?_;rotate_left;(focus (intro wq hRq;have q3:=keep hRq c3;have x0:=(x5.below hRq).c0;have x1:=(x5.below hRq).c1;have x2:=(x5.below hRq).c2;go_simp;(try with_reducible rfl)));(try simp only [Act.put,bw7,bw8,bw9])
 refine tkS 42 (i:=16) (v:=?_) (fw:=5) hQ' hR rfl ?_ ?_;rotate_left;(focus (intro wq hRq;have q3:=keep hRq c3;have x0:=(x5.below hRq).c0;have x1:=(x5.below hRq).c1;have x2:=(x5.below hRq).c2;go_simp;(try with_reducible rfl)));(try simp only [Act.put,bw7,bw8,bw9])
 refine tkS 43 (i:=17) (v:=?_) (fw:=5) hQ' hR rfl ?_ ?_;rotate_left;(focus (intro wq hRq;have q3:=keep hRq c3;have x0:=(x5.below hRq).c0;have x1:=(x5.below hRq).c1;have x2:=(x5.below hRq).c2;go_simp;(try with_reducible rfl)));(try simp only [Act.put,bw7,bw8,bw9])
 refine tkS 44 (i:=18) (v:=?_) (fw:=5) hQ' hR rfl ?_ ?_;rotate_left;(focus (intro wq hRq;have q3:=keep hRq c3;have x0:=(x5.below hRq).c0;have x1:=(x5.below hRq).c1;have x2:=(x5.below hRq).c2;go_simp;(try with_reducible rfl)));(try simp only [Act.put,bw7,bw8,bw9])
 refine tkS 45 (i:=19) (v:=?_) (fw:=5) hQ' hR rfl ?_ ?_;rotate_left;(focus (intro wq hRq;have q3:=keep hRq c3;have x0:=(x5.below hRq).c0;have x1:=(x5.below hRq).c1;have x2:=(x5.below hRq).c2;go_simp;(try with_reducible rfl)));(try simp only [Act.put,bw7,bw8,bw9])
 refine tkS 46 (i:=20) (v:=?_) (fw:=5) hQ' hR rfl ?_ ?_;rotate_left;(focus (intro wq hRq;have q3:=keep hRq c3;have x0:=(x5.below hRq).c0;have x1:=(x5.below hRq).c1;have x2:=(x5.below hRq).c2;go_simp;(try with_reducible rfl)));(try simp only [Act.put,bw7,bw8,bw9])
 refine tkS 47 (i:=21) (v:=?_) (fw:=5) hQ' hR rfl ?_ ?_;rotate_left;(focus (intro wq hRq;have q3:=keep hRq c3;have x0:=(x5.below hRq).c0;have x1:=(x5.below hRq).c1;have x2:=(x5.below hRq).c2;go_simp;(try with_reducible rfl)));(try simp only [Act.put,bw7,bw8,bw9])
 refine tkS 48 (i:=22) (v:=?_) (fw:=5) hQ' hR rfl ?_ ?_;rotate_left;(focus (intro wq hRq;have q3:=keep hRq c3;have x0:=(x5.below hRq).c0;have x1:=(x5.below hRq).c1;have x2:=(x5.below hRq).c2;go_simp;(try with_reducible rfl)));(try simp only [Act.put,bw7,bw8,bw9])
 refine wpAnyS_ready (rs:=[23]) (by kernel_rfl) (by simp) ?_
 refine stepR (i:=23) rfl (by kernel_rfl) (fun K hK=>?_) (AllReadyS.nil)
 go_simp
 refine (HON.out _ _ _).mono ?_
 rintro e wn ⟨o1v,rfl,ho1,hB'⟩
 replace hR:=below_trans' hR hB'
 have Ho1:=Lib.hid ho1
 obtain ⟨o1a,o1c,rfl,_⟩:=ho1
 clear hB'
 refine hK.out _ _ hR ?_
 clear hK K
 (try simp only [Act.put,bw7,bw8,bw9])
 refine wpAnyS_ready (rs:=[24]) (by kernel_rfl) (by simp) ?_
 refine stepR (i:=24) rfl (by kernel_rfl) (fun K hK=>?_) (AllReadyS.nil)
 go_simp
 refine (HON.out _ _ _).mono ?_
 rintro e wn ⟨o2v,rfl,ho2,hB'⟩
 replace hR:=below_trans' hR hB'
 replace Ho1:=Lib.hid (Ho1.out.below hB')
 have Ho2:=Lib.hid ho2
 obtain ⟨o2a,o2c,rfl,_⟩:=ho2
 clear hB'
 refine hK.out _ _ hR ?_
 clear hK K
 (try simp only [Act.put,bw7,bw8,bw9])
 refine wpAnyS_ready (rs:=[25]) (by kernel_rfl) (by simp) ?_
 refine stepR (i:=25) rfl (by kernel_rfl) (fun K hK=>?_) (AllReadyS.nil)
 go_simp
 refine (HON.out _ _ _).mono ?_
 rintro e wn ⟨o3v,rfl,ho3,hB'⟩
 replace hR:=below_trans' hR hB'
 replace Ho1:=Lib.hid (Ho1.out.below hB')
 replace Ho2:=Lib.hid (Ho2.out.below hB')
 have Ho3:=Lib.hid ho3
 obtain ⟨o3a,o3c,rfl,_⟩:=ho3
 clear hB'
 refine hK.out _ _ hR ?_
 clear hK K
 (try simp only [Act.put,bw7,bw8,bw9])
 refine tkS 52 (i:=26) (v:=?_) (fw:=5) hQ' hR rfl ?_ ?_;rotate_left;(focus (intro wq hRq;have q3:=keep hRq c3;have x0:=(x5.below hRq).c0;have x1:=(x5.below hRq).c1;have x2:=(x5.below hRq).c2;go_simp;(try with_reducible rfl)));(try simp only [Act.put,bw7,bw8,bw9])
 refine wpAnyS_ready (rs:=[27]) (by kernel_rfl) (by simp) ?_
 refine stepR (i:=27) rfl (by kernel_rfl) (fun K hK=>?_) (AllReadyS.nil)
 go_simp
 refine (HSM.out _ _ _ _ _ _ _ (HMX.out.below hR) (HMY.out.below hR) (HMZ.out.below hR) Ho1.out Ho2.out Ho3.out).mono ?_
 rintro e wn ⟨rfl,hB'⟩
 replace hR:=below_trans' hR hB'
 clear hB'
 refine hK.out _ _ hR ?_
 clear hK K
 (try simp only [Act.put,bw7,bw8,bw9])
 refine tkS 54 (i:=28) (v:=?_) (fw:=5) hQ' hR rfl ?_ ?_;rotate_left;(focus (intro wq hRq;have q3:=keep hRq c3;have x0:=(x5.below hRq).c0;have x1:=(x5.below hRq).c1;have x2:=(x5.below hRq).c2;go_simp;(try with_reducible rfl)));(try simp only [Act.put,bw7,bw8,bw9])
 refine tkS 0 (i:=29) (v:=?_) (fw:=5) hQ' hR rfl ?_ ?_;rotate_left;(focus (intro wq hRq;have q3:=keep hRq c3;have x0:=(x5.below hRq).c0;have x1:=(x5.below hRq).c1;have x2:=(x5.below hRq).c2;go_simp;(try with_reducible rfl)));(try simp only [Act.put,bw7,bw8,bw9])
 refine wpAnyS_done (by kernel_rfl) ?_ _
 refine hN.out _ _ ?_
 have hbz:=below_trans' hb7 hR
 go_wp2_with fail
 go_ret
 exact ⟨rfl,hbz⟩
end Go.Proofs.YtbbclfbpllbbbaaGreatDoor
