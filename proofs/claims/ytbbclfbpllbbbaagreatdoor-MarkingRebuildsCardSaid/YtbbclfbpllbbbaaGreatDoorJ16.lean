/- Joined texts: WRebs, WOpenA. -/
import Derived.Test.YtbbclfbpllbbbaaGreatDoorJ14
import Derived.Test.YtbbclfbpllbbbaaGreatDoorJ15
import Derived.Test.YtbbclfbpllbbbaaGreatDoorJ01
import Derived.Laws.IdiomArrays
import Derived.ChangeSame
set_option maxRecDepth 100000
set_option linter.unusedVariables false
set_option linter.unusedSimpArgs false
set_option maxHeartbeats 12800000
namespace Go.Proofs.YtbbclfbpllbbbaaGreatDoor
open Go.RowKit Go.Shelf
attribute [local go_sem] Oper.semAt_some
theorem BoxCs.but {t:TypeId} {W W':World} {b c:Nat} {A:Array Value} (h:BoxCs t W b A) (hs:SameBut c W W') (hne:b≠c):BoxCs t W' b A:=(hs.block b hne).trans h
theorem wp_storeCs {P:Program} {o:Oper} {a:Act} {Q:Exit→Act→World→Prop} {K:Act→World→Prop} (ty:TypeId) (p x:Operand) (ho:o.op=.store ty p x) {w:World} {b:Nat} {A A':Array Value} (hA:BoxCs ty w b A)
  (hi:(P.info? ty).map (·.size)=some A'.size) (hs:A.size=A'.size) (h1:A'.all (·.oneCell')=true) (hp:a.eval p=.pointer (some ⟨b,0,none⟩)) (hx:a.eval x=.agg A') (h:∀ W,SameBut b w W→BoxCs ty W b A'→K (a.put o.dst undef) W):o.wp P a w K Q:=by
 have hrow:=run_storeVar_row (P:=P) w b ty ty A A' hA hi hs h1
 unfold Oper.wp execOp
 rw [ho]
 simp only [hp,hx,Sem.run_bind,Instr.storeAt,Instr.sureAddr,Sem.run_pure,Result.andThen_ok,hrow]
 exact h _ (setRow_sameBut _ _ _) (setRow_at hA)
theorem Tryz.infoA3:(Tryz.prog.info? 60).map (·.size)=some 3:=by kernel_rfl
theorem Tryz.infoMem:(Tryz.prog.info? 63).map (·.size)=some 11:=by kernel_rfl
theorem max4 {P:Program} (ts:Array TypeId) (t:TypeId) (w:World):(Builtin.max_ ts t #[.int .i64 0,.int .i64 0,.int .i64 0,.int .i64 0]).run P w=.ok (.int .i64 0) w:=by
 simp [Builtin.max_,Builtin.max2]
theorem lawNum1 (n:Int) (w:World) (hG:Glo w) (h0 : -1000≤n) (h1:n≤1000):Calls Tryz.prog 14 #[.int .i64 n,.int .i64 1] w (RetB (.string (numS (n:Rat))) w):=by
 have h:=OfI_ok n 1 w hG (by omega) (by omega) (by decide) (by decide)
 rw [show Rat.divInt n ((1:Nat):Int)=(n:Rat) from by rw [Rat.divInt_ofNat,Rat.mkRat_one]] at h
 exact lawNum_ok (n:Rat) n 1 w h
theorem wrapDiff {x y:Int} (hx : -128≤x∧x≤127) (hy : -128≤y∧y≤127):wrap64 (x - y)=x - y∧IntKind.i64.wrap (x - y)=x - y:=⟨IntWalk.wrap64_in _ ⟨by omega,by omega⟩,IntWalk.i64_in _ ⟨by omega,by omega⟩⟩
def RebAt (w:World) (s:Nat) (W:World):Prop:=∃ fx fy fz tx ty tz:Int,RebIn fx fy fz tx ty tz∧BoxT3 60 W s (.int .i8 fx) (.int .i8 fy) (.int .i8 fz)∧BoxT3 60 W (s+1) (.int .i8 tx) (.int .i8 ty) (.int .i8 tz)∧Below w.heap.size w W
theorem rebs_eq (fx fy fz tz:Int) (w:World) (hG:Glo w) (hP:Pri w) :
  Calls Tryz.prog 7 #[.agg #[.int .i8 fx,.int .i8 fy,.int .i8 fz],.agg #[.int .i8 fx,.int .i8 fy,.int .i8 tz]] w (RetB (.bool true) w):=by
 have HAW:=Lib.hid (fun W hG hP=>awake56_ok W hG hP)
 have HG:=Lib.hid hG
 have HP:=Lib.hid hP
 clear hG hP
 go_enter Tryz.func7,Tryz.ntmps7
 go_wp2_with fail
 have hb0:Below w.heap.size w ((w.alloc (.cells #[.int .i8 fx,.int .i8 fy,.int .i8 fz] 60)).alloc (.cells #[.int .i8 fx,.int .i8 fy,.int .i8 tz] 60)):=qbl
 refine (HAW.out _ (HG.out.below hb0) (HP.out.below hb0)).mono ?_
 rintro e w1 ⟨rfl,hB⟩
 have hb1:=below_trans' hb0 hB
 clear hB hb0
 go_wp2_with fail
 go_ret
 exact ⟨rfl,hb1⟩
theorem rebs_ne (fx fy fz tx ty tz:Int) (w:World) (hG:Glo w) (hP:Pri w) (a1 : -128≤fx∧fx≤127) (a2 : -128≤fy∧fy≤127) (a3 : -128≤fz∧fz≤127) (b1 : -128≤tx∧tx≤127) (b2 : -128≤ty∧ty≤127) (b3 : -128≤tz∧tz≤127) (hne:¬ (fx=tx∧fy=ty)) :
  Calls Tryz.prog 7 #[.agg #[.int .i8 fx,.int .i8 fy,.int .i8 fz],.agg #[.int .i8 tx,.int .i8 ty,.int .i8 tz]] w (RetB (.bool true) w):=by
 have HI1:=Lib.hid (fun (h:fz≤tz)=>(⟨a1,a2,a3,b1,b2,b3,by omega,h⟩:RebIn fx fy fz tx ty tz))
 have HI2:=Lib.hid (fun (h:¬ fz≤tz)=>(⟨b1,b2,b3,a1,a2,a3,by omega,by omega⟩:RebIn tx ty tz fx fy fz))
 have HAW:=Lib.hid (fun W hG hP=>awake56_ok W hG hP)
 have hE:=enters_of Tryz.func26 (by kernel_rfl) rfl
 have HG:=Lib.hid hG
 have HP:=Lib.hid hP
 have HNE:=Lib.hid hne
 clear hG hP a1 a2 a3 b1 b2 b3 hne
 go_enter Tryz.func7,Tryz.ntmps7
 go_upto_region 1 with fail
 have hb0:Below w.heap.size w ((w.alloc (.cells #[.int .i8 fx,.int .i8 fy,.int .i8 fz] 60)).alloc (.cells #[.int .i8 tx,.int .i8 ty,.int .i8 tz] 60)):=qbl
 have x0:BoxT3 60 ((w.alloc (.cells #[.int .i8 fx,.int .i8 fy,.int .i8 fz] 60)).alloc (.cells #[.int .i8 tx,.int .i8 ty,.int .i8 tz] 60)) w.heap.size (.int .i8 fx) (.int .i8 fy) (.int .i8 fz):=(BoxT3.new rfl).below (bw4 (bw0 _ _) _)
 have x1:BoxT3 60 ((w.alloc (.cells #[.int .i8 fx,.int .i8 fy,.int .i8 fz] 60)).alloc (.cells #[.int .i8 tx,.int .i8 ty,.int .i8 tz] 60)) (w.heap.size+1) (.int .i8 tx) (.int .i8 ty) (.int .i8 tz):=BoxT3.new (by simp)
 have c0:=x0.c0
 have c1:=x0.c1
 have c2:=x0.c2
 have d0:=x1.c0
 have d1:=x1.c1
 have d2:=x1.c2
 generalize ((w.alloc (.cells #[.int .i8 fx,.int .i8 fy,.int .i8 fz] 60)).alloc (.cells #[.int .i8 tx,.int .i8 ty,.int .i8 tz] 60))=W1 at *
 go_cut [31] (fun t wx=>t=.bool false∧wx=W1)
 case first =>
  by_cases hx:fx=tx
  ·have hy:(fy == ty)=false:=by simpa using fun h=>HNE.out ⟨hx,h⟩
   subst hx
   go_wp2_with fail
   go_meet
   exact ⟨rfl,rfl⟩
  ·have hxb:(fx == tx)=false:=by simpa using hx
   clear hx
   go_wp2_with fail
   go_meet
   exact ⟨rfl,rfl⟩
 case rest =>
  obtain ⟨rfl,rfl⟩:=hcut
  go_upto_if 37 with fail
  go_cut [4] (fun t wx=>t=.bool false∧Hid (RebAt w w.heap.size wx))
  case first =>
   by_cases hz:fz≤tz
   ·have hzd:¬ tz < fz:=by omega
    have HQ:=Lib.hid (⟨fx,fy,fz,tx,ty,tz,HI1.out hz,x0,x1,hb0⟩:RebAt w w.heap.size _)
    clear hz HI1 HI2 hb0
    go_wp2_with fail
    go_meet
    exact ⟨rfl,HQ⟩
   ·have hzd:tz < fz:=by omega
    have HQ:=Lib.hid (HI2.out hz)
    clear hz HI1 HI2
    go_wp2_with (refine wpList_store3 rfl _ _ _ rfl x0 Tryz.infoA3 rfl rfl rfl rfl rfl ?_;intro Wy hS hx;have x2:=x1.but hS (by omega);have hb1:=hS.below hb0 (by omega);clear hS x0 x1 hb0 c0 c1 c2 d0 d1 d2;refine wpList_store3 rfl _ _ _ rfl x2 Tryz.infoA3 rfl rfl rfl rfl rfl ?_;intro Wz hS hx2;have x3:=hx.but hS (by omega);have hb2:=hS.below hb1 (by omega);clear hS x2 hb1 hx)
    go_meet
    exact ⟨rfl,Lib.hid ⟨_,_,_,_,_,_,HQ.out,x3,hx2,hb2⟩⟩
  case rest =>
   obtain ⟨rfl,hcut⟩:=hcut
   clear HI1 HI2 x0 x1 hb0 c0 c1 c2 d0 d1 d2 HNE
   obtain ⟨px,py,pz,qx,qy,qz,hI,x0,x1,hb1⟩:=hcut.out
   clear hcut
   obtain ⟨wA,rfl⟩:∃ x:World,x=wc:=⟨_,rfl⟩
   obtain ⟨LL,SS,LX,LY,LZ,hC⟩:=rebCalls hI
   obtain ⟨k1,k2,k3,l1,l2,l3,_,_⟩:=hI
   have HA1:=Lib.hid (fun W hG=>rebAt_ok px py pz W hG k1 k2 k3)
   have HA2:=Lib.hid (fun W hG=>rebAt_ok qx qy qz W hG l1 l2 l3)
   have HN1:=Lib.hid (fun W hG=>lawNum1 (qx - px) W hG (by omega) (by omega))
   have HN2:=Lib.hid (fun W hG=>lawNum1 (qy - py) W hG (by omega) (by omega))
   have HLE:=Lib.hid hC.len
   have HSE:=Lib.hid hC.seat
   have HRB:=Lib.hid hC.reb
   have HMA:=Lib.hid hC.mark
   have HCX:=Lib.hid hC.cx
   have HCY:=Lib.hid hC.cy
   have HCZ:=Lib.hid hC.cz
   have WW:=Lib.hid (⟨wrapI8 k1.1 k1.2,wrapI8 k2.1 k2.2,wrapI8 l1.1 l1.2,wrapI8 l2.1 l2.2,(wrapDiff l1 k1).1,(wrapDiff l1 k1).2,(wrapDiff l2 k2).1,(wrapDiff l2 k2).2⟩:_∧_∧_∧_∧_∧_∧_∧_)
   unfold memA at *
   clear hC
   generalize numS (Rat.divInt px 3)=s1 at *
   generalize numS (Rat.divInt py 3)=s2 at *
   generalize numS (Rat.divInt pz 3)=s3 at *
   generalize numS (Rat.divInt qx 3)=s4 at *
   generalize numS (Rat.divInt qy 3)=s5 at *
   generalize numS (Rat.divInt qz 3)=s6 at *
   generalize numS ((qx - px:Int):Rat)=e1 at *
   generalize numS ((qy - py:Int):Rat)=e2 at *
   clear k1 k2 k3 l1 l2 l3
   go_upto_region 6 with fail
   go_cut [6] (fun t wx=>∃ bm,t=.pointer (some ⟨bm,0,none⟩)∧Hid (BoxM wx bm #[.int .i64 6,.int .i64 0,.int .i64 (-1),.string s1,.string s2,.string s3,.string s4,.string s5,.string s6,.int .i64 80,.int .i64 200]∧Below wA.heap.size wA wx))
   case first =>
    go_wp2_with fail
    have hR:Below wA.heap.size wA wA.drew:=(bw0 _ _).drew
    refine region_S (F:=[8]) (R:=(fun w'=>Below wA.heap.size wA w')) 9 #[false,false,false,false,false,false,false,false,false] (by kernel_rfl) (by kernel_rfl) (by kernel_rfl) (fun _ _ _ _ _ h=>h) (fun Q' hQ' hN=>?_)
    generalize wA.drew=wd at *
    refine tkS 40 (i:=0) (v:=?_) (fw:=5) hQ' hR rfl ?_ ?_;rotate_left;(focus (intro wq hRq;have c0:=(x0.below hRq).c0;have c1:=(x0.below hRq).c1;have c2:=(x0.below hRq).c2;have d0:=(x1.below hRq).c0;have d1:=(x1.below hRq).c1;have d2:=(x1.below hRq).c2;go_simp;(try with_reducible rfl)));(try simp only [Act.put,bw7,bw8,bw9])
    refine tkS 41 (i:=1) (v:=?_) (fw:=5) hQ' hR rfl ?_ ?_;rotate_left;(focus (intro wq hRq;have c0:=(x0.below hRq).c0;have c1:=(x0.below hRq).c1;have c2:=(x0.below hRq).c2;have d0:=(x1.below hRq).c0;have d1:=(x1.below hRq).c1;have d2:=(x1.below hRq).c2;go_simp;(try with_reducible rfl)));(try simp only [Act.put,bw7,bw8,bw9])
    refine tkS 43 (i:=3) (v:=?_) (fw:=5) hQ' hR rfl ?_ ?_;rotate_left;(focus (intro wq hRq;have c0:=(x0.below hRq).c0;have c1:=(x0.below hRq).c1;have c2:=(x0.below hRq).c2;have d0:=(x1.below hRq).c0;have d1:=(x1.below hRq).c1;have d2:=(x1.below hRq).c2;go_simp;(try with_reducible rfl)));(try simp only [Act.put,bw7,bw8,bw9])
    refine tkS 44 (i:=4) (v:=?_) (fw:=5) hQ' hR rfl ?_ ?_;rotate_left;(focus (intro wq hRq;have c0:=(x0.below hRq).c0;have c1:=(x0.below hRq).c1;have c2:=(x0.below hRq).c2;have d0:=(x1.below hRq).c0;have d1:=(x1.below hRq).c1;have d2:=(x1.below hRq).c2;go_simp;(try with_reducible rfl)));(try simp only [Act.put,bw7,bw8,bw9])
    refine wpAnyS_ready (rs:=[2,7]) (by kernel_rfl) (by simp) ?_
    refine stepR (i:=2) rfl (by kernel_rfl) (fun K hK=>?_) (stepR (i:=7) rfl (by kernel_rfl) (fun K hK=>?_) (AllReadyS.nil))
    ·have hbq:=below_trans' hb1 hR
     go_simp
     refine (HA1.out _ (HG.out.below hbq)).mono ?_
     rintro e wn ⟨rfl,hB'⟩
     replace hR:=below_trans' hR hB'
     clear hB' hbq
     refine hK.out _ _ hR ?_
     clear hK K
     (try simp only [Act.put,bw7,bw8,bw9])
     refine wpAnyS_ready (rs:=[5,7]) (by kernel_rfl) (by simp) ?_
     refine stepR (i:=5) rfl (by kernel_rfl) (fun K hK=>?_) (stepR (i:=7) rfl (by kernel_rfl) (fun K hK=>?_) (AllReadyS.nil))
     ·have hbq:=below_trans' hb1 hR
      go_simp
      refine (HA2.out _ (HG.out.below hbq)).mono ?_
      rintro e wn ⟨rfl,hB'⟩
      replace hR:=below_trans' hR hB'
      clear hB' hbq
      refine hK.out _ _ hR ?_
      clear hK K
      (try simp only [Act.put,bw7,bw8,bw9])
      refine tkS 46 (i:=6) (v:=?_) (fw:=5) hQ' hR rfl ?_ ?_;rotate_left;(focus (intro wq hRq;have c0:=(x0.below hRq).c0;have c1:=(x0.below hRq).c1;have c2:=(x0.below hRq).c2;have d0:=(x1.below hRq).c0;have d1:=(x1.below hRq).c1;have d2:=(x1.below hRq).c2;go_simp;(try with_reducible rfl)));(try simp only [Act.put,bw7,bw8,bw9])
      refine wpAnyS_ready (rs:=[7]) (by kernel_rfl) (by simp) ?_
      refine stepR (i:=7) rfl (by kernel_rfl) (fun K hK=>?_) (AllReadyS.nil)
      go_simp
      have hXs:=hR.size
      refine after_alloc (fun wm hB' hvb hzb=>?_)
      obtain ⟨bx,hbe⟩:∃ bx,wn.heap.size=bx:=⟨_,rfl⟩
      rw [hbe] at hvb ⊢
      have hbx:BoxM wm bx #[.int .i64 0,.int .i64 0,.int .i64 0,.string ⟨#[]⟩,.string ⟨#[]⟩,.string ⟨#[]⟩,.string ⟨#[]⟩,.string ⟨#[]⟩,.string ⟨#[]⟩,.int .i64 0,.int .i64 0]:=hvb
      have hbw:wA.heap.size≤bx:=by omega
      replace hR:=below_trans' hR hB'
      clear hvb hB' hzb hbe hXs
      refine hK.out _ _ hR ?_
      clear hK K
      (try simp only [Act.put,bw7,bw8,bw9])
      refine wpAnyS_ready (rs:=[8]) (by kernel_rfl) (by simp) ?_
      refine stepF (i:=8) rfl (by kernel_rfl) (by kernel_rfl) (fun K hK=>?_) (AllReadyS.nil)
      refine wp_storeCs (A':=#[.int .i64 6,.int .i64 0,.int .i64 (-1),.string s1,.string s2,.string s3,.string s4,.string s5,.string s6,.int .i64 80,.int .i64 200]) _ _ _ rfl hbx Tryz.infoMem rfl (by simp [Value.oneCell']) rfl rfl (fun wx hS hbx2=>?_)
      have hbz:Below wA.heap.size wA wx:=hS.below hR hbw
      refine hK.out _ _ ?_
      clear hK K
      (try simp only [Act.put,bw7,bw8,bw9])
      refine wpAnyS_done (by kernel_rfl) ?_ _
      refine hN.out _ _ ?_
      go_wp2_with fail
      go_meet
      exact ⟨_,rfl,Lib.hid ⟨hbx2,hbz⟩⟩
     ·go_simp
      have hXs:=hR.size
      refine after_alloc (fun wm hB' hvb hzb=>?_)
      obtain ⟨bx,hbe⟩:∃ bx,wn.heap.size=bx:=⟨_,rfl⟩
      rw [hbe] at hvb ⊢
      have hbx:BoxM wm bx #[.int .i64 0,.int .i64 0,.int .i64 0,.string ⟨#[]⟩,.string ⟨#[]⟩,.string ⟨#[]⟩,.string ⟨#[]⟩,.string ⟨#[]⟩,.string ⟨#[]⟩,.int .i64 0,.int .i64 0]:=hvb
      have hbw:wA.heap.size≤bx:=by omega
      replace hR:=below_trans' hR hB'
      clear hvb hB' hzb hbe hXs
      refine hK.out _ _ hR ?_
      clear hK K
      (try simp only [Act.put,bw7,bw8,bw9])
      refine wpAnyS_ready (rs:=[5]) (by kernel_rfl) (by simp) ?_
      refine stepR (i:=5) rfl (by kernel_rfl) (fun K hK=>?_) (AllReadyS.nil)
      have hbq:=below_trans' hb1 hR
      go_simp
      refine (HA2.out _ (HG.out.below hbq)).mono ?_
      rintro e wn ⟨rfl,hB'⟩
      replace hR:=below_trans' hR hB'
      replace hbx:=BoxCs.below hbx hB'
      clear hB' hbq
      refine hK.out _ _ hR ?_
      clear hK K
      (try simp only [Act.put,bw7,bw8,bw9])
      refine tkS 46 (i:=6) (v:=?_) (fw:=5) hQ' hR rfl ?_ ?_;rotate_left;(focus (intro wq hRq;have c0:=(x0.below hRq).c0;have c1:=(x0.below hRq).c1;have c2:=(x0.below hRq).c2;have d0:=(x1.below hRq).c0;have d1:=(x1.below hRq).c1;have d2:=(x1.below hRq).c2;go_simp;(try with_reducible rfl)));(try simp only [Act.put,bw7,bw8,bw9])
      refine wpAnyS_ready (rs:=[8]) (by kernel_rfl) (by simp) ?_
      refine stepF (i:=8) rfl (by kernel_rfl) (by kernel_rfl) (fun K hK=>?_) (AllReadyS.nil)
      refine wp_storeCs (A':=#[.int .i64 6,.int .i64 0,.int .i64 (-1),.string s1,.string s2,.string s3,.string s4,.string s5,.string s6,.int .i64 80,.int .i64 200]) _ _ _ rfl hbx Tryz.infoMem rfl (by simp [Value.oneCell']) rfl rfl (fun wx hS hbx2=>?_)
      have hbz:Below wA.heap.size wA wx:=hS.below hR hbw
      refine hK.out _ _ ?_
      clear hK K
      (try simp only [Act.put,bw7,bw8,bw9])
      refine wpAnyS_done (by kernel_rfl) ?_ _
      refine hN.out _ _ ?_
      go_wp2_with fail
      go_meet
      exact ⟨_,rfl,Lib.hid ⟨hbx2,hbz⟩⟩
    ·go_simp
     have hXs:=hR.size
     refine after_alloc (fun wm hB' hvb hzb=>?_)
     obtain ⟨bx,hbe⟩:∃ bx,wd.heap.size=bx:=⟨_,rfl⟩
     rw [hbe] at hvb ⊢
     have hbx:BoxM wm bx #[.int .i64 0,.int .i64 0,.int .i64 0,.string ⟨#[]⟩,.string ⟨#[]⟩,.string ⟨#[]⟩,.string ⟨#[]⟩,.string ⟨#[]⟩,.string ⟨#[]⟩,.int .i64 0,.int .i64 0]:=hvb
     have hbw:wA.heap.size≤bx:=by omega
     replace hR:=below_trans' hR hB'
     clear hvb hB' hzb hbe hXs
     refine hK.out _ _ hR ?_
     clear hK K
     (try simp only [Act.put,bw7,bw8,bw9])
     refine wpAnyS_ready (rs:=[2]) (by kernel_rfl) (by simp) ?_
     refine stepR (i:=2) rfl (by kernel_rfl) (fun K hK=>?_) (AllReadyS.nil)
     have hbq:=below_trans' hb1 hR
     go_simp
     refine (HA1.out _ (HG.out.below hbq)).mono ?_
     rintro e wn ⟨rfl,hB'⟩
     replace hR:=below_trans' hR hB'
     replace hbx:=BoxCs.below hbx hB'
     clear hB' hbq
     refine hK.out _ _ hR ?_
     clear hK K
     (try simp only [Act.put,bw7,bw8,bw9])
     refine wpAnyS_ready (rs:=[5]) (by kernel_rfl) (by simp) ?_
     refine stepR (i:=5) rfl (by kernel_rfl) (fun K hK=>?_) (AllReadyS.nil)
     have hbq:=below_trans' hb1 hR
     go_simp
     refine (HA2.out _ (HG.out.below hbq)).mono ?_
     rintro e wn ⟨rfl,hB'⟩
     replace hR:=below_trans' hR hB'
     replace hbx:=BoxCs.below hbx hB'
     clear hB' hbq
     refine hK.out _ _ hR ?_
     clear hK K
     (try simp only [Act.put,bw7,bw8,bw9])
     refine tkS 46 (i:=6) (v:=?_) (fw:=5) hQ' hR rfl ?_ ?_;rotate_left;(focus (intro wq hRq;have c0:=(x0.below hRq).c0;have c1:=(x0.below hRq).c1;have c2:=(x0.below hRq).c2;have d0:=(x1.below hRq).c0;have d1:=(x1.below hRq).c1;have d2:=(x1.below hRq).c2;go_simp;(try with_reducible rfl)));(try simp only [Act.put,bw7,bw8,bw9])
     refine wpAnyS_ready (rs:=[8]) (by kernel_rfl) (by simp) ?_
     refine stepF (i:=8) rfl (by kernel_rfl) (by kernel_rfl) (fun K hK=>?_) (AllReadyS.nil)
     refine wp_storeCs (A':=#[.int .i64 6,.int .i64 0,.int .i64 (-1),.string s1,.string s2,.string s3,.string s4,.string s5,.string s6,.int .i64 80,.int .i64 200]) _ _ _ rfl hbx Tryz.infoMem rfl (by simp [Value.oneCell']) rfl rfl (fun wx hS hbx2=>?_)
     have hbz:Below wA.heap.size wA wx:=hS.below hR hbw
     refine hK.out _ _ ?_
     clear hK K
     (try simp only [Act.put,bw7,bw8,bw9])
     refine wpAnyS_done (by kernel_rfl) ?_ _
     refine hN.out _ _ ?_
     go_wp2_with fail
     go_meet
     exact ⟨_,rfl,Lib.hid ⟨hbx2,hbz⟩⟩
   case rest =>
    obtain ⟨bm,rfl,hcut⟩:=hcut
    obtain ⟨xm,hB⟩:=hcut.out
    clear hcut
    obtain ⟨wB,rfl⟩:∃ x:World,x=wc:=⟨_,rfl⟩
    have hb2:=below_trans' hb1 hB
    replace x0:=x0.below hB
    replace x1:=x1.below hB
    clear hB hb1 HA1 HA2
    obtain ⟨c0,c1,c2,c3,c4,c5,c6,c7,c8,c9,c10⟩:=boxM_cells xm
    go_wp2_with fail
    refine (HLE.out _ (HG.out.below hb2) (HP.out.below hb2)).mono ?_
    rintro e w3 ⟨u,rfl,hu,hB⟩
    have hb3:=below_trans' hb2 hB
    replace x0:=x0.below hB
    replace x1:=x1.below hB
    replace xm:=BoxCs.below xm hB
    have Hu:=Lib.hid hu
    obtain ⟨ua,uc,rfl,_⟩:=hu
    clear hB hb2 HLE c0 c1 c2 c3 c4 c5 c6 c7 c8 c9 c10
    obtain ⟨c0,c1,c2,c3,c4,c5,c6,c7,c8,c9,c10⟩:=boxM_cells xm
    go_wp2_with fail
    refine (HSE.out _ (HG.out.below hb3) (HP.out.below hb3)).mono ?_
    rintro e w4 ⟨v,rfl,hv,hB⟩
    have hb4:=below_trans' hb3 hB
    replace x0:=x0.below hB
    replace x1:=x1.below hB
    replace xm:=BoxCs.below xm hB
    replace Hu:=Lib.hid (Hu.out.below hB)
    have Hv:=Lib.hid hv
    obtain ⟨va,vc,rfl,_⟩:=hv
    clear hB hb3 HSE c0 c1 c2 c3 c4 c5 c6 c7 c8 c9 c10
    go_upto_region 9 with fail
    go_cut [11] (fun t wx=>∃ bd,t=.pointer (some ⟨bd,0,none⟩)∧Hid (BoxT3 37 wx bd (.string e1) (.string e2) (.string ⟨#[48]⟩)∧Below w4.heap.size w4 wx))
    case first =>
     obtain ⟨g1,g2,g3,g4,g5,g6,g7,g8⟩:=WW.out
     go_wp2_with fail
     have hR:Below w4.heap.size w4 w4.drew:=(bw0 _ _).drew
     refine region_S (F:=[18]) (R:=(fun w'=>Below w4.heap.size w4 w')) 19 #[false,false,false,false,false,false,false,false,false,false,false,false,false,false,false,false,false,false,false] (by kernel_rfl) (by kernel_rfl) (by kernel_rfl) (fun _ _ _ _ _ h=>h) (fun Q' hQ' hN=>?_)
     generalize w4.drew=wd at *
     refine tkS 57 (i:=0) (v:=?_) (fw:=5) hQ' hR rfl ?_ ?_;rotate_left;(focus (intro wq hRq;have c0:=(x0.below hRq).c0;have c1:=(x0.below hRq).c1;have d0:=(x1.below hRq).c0;have d1:=(x1.below hRq).c1;go_simp;(try with_reducible rfl)));(try simp only [Act.put,bw7,bw8,bw9])
     refine tkS 58 (i:=1) (v:=?_) (fw:=5) hQ' hR rfl ?_ ?_;rotate_left;(focus (intro wq hRq;have c0:=(x0.below hRq).c0;have c1:=(x0.below hRq).c1;have d0:=(x1.below hRq).c0;have d1:=(x1.below hRq).c1;go_simp;(try with_reducible rfl)));(try simp only [Act.put,bw7,bw8,bw9])
     refine tkS 59 (i:=2) (v:=?_) (fw:=5) hQ' hR rfl ?_ ?_;rotate_left;(focus (intro wq hRq;have c0:=(x0.below hRq).c0;have c1:=(x0.below hRq).c1;have d0:=(x1.below hRq).c0;have d1:=(x1.below hRq).c1;go_simp;(try with_reducible rfl)));(try simp only [Act.put,bw7,bw8,bw9])
     refine tkS 60 (i:=3) (v:=?_) (fw:=5) hQ' hR rfl ?_ ?_;rotate_left;(focus (intro wq hRq;have c0:=(x0.below hRq).c0;have c1:=(x0.below hRq).c1;have d0:=(x1.below hRq).c0;have d1:=(x1.below hRq).c1;go_simp;(try with_reducible rfl)));(try simp only [Act.put,bw7,bw8,bw9])
     refine tkS 61 (i:=4) (v:=?_) (fw:=5) hQ' hR rfl ?_ ?_;rotate_left;(focus (intro wq hRq;have c0:=(x0.below hRq).c0;have c1:=(x0.below hRq).c1;have d0:=(x1.below hRq).c0;have d1:=(x1.below hRq).c1;go_simp;(try with_reducible rfl)));(try simp only [Act.put,bw7,bw8,bw9])
     refine tkS 62 (i:=5) (v:=?_) (fw:=5) hQ' hR rfl ?_ ?_;rotate_left;(focus (intro wq hRq;have c0:=(x0.below hRq).c0;have c1:=(x0.below hRq).c1;have d0:=(x1.below hRq).c0;have d1:=(x1.below hRq).c1;go_simp;(try with_reducible rfl)));(try simp only [Act.put,bw7,bw8,bw9])
     refine tkS 63 (i:=6) (v:=?_) (fw:=5) hQ' hR rfl ?_ ?_;rotate_left;(focus (intro wq hRq;have c0:=(x0.below hRq).c0;have c1:=(x0.below hRq).c1;have d0:=(x1.below hRq).c0;have d1:=(x1.below hRq).c1;go_simp;(try with_reducible rfl)));(try simp only [Act.put,bw7,bw8,bw9])
     refine tkS 65 (i:=8) (v:=?_) (fw:=5) hQ' hR rfl ?_ ?_;rotate_left;(focus (intro wq hRq;have c0:=(x0.below hRq).c0;have c1:=(x0.below hRq).c1;have d0:=(x1.below hRq).c0;have d1:=(x1.below hRq).c1;go_simp;(try with_reducible rfl)));(try simp only [Act.put,bw7,bw8,bw9])
     refine tkS 66 (i:=9) (v:=?_) (fw:=5) hQ' hR rfl ?_ ?_;rotate_left;(focus (intro wq hRq;have c0:=(x0.below hRq).c0;have c1:=(x0.below hRq).c1;have d0:=(x1.below hRq).c0;have d1:=(x1.below hRq).c1;go_simp;(try with_reducible rfl)));(try simp only [Act.put,bw7,bw8,bw9])
     refine tkS 67 (i:=10) (v:=?_) (fw:=5) hQ' hR rfl ?_ ?_;rotate_left;(focus (intro wq hRq;have c0:=(x0.below hRq).c0;have c1:=(x0.below hRq).c1;have d0:=(x1.below hRq).c0;have d1:=(x1.below hRq).c1;go_simp;(try with_reducible rfl)));(try simp only [Act.put,bw7,bw8,bw9])
     refine tkS 68 (i:=11) (v:=?_) (fw:=5) hQ' hR rfl ?_ ?_;rotate_left;(focus (intro wq hRq;have c0:=(x0.below hRq).c0;have c1:=(x0.below hRq).c1;have d0:=(x1.below hRq).c0;have d1:=(x1.below hRq).c1;go_simp;(try with_reducible rfl)));(try simp only [Act.put,bw7,bw8,bw9])
     refine tkS 69 (i:=12) (v:=?_) (fw:=5) hQ' hR rfl ?_ ?_;rotate_left;(focus (intro wq hRq;have c0:=(x0.below hRq).c0;have c1:=(x0.below hRq).c1;have d0:=(x1.below hRq).c0;have d1:=(x1.below hRq).c1;go_simp;(try with_reducible rfl)));(try simp only [Act.put,bw7,bw8,bw9])
     refine tkS 70 (i:=13) (v:=?_) (fw:=5) hQ' hR rfl ?_ ?_;rotate_left;(focus (intro wq hRq;have c0:=(x0.below hRq).c0;have c1:=(x0.below hRq).c1;have d0:=(x1.below hRq).c0;have d1:=(x1.below hRq).c1;go_simp;(try with_reducible rfl)));(try simp only [Act.put,bw7,bw8,bw9])
     refine tkS 71 (i:=14) (v:=?_) (fw:=5) hQ' hR rfl ?_ ?_;rotate_left;(focus (intro wq hRq;have c0:=(x0.below hRq).c0;have c1:=(x0.below hRq).c1;have d0:=(x1.below hRq).c0;have d1:=(x1.below hRq).c1;go_simp;(try with_reducible rfl)));(try simp only [Act.put,bw7,bw8,bw9])
     refine wpAnyS_ready (rs:=[7,17]) (by kernel_rfl) (by simp) ?_
     refine stepR (i:=7) rfl (by kernel_rfl) (fun K hK=>?_) (stepR (i:=17) rfl (by kernel_rfl) (fun K hK=>?_) (AllReadyS.nil))
     ·have hbq:=below_trans' hb4 hR
      go_simp
      refine (HN1.out _ (HG.out.below hbq)).mono ?_
      rintro e wn ⟨rfl,hB'⟩
      replace hR:=below_trans' hR hB'
      clear hB' hbq
      refine hK.out _ _ hR ?_
      clear hK K
      (try simp only [Act.put,bw7,bw8,bw9])
      refine wpAnyS_ready (rs:=[15,17]) (by kernel_rfl) (by simp) ?_
      refine stepR (i:=15) rfl (by kernel_rfl) (fun K hK=>?_) (stepR (i:=17) rfl (by kernel_rfl) (fun K hK=>?_) (AllReadyS.nil))
      ·have hbq:=below_trans' hb4 hR
       go_simp
       refine (HN2.out _ (HG.out.below hbq)).mono ?_
       rintro e wn ⟨rfl,hB'⟩
       replace hR:=below_trans' hR hB'
       clear hB' hbq
       refine hK.out _ _ hR ?_
       clear hK K
       (try simp only [Act.put,bw7,bw8,bw9])
       refine tkS 73 (i:=16) (v:=?_) (fw:=5) hQ' hR rfl ?_ ?_;rotate_left;(focus (intro wq hRq;have c0:=(x0.below hRq).c0;have c1:=(x0.below hRq).c1;have d0:=(x1.below hRq).c0;have d1:=(x1.below hRq).c1;go_simp;(try with_reducible rfl)));(try simp only [Act.put,bw7,bw8,bw9])
       refine wpAnyS_ready (rs:=[17]) (by kernel_rfl) (by simp) ?_
       refine stepR (i:=17) rfl (by kernel_rfl) (fun K hK=>?_) (AllReadyS.nil)
       go_simp
       have hXs:=hR.size
       refine after_alloc (fun wm hB' hvb hzb=>?_)
       obtain ⟨bx,hbe⟩:∃ bx,wn.heap.size=bx:=⟨_,rfl⟩
       rw [hbe] at hvb ⊢
       have hbx:BoxT3 37 wm bx (.string ⟨#[]⟩) (.string ⟨#[]⟩) (.string ⟨#[]⟩):=hvb
       have hbw:w4.heap.size≤bx:=by omega
       replace hR:=below_trans' hR hB'
       clear hvb hB' hzb hbe hXs
       refine hK.out _ _ hR ?_
       clear hK K
       (try simp only [Act.put,bw7,bw8,bw9])
       refine wpAnyS_ready (rs:=[18]) (by kernel_rfl) (by simp) ?_
       refine stepF (i:=18) rfl (by kernel_rfl) (by kernel_rfl) (fun K hK=>?_) (AllReadyS.nil)
       refine wp_store3 _ _ _ rfl hbx Tryz.infoSpot rfl rfl rfl rfl rfl (fun wx hS hbx2=>?_)
       have hbz:Below w4.heap.size w4 wx:=hS.below hR hbw
       refine hK.out _ _ ?_
       clear hK K
       (try simp only [Act.put,bw7,bw8,bw9])
       refine wpAnyS_done (by kernel_rfl) ?_ _
       refine hN.out _ _ ?_
       go_wp2_with fail
       go_meet
       exact ⟨_,rfl,Lib.hid ⟨hbx2,hbz⟩⟩
      ·go_simp
       have hXs:=hR.size
       refine after_alloc (fun wm hB' hvb hzb=>?_)
       obtain ⟨bx,hbe⟩:∃ bx,wn.heap.size=bx:=⟨_,rfl⟩
       rw [hbe] at hvb ⊢
       have hbx:BoxT3 37 wm bx (.string ⟨#[]⟩) (.string ⟨#[]⟩) (.string ⟨#[]⟩):=hvb
       have hbw:w4.heap.size≤bx:=by omega
       replace hR:=below_trans' hR hB'
       clear hvb hB' hzb hbe hXs
       refine hK.out _ _ hR ?_
       clear hK K
       (try simp only [Act.put,bw7,bw8,bw9])
       refine wpAnyS_ready (rs:=[15]) (by kernel_rfl) (by simp) ?_
       refine stepR (i:=15) rfl (by kernel_rfl) (fun K hK=>?_) (AllReadyS.nil)
       have hbq:=below_trans' hb4 hR
       go_simp
       refine (HN2.out _ (HG.out.below hbq)).mono ?_
       rintro e wn ⟨rfl,hB'⟩
       replace hR:=below_trans' hR hB'
       replace hbx:=hbx.below hB'
       clear hB' hbq
       refine hK.out _ _ hR ?_
       clear hK K
       (try simp only [Act.put,bw7,bw8,bw9])
       refine tkS 73 (i:=16) (v:=?_) (fw:=5) hQ' hR rfl ?_ ?_;rotate_left;(focus (intro wq hRq;have c0:=(x0.below hRq).c0;have c1:=(x0.below hRq).c1;have d0:=(x1.below hRq).c0;have d1:=(x1.below hRq).c1;go_simp;(try with_reducible rfl)));(try simp only [Act.put,bw7,bw8,bw9])
       refine wpAnyS_ready (rs:=[18]) (by kernel_rfl) (by simp) ?_
       refine stepF (i:=18) rfl (by kernel_rfl) (by kernel_rfl) (fun K hK=>?_) (AllReadyS.nil)
       refine wp_store3 _ _ _ rfl hbx Tryz.infoSpot rfl rfl rfl rfl rfl (fun wx hS hbx2=>?_)
       have hbz:Below w4.heap.size w4 wx:=hS.below hR hbw
       refine hK.out _ _ ?_
       clear hK K
       (try simp only [Act.put,bw7,bw8,bw9])
       refine wpAnyS_done (by kernel_rfl) ?_ _
       refine hN.out _ _ ?_
       go_wp2_with fail
       go_meet
       exact ⟨_,rfl,Lib.hid ⟨hbx2,hbz⟩⟩
     ·go_simp
      have hXs:=hR.size
      refine after_alloc (fun wm hB' hvb hzb=>?_)
      obtain ⟨bx,hbe⟩:∃ bx,wd.heap.size=bx:=⟨_,rfl⟩
      rw [hbe] at hvb ⊢
      have hbx:BoxT3 37 wm bx (.string ⟨#[]⟩) (.string ⟨#[]⟩) (.string ⟨#[]⟩):=hvb
      have hbw:w4.heap.size≤bx:=by omega
      replace hR:=below_trans' hR hB'
      clear hvb hB' hzb hbe hXs
      refine hK.out _ _ hR ?_
      clear hK K
      (try simp only [Act.put,bw7,bw8,bw9])
      refine wpAnyS_ready (rs:=[7]) (by kernel_rfl) (by simp) ?_
      refine stepR (i:=7) rfl (by kernel_rfl) (fun K hK=>?_) (AllReadyS.nil)
      have hbq:=below_trans' hb4 hR
      go_simp
      refine (HN1.out _ (HG.out.below hbq)).mono ?_
      rintro e wn ⟨rfl,hB'⟩
      replace hR:=below_trans' hR hB'
      replace hbx:=hbx.below hB'
      clear hB' hbq
      refine hK.out _ _ hR ?_
      clear hK K
      (try simp only [Act.put,bw7,bw8,bw9])
      refine wpAnyS_ready (rs:=[15]) (by kernel_rfl) (by simp) ?_
      refine stepR (i:=15) rfl (by kernel_rfl) (fun K hK=>?_) (AllReadyS.nil)
      have hbq:=below_trans' hb4 hR
      go_simp
      refine (HN2.out _ (HG.out.below hbq)).mono ?_
      rintro e wn ⟨rfl,hB'⟩
      replace hR:=below_trans' hR hB'
      replace hbx:=hbx.below hB'
      clear hB' hbq
      refine hK.out _ _ hR ?_
      clear hK K
      (try simp only [Act.put,bw7,bw8,bw9])
      refine tkS 73 (i:=16) (v:=?_) (fw:=5) hQ' hR rfl ?_ ?_;rotate_left;(focus (intro wq hRq;have c0:=(x0.below hRq).c0;have c1:=(x0.below hRq).c1;have d0:=(x1.below hRq).c0;have d1:=(x1.below hRq).c1;go_simp;(try with_reducible rfl)));(try simp only [Act.put,bw7,bw8,bw9])
      refine wpAnyS_ready (rs:=[18]) (by kernel_rfl) (by simp) ?_
      refine stepF (i:=18) rfl (by kernel_rfl) (by kernel_rfl) (fun K hK=>?_) (AllReadyS.nil)
      refine wp_store3 _ _ _ rfl hbx Tryz.infoSpot rfl rfl rfl rfl rfl (fun wx hS hbx2=>?_)
      have hbz:Below w4.heap.size w4 wx:=hS.below hR hbw
      refine hK.out _ _ ?_
      clear hK K
      (try simp only [Act.put,bw7,bw8,bw9])
      refine wpAnyS_done (by kernel_rfl) ?_ _
      refine hN.out _ _ ?_
      go_wp2_with fail
      go_meet
      exact ⟨_,rfl,Lib.hid ⟨hbx2,hbz⟩⟩
    case rest =>
     obtain ⟨bd,rfl,hcut⟩:=hcut
     obtain ⟨xd,hB⟩:=hcut.out
     clear hcut
     obtain ⟨wD,rfl⟩:∃ x:World,x=wc:=⟨_,rfl⟩
     have hb5:=below_trans' hb4 hB
     replace xm:=BoxCs.below xm hB
     replace Hu:=Lib.hid (Hu.out.below hB)
     replace Hv:=Lib.hid (Hv.out.below hB)
     clear hB hb4 HN1 HN2 x0 x1 WW
     obtain ⟨c0,c1,c2,c3,c4,c5,c6,c7,c8,c9,c10⟩:=boxM_cells xm
     have f0:=xd.c0
     have f1:=xd.c1
     have f2:=xd.c2
     go_wp2_with fail
     refine (HRB.out _ _ _ (HG.out.below hb5) (HP.out.below hb5) Hu.out Hv.out).mono ?_
     rintro e w6 ⟨mx,my,mz,rfl,hmx,hmy,hmz,hB⟩
     have hb6:=below_trans' hb5 hB
     replace xm:=BoxCs.below xm hB
     have Hmx:=Lib.hid hmx
     obtain ⟨mxa,mxc,rfl,_⟩:=hmx
     have Hmy:=Lib.hid hmy
     obtain ⟨mya,myc,rfl,_⟩:=hmy
     have Hmz:=Lib.hid hmz
     obtain ⟨mza,mzc,rfl,_⟩:=hmz
     clear hB hb5 HRB c0 c1 c2 c3 c4 c5 c6 c7 c8 c9 c10 f0 f1 f2 xd Hu Hv
     obtain ⟨c0,c1,c2,c3,c4,c5,c6,c7,c8,c9,c10⟩:=boxM_cells (BoxCs.below xm (bw4 (bw0 _ _) (.cells #[.slice mxa LX.length mxc,.slice mya LY.length myc,.slice mza LZ.length mzc] 41)))
     go_wp2_with fail
     have hB:Below w6.heap.size w6 (w6.alloc (.cells #[.slice mxa LX.length mxc,.slice mya LY.length myc,.slice mza LZ.length mzc] 41)):=bw4 (bw0 _ _) _
     have x5:BoxT3 41 (w6.alloc (.cells #[.slice mxa LX.length mxc,.slice mya LY.length myc,.slice mza LZ.length mzc] 41)) w6.heap.size (.slice mxa LX.length mxc) (.slice mya LY.length myc) (.slice mza LZ.length mzc):=BoxT3.new rfl
     have hb7:=below_trans' hb6 hB
     replace Hmx:=Lib.hid (Hmx.out.below hB)
     replace Hmy:=Lib.hid (Hmy.out.below hB)
     replace Hmz:=Lib.hid (Hmz.out.below hB)
     clear hB hb6 c0 c1 c2 c3 c4 c5 c6 c7 c8 c9 c10 xm
     generalize w6.alloc (.cells #[.slice mxa LX.length mxc,.slice mya LY.length myc,.slice mza LZ.length mzc] 41)=W7 at *
     generalize w6.heap.size=bq at *
     refine (HMA.out _ (HG.out.below hb7) (HP.out.below hb7)).mono ?_
     rintro e w8 ⟨nx,ny,nz,rfl,hnx,hny,hnz,hB⟩
     have hb8:=below_trans' hb7 hB
     replace x5:=x5.below hB
     replace Hmx:=Lib.hid (Hmx.out.below hB)
     replace Hmy:=Lib.hid (Hmy.out.below hB)
     replace Hmz:=Lib.hid (Hmz.out.below hB)
     have Hnx:=Lib.hid hnx
     obtain ⟨nxa,nxc,rfl,_⟩:=hnx
     have Hny:=Lib.hid hny
     obtain ⟨nya,nyc,rfl,_⟩:=hny
     have Hnz:=Lib.hid hnz
     obtain ⟨nza,nzc,rfl,_⟩:=hnz
     clear hB hb7 HMA
     have hm4:=fun ts t w=>max4 (P:=Tryz.prog) ts t w
     go_upto_if 94 with fail
     have hB:Below w8.heap.size w8 (w8.alloc (.cells #[.slice nxa LX.length nxc,.slice nya LY.length nyc,.slice nza LZ.length nzc] 41)):=bw4 (bw0 _ _) _
     have x6:BoxT3 41 (w8.alloc (.cells #[.slice nxa LX.length nxc,.slice nya LY.length nyc,.slice nza LZ.length nzc] 41)) w8.heap.size (.slice nxa LX.length nxc) (.slice nya LY.length nyc) (.slice nza LZ.length nzc):=BoxT3.new rfl
     have hb9:=below_trans' hb8 hB
     replace x5:=x5.below hB
     replace Hmx:=Lib.hid (Hmx.out.below hB)
     replace Hmy:=Lib.hid (Hmy.out.below hB)
     replace Hmz:=Lib.hid (Hmz.out.below hB)
     replace Hnx:=Lib.hid (Hnx.out.below hB)
     replace Hny:=Lib.hid (Hny.out.below hB)
     replace Hnz:=Lib.hid (Hnz.out.below hB)
     clear hB hb8
     generalize w8.alloc (.cells #[.slice nxa LX.length nxc,.slice nya LY.length nyc,.slice nza LZ.length nzc] 41)=W9 at *
     generalize w8.heap.size=bw at *
     have c0:=x5.c0
     have c1:=x5.c1
     have c2:=x5.c2
     have d0:=x6.c0
     have d1:=x6.c1
     have d2:=x6.c2
     go_wp2_with fail
     have hB:Below W9.heap.size W9 (W9.alloc (.cells #[.slice mxa LX.length mxc,.slice nxa LX.length nxc,.slice mya LY.length myc,.slice nya LY.length nyc,.slice mza LZ.length mzc,.slice nza LZ.length nzc] 66)):=bw4 (bw0 _ _) _
     have xs:BoxCs 66 (W9.alloc (.cells #[.slice mxa LX.length mxc,.slice nxa LX.length nxc,.slice mya LY.length myc,.slice nya LY.length nyc,.slice mza LZ.length mzc,.slice nza LZ.length nzc] 66)) W9.heap.size #[.slice mxa LX.length mxc,.slice nxa LX.length nxc,.slice mya LY.length myc,.slice nya LY.length nyc,.slice mza LZ.length mzc,.slice nza LZ.length nzc]:=BoxCs.new rfl
     have hb10:=below_trans' hb9 hB
     have HT:=Lib.hid (⟨Hmx.out.below hB,Hnx.out.below hB,Hmy.out.below hB,Hny.out.below hB,Hmz.out.below hB,Hnz.out.below hB⟩:IsTerms (W9.alloc (.cells #[.slice mxa LX.length mxc,.slice nxa LX.length nxc,.slice mya LY.length myc,.slice nya LY.length nyc,.slice mza LZ.length mzc,.slice nza LZ.length nzc] 66)) (.slice mxa LX.length mxc) LX∧IsTerms (W9.alloc (.cells #[.slice mxa LX.length mxc,.slice nxa LX.length nxc,.slice mya LY.length myc,.slice nya LY.length nyc,.slice mza LZ.length mzc,.slice nza LZ.length nzc] 66)) (.slice nxa LX.length nxc) LX∧IsTerms (W9.alloc (.cells #[.slice mxa LX.length mxc,.slice nxa LX.length nxc,.slice mya LY.length myc,.slice nya LY.length nyc,.slice mza LZ.length mzc,.slice nza LZ.length nzc] 66)) (.slice mya LY.length myc) LY∧IsTerms (W9.alloc (.cells #[.slice mxa LX.length mxc,.slice nxa LX.length nxc,.slice mya LY.length myc,.slice nya LY.length nyc,.slice mza LZ.length mzc,.slice nza LZ.length nzc] 66)) (.slice nya LY.length nyc) LY∧IsTerms (W9.alloc (.cells #[.slice mxa LX.length mxc,.slice nxa LX.length nxc,.slice mya LY.length myc,.slice nya LY.length nyc,.slice mza LZ.length mzc,.slice nza LZ.length nzc] 66)) (.slice mza LZ.length mzc) LZ∧IsTerms (W9.alloc (.cells #[.slice mxa LX.length mxc,.slice nxa LX.length nxc,.slice mya LY.length myc,.slice nya LY.length nyc,.slice mza LZ.length mzc,.slice nza LZ.length nzc] 66)) (.slice nza LZ.length nzc) LZ)
     clear hB hb9 Hmx Hmy Hmz Hnx Hny Hnz c0 c1 c2 d0 d1 d2 x5 x6
     generalize (W9.alloc (.cells #[.slice mxa LX.length mxc,.slice nxa LX.length nxc,.slice mya LY.length myc,.slice nya LY.length nyc,.slice mza LZ.length mzc,.slice nza LZ.length nzc] 66))=W10 at *
     generalize W9.heap.size=bs at *
     go_loopw [112] (fun i wr=>Below W10.heap.size W10 wr∧(i=.int .i64 0∨i=.int .i64 1∨i=.int .i64 2∨i=.int .i64 3)) (fun i _=>3 - (intOf i).toNat)
     case atStart=>exact ⟨bw0 _ _,.inl rfl⟩
     case round =>
      obtain ⟨hB,rfl|rfl|rfl|rfl⟩:=hrel
      ·have e0:wr.cell? ⟨bs,0,none⟩=some (.slice mxa LX.length mxc):=BoxCs.c (BoxCs.below xs hB) 0
       have e1:wr.cell? ⟨bs,1,none⟩=some (.slice nxa LX.length nxc):=BoxCs.c (BoxCs.below xs hB) 1
       have hb11:=below_trans' hb10 hB
       have T1:=Lib.hid (HT.out.1.below hB)
       have T2:=Lib.hid (HT.out.2.1.below hB)
       have hB2:Below wr.heap.size wr (wr.alloc (.cells #[.slice mxa LX.length mxc,.slice nxa LX.length nxc] 66)):=bw4 (bw0 _ _) _
       go_wp2_with fail
       refine (HCX.out _ _ _ (HG.out.below (below_trans' hb11 hB2)) (HP.out.below (below_trans' hb11 hB2)) (T1.out.below hB2) (T2.out.below hB2)).mono ?_
       rintro e w11 ⟨rfl,hB3⟩
       have hB4:=below_trans' (below_trans' hB hB2) hB3
       clear hB3 hB2 T1 T2 e0 e1 hb11
       go_wp2_with fail
       go_roundw
       case rel=>exact ⟨hB4,(.inr (.inl rfl))⟩
       case measure=>simp [intOf]
      ·have e0:wr.cell? ⟨bs,2,none⟩=some (.slice mya LY.length myc):=BoxCs.c (BoxCs.below xs hB) 2
       have e1:wr.cell? ⟨bs,3,none⟩=some (.slice nya LY.length nyc):=BoxCs.c (BoxCs.below xs hB) 3
       have hb11:=below_trans' hb10 hB
       have T1:=Lib.hid (HT.out.2.2.1.below hB)
       have T2:=Lib.hid (HT.out.2.2.2.1.below hB)
       have hB2:Below wr.heap.size wr (wr.alloc (.cells #[.slice mya LY.length myc,.slice nya LY.length nyc] 66)):=bw4 (bw0 _ _) _
       go_wp2_with fail
       refine (HCY.out _ _ _ (HG.out.below (below_trans' hb11 hB2)) (HP.out.below (below_trans' hb11 hB2)) (T1.out.below hB2) (T2.out.below hB2)).mono ?_
       rintro e w11 ⟨rfl,hB3⟩
       have hB4:=below_trans' (below_trans' hB hB2) hB3
       clear hB3 hB2 T1 T2 e0 e1 hb11
       go_wp2_with fail
       go_roundw
       case rel=>exact ⟨hB4,(.inr (.inr (.inl rfl)))⟩
       case measure=>simp [intOf]
      ·have e0:wr.cell? ⟨bs,4,none⟩=some (.slice mza LZ.length mzc):=BoxCs.c (BoxCs.below xs hB) 4
       have e1:wr.cell? ⟨bs,5,none⟩=some (.slice nza LZ.length nzc):=BoxCs.c (BoxCs.below xs hB) 5
       have hb11:=below_trans' hb10 hB
       have T1:=Lib.hid (HT.out.2.2.2.2.1.below hB)
       have T2:=Lib.hid (HT.out.2.2.2.2.2.below hB)
       have hB2:Below wr.heap.size wr (wr.alloc (.cells #[.slice mza LZ.length mzc,.slice nza LZ.length nzc] 66)):=bw4 (bw0 _ _) _
       go_wp2_with fail
       refine (HCZ.out _ _ _ (HG.out.below (below_trans' hb11 hB2)) (HP.out.below (below_trans' hb11 hB2)) (T1.out.below hB2) (T2.out.below hB2)).mono ?_
       rintro e w11 ⟨rfl,hB3⟩
       have hB4:=below_trans' (below_trans' hB hB2) hB3
       clear hB3 hB2 T1 T2 e0 e1 hb11
       go_wp2_with fail
       go_roundw
       case rel=>exact ⟨hB4,(.inr (.inr (.inr rfl)))⟩
       case measure=>simp [intOf]
      ·have hb11:=below_trans' hb10 hB
       go_wp2_with fail
       refine (HAW.out _ (HG.out.below hb11) (HP.out.below hb11)).mono ?_
       rintro e w12 ⟨rfl,hB5⟩
       have hb12:=below_trans' hb11 hB5
       clear hB5 hb11
       go_wp2_with fail
       go_ret
       exact ⟨rfl,hb12⟩
theorem rebsLaw (fx fy fz tx ty tz:Int) (w:World) (hG:Glo w) (hP:Pri w) (a1 : -128≤fx∧fx≤127) (a2 : -128≤fy∧fy≤127) (a3 : -128≤fz∧fz≤127) (b1 : -128≤tx∧tx≤127) (b2 : -128≤ty∧ty≤127) (b3 : -128≤tz∧tz≤127) :
  Calls Tryz.prog 7 #[.agg #[.int .i8 fx,.int .i8 fy,.int .i8 fz],.agg #[.int .i8 tx,.int .i8 ty,.int .i8 tz]] w (RetB (.bool true) w):=by
 by_cases h:fx=tx∧fy=ty
 ·obtain ⟨rfl,rfl⟩:=h
  exact rebs_eq fx fy fz tz w hG hP
 ·exact rebs_ne fx fy fz tx ty tz w hG hP a1 a2 a3 b1 b2 b3 h
end Go.Proofs.YtbbclfbpllbbbaaGreatDoor
namespace Go.Proofs.YtbbclfbpllbbbaaGreatDoor
open Go.ChangeShapes Go.WideShapes Go.ChangeAt Go.RowKit
theorem cellsI8:Tryz.prog.cellsOf 59=1:=by kernel_rfl
theorem cellsA3:Tryz.prog.cellsOf 60=3:=by kernel_rfl
theorem list3A {α:Type} (l:List α) (h:(⟨l⟩:Array α).size=3):∃ a b c,l=[a,b,c]:=by
 match l,h with
 | [a,b,c],_=>exact ⟨a,b,c,rfl⟩
theorem i8_bd {a:Int} (h:(Lit.int .i8 a).wf=true) : -128≤a∧a≤127:=by
 simpa [Lit.wf,IntKind.min,IntKind.max,IntKind.signed,IntKind.bits] using h
theorem open_arr3 {H:Type} {enc:TypeId × Value→H} {W:World} {base:Nat} {v:Value} {d:DataW H} {p:List MemPlace}
  (hval:Value.okWide Tryz.prog W .any base 60 v) (hd:DataW.Trod enc Tryz.prog W 0 (fun _=>true) true 60 v d p) :
  ∃ a b c:Int,v=.agg #[.int .i8 a,.int .i8 b,.int .i8 c]∧(-128≤a∧a≤127)∧(-128≤b∧b≤127)∧(-128≤c∧c≤127):=by
 obtain ⟨cs,rfl,hsz,_⟩:∃ cs,v=.agg cs∧cs.size=Tryz.prog.cellsOf 60∧Row.okWide Tryz.prog W .any base 60 cs:=by
  simpa [Value.okWide,Tryz.underlying60] using hval
 rw [cellsA3] at hsz
 obtain ⟨l⟩:=cs
 obtain ⟨c0,c1,c2,rfl⟩:=list3A l hsz
 obtain ⟨fuel,hf⟩:=hd
 obtain ⟨y0,y1,y2,m,hx,hy0,hy1,hy2⟩:=trod_array3 Tryz.underlying60 cellsI8 hf
 obtain ⟨x0,e0,rfl,w0⟩:=DataW.trod_int Tryz.underlying59 hy0
 obtain ⟨x1,e1,rfl,w1⟩:=DataW.trod_int Tryz.underlying59 hy1
 obtain ⟨x2,e2,rfl,w2⟩:=DataW.trod_int Tryz.underlying59 hy2
 simp at e0 e1 e2
 subst e0 e1 e2
 exact ⟨x0,x1,x2,rfl,i8_bd w0,i8_bd w1,i8_bd w2⟩
end Go.Proofs.YtbbclfbpllbbbaaGreatDoor
