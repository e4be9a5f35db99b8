/- Joined texts: WLengths. -/
import Derived.Test.YtbbclfbpllbbbaaGreatDoorJ14
set_option maxRecDepth 100000
set_option linter.unusedVariables false
set_option linter.unusedSimpArgs false
set_option maxHeartbeats 12800000
namespace Go.Proofs.YtbbclfbpllbbbaaGreatDoor
open Go.RowKit Go.Shelf
theorem w64 {x y:Int} (h:x=y) (h0 : -9223372036854775808≤y) (h1:y≤9223372036854775807):wrap64 x=y:=by
 rw [h];exact IntWalk.wrap64_in _ ⟨h0,h1⟩
theorem wI64 {x y:Int} (h:x=y) (h0 : -9223372036854775808≤y) (h1:y≤9223372036854775807):IntKind.i64.wrap x=y:=by
 subst h;exact IntWalk.i64_in _ ⟨h0,h1⟩
theorem wraps_ok (a b ru rr ss dd:Nat) (ha:a≤255) (hb:b≤255) (hru:ru=a+1) (hrr:rr=ru * ru) (hss:ss=b * b) (hdd:dd=rr+ss) :
  IntKind.i64.wrap (a:Int)=(a:Int)∧IntKind.i64.wrap (b:Int)=(b:Int)∧wrap64 (((a:Int)+1) * ((a:Int)+1))=(rr:Int)∧IntKind.i64.wrap ((b:Int) * (b:Int))=(ss:Int)∧wrap64 ((b:Int) * (b:Int))=(ss:Int)∧wrap64 ((rr:Int)+(ss:Int))=(dd:Int):=by
 have hr2:rr≤256 * 256:=by rw [hrr];exact Nat.mul_le_mul (by omega) (by omega)
 have hs2:ss≤255 * 255:=by rw [hss];exact Nat.mul_le_mul hb hb
 have q1:(ru:Int)=(a:Int)+1:=by omega
 have q2:(rr:Int)=((a:Int)+1) * ((a:Int)+1):=by rw [hrr,Int.natCast_mul,q1]
 have q3:(ss:Int)=(b:Int) * (b:Int):=by rw [hss,Int.natCast_mul]
 exact ⟨wI64 rfl (by omega) (by omega),wI64 rfl (by omega) (by omega),w64 q2.symm (by omega) (by omega),wI64 q3.symm (by omega) (by omega),w64 q3.symm (by omega) (by omega),w64 (by omega) (by omega) (by omega)⟩
theorem max5 {P:Program} (ts:Array TypeId) (t:TypeId) (w:World):(Builtin.max_ ts t #[.int .i64 0,.int .i64 0,.int .i64 0,.int .i64 0,.int .i64 0]).run P w=.ok (.int .i64 0) w:=by
 simp [Builtin.max_,Builtin.max2]
theorem max3 {P:Program} (ts:Array TypeId) (t:TypeId) (w:World):(Builtin.max_ ts t #[.int .i64 0,.int .i64 0,.int .i64 0]).run P w=.ok (.int .i64 0) w:=by
 simp [Builtin.max_,Builtin.max2]
theorem lawNumI (n:Int) (w:World) (hG:Glo w) (h0 : -1000000000000000000≤n) (h1:n≤1000000000000000000):Calls Tryz.prog 14 #[.int .i64 n,.int .i64 1] w (RetB (.string (numS (n:Rat))) w):=by
 have h:=OfI_ok n 1 w hG h0 h1 (by decide) (by decide)
 rw [show Rat.divInt n ((1:Nat):Int)=(n:Rat) from by rw [Rat.divInt_ofNat,Rat.mkRat_one]] at h
 exact lawNum_ok (n:Rat) n 1 w h
theorem make1 {c q:Rat} {n:Nat} {S:Rat} (x y:ByteArray) (u:Value) (w:World) (hG:Glo w) (hP:Pri w) (h:OneC [(c,q)] n) (hg:gsum [(c,q)]=S) (hx:x.data.toList=ratText c) (hy:y.data.toList=ratText q) (hu:IsTerms w u [(x,y)]) :
  Calls Tryz.prog 15 #[u] w (RetSd (oneL S n) w):=by
 rw [← hg];exact Make_ok [(c,q)] n [(x,y)] u w hG hP h (isRaw_one hx hy) hu
theorem oneC_sq {n:Nat} (h:1≤n) (h2:n < 10 ^ 10):OneC [(1,(((n * n:Nat):Int):Rat))] 1∧gsum [(1,(((n * n:Nat):Int):Rat))]=((n:Nat):Rat):=by
 have hp:(0:Rat) < ((n:Nat):Rat):=natR_pos h
 have e:(((n * n:Nat):Int):Rat)=((n:Nat):Rat) * ((n:Nat):Rat):=by show ((n * n:Nat):Rat)=_;rw [Rat.natCast_mul]
 have hN:=normQ_sq hp e
 have hq:(((n * n:Nat):Int):Rat)≠0:=by rw [e];exact ne_of_pos (Rat.mul_pos hp hp)
 have ht:tv (1,(((n * n:Nat):Int):Rat))=((n:Nat):Rat):=by rw [tv_pos (by decide +kernel) hq,hN,Rat.one_mul]
 have hz:Sz 20 (((n * n:Nat):Int):Rat):=sz_natR (Nat.lt_of_lt_of_le (Nat.mul_lt_mul'' h2 h2) (by decide)) (by decide)
 exact ⟨oneC_single (sz1 (by decide)) (hz.mono (by decide)) (Int.natCast_nonneg _) (fun _ _=>by rw [hN]) (by decide) (by decide) (.inl rfl) (by rw [ht];exact (show Sz 10 ((n:Nat):Rat) from sz_natR h2 (by decide)).mono (by decide)),by rw [gsum_one,ht]⟩
theorem lengths_ff (a b ru rr ss dd:Nat) (w:World) (hG:Glo w) (hP:Pri w) (ha:a≤255) (hb:b≤255) (hru:ru=a+1) (hrr:rr=ru * ru) (hss:ss=b * b) (hdd:dd=rr+ss) :
  Calls Tryz.prog 4 #[.int .u8 a,.int .u8 b,.bool false,.bool false] w (RetB (.bool true) w):=by
 have hr2:rr≤256 * 256:=by rw [hrr];exact Nat.mul_le_mul (by omega) (by omega)
 have hs2:ss≤255 * 255:=by rw [hss];exact Nat.mul_le_mul hb hb
 have hr1:1≤rr:=by rw [hrr];exact Nat.mul_pos (by omega) (by omega)
 have q1:(ru:Int)=(a:Int)+1:=by omega
 have WW:=Lib.hid (wraps_ok a b ru rr ss dd ha hb hru hrr hss hdd)
 have hdv:dd=ru * ru+b * b:=by omega
 have hdm:dd≤200000:=by omega
 have HN:=Lib.hid (fun (n:Int) W hG h0 h1=>lawNumI n W hG h0 h1)
 have HNQ:=Lib.hid (fun W hG=>lawNum_ok (Rat.divInt (b:Int) (ru:Int)) (b:Int) (ru:Int) W (OfI_ok (b:Int) ru W hG (by omega) (by omega) (by omega) (by omega)))
 have HON:=Lib.hid (fun x y W=>lawOne_ok x y W)
 obtain ⟨k1,k2,k3,k4,k5,k6⟩:=lenT_ok (D:=dd) (by omega) (by omega)
 have hcz:Sz 3 (Rat.divInt (b:Int) (ru:Int)):=sz_divInt (by omega) (by rw [Int.natAbs_natCast];exact Nat.lt_of_le_of_lt hb (by decide)) (by rw [Int.natAbs_natCast];exact Nat.lt_of_le_of_lt (show ru≤256 by omega) (by decide))
 have hun:=oneC_unit (hcz.mono (by decide))
 have hsq:=oneC_sq (n:=ru) (by omega) (Nat.lt_of_le_of_lt (show ru≤256 by omega) (by decide))
 rw [← hrr] at hsq
 have hbz:Sz 3 ((b:Nat):Rat):=sz_natR (Nat.lt_of_le_of_lt hb (by decide)) (by decide)
 have hrz:Sz 3 ((ru:Nat):Rat):=sz_natR (Nat.lt_of_le_of_lt (show ru≤256 by omega) (by decide)) (by decide)
 have hup:=oneC_unit (hbz.mono (by decide))
 have HM1:=Lib.hid (fun u W hG hP hu=>make1 ⟨#[49]⟩ (numS (((dd:Nat):Int):Rat)) u W hG hP k1 k2 one_list (numS_list _) hu)
 have HM2:=Lib.hid (fun u W hG hP hu=>make1 (numS (Rat.divInt (b:Int) (ru:Int))) ⟨#[49]⟩ u W hG hP hun.1 hun.2 (numS_list _) one_list hu)
 have HM3:=Lib.hid (fun u W hG hP hu=>make1 ⟨#[49]⟩ (numS (((rr:Nat):Int):Rat)) u W hG hP hsq.1 hsq.2 one_list (numS_list _) hu)
 have HM4:=Lib.hid (fun u W hG hP hu=>make1 (numS (((b:Nat):Int):Rat)) ⟨#[49]⟩ u W hG hP hup.1 hup.2 (numS_list _) one_list hu)
 have HRB:=Lib.hid (fun u v W hG hP hu hv=>lenReb ru b 1 0 (numS (((1:Int)):Rat)) ⟨#[48]⟩ u v W hG hP (by omega) (by omega) hb (by decide +kernel) ⟨numS_list _,⟨by decide +kernel,by decide +kernel⟩⟩ isR_zero hu hv)
 rw [← hdv] at HRB
 have eX:oneL (0+((ru:Nat):Rat) * 1) 1=oneL (((ru:Nat):Rat)) 1:=by
  rw [Rat.mul_one,Rat.zero_add]
 have eY:oneL (0+((ru:Nat):Rat) * 0) 1=[]:=by
  rw [Rat.mul_zero,Rat.add_zero];rfl
 rw [eX,eY,Rat.zero_add] at HRB
 have hdf:=oneC_diff (c:=((ru:Nat):Rat)) (hrz.mono (by decide))
 have hdz:=oneC_diff (c:=((b:Nat):Rat)) (hbz.mono (by decide))
 have hiw:SurdIs (oneL (((ru:Nat):Rat)) 1) (oneT (((ru:Nat):Rat)) 1):=by have h:=(oneC_unit (c:=((ru:Nat):Rat)) (hrz.mono (by decide))).1.is;rwa [(oneC_unit (c:=((ru:Nat):Rat)) (hrz.mono (by decide))).2] at h
 have hiz:SurdIs (oneL ((b:Nat):Rat) 1) (oneT ((b:Nat):Rat) 1):=by have h:=hup.1.is;rwa [hup.2] at h
 have HC1:=Lib.hid (fun u v W hG hP hu hv=>CompareZ_ok _ _ 1 _ _ u v W hG hP hu hv hiw hiw hdf.1 hdf.2)
 have HC2:=Lib.hid (fun u v W hG hP hu hv=>CompareZ_ok _ _ 1 _ _ u v W hG hP hu hv hiz hiz hdz.1 hdz.2)
 have HAW:=Lib.hid (fun W hG hP=>awake56_ok W hG hP)
 have HG:=Lib.hid hG
 have HP:=Lib.hid hP
 obtain ⟨LL,hLL⟩:∃ L,oneL (lenT dd).1 (lenT dd).2=L:=⟨_,rfl⟩
 obtain ⟨LS,hLS⟩:∃ L,oneL (Rat.divInt (b:Int) (ru:Int)) 1=L:=⟨_,rfl⟩
 obtain ⟨LU,hLU⟩:∃ L,oneL ((b:Nat):Rat) 1=L:=⟨_,rfl⟩
 obtain ⟨LR,hLR⟩:∃ L,oneL ((ru:Nat):Rat) 1=L:=⟨_,rfl⟩
 rw [hLL] at HM1 HRB
 rw [hLS] at HM2 HRB
 rw [hLU] at HM4 HRB HC2
 rw [hLR] at HM3 HRB HC1
 clear hG hP k1 k2 k3 k4 k5 k6 hcz hun hsq hbz hrz hup hdf hdz hiw hiz hLL hLS hLU hLR eX eY hdv hdd hss hrr
 obtain ⟨sD,hsD⟩:∃ s,numS (((dd:Nat):Int):Rat)=s:=⟨_,rfl⟩
 obtain ⟨sQ,hsQ⟩:∃ s,numS (Rat.divInt (b:Int) (ru:Int))=s:=⟨_,rfl⟩
 obtain ⟨sR,hsR⟩:∃ s,numS (((rr:Nat):Int):Rat)=s:=⟨_,rfl⟩
 obtain ⟨sB,hsB⟩:∃ s,numS (((b:Nat):Int):Rat)=s:=⟨_,rfl⟩
 rw [hsD] at HM1
 rw [hsQ] at HM2 HNQ
 rw [hsR] at HM3
 rw [hsB] at HM4
 have HND:=Lib.hid (fun W hG=>(by rw [← hsD];exact HN.out (dd:Int) W hG (by omega) (by omega):Calls Tryz.prog 14 #[.int .i64 (dd:Int),.int .i64 1] W (RetB (.string sD) W)))
 have HNR:=Lib.hid (fun W hG=>(by rw [← hsR];exact HN.out (rr:Int) W hG (by omega) (by omega):Calls Tryz.prog 14 #[.int .i64 (rr:Int),.int .i64 1] W (RetB (.string sR) W)))
 have HNB:=Lib.hid (fun W hG=>(by rw [← hsB];exact HN.out (b:Int) W hG (by omega) (by omega):Calls Tryz.prog 14 #[.int .i64 (b:Int),.int .i64 1] W (RetB (.string sB) W)))
 have HN1:=Lib.hid (fun W hG=>HN.out 1 W hG (by decide) (by decide))
 have HNM:=Lib.hid (fun W hG=>HN.out (-1) W hG (by decide) (by decide))
 generalize numS (((1:Int)):Rat)=s1 at *
 generalize numS (((-1:Int)):Rat)=sm at *
 rw [show ((ru:Nat):Int)=(a:Int)+1 from by omega] at HNQ
 clear HN hsD hsQ hsR hsB hr2 hs2 hr1 hdm hru q1
 obtain ⟨w1,w3,w4,w5,w7,w6⟩:=WW.out
 have hm5:=fun ts t w=>max5 (P:=Tryz.prog) ts t w
 have hm3:=fun ts t w=>max3 (P:=Tryz.prog) ts t w
 go_enter Tryz.func4,Tryz.ntmps4
 go_wp2_with fail
 refine (HN1.out _ HG.out).mono ?_
 rintro e v1 ⟨rfl,hB⟩
 have hb1:=hB
 clear hB
 go_wp2_with fail
 have hb2:Below w.heap.size w (v1.alloc (.cells #[.string s1,.string ⟨#[48]⟩,.string ⟨#[48]⟩] 37)):=bw4 hb1 _
 have x0:BoxT3 37 (v1.alloc (.cells #[.string s1,.string ⟨#[48]⟩,.string ⟨#[48]⟩] 37)) v1.heap.size (.string s1) (.string ⟨#[48]⟩) (.string ⟨#[48]⟩):=BoxT3.new rfl
 generalize (v1.alloc (.cells #[.string s1,.string ⟨#[48]⟩,.string ⟨#[48]⟩] 37))=W0 at *
 generalize v1.heap.size=bs at *
 clear hb1
 refine (HND.out _ (HG.out.below hb2)).mono ?_
 rintro e w1 ⟨rfl,hB⟩
 have hb3:=below_trans' hb2 hB
 replace x0:=x0.below hB
 clear hB hb2
 go_wp2_with fail
 refine (HON.out _ _ _).mono ?_
 rintro e w2 ⟨u,rfl,hu,hB⟩
 have hb4:=below_trans' hb3 hB
 replace x0:=x0.below hB
 clear hB hb3
 have Hu:=Lib.hid hu
 obtain ⟨ua,uc,rfl,_⟩:=hu
 go_wp2_with fail
 refine (HM1.out _ _ (HG.out.below hb4) (HP.out.below hb4) Hu.out).mono ?_
 rintro e w3 ⟨ll,rfl,hll,hB⟩
 have hb5:=below_trans' hb4 hB
 replace x0:=x0.below hB
 clear hB hb4
 have Hll:=Lib.hid hll
 obtain ⟨lla,llc,rfl,_⟩:=hll
 go_wp2_with fail
 refine (HNQ.out _ (HG.out.below hb5)).mono ?_
 rintro e w4 ⟨rfl,hB⟩
 have hb6:=below_trans' hb5 hB
 replace x0:=x0.below hB
 replace Hll:=Lib.hid (Hll.out.below hB)
 clear hB hb5
 go_wp2_with fail
 refine (HON.out _ _ _).mono ?_
 rintro e w5 ⟨u2,rfl,hu2,hB⟩
 have hb7:=below_trans' hb6 hB
 replace x0:=x0.below hB
 replace Hll:=Lib.hid (Hll.out.below hB)
 clear hB hb6
 have Hu2:=Lib.hid hu2
 obtain ⟨u2a,u2c,rfl,_⟩:=hu2
 go_wp2_with fail
 refine (HM2.out _ _ (HG.out.below hb7) (HP.out.below hb7) Hu2.out).mono ?_
 rintro e w6 ⟨ls,rfl,hls,hB⟩
 have hb8:=below_trans' hb7 hB
 replace x0:=x0.below hB
 replace Hll:=Lib.hid (Hll.out.below hB)
 clear hB hb7
 have Hls:=Lib.hid hls
 obtain ⟨lsa,lsc,rfl,_⟩:=hls
 have e0:=x0.c0
 have e1:=x0.c1
 have e2:=x0.c2
 go_wp2_with fail
 refine (HRB.out _ _ _ (HG.out.below hb8) (HP.out.below hb8) Hll.out Hls.out).mono ?_
 rintro e w7 ⟨mx,my,mz,rfl,hmx,hmy,hmz,hB⟩
 have hb9:=below_trans' hb8 hB
 clear hB hb8 e0 e1 e2 x0
 have Hmx:=Lib.hid hmx
 obtain ⟨mxa,mxc,rfl,_⟩:=hmx
 have Hmy:=Lib.hid hmy
 obtain ⟨mya,myc,rfl,_⟩:=hmy
 have Hmz:=Lib.hid hmz
 obtain ⟨mza,mzc,rfl,_⟩:=hmz
 go_wp2_with fail
 have hB:Below w7.heap.size w7 (w7.alloc (.cells #[.slice mxa LR.length mxc,.slice mya 0 myc,.slice mza LU.length mzc] 41)):=bw4 (bw0 _ _) _
 have x5:BoxT3 41 (w7.alloc (.cells #[.slice mxa LR.length mxc,.slice mya 0 myc,.slice mza LU.length mzc] 41)) w7.heap.size (.slice mxa LR.length mxc) (.slice mya 0 myc) (.slice mza LU.length mzc):=BoxT3.new rfl
 have hb10:=below_trans' hb9 hB
 replace Hmx:=Lib.hid (Hmx.out.below hB)
 replace Hmy:=Lib.hid (Hmy.out.below hB)
 replace Hmz:=Lib.hid (Hmz.out.below hB)
 clear hB hb9
 generalize w7.alloc (.cells #[.slice mxa LR.length mxc,.slice mya 0 myc,.slice mza LU.length mzc] 41)=W8 at *
 generalize w7.heap.size=bm at *
 refine (HNR.out _ (HG.out.below hb10)).mono ?_
 rintro e w9 ⟨rfl,hB⟩
 have hb11:=below_trans' hb10 hB
 replace x5:=x5.below hB
 replace Hmx:=Lib.hid (Hmx.out.below hB)
 replace Hmy:=Lib.hid (Hmy.out.below hB)
 replace Hmz:=Lib.hid (Hmz.out.below hB)
 clear hB hb10
 go_wp2_with fail
 refine (HON.out _ _ _).mono ?_
 rintro e w10 ⟨u3,rfl,hu3,hB⟩
 have hb12:=below_trans' hb11 hB
 replace x5:=x5.below hB
 replace Hmx:=Lib.hid (Hmx.out.below hB)
 replace Hmy:=Lib.hid (Hmy.out.below hB)
 replace Hmz:=Lib.hid (Hmz.out.below hB)
 clear hB hb11
 have Hu3:=Lib.hid hu3
 obtain ⟨u3a,u3c,rfl,_⟩:=hu3
 go_wp2_with fail
 refine (HM3.out _ _ (HG.out.below hb12) (HP.out.below hb12) Hu3.out).mono ?_
 rintro e w11 ⟨lr,rfl,hlr,hB⟩
 have hb13:=below_trans' hb12 hB
 replace x5:=x5.below hB
 replace Hmx:=Lib.hid (Hmx.out.below hB)
 replace Hmy:=Lib.hid (Hmy.out.below hB)
 replace Hmz:=Lib.hid (Hmz.out.below hB)
 clear hB hb12
 have Hlr:=Lib.hid hlr
 obtain ⟨lra,lrc,rfl,_⟩:=hlr
 go_wp2_with fail
 refine (HNB.out _ (HG.out.below hb13)).mono ?_
 rintro e w12 ⟨rfl,hB⟩
 have hb14:=below_trans' hb13 hB
 replace x5:=x5.below hB
 replace Hmx:=Lib.hid (Hmx.out.below hB)
 replace Hmy:=Lib.hid (Hmy.out.below hB)
 replace Hmz:=Lib.hid (Hmz.out.below hB)
 replace Hlr:=Lib.hid (Hlr.out.below hB)
 clear hB hb13
 go_wp2_with fail
 refine (HON.out _ _ _).mono ?_
 rintro e w13 ⟨u4,rfl,hu4,hB⟩
 have hb15:=below_trans' hb14 hB
 replace x5:=x5.below hB
 replace Hmx:=Lib.hid (Hmx.out.below hB)
 replace Hmy:=Lib.hid (Hmy.out.below hB)
 replace Hmz:=Lib.hid (Hmz.out.below hB)
 replace Hlr:=Lib.hid (Hlr.out.below hB)
 clear hB hb14
 have Hu4:=Lib.hid hu4
 obtain ⟨u4a,u4c,rfl,_⟩:=hu4
 go_wp2_with fail
 refine (HM4.out _ _ (HG.out.below hb15) (HP.out.below hb15) Hu4.out).mono ?_
 rintro e w14 ⟨lu,rfl,hlu,hB⟩
 have hb16:=below_trans' hb15 hB
 replace x5:=x5.below hB
 replace Hmx:=Lib.hid (Hmx.out.below hB)
 replace Hmy:=Lib.hid (Hmy.out.below hB)
 replace Hmz:=Lib.hid (Hmz.out.below hB)
 replace Hlr:=Lib.hid (Hlr.out.below hB)
 clear hB hb15
 have Hlu:=Lib.hid hlu
 obtain ⟨lua,luc,rfl,_⟩:=hlu
 go_wp2_with fail
 have hb17:=hb16
 have Hlw:=Hlr
 have f0:=x5.c0
 have f1:=x5.c1
 go_quiet (fail)
 go_wp2_with fail
 have hdr:Below w14.heap.size w14 (w14.drewN nq):=bw2 (bw0 _ _) _
 have hB:=hdr
 have hb18:=below_trans' hb17 hB
 replace x5:=x5.below hB
 replace Hmx:=Lib.hid (Hmx.out.below hB)
 replace Hmy:=Lib.hid (Hmy.out.below hB)
 replace Hmz:=Lib.hid (Hmz.out.below hB)
 replace Hlu:=Lib.hid (Hlu.out.below hB)
 replace Hlw:=Lib.hid (Hlw.out.below hB)
 clear hB hb17
 clear hdr f0 f1
 generalize w14.drewN nq=W18 at *
 refine (HC1.out _ _ _ (HG.out.below hb18) (HP.out.below hb18) Hmx.out Hlw.out).mono ?_
 rintro e w19 ⟨rfl,hB⟩
 have hb19:=below_trans' hb18 hB
 replace x5:=x5.below hB
 replace Hmx:=Lib.hid (Hmx.out.below hB)
 replace Hmy:=Lib.hid (Hmy.out.below hB)
 replace Hmz:=Lib.hid (Hmz.out.below hB)
 replace Hlu:=Lib.hid (Hlu.out.below hB)
 clear hB hb18
 have f2:=x5.c2
 go_wp2_with fail
 refine (HC2.out _ _ _ (HG.out.below hb19) (HP.out.below hb19) Hmz.out Hlu.out).mono ?_
 rintro e w20 ⟨rfl,hB⟩
 have hb20:=below_trans' hb19 hB
 replace x5:=x5.below hB
 replace Hmx:=Lib.hid (Hmx.out.below hB)
 replace Hmy:=Lib.hid (Hmy.out.below hB)
 replace Hmz:=Lib.hid (Hmz.out.below hB)
 clear hB hb19
 go_wp2_with fail
 refine (HAW.out _ (HG.out.below hb20) (HP.out.below hb20)).mono ?_
 rintro e w21 ⟨rfl,hB⟩
 have hb21:=below_trans' hb20 hB
 clear hB hb20
 go_wp2_with fail
 go_ret
 exact ⟨rfl,hb21⟩
theorem lengths_ft (a b ru rr ss dd:Nat) (w:World) (hG:Glo w) (hP:Pri w) (ha:a≤255) (hb:b≤255) (hru:ru=a+1) (hrr:rr=ru * ru) (hss:ss=b * b) (hdd:dd=rr+ss) :
  Calls Tryz.prog 4 #[.int .u8 a,.int .u8 b,.bool false,.bool true] w (RetB (.bool true) w):=by
 have hr2:rr≤256 * 256:=by rw [hrr];exact Nat.mul_le_mul (by omega) (by omega)
 have hs2:ss≤255 * 255:=by rw [hss];exact Nat.mul_le_mul hb hb
 have hr1:1≤rr:=by rw [hrr];exact Nat.mul_pos (by omega) (by omega)
 have q1:(ru:Int)=(a:Int)+1:=by omega
 have WW:=Lib.hid (wraps_ok a b ru rr ss dd ha hb hru hrr hss hdd)
 have hdv:dd=ru * ru+b * b:=by omega
 have hdm:dd≤200000:=by omega
 have HN:=Lib.hid (fun (n:Int) W hG h0 h1=>lawNumI n W hG h0 h1)
 have HNQ:=Lib.hid (fun W hG=>lawNum_ok (Rat.divInt (b:Int) (ru:Int)) (b:Int) (ru:Int) W (OfI_ok (b:Int) ru W hG (by omega) (by omega) (by omega) (by omega)))
 have HON:=Lib.hid (fun x y W=>lawOne_ok x y W)
 obtain ⟨k1,k2,k3,k4,k5,k6⟩:=lenT_ok (D:=dd) (by omega) (by omega)
 have hcz:Sz 3 (Rat.divInt (b:Int) (ru:Int)):=sz_divInt (by omega) (by rw [Int.natAbs_natCast];exact Nat.lt_of_le_of_lt hb (by decide)) (by rw [Int.natAbs_natCast];exact Nat.lt_of_le_of_lt (show ru≤256 by omega) (by decide))
 have hun:=oneC_unit (hcz.mono (by decide))
 have hsq:=oneC_sq (n:=ru) (by omega) (Nat.lt_of_le_of_lt (show ru≤256 by omega) (by decide))
 rw [← hrr] at hsq
 have hbz:Sz 3 ((b:Nat):Rat):=sz_natR (Nat.lt_of_le_of_lt hb (by decide)) (by decide)
 have hrz:Sz 3 ((ru:Nat):Rat):=sz_natR (Nat.lt_of_le_of_lt (show ru≤256 by omega) (by decide)) (by decide)
 have hup:=oneC_unit (hbz.mono (by decide))
 have HM1:=Lib.hid (fun u W hG hP hu=>make1 ⟨#[49]⟩ (numS (((dd:Nat):Int):Rat)) u W hG hP k1 k2 one_list (numS_list _) hu)
 have HM2:=Lib.hid (fun u W hG hP hu=>make1 (numS (Rat.divInt (b:Int) (ru:Int))) ⟨#[49]⟩ u W hG hP hun.1 hun.2 (numS_list _) one_list hu)
 have HM3:=Lib.hid (fun u W hG hP hu=>make1 ⟨#[49]⟩ (numS (((rr:Nat):Int):Rat)) u W hG hP hsq.1 hsq.2 one_list (numS_list _) hu)
 have HM4:=Lib.hid (fun u W hG hP hu=>make1 (numS (((b:Nat):Int):Rat)) ⟨#[49]⟩ u W hG hP hup.1 hup.2 (numS_list _) one_list hu)
 have HRB:=Lib.hid (fun u v W hG hP hu hv=>lenReb ru b (-1) 0 (numS (((-1:Int)):Rat)) ⟨#[48]⟩ u v W hG hP (by omega) (by omega) hb (by decide +kernel) ⟨numS_list _,⟨by decide +kernel,by decide +kernel⟩⟩ isR_zero hu hv)
 rw [← hdv] at HRB
 have eX:oneL (0+((ru:Nat):Rat) * (-1)) 1=oneL (((ru:Nat):Rat) * -1) 1:=by
  rw [Rat.zero_add]
 have eY:oneL (0+((ru:Nat):Rat) * 0) 1=[]:=by
  rw [Rat.mul_zero,Rat.add_zero];rfl
 rw [eX,eY,Rat.zero_add] at HRB
 have hrn:Sz 4 (((ru:Nat):Rat) * -1):=hrz.mul (b:=1) ⟨by decide +kernel,by decide +kernel⟩
 have hsc:=oneC_unit (c:=((ru:Nat):Rat) * -1) (hrn.mono (by decide))
 have hTW:=hsq.1.is
 rw [hsq.2,oneT_ne (ne_of_pos (natR_pos (show 1≤ru by omega)))] at hTW
 have HSC:=Lib.hid (fun u W hG hP (hu:IsTerms W u (oneL ((ru:Nat):Rat) 1))=>(by
  have h:=Scale_ok [(((ru:Nat):Rat),1)] (-1) 1 (oneL ((ru:Nat):Rat) 1) u ⟨#[45,49]⟩ W hG hP hu hTW minusOne ⟨by decide +kernel,by decide +kernel⟩ hsc.1
  have e:gsum (scaledQ [(((ru:Nat):Rat),1)] (-1))=((ru:Nat):Rat) * -1:=hsc.2
  rw [e] at h
  exact h:Calls Tryz.prog 18 #[u,.string ⟨#[45,49]⟩] W (RetSd (oneL (((ru:Nat):Rat) * -1) 1) W)))
 have hdf:=oneC_diff (c:=((ru:Nat):Rat) * -1) (hrn.mono (by decide))
 have hdz:=oneC_diff (c:=((b:Nat):Rat)) (hbz.mono (by decide))
 have hiw:SurdIs (oneL (((ru:Nat):Rat) * -1) 1) (oneT (((ru:Nat):Rat) * -1) 1):=by have h:=(oneC_unit (c:=((ru:Nat):Rat) * -1) (hrn.mono (by decide))).1.is;rwa [(oneC_unit (c:=((ru:Nat):Rat) * -1) (hrn.mono (by decide))).2] at h
 have hiz:SurdIs (oneL ((b:Nat):Rat) 1) (oneT ((b:Nat):Rat) 1):=by have h:=hup.1.is;rwa [hup.2] at h
 have HC1:=Lib.hid (fun u v W hG hP hu hv=>CompareZ_ok _ _ 1 _ _ u v W hG hP hu hv hiw hiw hdf.1 hdf.2)
 have HC2:=Lib.hid (fun u v W hG hP hu hv=>CompareZ_ok _ _ 1 _ _ u v W hG hP hu hv hiz hiz hdz.1 hdz.2)
 have HAW:=Lib.hid (fun W hG hP=>awake56_ok W hG hP)
 have HG:=Lib.hid hG
 have HP:=Lib.hid hP
 obtain ⟨LL,hLL⟩:∃ L,oneL (lenT dd).1 (lenT dd).2=L:=⟨_,rfl⟩
 obtain ⟨LS,hLS⟩:∃ L,oneL (Rat.divInt (b:Int) (ru:Int)) 1=L:=⟨_,rfl⟩
 obtain ⟨LU,hLU⟩:∃ L,oneL ((b:Nat):Rat) 1=L:=⟨_,rfl⟩
 obtain ⟨LR,hLR⟩:∃ L,oneL ((ru:Nat):Rat) 1=L:=⟨_,rfl⟩
 rw [hLL] at HM1 HRB
 rw [hLS] at HM2 HRB
 rw [hLU] at HM4 HRB HC2
 rw [hLR] at HM3 HSC
 obtain ⟨LW,hLW⟩:∃ L,oneL (((ru:Nat):Rat) * -1) 1=L:=⟨_,rfl⟩
 rw [hLW] at HSC HRB HC1
 clear hLW hrn hsc hTW
 clear hG hP k1 k2 k3 k4 k5 k6 hcz hun hsq hbz hrz hup hdf hdz hiw hiz hLL hLS hLU hLR eX eY hdv hdd hss hrr
 obtain ⟨sD,hsD⟩:∃ s,numS (((dd:Nat):Int):Rat)=s:=⟨_,rfl⟩
 obtain ⟨sQ,hsQ⟩:∃ s,numS (Rat.divInt (b:Int) (ru:Int))=s:=⟨_,rfl⟩
 obtain ⟨sR,hsR⟩:∃ s,numS (((rr:Nat):Int):Rat)=s:=⟨_,rfl⟩
 obtain ⟨sB,hsB⟩:∃ s,numS (((b:Nat):Int):Rat)=s:=⟨_,rfl⟩
 rw [hsD] at HM1
 rw [hsQ] at HM2 HNQ
 rw [hsR] at HM3
 rw [hsB] at HM4
 have HND:=Lib.hid (fun W hG=>(by rw [← hsD];exact HN.out (dd:Int) W hG (by omega) (by omega):Calls Tryz.prog 14 #[.int .i64 (dd:Int),.int .i64 1] W (RetB (.string sD) W)))
 have HNR:=Lib.hid (fun W hG=>(by rw [← hsR];exact HN.out (rr:Int) W hG (by omega) (by omega):Calls Tryz.prog 14 #[.int .i64 (rr:Int),.int .i64 1] W (RetB (.string sR) W)))
 have HNB:=Lib.hid (fun W hG=>(by rw [← hsB];exact HN.out (b:Int) W hG (by omega) (by omega):Calls Tryz.prog 14 #[.int .i64 (b:Int),.int .i64 1] W (RetB (.string sB) W)))
 have HN1:=Lib.hid (fun W hG=>HN.out 1 W hG (by decide) (by decide))
 have HNM:=Lib.hid (fun W hG=>HN.out (-1) W hG (by decide) (by decide))
 generalize numS (((1:Int)):Rat)=s1 at *
 generalize numS (((-1:Int)):Rat)=sm at *
 rw [show ((ru:Nat):Int)=(a:Int)+1 from by omega] at HNQ
 clear HN hsD hsQ hsR hsB hr2 hs2 hr1 hdm hru q1
 obtain ⟨w1,w3,w4,w5,w7,w6⟩:=WW.out
 have hm5:=fun ts t w=>max5 (P:=Tryz.prog) ts t w
 have hm3:=fun ts t w=>max3 (P:=Tryz.prog) ts t w
 go_enter Tryz.func4,Tryz.ntmps4
 go_wp2_with fail
 refine (HN1.out _ HG.out).mono ?_
 rintro e v1 ⟨rfl,hB⟩
 have hb1:=hB
 clear hB
 go_wp2_with fail
 refine (HNM.out _ (HG.out.below hb1)).mono ?_
 rintro e v2 ⟨rfl,hB⟩
 replace hb1:=below_trans' hb1 hB
 clear hB
 go_wp2_with fail
 have hb2:Below w.heap.size w (v2.alloc (.cells #[.string sm,.string ⟨#[48]⟩,.string ⟨#[48]⟩] 37)):=bw4 hb1 _
 have x0:BoxT3 37 (v2.alloc (.cells #[.string sm,.string ⟨#[48]⟩,.string ⟨#[48]⟩] 37)) v2.heap.size (.string sm) (.string ⟨#[48]⟩) (.string ⟨#[48]⟩):=BoxT3.new rfl
 generalize (v2.alloc (.cells #[.string sm,.string ⟨#[48]⟩,.string ⟨#[48]⟩] 37))=W0 at *
 generalize v2.heap.size=bs at *
 clear hb1
 refine (HND.out _ (HG.out.below hb2)).mono ?_
 rintro e w1 ⟨rfl,hB⟩
 have hb3:=below_trans' hb2 hB
 replace x0:=x0.below hB
 clear hB hb2
 go_wp2_with fail
 refine (HON.out _ _ _).mono ?_
 rintro e w2 ⟨u,rfl,hu,hB⟩
 have hb4:=below_trans' hb3 hB
 replace x0:=x0.below hB
 clear hB hb3
 have Hu:=Lib.hid hu
 obtain ⟨ua,uc,rfl,_⟩:=hu
 go_wp2_with fail
 refine (HM1.out _ _ (HG.out.below hb4) (HP.out.below hb4) Hu.out).mono ?_
 rintro e w3 ⟨ll,rfl,hll,hB⟩
 have hb5:=below_trans' hb4 hB
 replace x0:=x0.below hB
 clear hB hb4
 have Hll:=Lib.hid hll
 obtain ⟨lla,llc,rfl,_⟩:=hll
 go_wp2_with fail
 refine (HNQ.out _ (HG.out.below hb5)).mono ?_
 rintro e w4 ⟨rfl,hB⟩
 have hb6:=below_trans' hb5 hB
 replace x0:=x0.below hB
 replace Hll:=Lib.hid (Hll.out.below hB)
 clear hB hb5
 go_wp2_with fail
 refine (HON.out _ _ _).mono ?_
 rintro e w5 ⟨u2,rfl,hu2,hB⟩
 have hb7:=below_trans' hb6 hB
 replace x0:=x0.below hB
 replace Hll:=Lib.hid (Hll.out.below hB)
 clear hB hb6
 have Hu2:=Lib.hid hu2
 obtain ⟨u2a,u2c,rfl,_⟩:=hu2
 go_wp2_with fail
 refine (HM2.out _ _ (HG.out.below hb7) (HP.out.below hb7) Hu2.out).mono ?_
 rintro e w6 ⟨ls,rfl,hls,hB⟩
 have hb8:=below_trans' hb7 hB
 replace x0:=x0.below hB
 replace Hll:=Lib.hid (Hll.out.below hB)
 clear hB hb7
 have Hls:=Lib.hid hls
 obtain ⟨lsa,lsc,rfl,_⟩:=hls
 have e0:=x0.c0
 have e1:=x0.c1
 have e2:=x0.c2
 go_wp2_with fail
 refine (HRB.out _ _ _ (HG.out.below hb8) (HP.out.below hb8) Hll.out Hls.out).mono ?_
 rintro e w7 ⟨mx,my,mz,rfl,hmx,hmy,hmz,hB⟩
 have hb9:=below_trans' hb8 hB
 clear hB hb8 e0 e1 e2 x0
 have Hmx:=Lib.hid hmx
 obtain ⟨mxa,mxc,rfl,_⟩:=hmx
 have Hmy:=Lib.hid hmy
 obtain ⟨mya,myc,rfl,_⟩:=hmy
 have Hmz:=Lib.hid hmz
 obtain ⟨mza,mzc,rfl,_⟩:=hmz
 go_wp2_with fail
 have hB:Below w7.heap.size w7 (w7.alloc (.cells #[.slice mxa LW.length mxc,.slice mya 0 myc,.slice mza LU.length mzc] 41)):=bw4 (bw0 _ _) _
 have x5:BoxT3 41 (w7.alloc (.cells #[.slice mxa LW.length mxc,.slice mya 0 myc,.slice mza LU.length mzc] 41)) w7.heap.size (.slice mxa LW.length mxc) (.slice mya 0 myc) (.slice mza LU.length mzc):=BoxT3.new rfl
 have hb10:=below_trans' hb9 hB
 replace Hmx:=Lib.hid (Hmx.out.below hB)
 replace Hmy:=Lib.hid (Hmy.out.below hB)
 replace Hmz:=Lib.hid (Hmz.out.below hB)
 clear hB hb9
 generalize w7.alloc (.cells #[.slice mxa LW.length mxc,.slice mya 0 myc,.slice mza LU.length mzc] 41)=W8 at *
 generalize w7.heap.size=bm at *
 refine (HNR.out _ (HG.out.below hb10)).mono ?_
 rintro e w9 ⟨rfl,hB⟩
 have hb11:=below_trans' hb10 hB
 replace x5:=x5.below hB
 replace Hmx:=Lib.hid (Hmx.out.below hB)
 replace Hmy:=Lib.hid (Hmy.out.below hB)
 replace Hmz:=Lib.hid (Hmz.out.below hB)
 clear hB hb10
 go_wp2_with fail
 refine (HON.out _ _ _).mono ?_
 rintro e w10 ⟨u3,rfl,hu3,hB⟩
 have hb12:=below_trans' hb11 hB
 replace x5:=x5.below hB
 replace Hmx:=Lib.hid (Hmx.out.below hB)
 replace Hmy:=Lib.hid (Hmy.out.below hB)
 replace Hmz:=Lib.hid (Hmz.out.below hB)
 clear hB hb11
 have Hu3:=Lib.hid hu3
 obtain ⟨u3a,u3c,rfl,_⟩:=hu3
 go_wp2_with fail
 refine (HM3.out _ _ (HG.out.below hb12) (HP.out.below hb12) Hu3.out).mono ?_
 rintro e w11 ⟨lr,rfl,hlr,hB⟩
 have hb13:=below_trans' hb12 hB
 replace x5:=x5.below hB
 replace Hmx:=Lib.hid (Hmx.out.below hB)
 replace Hmy:=Lib.hid (Hmy.out.below hB)
 replace Hmz:=Lib.hid (Hmz.out.below hB)
 clear hB hb12
 have Hlr:=Lib.hid hlr
 obtain ⟨lra,lrc,rfl,_⟩:=hlr
 go_wp2_with fail
 refine (HNB.out _ (HG.out.below hb13)).mono ?_
 rintro e w12 ⟨rfl,hB⟩
 have hb14:=below_trans' hb13 hB
 replace x5:=x5.below hB
 replace Hmx:=Lib.hid (Hmx.out.below hB)
 replace Hmy:=Lib.hid (Hmy.out.below hB)
 replace Hmz:=Lib.hid (Hmz.out.below hB)
 replace Hlr:=Lib.hid (Hlr.out.below hB)
 clear hB hb13
 go_wp2_with fail
 refine (HON.out _ _ _).mono ?_
 rintro e w13 ⟨u4,rfl,hu4,hB⟩
 have hb15:=below_trans' hb14 hB
 replace x5:=x5.below hB
 replace Hmx:=Lib.hid (Hmx.out.below hB)
 replace Hmy:=Lib.hid (Hmy.out.below hB)
 replace Hmz:=Lib.hid (Hmz.out.below hB)
 replace Hlr:=Lib.hid (Hlr.out.below hB)
 clear hB hb14
 have Hu4:=Lib.hid hu4
 obtain ⟨u4a,u4c,rfl,_⟩:=hu4
 go_wp2_with fail
 refine (HM4.out _ _ (HG.out.below hb15) (HP.out.below hb15) Hu4.out).mono ?_
 rintro e w14 ⟨lu,rfl,hlu,hB⟩
 have hb16:=below_trans' hb15 hB
 replace x5:=x5.below hB
 replace Hmx:=Lib.hid (Hmx.out.below hB)
 replace Hmy:=Lib.hid (Hmy.out.below hB)
 replace Hmz:=Lib.hid (Hmz.out.below hB)
 replace Hlr:=Lib.hid (Hlr.out.below hB)
 clear hB hb15
 have Hlu:=Lib.hid hlu
 obtain ⟨lua,luc,rfl,_⟩:=hlu
 go_wp2_with fail
 refine (HSC.out _ _ (HG.out.below hb16) (HP.out.below hb16) Hlr.out).mono ?_
 rintro e w15 ⟨lw,rfl,hlw,hB⟩
 have hb17:=below_trans' hb16 hB
 replace x5:=x5.below hB
 replace Hmx:=Lib.hid (Hmx.out.below hB)
 replace Hmy:=Lib.hid (Hmy.out.below hB)
 replace Hmz:=Lib.hid (Hmz.out.below hB)
 replace Hlu:=Lib.hid (Hlu.out.below hB)
 clear hB hb16
 have Hlw:=Lib.hid hlw
 obtain ⟨lwa,lwc,rfl,_⟩:=hlw
 have f0:=x5.c0
 have f1:=x5.c1
 go_wp2_with fail
 go_quiet (fail)
 go_wp2_with fail
 have hdr:Below w15.heap.size w15 (w15.drewN nq):=bw2 (bw0 _ _) _
 have hB:=hdr
 have hb18:=below_trans' hb17 hB
 replace x5:=x5.below hB
 replace Hmx:=Lib.hid (Hmx.out.below hB)
 replace Hmy:=Lib.hid (Hmy.out.below hB)
 replace Hmz:=Lib.hid (Hmz.out.below hB)
 replace Hlu:=Lib.hid (Hlu.out.below hB)
 replace Hlw:=Lib.hid (Hlw.out.below hB)
 clear hB hb17
 clear hdr f0 f1
 generalize w15.drewN nq=W18 at *
 refine (HC1.out _ _ _ (HG.out.below hb18) (HP.out.below hb18) Hmx.out Hlw.out).mono ?_
 rintro e w19 ⟨rfl,hB⟩
 have hb19:=below_trans' hb18 hB
 replace x5:=x5.below hB
 replace Hmx:=Lib.hid (Hmx.out.below hB)
 replace Hmy:=Lib.hid (Hmy.out.below hB)
 replace Hmz:=Lib.hid (Hmz.out.below hB)
 replace Hlu:=Lib.hid (Hlu.out.below hB)
 clear hB hb18
 have f2:=x5.c2
 go_wp2_with fail
 refine (HC2.out _ _ _ (HG.out.below hb19) (HP.out.below hb19) Hmz.out Hlu.out).mono ?_
 rintro e w20 ⟨rfl,hB⟩
 have hb20:=below_trans' hb19 hB
 replace x5:=x5.below hB
 replace Hmx:=Lib.hid (Hmx.out.below hB)
 replace Hmy:=Lib.hid (Hmy.out.below hB)
 replace Hmz:=Lib.hid (Hmz.out.below hB)
 clear hB hb19
 go_wp2_with fail
 refine (HAW.out _ (HG.out.below hb20) (HP.out.below hb20)).mono ?_
 rintro e w21 ⟨rfl,hB⟩
 have hb21:=below_trans' hb20 hB
 clear hB hb20
 go_wp2_with fail
 go_ret
 exact ⟨rfl,hb21⟩
theorem lengths_tf (a b ru rr ss dd:Nat) (w:World) (hG:Glo w) (hP:Pri w) (ha:a≤255) (hb:b≤255) (hru:ru=a+1) (hrr:rr=ru * ru) (hss:ss=b * b) (hdd:dd=rr+ss) :
  Calls Tryz.prog 4 #[.int .u8 a,.int .u8 b,.bool true,.bool false] w (RetB (.bool true) w):=by
 have hr2:rr≤256 * 256:=by rw [hrr];exact Nat.mul_le_mul (by omega) (by omega)
 have hs2:ss≤255 * 255:=by rw [hss];exact Nat.mul_le_mul hb hb
 have hr1:1≤rr:=by rw [hrr];exact Nat.mul_pos (by omega) (by omega)
 have q1:(ru:Int)=(a:Int)+1:=by omega
 have WW:=Lib.hid (wraps_ok a b ru rr ss dd ha hb hru hrr hss hdd)
 have hdv:dd=ru * ru+b * b:=by omega
 have hdm:dd≤200000:=by omega
 have HN:=Lib.hid (fun (n:Int) W hG h0 h1=>lawNumI n W hG h0 h1)
 have HNQ:=Lib.hid (fun W hG=>lawNum_ok (Rat.divInt (b:Int) (ru:Int)) (b:Int) (ru:Int) W (OfI_ok (b:Int) ru W hG (by omega) (by omega) (by omega) (by omega)))
 have HON:=Lib.hid (fun x y W=>lawOne_ok x y W)
 obtain ⟨k1,k2,k3,k4,k5,k6⟩:=lenT_ok (D:=dd) (by omega) (by omega)
 have hcz:Sz 3 (Rat.divInt (b:Int) (ru:Int)):=sz_divInt (by omega) (by rw [Int.natAbs_natCast];exact Nat.lt_of_le_of_lt hb (by decide)) (by rw [Int.natAbs_natCast];exact Nat.lt_of_le_of_lt (show ru≤256 by omega) (by decide))
 have hun:=oneC_unit (hcz.mono (by decide))
 have hsq:=oneC_sq (n:=ru) (by omega) (Nat.lt_of_le_of_lt (show ru≤256 by omega) (by decide))
 rw [← hrr] at hsq
 have hbz:Sz 3 ((b:Nat):Rat):=sz_natR (Nat.lt_of_le_of_lt hb (by decide)) (by decide)
 have hrz:Sz 3 ((ru:Nat):Rat):=sz_natR (Nat.lt_of_le_of_lt (show ru≤256 by omega) (by decide)) (by decide)
 have hup:=oneC_unit (hbz.mono (by decide))
 have HM1:=Lib.hid (fun u W hG hP hu=>make1 ⟨#[49]⟩ (numS (((dd:Nat):Int):Rat)) u W hG hP k1 k2 one_list (numS_list _) hu)
 have HM2:=Lib.hid (fun u W hG hP hu=>make1 (numS (Rat.divInt (b:Int) (ru:Int))) ⟨#[49]⟩ u W hG hP hun.1 hun.2 (numS_list _) one_list hu)
 have HM3:=Lib.hid (fun u W hG hP hu=>make1 ⟨#[49]⟩ (numS (((rr:Nat):Int):Rat)) u W hG hP hsq.1 hsq.2 one_list (numS_list _) hu)
 have HM4:=Lib.hid (fun u W hG hP hu=>make1 (numS (((b:Nat):Int):Rat)) ⟨#[49]⟩ u W hG hP hup.1 hup.2 (numS_list _) one_list hu)
 have HRB:=Lib.hid (fun u v W hG hP hu hv=>lenReb ru b 0 1 ⟨#[48]⟩ (numS (((1:Int)):Rat)) u v W hG hP (by omega) (by omega) hb (by decide +kernel) isR_zero ⟨numS_list _,⟨by decide +kernel,by decide +kernel⟩⟩ hu hv)
 rw [← hdv] at HRB
 have eX:oneL (0+((ru:Nat):Rat) * 0) 1=[]:=by
  rw [Rat.mul_zero,Rat.add_zero];rfl
 have eY:oneL (0+((ru:Nat):Rat) * 1) 1=oneL (((ru:Nat):Rat)) 1:=by
  rw [Rat.mul_one,Rat.zero_add]
 rw [eX,eY,Rat.zero_add] at HRB
 have hdf:=oneC_diff (c:=((ru:Nat):Rat)) (hrz.mono (by decide))
 have hdz:=oneC_diff (c:=((b:Nat):Rat)) (hbz.mono (by decide))
 have hiw:SurdIs (oneL (((ru:Nat):Rat)) 1) (oneT (((ru:Nat):Rat)) 1):=by have h:=(oneC_unit (c:=((ru:Nat):Rat)) (hrz.mono (by decide))).1.is;rwa [(oneC_unit (c:=((ru:Nat):Rat)) (hrz.mono (by decide))).2] at h
 have hiz:SurdIs (oneL ((b:Nat):Rat) 1) (oneT ((b:Nat):Rat) 1):=by have h:=hup.1.is;rwa [hup.2] at h
 have HC1:=Lib.hid (fun u v W hG hP hu hv=>CompareZ_ok _ _ 1 _ _ u v W hG hP hu hv hiw hiw hdf.1 hdf.2)
 have HC2:=Lib.hid (fun u v W hG hP hu hv=>CompareZ_ok _ _ 1 _ _ u v W hG hP hu hv hiz hiz hdz.1 hdz.2)
 have HAW:=Lib.hid (fun W hG hP=>awake56_ok W hG hP)
 have HG:=Lib.hid hG
 have HP:=Lib.hid hP
 obtain ⟨LL,hLL⟩:∃ L,oneL (lenT dd).1 (lenT dd).2=L:=⟨_,rfl⟩
 obtain ⟨LS,hLS⟩:∃ L,oneL (Rat.divInt (b:Int) (ru:Int)) 1=L:=⟨_,rfl⟩
 obtain ⟨LU,hLU⟩:∃ L,oneL ((b:Nat):Rat) 1=L:=⟨_,rfl⟩
 obtain ⟨LR,hLR⟩:∃ L,oneL ((ru:Nat):Rat) 1=L:=⟨_,rfl⟩
 rw [hLL] at HM1 HRB
 rw [hLS] at HM2 HRB
 rw [hLU] at HM4 HRB HC2
 rw [hLR] at HM3 HRB HC1
 clear hG hP k1 k2 k3 k4 k5 k6 hcz hun hsq hbz hrz hup hdf hdz hiw hiz hLL hLS hLU hLR eX eY hdv hdd hss hrr
 obtain ⟨sD,hsD⟩:∃ s,numS (((dd:Nat):Int):Rat)=s:=⟨_,rfl⟩
 obtain ⟨sQ,hsQ⟩:∃ s,numS (Rat.divInt (b:Int) (ru:Int))=s:=⟨_,rfl⟩
 obtain ⟨sR,hsR⟩:∃ s,numS (((rr:Nat):Int):Rat)=s:=⟨_,rfl⟩
 obtain ⟨sB,hsB⟩:∃ s,numS (((b:Nat):Int):Rat)=s:=⟨_,rfl⟩
 rw [hsD] at HM1
 rw [hsQ] at HM2 HNQ
 rw [hsR] at HM3
 rw [hsB] at HM4
 have HND:=Lib.hid (fun W hG=>(by rw [← hsD];exact HN.out (dd:Int) W hG (by omega) (by omega):Calls Tryz.prog 14 #[.int .i64 (dd:Int),.int .i64 1] W (RetB (.string sD) W)))
 have HNR:=Lib.hid (fun W hG=>(by rw [← hsR];exact HN.out (rr:Int) W hG (by omega) (by omega):Calls Tryz.prog 14 #[.int .i64 (rr:Int),.int .i64 1] W (RetB (.string sR) W)))
 have HNB:=Lib.hid (fun W hG=>(by rw [← hsB];exact HN.out (b:Int) W hG (by omega) (by omega):Calls Tryz.prog 14 #[.int .i64 (b:Int),.int .i64 1] W (RetB (.string sB) W)))
 have HN1:=Lib.hid (fun W hG=>HN.out 1 W hG (by decide) (by decide))
 have HNM:=Lib.hid (fun W hG=>HN.out (-1) W hG (by decide) (by decide))
 generalize numS (((1:Int)):Rat)=s1 at *
 generalize numS (((-1:Int)):Rat)=sm at *
 rw [show ((ru:Nat):Int)=(a:Int)+1 from by omega] at HNQ
 clear HN hsD hsQ hsR hsB hr2 hs2 hr1 hdm hru q1
 obtain ⟨w1,w3,w4,w5,w7,w6⟩:=WW.out
 have hm5:=fun ts t w=>max5 (P:=Tryz.prog) ts t w
 have hm3:=fun ts t w=>max3 (P:=Tryz.prog) ts t w
 go_enter Tryz.func4,Tryz.ntmps4
 go_wp2_with fail
 refine (HN1.out _ HG.out).mono ?_
 rintro e v1 ⟨rfl,hB⟩
 have hb1:=hB
 clear hB
 go_wp2_with fail
 have hb2:Below w.heap.size w (v1.alloc (.cells #[.string ⟨#[48]⟩,.string s1,.string ⟨#[48]⟩] 37)):=bw4 hb1 _
 have x0:BoxT3 37 (v1.alloc (.cells #[.string ⟨#[48]⟩,.string s1,.string ⟨#[48]⟩] 37)) v1.heap.size (.string ⟨#[48]⟩) (.string s1) (.string ⟨#[48]⟩):=BoxT3.new rfl
 generalize (v1.alloc (.cells #[.string ⟨#[48]⟩,.string s1,.string ⟨#[48]⟩] 37))=W0 at *
 generalize v1.heap.size=bs at *
 clear hb1
 refine (HND.out _ (HG.out.below hb2)).mono ?_
 rintro e w1 ⟨rfl,hB⟩
 have hb3:=below_trans' hb2 hB
 replace x0:=x0.below hB
 clear hB hb2
 go_wp2_with fail
 refine (HON.out _ _ _).mono ?_
 rintro e w2 ⟨u,rfl,hu,hB⟩
 have hb4:=below_trans' hb3 hB
 replace x0:=x0.below hB
 clear hB hb3
 have Hu:=Lib.hid hu
 obtain ⟨ua,uc,rfl,_⟩:=hu
 go_wp2_with fail
 refine (HM1.out _ _ (HG.out.below hb4) (HP.out.below hb4) Hu.out).mono ?_
 rintro e w3 ⟨ll,rfl,hll,hB⟩
 have hb5:=below_trans' hb4 hB
 replace x0:=x0.below hB
 clear hB hb4
 have Hll:=Lib.hid hll
 obtain ⟨lla,llc,rfl,_⟩:=hll
 go_wp2_with fail
 refine (HNQ.out _ (HG.out.below hb5)).mono ?_
 rintro e w4 ⟨rfl,hB⟩
 have hb6:=below_trans' hb5 hB
 replace x0:=x0.below hB
 replace Hll:=Lib.hid (Hll.out.below hB)
 clear hB hb5
 go_wp2_with fail
 refine (HON.out _ _ _).mono ?_
 rintro e w5 ⟨u2,rfl,hu2,hB⟩
 have hb7:=below_trans' hb6 hB
 replace x0:=x0.below hB
 replace Hll:=Lib.hid (Hll.out.below hB)
 clear hB hb6
 have Hu2:=Lib.hid hu2
 obtain ⟨u2a,u2c,rfl,_⟩:=hu2
 go_wp2_with fail
 refine (HM2.out _ _ (HG.out.below hb7) (HP.out.below hb7) Hu2.out).mono ?_
 rintro e w6 ⟨ls,rfl,hls,hB⟩
 have hb8:=below_trans' hb7 hB
 replace x0:=x0.below hB
 replace Hll:=Lib.hid (Hll.out.below hB)
 clear hB hb7
 have Hls:=Lib.hid hls
 obtain ⟨lsa,lsc,rfl,_⟩:=hls
 have e0:=x0.c0
 have e1:=x0.c1
 have e2:=x0.c2
 go_wp2_with fail
 refine (HRB.out _ _ _ (HG.out.below hb8) (HP.out.below hb8) Hll.out Hls.out).mono ?_
 rintro e w7 ⟨mx,my,mz,rfl,hmx,hmy,hmz,hB⟩
 have hb9:=below_trans' hb8 hB
 clear hB hb8 e0 e1 e2 x0
 have Hmx:=Lib.hid hmx
 obtain ⟨mxa,mxc,rfl,_⟩:=hmx
 have Hmy:=Lib.hid hmy
 obtain ⟨mya,myc,rfl,_⟩:=hmy
 have Hmz:=Lib.hid hmz
 obtain ⟨mza,mzc,rfl,_⟩:=hmz
 go_wp2_with fail
 have hB:Below w7.heap.size w7 (w7.alloc (.cells #[.slice mxa 0 mxc,.slice mya LR.length myc,.slice mza LU.length mzc] 41)):=bw4 (bw0 _ _) _
 have x5:BoxT3 41 (w7.alloc (.cells #[.slice mxa 0 mxc,.slice mya LR.length myc,.slice mza LU.length mzc] 41)) w7.heap.size (.slice mxa 0 mxc) (.slice mya LR.length myc) (.slice mza LU.length mzc):=BoxT3.new rfl
 have hb10:=below_trans' hb9 hB
 replace Hmx:=Lib.hid (Hmx.out.below hB)
 replace Hmy:=Lib.hid (Hmy.out.below hB)
 replace Hmz:=Lib.hid (Hmz.out.below hB)
 clear hB hb9
 generalize w7.alloc (.cells #[.slice mxa 0 mxc,.slice mya LR.length myc,.slice mza LU.length mzc] 41)=W8 at *
 generalize w7.heap.size=bm at *
 refine (HNR.out _ (HG.out.below hb10)).mono ?_
 rintro e w9 ⟨rfl,hB⟩
 have hb11:=below_trans' hb10 hB
 replace x5:=x5.below hB
 replace Hmx:=Lib.hid (Hmx.out.below hB)
 replace Hmy:=Lib.hid (Hmy.out.below hB)
 replace Hmz:=Lib.hid (Hmz.out.below hB)
 clear hB hb10
 go_wp2_with fail
 refine (HON.out _ _ _).mono ?_
 rintro e w10 ⟨u3,rfl,hu3,hB⟩
 have hb12:=below_trans' hb11 hB
 replace x5:=x5.below hB
 replace Hmx:=Lib.hid (Hmx.out.below hB)
 replace Hmy:=Lib.hid (Hmy.out.below hB)
 replace Hmz:=Lib.hid (Hmz.out.below hB)
 clear hB hb11
 have Hu3:=Lib.hid hu3
 obtain ⟨u3a,u3c,rfl,_⟩:=hu3
 go_wp2_with fail
 refine (HM3.out _ _ (HG.out.below hb12) (HP.out.below hb12) Hu3.out).mono ?_
 rintro e w11 ⟨lr,rfl,hlr,hB⟩
 have hb13:=below_trans' hb12 hB
 replace x5:=x5.below hB
 replace Hmx:=Lib.hid (Hmx.out.below hB)
 replace Hmy:=Lib.hid (Hmy.out.below hB)
 replace Hmz:=Lib.hid (Hmz.out.below hB)
 clear hB hb12
 have Hlr:=Lib.hid hlr
 obtain ⟨lra,lrc,rfl,_⟩:=hlr
 go_wp2_with fail
 refine (HNB.out _ (HG.out.below hb13)).mono ?_
 rintro e w12 ⟨rfl,hB⟩
 have hb14:=below_trans' hb13 hB
 replace x5:=x5.below hB
 replace Hmx:=Lib.hid (Hmx.out.below hB)
 replace Hmy:=Lib.hid (Hmy.out.below hB)
 replace Hmz:=Lib.hid (Hmz.out.below hB)
 replace Hlr:=Lib.hid (Hlr.out.below hB)
 clear hB hb13
 go_wp2_with fail
 refine (HON.out _ _ _).mono ?_
 rintro e w13 ⟨u4,rfl,hu4,hB⟩
 have hb15:=below_trans' hb14 hB
 replace x5:=x5.below hB
 replace Hmx:=Lib.hid (Hmx.out.below hB)
 replace Hmy:=Lib.hid (Hmy.out.below hB)
 replace Hmz:=Lib.hid (Hmz.out.below hB)
 replace Hlr:=Lib.hid (Hlr.out.below hB)
 clear hB hb14
 have Hu4:=Lib.hid hu4
 obtain ⟨u4a,u4c,rfl,_⟩:=hu4
 go_wp2_with fail
 refine (HM4.out _ _ (HG.out.below hb15) (HP.out.below hb15) Hu4.out).mono ?_
 rintro e w14 ⟨lu,rfl,hlu,hB⟩
 have hb16:=below_trans' hb15 hB
 replace x5:=x5.below hB
 replace Hmx:=Lib.hid (Hmx.out.below hB)
 replace Hmy:=Lib.hid (Hmy.out.below hB)
 replace Hmz:=Lib.hid (Hmz.out.below hB)
 replace Hlr:=Lib.hid (Hlr.out.below hB)
 clear hB hb15
 have Hlu:=Lib.hid hlu
 obtain ⟨lua,luc,rfl,_⟩:=hlu
 go_wp2_with fail
 have hb17:=hb16
 have Hlw:=Hlr
 have f0:=x5.c0
 have f1:=x5.c1
 go_quiet (fail)
 go_wp2_with fail
 have hdr:Below w14.heap.size w14 (w14.drewN nq):=bw2 (bw0 _ _) _
 have hB:=hdr
 have hb18:=below_trans' hb17 hB
 replace x5:=x5.below hB
 replace Hmx:=Lib.hid (Hmx.out.below hB)
 replace Hmy:=Lib.hid (Hmy.out.below hB)
 replace Hmz:=Lib.hid (Hmz.out.below hB)
 replace Hlu:=Lib.hid (Hlu.out.below hB)
 replace Hlw:=Lib.hid (Hlw.out.below hB)
 clear hB hb17
 clear hdr f0 f1
 generalize w14.drewN nq=W18 at *
 refine (HC1.out _ _ _ (HG.out.below hb18) (HP.out.below hb18) Hmy.out Hlw.out).mono ?_
 rintro e w19 ⟨rfl,hB⟩
 have hb19:=below_trans' hb18 hB
 replace x5:=x5.below hB
 replace Hmx:=Lib.hid (Hmx.out.below hB)
 replace Hmy:=Lib.hid (Hmy.out.below hB)
 replace Hmz:=Lib.hid (Hmz.out.below hB)
 replace Hlu:=Lib.hid (Hlu.out.below hB)
 clear hB hb18
 have f2:=x5.c2
 go_wp2_with fail
 refine (HC2.out _ _ _ (HG.out.below hb19) (HP.out.below hb19) Hmz.out Hlu.out).mono ?_
 rintro e w20 ⟨rfl,hB⟩
 have hb20:=below_trans' hb19 hB
 replace x5:=x5.below hB
 replace Hmx:=Lib.hid (Hmx.out.below hB)
 replace Hmy:=Lib.hid (Hmy.out.below hB)
 replace Hmz:=Lib.hid (Hmz.out.below hB)
 clear hB hb19
 go_wp2_with fail
 refine (HAW.out _ (HG.out.below hb20) (HP.out.below hb20)).mono ?_
 rintro e w21 ⟨rfl,hB⟩
 have hb21:=below_trans' hb20 hB
 clear hB hb20
 go_wp2_with fail
 go_ret
 exact ⟨rfl,hb21⟩
theorem lengths_tt (a b ru rr ss dd:Nat) (w:World) (hG:Glo w) (hP:Pri w) (ha:a≤255) (hb:b≤255) (hru:ru=a+1) (hrr:rr=ru * ru) (hss:ss=b * b) (hdd:dd=rr+ss) :
  Calls Tryz.prog 4 #[.int .u8 a,.int .u8 b,.bool true,.bool true] w (RetB (.bool true) w):=by
 have hr2:rr≤256 * 256:=by rw [hrr];exact Nat.mul_le_mul (by omega) (by omega)
 have hs2:ss≤255 * 255:=by rw [hss];exact Nat.mul_le_mul hb hb
 have hr1:1≤rr:=by rw [hrr];exact Nat.mul_pos (by omega) (by omega)
 have q1:(ru:Int)=(a:Int)+1:=by omega
 have WW:=Lib.hid (wraps_ok a b ru rr ss dd ha hb hru hrr hss hdd)
 have hdv:dd=ru * ru+b * b:=by omega
 have hdm:dd≤200000:=by omega
 have HN:=Lib.hid (fun (n:Int) W hG h0 h1=>lawNumI n W hG h0 h1)
 have HNQ:=Lib.hid (fun W hG=>lawNum_ok (Rat.divInt (b:Int) (ru:Int)) (b:Int) (ru:Int) W (OfI_ok (b:Int) ru W hG (by omega) (by omega) (by omega) (by omega)))
 have HON:=Lib.hid (fun x y W=>lawOne_ok x y W)
 obtain ⟨k1,k2,k3,k4,k5,k6⟩:=lenT_ok (D:=dd) (by omega) (by omega)
 have hcz:Sz 3 (Rat.divInt (b:Int) (ru:Int)):=sz_divInt (by omega) (by rw [Int.natAbs_natCast];exact Nat.lt_of_le_of_lt hb (by decide)) (by rw [Int.natAbs_natCast];exact Nat.lt_of_le_of_lt (show ru≤256 by omega) (by decide))
 have hun:=oneC_unit (hcz.mono (by decide))
 have hsq:=oneC_sq (n:=ru) (by omega) (Nat.lt_of_le_of_lt (show ru≤256 by omega) (by decide))
 rw [← hrr] at hsq
 have hbz:Sz 3 ((b:Nat):Rat):=sz_natR (Nat.lt_of_le_of_lt hb (by decide)) (by decide)
 have hrz:Sz 3 ((ru:Nat):Rat):=sz_natR (Nat.lt_of_le_of_lt (show ru≤256 by omega) (by decide)) (by decide)
 have hup:=oneC_unit (hbz.mono (by decide))
 have HM1:=Lib.hid (fun u W hG hP hu=>make1 ⟨#[49]⟩ (numS (((dd:Nat):Int):Rat)) u W hG hP k1 k2 one_list (numS_list _) hu)
 have HM2:=Lib.hid (fun u W hG hP hu=>make1 (numS (Rat.divInt (b:Int) (ru:Int))) ⟨#[49]⟩ u W hG hP hun.1 hun.2 (numS_list _) one_list hu)
 have HM3:=Lib.hid (fun u W hG hP hu=>make1 ⟨#[49]⟩ (numS (((rr:Nat):Int):Rat)) u W hG hP hsq.1 hsq.2 one_list (numS_list _) hu)
 have HM4:=Lib.hid (fun u W hG hP hu=>make1 (numS (((b:Nat):Int):Rat)) ⟨#[49]⟩ u W hG hP hup.1 hup.2 (numS_list _) one_list hu)
 have HRB:=Lib.hid (fun u v W hG hP hu hv=>lenReb ru b 0 (-1) ⟨#[48]⟩ (numS (((-1:Int)):Rat)) u v W hG hP (by omega) (by omega) hb (by decide +kernel) isR_zero ⟨numS_list _,⟨by decide +kernel,by decide +kernel⟩⟩ hu hv)
 rw [← hdv] at HRB
 have eX:oneL (0+((ru:Nat):Rat) * 0) 1=[]:=by
  rw [Rat.mul_zero,Rat.add_zero];rfl
 have eY:oneL (0+((ru:Nat):Rat) * (-1)) 1=oneL (((ru:Nat):Rat) * -1) 1:=by
  rw [Rat.zero_add]
 rw [eX,eY,Rat.zero_add] at HRB
 have hrn:Sz 4 (((ru:Nat):Rat) * -1):=hrz.mul (b:=1) ⟨by decide +kernel,by decide +kernel⟩
 have hsc:=oneC_unit (c:=((ru:Nat):Rat) * -1) (hrn.mono (by decide))
 have hTW:=hsq.1.is
 rw [hsq.2,oneT_ne (ne_of_pos (natR_pos (show 1≤ru by omega)))] at hTW
 have HSC:=Lib.hid (fun u W hG hP (hu:IsTerms W u (oneL ((ru:Nat):Rat) 1))=>(by
  have h:=Scale_ok [(((ru:Nat):Rat),1)] (-1) 1 (oneL ((ru:Nat):Rat) 1) u ⟨#[45,49]⟩ W hG hP hu hTW minusOne ⟨by decide +kernel,by decide +kernel⟩ hsc.1
  have e:gsum (scaledQ [(((ru:Nat):Rat),1)] (-1))=((ru:Nat):Rat) * -1:=hsc.2
  rw [e] at h
  exact h:Calls Tryz.prog 18 #[u,.string ⟨#[45,49]⟩] W (RetSd (oneL (((ru:Nat):Rat) * -1) 1) W)))
 have hdf:=oneC_diff (c:=((ru:Nat):Rat) * -1) (hrn.mono (by decide))
 have hdz:=oneC_diff (c:=((b:Nat):Rat)) (hbz.mono (by decide))
 have hiw:SurdIs (oneL (((ru:Nat):Rat) * -1) 1) (oneT (((ru:Nat):Rat) * -1) 1):=by have h:=(oneC_unit (c:=((ru:Nat):Rat) * -1) (hrn.mono (by decide))).1.is;rwa [(oneC_unit (c:=((ru:Nat):Rat) * -1) (hrn.mono (by decide))).2] at h
 have hiz:SurdIs (oneL ((b:Nat):Rat) 1) (oneT ((b:Nat):Rat) 1):=by have h:=hup.1.is;rwa [hup.2] at h
 have HC1:=Lib.hid (fun u v W hG hP hu hv=>CompareZ_ok _ _ 1 _ _ u v W hG hP hu hv hiw hiw hdf.1 hdf.2)
 have HC2:=Lib.hid (fun u v W hG hP hu hv=>CompareZ_ok _ _ 1 _ _ u v W hG hP hu hv hiz hiz hdz.1 hdz.2)
 have HAW:=Lib.hid (fun W hG hP=>awake56_ok W hG hP)
 have HG:=Lib.hid hG
 have HP:=Lib.hid hP
 obtain ⟨LL,hLL⟩:∃ L,oneL (lenT dd).1 (lenT dd).2=L:=⟨_,rfl⟩
 obtain ⟨LS,hLS⟩:∃ L,oneL (Rat.divInt (b:Int) (ru:Int)) 1=L:=⟨_,rfl⟩
 obtain ⟨LU,hLU⟩:∃ L,oneL ((b:Nat):Rat) 1=L:=⟨_,rfl⟩
 obtain ⟨LR,hLR⟩:∃ L,oneL ((ru:Nat):Rat) 1=L:=⟨_,rfl⟩
 rw [hLL] at HM1 HRB
 rw [hLS] at HM2 HRB
 rw [hLU] at HM4 HRB HC2
 rw [hLR] at HM3 HSC
 obtain ⟨LW,hLW⟩:∃ L,oneL (((ru:Nat):Rat) * -1) 1=L:=⟨_,rfl⟩
 rw [hLW] at HSC HRB HC1
 clear hLW hrn hsc hTW
 clear hG hP k1 k2 k3 k4 k5 k6 hcz hun hsq hbz hrz hup hdf hdz hiw hiz hLL hLS hLU hLR eX eY hdv hdd hss hrr
 obtain ⟨sD,hsD⟩:∃ s,numS (((dd:Nat):Int):Rat)=s:=⟨_,rfl⟩
 obtain ⟨sQ,hsQ⟩:∃ s,numS (Rat.divInt (b:Int) (ru:Int))=s:=⟨_,rfl⟩
 obtain ⟨sR,hsR⟩:∃ s,numS (((rr:Nat):Int):Rat)=s:=⟨_,rfl⟩
 obtain ⟨sB,hsB⟩:∃ s,numS (((b:Nat):Int):Rat)=s:=⟨_,rfl⟩
 rw [hsD] at HM1
 rw [hsQ] at HM2 HNQ
 rw [hsR] at HM3
 rw [hsB] at HM4
 have HND:=Lib.hid (fun W hG=>(by rw [← hsD];exact HN.out (dd:Int) W hG (by omega) (by omega):Calls Tryz.prog 14 #[.int .i64 (dd:Int),.int .i64 1] W (RetB (.string sD) W)))
 have HNR:=Lib.hid (fun W hG=>(by rw [← hsR];exact HN.out (rr:Int) W hG (by omega) (by omega):Calls Tryz.prog 14 #[.int .i64 (rr:Int),.int .i64 1] W (RetB (.string sR) W)))
 have HNB:=Lib.hid (fun W hG=>(by rw [← hsB];exact HN.out (b:Int) W hG (by omega) (by omega):Calls Tryz.prog 14 #[.int .i64 (b:Int),.int .i64 1] W (RetB (.string sB) W)))
 have HN1:=Lib.hid (fun W hG=>HN.out 1 W hG (by decide) (by decide))
 have HNM:=Lib.hid (fun W hG=>HN.out (-1) W hG (by decide) (by decide))
 generalize numS (((1:Int)):Rat)=s1 at *
 generalize numS (((-1:Int)):Rat)=sm at *
 rw [show ((ru:Nat):Int)=(a:Int)+1 from by omega] at HNQ
 clear HN hsD hsQ hsR hsB hr2 hs2 hr1 hdm hru q1
 obtain ⟨w1,w3,w4,w5,w7,w6⟩:=WW.out
 have hm5:=fun ts t w=>max5 (P:=Tryz.prog) ts t w
 have hm3:=fun ts t w=>max3 (P:=Tryz.prog) ts t w
 go_enter Tryz.func4,Tryz.ntmps4
 go_wp2_with fail
 refine (HN1.out _ HG.out).mono ?_
 rintro e v1 ⟨rfl,hB⟩
 have hb1:=hB
 clear hB
 go_wp2_with fail
 refine (HNM.out _ (HG.out.below hb1)).mono ?_
 rintro e v2 ⟨rfl,hB⟩
 replace hb1:=below_trans' hb1 hB
 clear hB
 go_wp2_with fail
 have hb2:Below w.heap.size w (v2.alloc (.cells #[.string ⟨#[48]⟩,.string sm,.string ⟨#[48]⟩] 37)):=bw4 hb1 _
 have x0:BoxT3 37 (v2.alloc (.cells #[.string ⟨#[48]⟩,.string sm,.string ⟨#[48]⟩] 37)) v2.heap.size (.string ⟨#[48]⟩) (.string sm) (.string ⟨#[48]⟩):=BoxT3.new rfl
 generalize (v2.alloc (.cells #[.string ⟨#[48]⟩,.string sm,.string ⟨#[48]⟩] 37))=W0 at *
 generalize v2.heap.size=bs at *
 clear hb1
 refine (HND.out _ (HG.out.below hb2)).mono ?_
 rintro e w1 ⟨rfl,hB⟩
 have hb3:=below_trans' hb2 hB
 replace x0:=x0.below hB
 clear hB hb2
 go_wp2_with fail
 refine (HON.out _ _ _).mono ?_
 rintro e w2 ⟨u,rfl,hu,hB⟩
 have hb4:=below_trans' hb3 hB
 replace x0:=x0.below hB
 clear hB hb3
 have Hu:=Lib.hid hu
 obtain ⟨ua,uc,rfl,_⟩:=hu
 go_wp2_with fail
 refine (HM1.out _ _ (HG.out.below hb4) (HP.out.below hb4) Hu.out).mono ?_
 rintro e w3 ⟨ll,rfl,hll,hB⟩
 have hb5:=below_trans' hb4 hB
 replace x0:=x0.below hB
 clear hB hb4
 have Hll:=Lib.hid hll
 obtain ⟨lla,llc,rfl,_⟩:=hll
 go_wp2_with fail
 refine (HNQ.out _ (HG.out.below hb5)).mono ?_
 rintro e w4 ⟨rfl,hB⟩
 have hb6:=below_trans' hb5 hB
 replace x0:=x0.below hB
 replace Hll:=Lib.hid (Hll.out.below hB)
 clear hB hb5
 go_wp2_with fail
 refine (HON.out _ _ _).mono ?_
 rintro e w5 ⟨u2,rfl,hu2,hB⟩
 have hb7:=below_trans' hb6 hB
 replace x0:=x0.below hB
 replace Hll:=Lib.hid (Hll.out.below hB)
 clear hB hb6
 have Hu2:=Lib.hid hu2
 obtain ⟨u2a,u2c,rfl,_⟩:=hu2
 go_wp2_with fail
 refine (HM2.out _ _ (HG.out.below hb7) (HP.out.below hb7) Hu2.out).mono ?_
 rintro e w6 ⟨ls,rfl,hls,hB⟩
 have hb8:=below_trans' hb7 hB
 replace x0:=x0.below hB
 replace Hll:=Lib.hid (Hll.out.below hB)
 clear hB hb7
 have Hls:=Lib.hid hls
 obtain ⟨lsa,lsc,rfl,_⟩:=hls
 have e0:=x0.c0
 have e1:=x0.c1
 have e2:=x0.c2
 go_wp2_with fail
 refine (HRB.out _ _ _ (HG.out.below hb8) (HP.out.below hb8) Hll.out Hls.out).mono ?_
 rintro e w7 ⟨mx,my,mz,rfl,hmx,hmy,hmz,hB⟩
 have hb9:=below_trans' hb8 hB
 clear hB hb8 e0 e1 e2 x0
 have Hmx:=Lib.hid hmx
 obtain ⟨mxa,mxc,rfl,_⟩:=hmx
 have Hmy:=Lib.hid hmy
 obtain ⟨mya,myc,rfl,_⟩:=hmy
 have Hmz:=Lib.hid hmz
 obtain ⟨mza,mzc,rfl,_⟩:=hmz
 go_wp2_with fail
 have hB:Below w7.heap.size w7 (w7.alloc (.cells #[.slice mxa 0 mxc,.slice mya LW.length myc,.slice mza LU.length mzc] 41)):=bw4 (bw0 _ _) _
 have x5:BoxT3 41 (w7.alloc (.cells #[.slice mxa 0 mxc,.slice mya LW.length myc,.slice mza LU.length mzc] 41)) w7.heap.size (.slice mxa 0 mxc) (.slice mya LW.length myc) (.slice mza LU.length mzc):=BoxT3.new rfl
 have hb10:=below_trans' hb9 hB
 replace Hmx:=Lib.hid (Hmx.out.below hB)
 replace Hmy:=Lib.hid (Hmy.out.below hB)
 replace Hmz:=Lib.hid (Hmz.out.below hB)
 clear hB hb9
 generalize w7.alloc (.cells #[.slice mxa 0 mxc,.slice mya LW.length myc,.slice mza LU.length mzc] 41)=W8 at *
 generalize w7.heap.size=bm at *
 refine (HNR.out _ (HG.out.below hb10)).mono ?_
 rintro e w9 ⟨rfl,hB⟩
 have hb11:=below_trans' hb10 hB
 replace x5:=x5.below hB
 replace Hmx:=Lib.hid (Hmx.out.below hB)
 replace Hmy:=Lib.hid (Hmy.out.below hB)
 replace Hmz:=Lib.hid (Hmz.out.below hB)
 clear hB hb10
 go_wp2_with fail
 refine (HON.out _ _ _).mono ?_
 rintro e w10 ⟨u3,rfl,hu3,hB⟩
 have hb12:=below_trans' hb11 hB
 replace x5:=x5.below hB
 replace Hmx:=Lib.hid (Hmx.out.below hB)
 replace Hmy:=Lib.hid (Hmy.out.below hB)
 replace Hmz:=Lib.hid (Hmz.out.below hB)
 clear hB hb11
 have Hu3:=Lib.hid hu3
 obtain ⟨u3a,u3c,rfl,_⟩:=hu3
 go_wp2_with fail
 refine (HM3.out _ _ (HG.out.below hb12) (HP.out.below hb12) Hu3.out).mono ?_
 rintro e w11 ⟨lr,rfl,hlr,hB⟩
 have hb13:=below_trans' hb12 hB
 replace x5:=x5.below hB
 replace Hmx:=Lib.hid (Hmx.out.below hB)
 replace Hmy:=Lib.hid (Hmy.out.below hB)
 replace Hmz:=Lib.hid (Hmz.out.below hB)
 clear hB hb12
 have Hlr:=Lib.hid hlr
 obtain ⟨lra,lrc,rfl,_⟩:=hlr
 go_wp2_with fail
 refine (HNB.out _ (HG.out.below hb13)).mono ?_
 rintro e w12 ⟨rfl,hB⟩
 have hb14:=below_trans' hb13 hB
 replace x5:=x5.below hB
 replace Hmx:=Lib.hid (Hmx.out.below hB)
 replace Hmy:=Lib.hid (Hmy.out.below hB)
 replace Hmz:=Lib.hid (Hmz.out.below hB)
 replace Hlr:=Lib.hid (Hlr.out.below hB)
 clear hB hb13
 go_wp2_with fail
 refine (HON.out _ _ _).mono ?_
 rintro e w13 ⟨u4,rfl,hu4,hB⟩
 have hb15:=below_trans' hb14 hB
 replace x5:=x5.below hB
 replace Hmx:=Lib.hid (Hmx.out.below hB)
 replace Hmy:=Lib.hid (Hmy.out.below hB)
 replace Hmz:=Lib.hid (Hmz.out.below hB)
 replace Hlr:=Lib.hid (Hlr.out.below hB)
 clear hB hb14
 have Hu4:=Lib.hid hu4
 obtain ⟨u4a,u4c,rfl,_⟩:=hu4
 go_wp2_with fail
 refine (HM4.out _ _ (HG.out.below hb15) (HP.out.below hb15) Hu4.out).mono ?_
 rintro e w14 ⟨lu,rfl,hlu,hB⟩
 have hb16:=below_trans' hb15 hB
 replace x5:=x5.below hB
 replace Hmx:=Lib.hid (Hmx.out.below hB)
 replace Hmy:=Lib.hid (Hmy.out.below hB)
 replace Hmz:=Lib.hid (Hmz.out.below hB)
 replace Hlr:=Lib.hid (Hlr.out.below hB)
 clear hB hb15
 have Hlu:=Lib.hid hlu
 obtain ⟨lua,luc,rfl,_⟩:=hlu
 go_wp2_with fail
 refine (HSC.out _ _ (HG.out.below hb16) (HP.out.below hb16) Hlr.out).mono ?_
 rintro e w15 ⟨lw,rfl,hlw,hB⟩
 have hb17:=below_trans' hb16 hB
 replace x5:=x5.below hB
 replace Hmx:=Lib.hid (Hmx.out.below hB)
 replace Hmy:=Lib.hid (Hmy.out.below hB)
 replace Hmz:=Lib.hid (Hmz.out.below hB)
 replace Hlu:=Lib.hid (Hlu.out.below hB)
 clear hB hb16
 have Hlw:=Lib.hid hlw
 obtain ⟨lwa,lwc,rfl,_⟩:=hlw
 have f0:=x5.c0
 have f1:=x5.c1
 go_wp2_with fail
 go_quiet (fail)
 go_wp2_with fail
 have hdr:Below w15.heap.size w15 (w15.drewN nq):=bw2 (bw0 _ _) _
 have hB:=hdr
 have hb18:=below_trans' hb17 hB
 replace x5:=x5.below hB
 replace Hmx:=Lib.hid (Hmx.out.below hB)
 replace Hmy:=Lib.hid (Hmy.out.below hB)
 replace Hmz:=Lib.hid (Hmz.out.below hB)
 replace Hlu:=Lib.hid (Hlu.out.below hB)
 replace Hlw:=Lib.hid (Hlw.out.below hB)
 clear hB hb17
 clear hdr f0 f1
 generalize w15.drewN nq=W18 at *
 refine (HC1.out _ _ _ (HG.out.below hb18) (HP.out.below hb18) Hmy.out Hlw.out).mono ?_
 rintro e w19 ⟨rfl,hB⟩
 have hb19:=below_trans' hb18 hB
 replace x5:=x5.below hB
 replace Hmx:=Lib.hid (Hmx.out.below hB)
 replace Hmy:=Lib.hid (Hmy.out.below hB)
 replace Hmz:=Lib.hid (Hmz.out.below hB)
 replace Hlu:=Lib.hid (Hlu.out.below hB)
 clear hB hb18
 have f2:=x5.c2
 go_wp2_with fail
 refine (HC2.out _ _ _ (HG.out.below hb19) (HP.out.below hb19) Hmz.out Hlu.out).mono ?_
 rintro e w20 ⟨rfl,hB⟩
 have hb20:=below_trans' hb19 hB
 replace x5:=x5.below hB
 replace Hmx:=Lib.hid (Hmx.out.below hB)
 replace Hmy:=Lib.hid (Hmy.out.below hB)
 replace Hmz:=Lib.hid (Hmz.out.below hB)
 clear hB hb19
 go_wp2_with fail
 refine (HAW.out _ (HG.out.below hb20) (HP.out.below hb20)).mono ?_
 rintro e w21 ⟨rfl,hB⟩
 have hb21:=below_trans' hb20 hB
 clear hB hb20
 go_wp2_with fail
 go_ret
 exact ⟨rfl,hb21⟩
theorem lengthsLaw (a b:Int) (up back:Bool) (w:World) (hG:Glo w) (hP:Pri w) (ha0:0≤a) (ha:a≤255) (hb0:0≤b) (hb:b≤255) :
  Calls Tryz.prog 4 #[.int .u8 a,.int .u8 b,.bool up,.bool back] w (RetB (.bool true) w):=by
 obtain ⟨x,rfl⟩:∃ x:Nat,a=(x:Int):=⟨a.toNat,by omega⟩
 obtain ⟨y,rfl⟩:∃ y:Nat,b=(y:Int):=⟨b.toNat,by omega⟩
 cases up<;>cases back
 ·exact lengths_ff x y _ _ _ _ w hG hP (by omega) (by omega) rfl rfl rfl rfl
 ·exact lengths_ft x y _ _ _ _ w hG hP (by omega) (by omega) rfl rfl rfl rfl
 ·exact lengths_tf x y _ _ _ _ w hG hP (by omega) (by omega) rfl rfl rfl rfl
 ·exact lengths_tt x y _ _ _ _ w hG hP (by omega) (by omega) rfl rfl rfl rfl
end Go.Proofs.YtbbclfbpllbbbaaGreatDoor
