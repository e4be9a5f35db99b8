/- Joined texts: WRoot, WDivX, WBigOps2, WFlow, RatPlain, WRatL, WRatM, WRatN, WFlowL, WPartsQ. -/
import Derived.Test.YtbbclfbpllbbbaaGreatDoorJ06
import Derived.Test.YtbbclfbpllbbbaaGreatDoorJ01
import Derived.Test.YtbbclfbpllbbbaaGreatDoorJ02
set_option maxRecDepth 100000
set_option linter.unusedVariables false
set_option linter.unusedSimpArgs false
set_option maxHeartbeats 12800000
namespace Go.Proofs.YtbbclfbpllbbbaaGreatDoor
open Go.RowKit Go.Shelf
theorem quo_nat (n x:Nat):((n:Int)).tdiv (x:Int)=((n / x:Nat):Int):=by rw [Int.tdiv_eq_ediv_of_nonneg (by omega)];simp
theorem smallRoot_ok (n:Nat) (s:ByteArray) (w:World) (hG:Glo w) (hs:s.data.toList=Lib.decDigits n) (h1:1≤n) (hl:s.size≤18) :
  Calls Tryz.prog 209 #[.string s] w (RetI (rootN n:Nat) w):=by
 have hn:n < 10 ^ 18:=pow_le_of_lt (by rw [← hs];exact hl)
 have hat:Lib.atoiAll s.data.toList=.ok (n:Int):=by rw [hs,← itoa_natCast];exact atoi_itoa (by omega) (by omega)
 have hn':n < 1000000000000000000:=hn
 have HAT:=Lib.hid hat
 have HG:=Lib.hid hG
 have hsz:s.size≤1000:=by omega
 clear hs hat hG hn
 go_enter Tryz.func209,Tryz.ntmps209
 go_wp2_with fail
 refine (atoi_any s _ (by omega) HAT.out).mono ?_
 rintro e w1 ⟨rfl,hB1⟩
 have hb1:Below w.heap.size w w1:=qbl
 clear hB1 HAT
 go_wp2_with fail
 go_loopw [6] (fun x wr=>∃ X:Nat,x=.int .i64 X∧1≤X∧X≤2000000000∧Below w.heap.size w wr) (fun x _=>2000000001 - (intOf x).toNat)
 case atStart=>exact ⟨1,rfl,by omega,by omega,hb1⟩
 case round =>
  obtain ⟨X,rfl,x1,x2,hB⟩:=hrel
  have hq:=quo_nat n X
  have hx0:¬ ((X:Int)=0):=by omega
  have hQ0:n / X≤n:=Nat.div_le_self _ _
  by_cases hlt:X < n / X
  ·have hX:X≤1000000000:=by
    refine Nat.le_of_not_lt fun hc=>?_
    have h3:n / X < X:=Nat.div_lt_of_lt_mul (Nat.lt_of_lt_of_le hn' (Nat.mul_le_mul (show 1000000000≤X by omega) (show 1000000000≤X by omega)))
    omega
   generalize n / X=Q at *
   have hltI:(X:Int) < (Q:Int):=by omega
   have hw:IntKind.i64.wrap ((X:Int) * 2)=(X:Int) * 2:=IntWalk.i64_in _ (by omega)
   have hwq:IntKind.i64.wrap (Q:Int)=(Q:Int):=IntWalk.i64_in _ (by omega)
   clear hlt hQ0
   go_wp2_with fail
   go_roundw
   case rel=>exact ⟨X * 2,by go_num,by omega,by omega,hB⟩
   case measure=>simp [intOf];omega
  ·have HLE:=Lib.hid (rootN_half x1 (Nat.not_lt.1 hlt))
   generalize n / X=Q at *
   have hltI:¬ (X:Int) < (Q:Int):=by omega
   have hwq:IntKind.i64.wrap (Q:Int)=(Q:Int):=IntWalk.i64_in _ (by omega)
   clear hlt hQ0
   go_wp2_with fail
   go_loopw [6] (fun x wr=>∃ Y:Nat,x=.int .i64 Y∧1≤Y∧Y≤2000000000∧Hid (rootN n≤Y)∧Below w.heap.size w wr) (fun x _=>(intOf x).toNat)
   case atStart=>exact ⟨X,rfl,x1,x2,HLE,hB⟩
   case round =>
    clear hB hq hltI hx0 hwq
    obtain ⟨Y,rfl,y1,y2,HY,hB⟩:=hrel
    have hq:=quo_nat n Y
    have hy0:¬ ((Y:Int)=0):=by omega
    have hQ2:n / Y≤1000000000000000000:=Nat.le_trans (Nat.div_le_self _ _) (by omega)
    obtain ⟨Z,hZ⟩:∃ Z,(Y+n / Y) / 2=Z:=⟨_,rfl⟩
    have HN1:=Lib.hid (newton_ge n y1)
    have HN2:=Lib.hid (fun h=>newton_eq (n:=n) HY.out h)
    rw [hZ] at HN1 HN2
    obtain ⟨Q,hQ⟩:∃ Q,n / Y=Q:=⟨_,rfl⟩
    rw [hQ] at hq hQ2 hZ
    have hw1:IntKind.i64.wrap ((Y:Int)+(Q:Int))=(Y:Int)+(Q:Int):=IntWalk.i64_in _ (by omega)
    have hq2:((Y:Int)+(Q:Int)).tdiv 2=(Z:Int):=by rw [Int.tdiv_eq_ediv_of_nonneg (by omega)];omega
    have hwz:IntKind.i64.wrap (Z:Int)=(Z:Int):=IntWalk.i64_in _ (by omega)
    have hwq:IntKind.i64.wrap (Q:Int)=(Q:Int):=IntWalk.i64_in _ (by omega)
    clear hQ hQ2
    by_cases hge:Y≤Z
    ·have HR:=Lib.hid (HN2.out hge)
     have hgeI:(Y:Int)≤(Z:Int):=by omega
     clear hge HN1 HN2
     go_wp2_with fail
     refine (itoa_any (Y:Int) (by omega) (by omega) _ (HG.out.below hB)).mono ?_
     rintro e w2 ⟨r,hr,rfl,hB2⟩
     have HX:=Lib.hid hr
     have hb2:=below_trans' hB hB2
     clear hr hB2
     go_wp2_with fail
     go_ret2
     exact ⟨r,by rw [HR.out];exact HX.out,rfl,hb2⟩
    ·have hgeI:¬ (Y:Int)≤(Z:Int):=by omega
     have hz1:1≤Z:=Nat.le_trans (le_rootN (by omega)) HN1.out
     clear HN2
     go_wp2_with fail
     go_roundw
     case rel=>exact ⟨Z,rfl,hz1,by omega,HN1,hB⟩
     case measure=>simp [intOf];omega
theorem num_len {l:List Int} {x:Int} {k:Nat} (h:Num l x) (hx:x < pw k):l.length≤k:=by
 refine Nat.le_of_not_lt fun hc=>?_
 have h0:l.length≠0:=by omega
 have h1:=h.low h0
 have h2:=pw_mono (show k≤l.length - 1 by omega)
 omega
theorem dec_pow10 (k:Nat):Lib.decDigits (10 ^ k)=49::List.replicate k 48:=by
 have h:=decDigits_cat (N:=1) (x:=0) (m:=k) (by decide) (Nat.pow_pos (by decide))
 rw [Nat.one_mul,Nat.add_zero] at h
 rw [h,show Lib.decDigits 1=[49] by decide +kernel]
 cases k with
 | zero=>rfl
 | succ k =>
  rw [pad_eq (Nat.pow_pos (by decide)),show Lib.decDigits 0=[48] by decide +kernel]
  simp [List.replicate_succ']
theorem repeat0_any (K:Nat) (w:World) (hK:K≤1000):Calls Tryz.prog 166 #[.string ⟨#[48]⟩,.int .i64 K] w fun e w'=>∃ r:ByteArray,r.data.toList=List.replicate K 48∧e=.returned (.string r)∧Below w.heap.size w w' :=
 (Tryz.strings_Repeat ⟨#[48]⟩ K w (by omega) (by show 1 * K≤_;omega)).mono fun _ _ ⟨he,hB⟩=>⟨⟨(Lib.repeatL [48] K).toArray⟩,by show (Lib.repeatL [48] K).toArray.toList=_;rw [List.toList_toArray,repeat_zero],he,hB⟩
theorem dec_len_mono {n m K:Nat} (h:n≤m) (hK:1≤K) (hm:(Lib.decDigits m).length≤K):(Lib.decDigits n).length≤K:=by
 have h1:=pow_le_of_lt hm
 rw [Lib.decDigits_length]
 exact nDigits_le_of_lt (Nat.lt_of_le_of_lt h h1) hK
theorem fit_lt {n m:Nat} (h:n≤m) (hm:Fit (m:Int)):Fit (n:Int):=by
 unfold Fit at *
 rw [Int.natAbs_natCast] at *
 exact dec_len_mono h (by decide) hm
theorem fit_root {n:Nat} {s:ByteArray} (hs:s.data.toList=Lib.decDigits n) (hl:s.size≤300):Fit ((rootN n:Nat):Int) :=
 fit_lt (Nat.le_trans (Nat.le_mul_self _) (rootN_spec n).1) (by unfold Fit;rw [Int.natAbs_natCast,← hs];exact hl)
theorem num_two:Num [2] 2:=num_one (by omega) (by omega)
theorem Root_ok (n:Nat) (s:ByteArray) (w:World) (hG:Glo w) (hs:s.data.toList=Lib.decDigits n) (hl:s.size≤300) :
  Calls Tryz.prog 167 #[.string s] w (RetI (rootN n:Nat) w):=by
 have hsi:s.data.toList=Lib.itoa (n:Int):=by rw [hs,itoa_natCast]
 have hF:Fit (n:Int):=by unfold Fit;rw [Int.natAbs_natCast,← hs];exact hl
 have HS:=Lib.hid hsi
 have HG:=Lib.hid hG
 have h0:0 < s.size:=by
  have:=decDigits_ne n
  rw [← hs] at this
  exact Nat.pos_of_ne_zero fun h=>this (List.length_eq_zero_iff.1 h)
 have h45:((s[0].toNat:Int) == 45)=false:=by
  refine Bool.eq_false_iff.2 fun h'=>?_
  have h2:=headq45 h0 h'
  rw [hs] at h2
  exact decDigits_no45 n [] (by rw [List.append_nil];exact h2)
 have HC:=Lib.hid (fun W=>ICheck_ok (n:Int) s W hsi hF)
 by_cases hn0:n=0
 ·subst hn0
  have e:s.toList=[48]:=by rw [Lib.toList_data,hs];decide +kernel
  have HR:Hid (s.data.toList=Lib.itoa ((rootN 0:Nat):Int)):=Lib.hid (by rw [hsi];rfl)
  have hE:(s.toList == [48])=true:=by rw [e];rfl
  clear hs hsi hF hG
  go_enter Tryz.func167,Tryz.ntmps167
  go_wp2_with fail
  refine (HC.out _).mono ?_
  rintro e w1 ⟨rfl,hB1⟩
  go_wp2_with fail
  go_ret2
  exact ⟨s,HR.out,rfl,qbl⟩
 ·have hE:(s.toList == [48])=false:=by
   rw [Lib.toList_data,hs]
   have:=dec_ne_zero (n:=n) (by omega)
   simpa using this
  by_cases h18:s.size≤18
  ·have HSR:=Lib.hid (fun W hG=>smallRoot_ok n s W hG hs (by omega) h18)
   have HRD:=Lib.hid (fun W=>iread_ok (n:Int) s W hsi (by omega))
   have h18':(s.size:Int)≤18:=by omega
   have hfd:=run_fieldN
   clear hs hsi hF hG
   go_enter Tryz.func167,Tryz.ntmps167
   go_wp2_with fail
   refine (HC.out _).mono ?_
   rintro e w1 ⟨rfl,hB1⟩
   have hb1:Below w.heap.size w w1:=qbl
   clear hB1
   go_wp2_with fail
   refine (HRD.out _).mono ?_
   rintro e w2 ⟨v1,rfl,hv1,hB2⟩
   have hb2:=below_trans' hb1 hB2
   obtain ⟨m1,a1,l1,c1,n1,rfl,i1,d1,z1,q1⟩:=hv1.parts
   clear hv1 hB2 i1 d1 z1 q1
   go_wp2_with fail
   refine (HSR.out _ (HG.out.below hb2)).mono ?_
   rintro e w3 ⟨r,hr,rfl,hB3⟩
   have hb3:=below_trans' hb2 hB3
   have HR:=Lib.hid hr
   clear hr hB3
   go_wp2_with fail
   go_ret2
   exact ⟨r,HR.out,rfl,hb3⟩
  ·have h18':decide ((s.size:Int)≤18)=false:=by simp;omega
   obtain ⟨K,hK⟩:∃ K,(s.size+1) / 2=K:=⟨_,rfl⟩
   have hK1:K≤150:=by omega
   have hn2:n < 10 ^ (2 * K):=Nat.lt_of_lt_of_le (pow_le_of_lt (k:=s.size) (by rw [← hs];exact Nat.le_refl _)) (Nat.pow_le_pow_right (by decide) (by omega))
   have hX0:=rootN_pow hn2
   have HRD:=Lib.hid (fun W=>iread_ok (n:Int) s W hsi (by omega))
   have HRP:=Lib.hid (fun W=>repeat0_any K W (by omega))
   have HTX:=Lib.hid (fun (r:ByteArray) (hr:r.data.toList=List.replicate K 48)=>(by
    rw [itoa_natCast,dec_pow10,← hr];simp:((⟨#[49]⟩:ByteArray)++r).data.toList=Lib.itoa ((10 ^ K:Nat):Int)))
   have hB10:((10 ^ K:Nat):Int) < pw 17:=by
    rw [pw_ten]
    exact_mod_cast Nat.lt_of_le_of_lt (Nat.pow_le_pow_right (by decide) hK1) (Nat.pow_lt_pow_right (by decide) (show 150 < 9 * 17 by decide))
   have hdk:(((s.size:Int)+1)).tdiv 2=(K:Int):=by rw [Int.tdiv_eq_ediv_of_nonneg (by omega)];omega
   have hwk:IntKind.i64.wrap ((s.size:Int)+1)=(s.size:Int)+1:=IntWalk.i64_in _ (by omega)
   have hwk2:IntKind.i64.wrap (K:Int)=(K:Int):=IntWalk.i64_in _ (by omega)
   have hX1:1≤10 ^ K:=Nat.pow_pos (by decide)
   have hlen34:s.size≤306:=by omega
   have HN0:=Lib.hid hn0
   have HFT:=Lib.hid (fit_root hs hl)
   obtain ⟨X0,hX00⟩:∃ X,10 ^ K=X:=⟨_,rfl⟩
   rw [hX00] at hX0 HTX hB10 hX1
   have HRX0:=Lib.hid hX0
   have HB10:=Lib.hid hB10
   have HX1:=Lib.hid hX1
   clear hs hsi hF hG hn2 hK hX00 hX0 hB10 hX1
   go_enter Tryz.func167,Tryz.ntmps167
   go_wp2_with fail
   refine (HC.out _).mono ?_
   rintro e w1 ⟨rfl,hB1⟩
   have hb1:Below w.heap.size w w1:=qbl
   clear hB1
   go_wp2_with fail
   refine (HRD.out _).mono ?_
   rintro e w2 ⟨v1,rfl,hv1,hB2⟩
   have hb2:=below_trans' hb1 hB2
   obtain ⟨m1,a1,l1,c1,n1,rfl,i1,d1,z1,q1⟩:=hv1.parts
   have HI1:=Lib.hid i1
   have HD1:=Lib.hid d1
   have hnn:=d1.high.1
   have HN1:Hid (n1=(n:Int)):=Lib.hid (by cases m1<;>simp [sgnV] at z1<;>omega)
   have hl1:l1.length≤34:=by omega
   clear hv1 hB2 i1 d1 z1 q1 hb1 hnn HRD
   have hfd:=run_fieldN (.bool m1) a1 l1.length c1 w2
   go_wp2_with fail
   refine (HRP.out _).mono ?_
   rintro e w3 ⟨r3,hr3,rfl,hB3⟩
   have hb3:Below w.heap.size w w3:=below_trans' hb2 hB3
   have HT3:=Lib.hid (HTX.out r3 hr3)
   have HS3:Hid (((⟨#[49]⟩:ByteArray)++r3).size≤151):=Lib.hid (by
    have h1:((⟨#[49]⟩:ByteArray)++r3).size=((⟨#[49]⟩:ByteArray)++r3).data.toList.length:=rfl
    rw [h1];simp [hr3];omega)
   have hz3:r3.size≤150:=by
    have h1:r3.size=r3.data.toList.length:=rfl
    rw [h1,hr3];simp;omega
   clear hr3
   have HI1:=Lib.hid (HI1.out.below hB3)
   clear hB3 HRP hfd
   go_wp2_with fail
   generalize ((⟨#[49]⟩:ByteArray)++r3)=TX at *
   refine (iread_ok (X0:Int) TX _ HT3.out (by have:=HS3.out;omega)).mono ?_
   rintro e w4 ⟨v2,rfl,hv2,hB4⟩
   have hb4:Below w.heap.size w w4:=below_trans' hb3 hB4
   obtain ⟨m2,a2,l2,c2,n2,rfl,i2,d2,z2,q2⟩:=hv2.parts
   have HI1:=Lib.hid (HI1.out.below hB4)
   have HI2:=Lib.hid i2
   have hnn:=d2.high.1
   have hn2:n2=(X0:Int):=by cases m2<;>simp [sgnV] at z2<;>omega
   have HD2:Hid (Num l2 (X0:Int)):=Lib.hid (by rw [← hn2];exact d2)
   have hl2:l2.length≤17:=num_len HD2.out HB10.out
   have hfd:=run_fieldN (.bool m2) a2 l2.length c2 w4
   have HD1':Hid (Num l1 (n:Int)):=Lib.hid (by rw [← HN1.out];exact HD1.out)
   clear hv2 hB4 i2 d2 z2 q2 hnn hn2 HT3 HS3 hb3 hb2 HD1
   go_wp2_with fail
   clear hfd
   go_loopg [6] X0 (fun g x wr=>∃ (X:Nat) (l:List Int) (p:Option Addr) (c:Nat),X=g∧x=.slice p l.length c∧Hid (IsInts wr (.slice p l.length c) l)∧Hid (Num l (X:Int))∧l.length≤17∧Hid (rootN n≤X)∧Hid ((X:Int) < pw 17)∧Below w4.heap.size w4 wr)
   case atStart=>exact ⟨X0,l2,a2,c2,rfl,rfl,HI2,HD2,hl2,HRX0,HB10,bw0 _ _⟩
   case round =>
    clear HI2 HD2 hl2 HRX0 HB10
    obtain ⟨X,l,p,c,hgX,rfl,HI,HD,hl,HR,HB,hBr⟩:=hrel
    subst hgX
    have hX1:1≤X:=Nat.le_trans (le_rootN (by have:=HN0.out;omega)) HR.out
    have HXP:=Lib.hid hX1
    have hbr:=hb4.trans (hBr.mono hb4.size)
    have HDV:=Lib.hid (divideL_ok _ _ wr (HI1.out.below hBr) HI.out HD1'.out HD.out (by omega) (by omega) (by omega))
    obtain ⟨Z,hZ⟩:∃ Z,(X+n / X) / 2=Z:=⟨_,rfl⟩
    have HNG:=Lib.hid (newton_ge n hX1)
    have HNE:=Lib.hid (fun h=>newton_eq (n:=n) HR.out h)
    rw [hZ] at HNG HNE
    have HZ:=Lib.hid hZ
    clear hZ hX1
    go_wp2_with fail
    refine HDV.out.mono ?_
    rintro e wd ⟨lq,vq,lr,vr,rfl,iq,ir,nq,nr,kq,kr,hBd⟩
    obtain ⟨qa,qc,rfl⟩:=iq.slice
    obtain ⟨ra,rc,rfl⟩:=ir.slice
    have HIX:=Lib.hid (HI.out.below hBd)
    have HPL:=Lib.hid (plusL_ok _ _ wd HIX.out iq HD.out nq (by omega) (by omega))
    have hBd2:=below_trans' hBr hBd
    clear iq ir nq nr kr hBd HDV hBr hbr
    go_wp2_with fail
    refine HPL.out.mono ?_
    rintro e ws ⟨ls,vs,rfl,os,ns,ks,hBs⟩
    obtain ⟨sa,sc,rfl⟩:=os.is.slice
    have HIX:=Lib.hid (HIX.out.below hBs)
    have hBs2:=below_trans' hBd2 hBs
    have HIS:=Lib.hid (os.is.below (bw4 (bw0 _ _) (.cells #[.int .i64 2] 3)))
    have HNS:=Lib.hid ns
    have hks:ls.length≤40:=by omega
    clear os ns ks hBs HPL hBd2
    go_wp2_with fail
    have h2i:IsInts (ws.alloc (.cells #[.int .i64 2] 3)) (.slice (some ⟨ws.heap.size,0,none⟩) 1 1) [2]:=⟨some ⟨ws.heap.size,0,none⟩,1,rfl,by decide,fun _=>⟨ws.heap.size,0,rfl,fun k hk=>by
     obtain rfl:k=0:=by simp at hk;omega
     simp [go_sem,lim]⟩⟩
    have HDV:=Lib.hid (divideL_ok _ _ _ HIS.out h2i HNS.out num_two (by omega) (by decide) (by decide))
    have HB3:Below w4.heap.size w4 (ws.alloc (.cells #[.int .i64 2] 3)):=bw4 hBs2 _
    have HIX:=Lib.hid (HIX.out.below (bw4 (bw0 _ _) (.cells #[.int .i64 2] 3)))
    clear h2i HIS HNS hBs2
    refine HDV.out.mono ?_
    rintro e we ⟨ln,vn,lm,vm,rfl,inn,imm,nn,nm,kn,km,hBe⟩
    obtain ⟨na,nc,rfl⟩:=inn.slice
    obtain ⟨ma,mc,rfl⟩:=imm.slice
    have eZ:(((X:Int)+(n:Int) / (X:Int)) / 2)=(Z:Int):=by
     rw [← HZ.out];push_cast;rfl
    rw [eZ] at nn
    have HNZ:=Lib.hid nn
    have HIN:=Lib.hid inn
    have HIX:=Lib.hid (HIX.out.below hBe)
    have HBe:=below_trans' HB3 hBe
    have hln:ln.length≤41:=by omega
    have HCM:=Lib.hid (compareL_ok _ _ we inn HIX.out nn HD.out (by omega) (by omega))
    clear inn imm nn nm kn km hBe HB3 HDV eZ
    go_wp2_with fail
    refine HCM.out.mono ?_
    rintro e wf ⟨r,rfl,hr1,hr2,hBf⟩
    have HBf:=below_trans' HBe hBf
    by_cases hge:0≤r
    ·have HRX:Hid (rootN n=X):=Lib.hid (HNE.out (by
      refine Nat.le_of_not_lt fun hc=>?_
      have:=hr1.2 (by omega)
      omega))
     have hgb:decide (0≤r)=true:=by simpa using hge
     have HBG:Hid (IsBig wf (.agg #[.bool false,.slice p l.length c]) (X:Int) 17):=Lib.hid ⟨false,_,l,X,rfl,HIX.out.below hBf,HD.out,rfl,hl⟩
     clear hr1 hr2 hBf HCM hge
     go_wp2_with fail
     refine (result_ok _ _ (HG.out.below (hb4.trans (HBf.mono hb4.size))) HBG.out (by omega)).mono ?_
     intro e wg hrr
     obtain ⟨rr,hr9,rfl,hBg⟩:=hrr.1 (by rw [← HRX.out];exact HFT.out)
     have HRR:=Lib.hid hr9
     clear hr9 hrr
     go_wp2_with fail
     go_ret2
     exact ⟨rr,by rw [HRX.out];exact HRR.out,rfl,below_trans' (hb4.trans (HBf.mono hb4.size)) hBg⟩
    ·have hgb:decide (0≤r)=false:=by simpa using hge
     have hlt:Z < X:=by
      have:=hr1.1 (by omega)
      omega
     have hZB:Hid ((Z:Int) < pw 17):=Lib.hid (by have:=HB.out;omega)
     have hl17:ln.length≤17:=num_len HNZ.out hZB.out
     have HIN:=Lib.hid (HIN.out.below hBf)
     clear hr1 hr2 hBf HCM hge
     go_wp2_with fail
     go_roundg Z
     case rel=>exact ⟨Z,ln,na,nc,rfl,rfl,HIN,HNZ,hl17,HNG,hZB,HBf⟩
     case measure=>omega
end Go.Proofs.YtbbclfbpllbbbaaGreatDoor
namespace Go.Proofs.YtbbclfbpllbbbaaGreatDoor
open Go.RowKit Go.Shelf
def RetQR (q r:Int) (w:World) (e:Ending) (w':World):Prop:=∃ a b:ByteArray,a.data.toList=Lib.itoa q∧b.data.toList=Lib.itoa r∧e=.returned (.tuple #[.string a,.string b,.int .i64 0])∧Below w.heap.size w w'
theorem sgn_div {m:Bool} {n y:Int} (hy:0 < y) (hc:n % y=0∨m=false):sgnV m n / y=sgnV m (n / y)∧sgnV m n % y=n % y:=by
 cases m
 ·exact ⟨rfl,rfl⟩
 ·have h0:n % y=0:=hc.resolve_right (by simp)
  have hd:y ∣ n:=Int.dvd_of_emod_eq_zero h0
  refine ⟨?_,?_⟩
  ·show -n / y=-(n / y)
   exact Int.neg_ediv_of_dvd hd
  ·show -n % y=n % y
   rw [h0]
   exact Int.emod_eq_zero_of_dvd (Int.dvd_neg.2 hd)
theorem fit_le {a b:Int} (h:a.natAbs≤b.natAbs) (hb:Fit b):Fit a:=fit_of_lt (Nat.lt_of_le_of_lt h ((fit_iff b).1 hb))
theorem IDivide_ok (x y:Int) (s t:ByteArray) (w:World) (hG:Glo w) (hs:s.data.toList=Lib.itoa x) (hx:Fit x) (ht:t.data.toList=Lib.itoa y) (hy:Fit y) (hy0:0 < y) (hc:x % y=0∨0≤x) :
  Calls Tryz.prog 119 #[.string s,.string t] w (RetQR (x / y) (x % y) w):=by
 have hsz:=fit_size hs hx
 have htz:=fit_size ht hy
 by_cases hb:s.size≤18∧t.size≤18
 ·exact Divide_small x y s t w hG hs hb.1 ht hb.2 hy0
 ·have hne:(t.toList == [48])=false:=ne_of_list ht (itoa_ne0 (by omega))
  have hfq:Fit (x / y):=fit_le (by
   rcases hc with h|h
   ·have e:x=x / y * y:=by have:=Int.mul_ediv_add_emod x y;rw [h] at this;rw [Int.mul_comm];omega
    rw [e,Int.mul_ediv_cancel _ (by omega),Int.natAbs_mul]
    exact Nat.le_mul_of_pos_right _ (by omega)
   ·have h1:=Int.ediv_nonneg h (show 0≤y by omega)
    have h2:=Int.ediv_le_self y h
    omega) hx
  have hfr:Fit (x % y):=fit_le (by
   have h1:=Int.emod_nonneg x (show y≠0 by omega)
   have h2:=Int.emod_lt_of_pos x hy0
   omega) hy
  have HS:=Lib.hid hs
  have HT:=Lib.hid ht
  have HX:=Lib.hid hx
  have HY:=Lib.hid hy
  have HG:=Lib.hid hG
  have HFQ:=Lib.hid hfq
  have HFR:=Lib.hid hfr
  clear hs ht hx hy hG hfq hfr
  go_enter Tryz.func119,Tryz.ntmps119
  go_wp2_with fail
  refine (Iboth_ok x y s t _ HS.out HX.out HT.out HY.out).mono ?_
  rintro e w1 ⟨rfl,hB1⟩
  go_wp2_with fail
  refine (small_long s t _ (by omega)).mono ?_
  rintro e w2 ⟨rfl,hB2⟩
  have hb2:Below w.heap.size w w2:=qbl
  clear hB1 hB2
  go_wp2_with fail
  refine (iread_ok x s _ HS.out (by omega)).mono ?_
  rintro e w3 ⟨v1,rfl,hv1,hB3⟩
  have hb3:Below w.heap.size w w3:=below_trans' hb2 hB3
  obtain ⟨m1,a1,l1,c1,n1,rfl,i1,d1,z1,q1⟩:=hv1.parts
  have HI1:=Lib.hid i1
  have Z1:=Lib.hid z1
  clear hv1 hB3 i1 z1
  go_wp2_with fail
  refine (iread_ok y t _ HT.out (by omega)).mono ?_
  rintro e w4 ⟨v2,rfl,hv2,hB4⟩
  have hb4:Below w.heap.size w w4:=below_trans' hb3 hB4
  obtain ⟨m2,a2,l2,c2,n2,rfl,i2,d2,z2,q2⟩:=hv2.parts
  have hn2:=d2.high.1
  obtain rfl:m2=false:=by
   cases m2
   ·rfl
   ·exfalso;simp [sgnV] at z2;omega
  obtain rfl:n2=y:=z2.symm
  have hn1:=d1.high.1
  have hcc:n1 % n2=0∨m1=false:=by
   rcases hc with h|h
   ·cases m1
    ·exact .inr rfl
    ·left
     rw [Z1.out] at h
     have hd:n2 ∣ -n1:=Int.dvd_of_emod_eq_zero h
     exact Int.emod_eq_zero_of_dvd (Int.dvd_neg.1 hd)
   ·cases m1
    ·exact .inr rfl
    ·left
     rw [Z1.out] at h
     have:n1=0:=by simp [sgnV] at h;omega
     rw [this];rfl
  obtain ⟨e1,e2⟩:=sgn_div hy0 hcc
  have E1:=Lib.hid e1
  have E2:=Lib.hid e2
  have HCC:=Lib.hid hcc
  have HB0:=Lib.hid (And.intro (HI1.out.below hB4) (And.intro i2 (And.intro d1 d2)))
  have hq1:l1.length≤40:=by omega
  have hq2:l2.length≤40:=by omega
  clear hv2 hB4 i2 d1 d2 z2 HI1 hcc e1 e2 hc
  have HDV:=Lib.hid (fun (W:World) (hB:Below w4.heap.size w4 W)=>divideL_ok _ _ W (HB0.out.1.below hB) (HB0.out.2.1.below hB) HB0.out.2.2.1 HB0.out.2.2.2 (by omega) (by omega) hy0)
  have hBy:Below w4.heap.size w4 ((w4.alloc (.cells #[.bool m1,.slice a1 l1.length c1] 231)).alloc (.cells #[.bool false,.slice a2 l2.length c2] 231)):=bw4 (bw4 (bw0 _ _) _) _
  go_wp2_with fail
  refine (HDV.out _ hBy).mono ?_
  rintro e w5 ⟨lq,vq,lr,vr,rfl,iq,ir,nq,nr,kq,kr,hB5⟩
  obtain ⟨qa,qc,rfl⟩:=iq.slice
  obtain ⟨ra,rc,rfl⟩:=ir.slice
  have hb5:Below w.heap.size w w5:=below_trans' (below_trans' hb4 hBy) hB5
  have x0:BoxN w5 w4.heap.size (.bool m1) (.slice a1 l1.length c1):=((BoxN.new rfl).below (bw4 (bw0 _ _) _)).below hB5
  have x1:BoxN w5 (w4.heap.size+1) (.bool false) (.slice a2 l2.length c2):=(BoxN.new (by simp)).below hB5
  have HQ:Hid (IsBig w5 (.agg #[.bool m1,.slice qa lq.length qc]) (x / n2) 40):=Lib.hid ⟨m1,_,lq,_,rfl,iq,nq,by rw [Z1.out];exact E1.out,by omega⟩
  have HR:Hid (IsBig w5 (.agg #[.bool false,.slice ra lr.length rc]) (x % n2) 40):=Lib.hid ⟨false,_,lr,_,rfl,ir,nr,by rw [Z1.out];exact E2.out,by omega⟩
  have hlr:m1=true→lr.length=0:=fun hm=>nr.zero.2 (HCC.out.resolve_right (by rw [hm];simp))
  have p0:=x0.c0
  have p1:=x0.c1
  have p2:=x1.c0
  have p3:=x1.c1
  clear iq ir nq nr kq kr hB5 hBy HDV HB0 x0 x1
  cases m1
  ·go_wp2_with fail
   refine (result_ok _ _ (HG.out.below hb5) HQ.out (by omega)).mono ?_
   intro e w6 hr
   obtain ⟨rq,hrq,rfl,hB6⟩:=hr.1 HFQ.out
   have HRQ:=Lib.hid hrq
   have p4:=keep hB6 p2
   have hb6:=below_trans' hb5 hB6
   have HR':=Lib.hid (HR.out.below hB6)
   clear hr hrq
   go_wp2_with fail
   refine (result_ok _ _ (HG.out.below hb6) HR'.out (by omega)).mono ?_
   intro e w7 hr
   obtain ⟨rr,hrr,rfl,hB7⟩:=hr.1 HFR.out
   have HRR:=Lib.hid hrr
   have hb7:=below_trans' hb6 hB7
   clear hr hrr
   go_wp2_with fail
   go_ret3
   exact ⟨rq,rr,HRQ.out,HRR.out,rfl,hb7⟩
  ·have hl0:=hlr rfl
   have hl1:¬ (0:Int) < (lr.length:Int):=by omega
   clear hl0 hlr
   go_wp2_with fail
   refine (result_ok _ _ (HG.out.below hb5) HQ.out (by omega)).mono ?_
   intro e w6 hr
   obtain ⟨rq,hrq,rfl,hB6⟩:=hr.1 HFQ.out
   have HRQ:=Lib.hid hrq
   have p4:=keep hB6 p2
   have hb6:=below_trans' hb5 hB6
   have HR':=Lib.hid (HR.out.below hB6)
   clear hr hrq
   go_wp2_with fail
   refine (result_ok _ _ (HG.out.below hb6) HR'.out (by omega)).mono ?_
   intro e w7 hr
   obtain ⟨rr,hrr,rfl,hB7⟩:=hr.1 HFR.out
   have HRR:=Lib.hid hrr
   have hb7:=below_trans' hb6 hB7
   clear hr hrr
   go_wp2_with fail
   go_ret3
   exact ⟨rq,rr,HRQ.out,HRR.out,rfl,hb7⟩
end Go.Proofs.YtbbclfbpllbbbaaGreatDoor
namespace Go.Proofs.YtbbclfbpllbbbaaGreatDoor
open Go.RowKit Go.Shelf
theorem sgnV_not (m:Bool) (n:Int):sgnV (!m) n=- sgnV m n:=by cases m<;>simp [sgnV]
theorem compareInt_of {x y:Int} {c:Int} (h0:c=0↔x=y) (h1:c=-1↔x < y) (h2:c=0∨c=-1∨c=1):Lib.compareInt x y=c:=by
 unfold Lib.compareInt
 split<;>(try split)<;>omega
theorem ICompare_ok (x y:Int) (s t:ByteArray) (w:World) (hs:s.data.toList=Lib.itoa x) (hx:Fit x) (ht:t.data.toList=Lib.itoa y) (hy:Fit y) :
  Calls Tryz.prog 88 #[.string s,.string t] w (RetB (.tuple #[.int .i64 (Lib.compareInt x y),.int .i64 0]) w):=by
 have hsz:=fit_size hs hx
 have htz:=fit_size ht hy
 by_cases hb:s.size≤18∧t.size≤18
 ·exact ICompare_small x y s t w hs hb.1 ht hb.2
 ·have HS:=Lib.hid hs
  have HT:=Lib.hid ht
  have HX:=Lib.hid hx
  have HY:=Lib.hid hy
  clear hs ht hx hy
  go_enter Tryz.func88,Tryz.ntmps88
  go_wp2_with fail
  refine (Iboth_ok x y s t _ HS.out HX.out HT.out HY.out).mono ?_
  rintro e w1 ⟨rfl,hB1⟩
  go_wp2_with fail
  refine (small_long s t _ (by omega)).mono ?_
  rintro e w2 ⟨rfl,hB2⟩
  have hb2:Below w.heap.size w w2:=qbl
  clear hB1 hB2
  go_wp2_with fail
  refine (iread_ok x s _ HS.out (by omega)).mono ?_
  rintro e w3 ⟨v1,rfl,hv1,hB3⟩
  have hb3:Below w.heap.size w w3:=below_trans' hb2 hB3
  have HV1:=Lib.hid hv1
  obtain ⟨m1,a1,l1,c1,n1,rfl,_⟩:=hv1.parts
  clear hv1 hB3
  go_wp2_with fail
  refine (iread_ok y t _ HT.out (by omega)).mono ?_
  rintro e w4 ⟨v2,rfl,hv2,hB4⟩
  have hb4:Below w.heap.size w w4:=below_trans' hb3 hB4
  have HV1':=Lib.hid (HV1.out.below hB4)
  obtain ⟨m2,a2,l2,c2,n2,rfl,i2,d2,z2,q2⟩:=hv2.parts
  have HV2:Hid (IsBig w4 (.agg #[.bool (!m2),.slice a2 l2.length c2]) (-y) ((t.size+8) / 9)):=Lib.hid ⟨!m2,_,l2,n2,rfl,i2,d2,by rw [sgnV_not,z2],q2⟩
  clear hv2 hB4 i2 d2 z2 q2
  go_wp2_with fail
  refine (addL_ok _ _ _ (HV1'.out.below qbl) (HV2.out.below qbl) (by omega) (by omega)).mono ?_
  rintro e w5 ⟨v3,rfl,hv3,hB5⟩
  have hb5:Below w.heap.size w w5:=qbl
  obtain ⟨m3,a3,l3,c3,n3,rfl,i3,d3,z3,_⟩:=hv3.parts
  have hz:=d3.zero
  have hnn:=d3.high.1
  clear hv3 hB5 i3 d3 HV1 HV1' HV2
  by_cases h0:l3.length=0
  ·have h0b:((l3.length:Int) == 0)=true:=by rw [h0];rfl
   have hc:Lib.compareInt x y=0:=compareInt_of (by have:=hz.1 h0;rw [this] at z3;cases m3<;>simp [sgnV] at z3<;>omega) (by have:=hz.1 h0;rw [this] at z3;cases m3<;>simp [sgnV] at z3<;>omega) (by omega)
   have HC:=Lib.hid hc
   clear hz z3 hc h0
   go_wp2_with fail
   go_ret2
   exact ⟨by rw [HC.out];rfl,qbl⟩
  ·have h0b:((l3.length:Int) == 0)=false:=by rw [beq_eq_false_iff_ne];omega
   have hne:n3≠0:=fun h=>h0 (hz.2 h)
   cases m3
   ·have hc:Lib.compareInt x y=1:=compareInt_of (by simp [sgnV] at z3;omega) (by simp [sgnV] at z3;omega) (by omega)
    have HC:=Lib.hid hc
    clear hz z3 hc h0
    go_wp2_with fail
    go_ret2
    exact ⟨by rw [HC.out];rfl,qbl⟩
   ·have hc:Lib.compareInt x y=-1:=compareInt_of (by simp [sgnV] at z3;omega) (by simp [sgnV] at z3;omega) (by omega)
    have HC:=Lib.hid hc
    clear hz z3 hc h0
    go_wp2_with fail
    go_ret2
    exact ⟨by rw [HC.out];rfl,qbl⟩
end Go.Proofs.YtbbclfbpllbbbaaGreatDoor
namespace Go.Proofs.YtbbclfbpllbbbaaGreatDoor
open Go.RowKit
theorem quick_none (F:Nat) (s t:ByteArray) (w:World) (hs:s.size≤1000) (h:natOf s.data.toList=none) :
  Calls Tryz.prog 100 #[.string s,.string t,.func (.func F) #[] #[]] w (RetB (.tuple #[.string ⟨#[]⟩,.bool false]) w):=by
 have HN:=Lib.hid h
 clear h
 go_enter Tryz.func100,Tryz.ntmps100
 go_wp2_with fail
 refine (nativeOf_none s _ hs HN.out).mono ?_
 rintro e w1 ⟨rfl,hB1⟩
 go_wp2_with fail
 go_ret2
 exact ⟨rfl,qbl⟩
theorem both_gen {p q r:Rat} (F:Nat) (s t:ByteArray) (w:World) (hG:Glo w)
  (hs:∀ W,Glo W→Calls Tryz.prog 86 #[.string s] W (RetP p (.int .i64 0) W)) (ht:∀ W,Glo W→Calls Tryz.prog 86 #[.string t] W (RetP q (.int .i64 0) W))
  (hE:∀ args w,(callFunc F args).run Tryz.prog w=.ok (.enter F args) w)
  (hF:∀ (a b c d:ByteArray) W,Glo W→a.data.toList=Lib.itoa p.num→b.data.toList=Lib.decDigits p.den→c.data.toList=Lib.itoa q.num→d.data.toList=Lib.decDigits q.den→Calls Tryz.prog F #[.agg #[.string a,.string b],.agg #[.string c,.string d]] W (RetN r W)) :
  Calls Tryz.prog 102 #[.string s,.string t,.func (.func F) #[] #[]] w (RetN r w):=by
 have HS:=Lib.hid hs
 have HT:=Lib.hid ht
 have HG:=Lib.hid hG
 have HF:=Lib.hid hF
 clear hs ht hG hF
 go_enter Tryz.func102,Tryz.ntmps102
 go_wp2_with fail
 refine (HS.out _ (HG.out.below qbl)).mono ?_
 rintro e w1 ⟨a,b,ha,hb,rfl,hB1⟩
 have hb1:Below w.heap.size w w1:=qbl
 clear hB1
 go_wp2_with fail
 refine (HT.out _ (HG.out.below qbl)).mono ?_
 rintro e w2 ⟨c,d,hc,hd,rfl,hB2⟩
 have hb2:Below w.heap.size w w2:=qbl
 have c1:w2.cell? ⟨w1.heap.size,0,none⟩=some (.string a):=keep hB2 (by simp [go_sem])
 have c2:w2.cell? ⟨w1.heap.size,1,none⟩=some (.string b):=keep hB2 (by simp [go_sem])
 have z1:=lt_of_cell c1
 clear hB2
 go_wp2_with fail
 refine (HF.out a b c d _ (HG.out.below qbl) ha.out hb.out hc.out hd.out).mono ?_
 rintro e w3 ⟨v,hv,rfl,hB3⟩
 have HV:=Lib.hid hv
 have hb3:Below w.heap.size w w3:=qbl
 clear hv hB3
 go_wp2_with fail
 go_ret2
 exact ⟨v,HV.out,rfl,hb3⟩
end Go.Proofs.YtbbclfbpllbbbaaGreatDoor
namespace Go.Proofs.YtbbclfbpllbbbaaGreatDoor
theorem natInt_big {n:Nat} {r:List UInt8} (h:100000000≤n) (hr:r=[]∨∃ c t,r=c::t∧isDig c=false):natInt (Lib.decDigits n++r)=none:=by
 have e:=nDig_append (decDigits_isDig n) hr
 have l8:8 < (Lib.decDigits n).length:=by
  refine Decidable.byContradiction fun hc=>?_
  have:=pow_le_of_lt (n:=n) (k:=8) (by omega)
  omega
 unfold natInt
 rw [e,if_pos (Or.inr (Or.inl l8))]
theorem natOf_big {q:Rat} (h:¬ Small q):natOf (ratText q)=none:=by
 have hown:∀ r:List UInt8,Lib.decDigits q.num.natAbs++r=if (Lib.itoa q.num++r).head?=some 45 then (Lib.itoa q.num++r).tail else Lib.itoa q.num++r:=by
  intro r
  rcases itoa_cases q.num with ⟨h0,e⟩|⟨h0,e⟩
  ·rw [e];simp
  ·rw [e,if_neg (decDigits_no45 _ _)]
 have hh:∀ (n:Nat) (r:List UInt8),natOf (Lib.itoa q.num++r)=match natInt (Lib.decDigits q.num.natAbs++r) with
  | none=>none
  | some (n,rest) =>
   if (Lib.itoa q.num++r).head?=some 45∧n=0 then none else
   if rest=[] then some (if (Lib.itoa q.num++r).head?=some 45 then -(n:Int) else n,1) else
   if rest.head?≠some 47 then none else
   match natInt rest.tail with
   | none=>none
   | some (d,r')=>if r'≠[]∨d < 2∨Nat.gcd n d≠1 then none else some (if (Lib.itoa q.num++r).head?=some 45 then -(n:Int) else n,d):=fun _ r=>natOf_own (hown r)
 unfold ratText
 by_cases hn:q.num.natAbs < 100000000
 ·have hd:100000000≤q.den:=by
   refine Decidable.byContradiction fun hc=>h ⟨hn,by omega⟩
  rw [if_neg (by omega),hh 0,natInt_decDigits hn (Or.inr ⟨_,_,rfl,by decide⟩)]
  have hb:=natInt_big (r:=[]) hd (Or.inl rfl)
  rw [List.append_nil] at hb
  simp only [List.head?_cons,List.tail_cons,hb]
  rw [if_neg (by simp:¬ (47::Lib.decDigits q.den=[])),if_neg (by simp:¬ (some (47:UInt8)≠some 47))]
  split<;>rfl
 ·split
  ·have h2:=hh 0 []
   rw [List.append_nil,List.append_nil] at h2
   have hb:=natInt_big (n:=q.num.natAbs) (r:=[]) (by omega) (Or.inl rfl)
   rw [List.append_nil] at hb
   rw [h2,hb]
  ·rw [hh 0,natInt_big (by omega) (Or.inr ⟨_,_,rfl,by decide⟩)]
end Go.Proofs.YtbbclfbpllbbbaaGreatDoor
namespace Go.Proofs.YtbbclfbpllbbbaaGreatDoor
open Go.RowKit
theorem fit_nat {n:Nat} (h:n < 10 ^ 300):Fit (n:Int):=fit_of_lt (by omega)
theorem Qnumber_ok (n d:Int) (s t:ByteArray) (w:World) (hG:Glo w) (hs:s.data.toList=Lib.itoa n) (hx:Fit n) (ht:t.data.toList=Lib.itoa d) (hy:Fit d) (hd:0 < d) :
  Calls Tryz.prog 66 #[.string s,.string t] w (RetN (Rat.divInt n d) w):=by
 have HS:=Lib.hid hs
 have HT:=Lib.hid ht
 have HG:=Lib.hid hG
 have HX:=Lib.hid hx
 have HY:=Lib.hid hy
 have hp:Lib.hasPrefix t.data.toList [45]=false:=by
  rw [ht]
  rcases itoa_cases d with ⟨h,_⟩|⟨_,e⟩
  ·omega
  ·rw [e]
   have h1:=decDigits_no45 d.natAbs []
   rw [List.append_nil] at h1
   cases hd':Lib.decDigits d.natAbs with
   | nil=>rfl
   | cons a l =>
    rw [hd'] at h1
    simp only [Lib.hasPrefix,List.isPrefixOf,Bool.and_true]
    simpa using fun e=>h1 (by simp [← e])
 have HP:=Lib.hid hp
 obtain ⟨a,b,g,hg,g0,ha,hb,hb0,hnum,hden,q1,q2⟩:=divInt_parts n d hd
 have hg':Int.gcd n d=g:=by rw [hg];simp only [Int.gcd];congr 1;omega
 have e1:n / (g:Int)=a:=by rw [ha];exact Int.mul_ediv_cancel _ (by omega)
 have e2:d / (g:Int)=b:=by rw [hb];exact Int.mul_ediv_cancel _ (by omega)
 have r1:n % (g:Int)=0:=by rw [ha];exact Int.mul_emod_left _ _
 have gd:g≤d.natAbs:=by
  have:(g:Int) ∣ d:=⟨b,by rw [Int.mul_comm];exact hb⟩
  have:=Int.le_of_dvd hd this
  omega
 have han:a.natAbs≤n.natAbs:=by rw [← q1,Int.natAbs_tdiv];exact Nat.div_le_self _ _
 have hbn:b.natAbs≤d.natAbs:=by rw [← q2,Int.natAbs_tdiv];exact Nat.div_le_self _ _
 have FG:=Lib.hid (fit_le (a:=(g:Int)) (by omega) hy)
 have FA:=Lib.hid (fit_le han hx)
 have FB:=Lib.hid (fit_le hbn hy)
 have E1:=Lib.hid e1
 have E2:=Lib.hid e2
 have R1:=Lib.hid r1
 have HGG:=Lib.hid hg'
 have HN:=Lib.hid hnum
 have HD:=Lib.hid hden
 have HB0:=Lib.hid hb0
 have G0:=Lib.hid g0
 clear hs ht hG hp hg g0 ha hb hb0 hnum hden q1 q2 hg' e1 e2 r1 gd han hbn hx hy
 go_enter Tryz.func66,Tryz.ntmps66
 go_wp2_with fail
 refine (Tryz.strings_HasPrefix _ _ _).mono ?_
 rintro e w1 ⟨rfl,hw1⟩
 rw [hw1,show Lib.hasPrefix t.data.toList (ByteArray.mk #[45]).data.toList=false from HP.out]
 clear hw1
 go_wp2_with fail
 refine (IGcd_ok n d s t _ HG.out HS.out HX.out HT.out HY.out).mono ?_
 intro e w2 hrx
 obtain ⟨c,hc,rfl,hB2⟩:=hrx.1 (by rw [HGG.out];exact FG.out)
 rw [HGG.out] at hc
 have HC:=Lib.hid hc
 clear hc hrx
 by_cases hg1:g=1
 ·have hz1:=eq_of_list (s:=c) (m:=[49]) (by rw [HC.out,hg1];exact itoa_one)
  have NH:Hid (s.data.toList=Lib.itoa a):=Lib.hid (by rw [HS.out,← E1.out,hg1];congr 1;omega)
  have DH:Hid (t.data.toList=Lib.itoa b):=Lib.hid (by rw [HT.out,← E2.out,hg1];congr 1;omega)
  clear hg1
  by_cases hb1:b=1
  ·have hz:=eq_of_list (s:=t) (m:=[49]) (by rw [DH.out,hb1];exact itoa_one)
   have HT2:Hid (ratText (Rat.divInt n d)=Lib.itoa a):=Lib.hid (by
    have h2:=HD.out
    rw [ratText,if_pos (by omega),HN.out])
   clear hb1
   go_wp2_with fail
   go_ret2
   exact ⟨s,by rw [NH.out,HT2.out],rfl,qbl⟩
  ·have hz:=ne_of_list (s:=t) (m:=[49]) DH.out (itoa_ne1 hb1)
   have HT2:Hid (ratText (Rat.divInt n d)=Lib.itoa a++47::Lib.itoa b):=Lib.hid (by
    have h2:=HD.out
    rw [ratText,if_neg (by omega),HN.out,← h2,Lib.itoa_nonneg])
   have l1:=fit_size NH.out FA.out
   have l2:=fit_size DH.out FB.out
   clear hb1
   go_wp2_with fail
   go_ret2
   refine ⟨_,?_,rfl,qbl⟩
   rw [HT2.out,← NH.out,← DH.out]
   simp
 ·have hz1:=ne_of_list (s:=c) (m:=[49]) HC.out (itoa_ne1 (by omega))
  clear hg1
  go_wp2_with fail
  refine (IDivide_ok n g s c _ (HG.out.below qbl) HS.out HX.out HC.out FG.out (by have:=G0.out;omega) (.inl R1.out)).mono ?_
  rintro e w3 ⟨s',r',hs',hr',rfl,hB3⟩
  have NH:Hid (s'.data.toList=Lib.itoa a):=Lib.hid (by rw [hs',E1.out])
  clear hs' hr'
  go_wp2_with fail
  refine (IDivide_ok d g t c _ (HG.out.below qbl) HT.out HY.out HC.out FG.out (by have:=G0.out;omega) (.inr (by omega))).mono ?_
  rintro e w4 ⟨t',r'',ht',hr'',rfl,hB4⟩
  have DH:Hid (t'.data.toList=Lib.itoa b):=Lib.hid (by rw [ht',E2.out])
  clear ht' hr''
  by_cases hb1:b=1
  ·have hz:=eq_of_list (s:=t') (m:=[49]) (by rw [DH.out,hb1];exact itoa_one)
   have HT2:Hid (ratText (Rat.divInt n d)=Lib.itoa a):=Lib.hid (by
    have h2:=HD.out
    rw [ratText,if_pos (by omega),HN.out])
   clear hb1
   go_wp2_with fail
   go_ret2
   exact ⟨s',by rw [NH.out,HT2.out],rfl,qbl⟩
  ·have hz:=ne_of_list (s:=t') (m:=[49]) DH.out (itoa_ne1 hb1)
   have HT2:Hid (ratText (Rat.divInt n d)=Lib.itoa a++47::Lib.itoa b):=Lib.hid (by
    have h2:=HD.out
    rw [ratText,if_neg (by omega),HN.out,← h2,Lib.itoa_nonneg])
   have l1:=fit_size NH.out FA.out
   have l2:=fit_size DH.out FB.out
   clear hb1
   go_wp2_with fail
   go_ret2
   refine ⟨_,?_,rfl,qbl⟩
   rw [HT2.out,← NH.out,← DH.out]
   simp
theorem crossedL_ok (xn yn:Int) (xd yd:Nat) (a b c d:ByteArray) (w:World) (hG:Glo w) (ha:a.data.toList=Lib.itoa xn) (hb:b.data.toList=Lib.decDigits xd) (hc:c.data.toList=Lib.itoa yn) (hd:d.data.toList=Lib.decDigits yd)
  (fa:Fit xn) (fb:Fit (xd:Int)) (fc:Fit yn) (fd:Fit (yd:Int)) (f1:Fit (xn * yd)) (f2:Fit (yn * xd)) :
  Calls Tryz.prog 87 #[.agg #[.string a,.string b],.agg #[.string c,.string d]] w (RetC (xn * yd) (yn * xd) w):=by
 rw [← itoa_natCast] at hb hd
 have HA:=Lib.hid ha
 have HB:=Lib.hid hb
 have HC:=Lib.hid hc
 have HD:=Lib.hid hd
 have HG:=Lib.hid hG
 clear hG ha hb hc hd
 go_enter Tryz.func87,Tryz.ntmps87
 go_wp2_with fail
 refine (Imul_ok xn yd a d _ (HG.out.below qbl) HA.out fa HD.out fd).mono ?_
 intro e w1 hrx
 obtain ⟨r,hr,rfl,hB1⟩:=hrx.1 f1
 have HR:=Lib.hid hr
 clear hr hrx
 have c1:w1.cell? ⟨w.heap.size,1,none⟩=some (.string b):=keep hB1 (by simp [go_sem])
 have c2:w1.cell? ⟨w.heap.size+1,0,none⟩=some (.string c):=keep hB1 (by simp [go_sem])
 have z1:=lt_of_cell c1
 have z2:=lt_of_cell c2
 have hB1':Below w.heap.size w w1:=qbl
 go_wp2_with fail
 refine (Imul_ok yn xd c b _ (HG.out.below qbl) HC.out fc HB.out fb).mono ?_
 intro e w2 hrx
 obtain ⟨s,hs,rfl,hB2⟩:=hrx.1 f2
 have HS:=Lib.hid hs
 clear hs hrx
 have hB2':Below w.heap.size w w2:=qbl
 go_wp2_with fail
 go_ret3
 exact ⟨r,s,HR,HS,rfl,qbl⟩
theorem mulL_ok {xn yn:Int} {xd yd:Nat} (a b c d:ByteArray) (w:World) (hG:Glo w) (ha:a.data.toList=Lib.itoa xn) (hb:b.data.toList=Lib.decDigits xd) (hc:c.data.toList=Lib.itoa yn) (hd:d.data.toList=Lib.decDigits yd)
  (fa:Fit xn) (fb:Fit (xd:Int)) (fc:Fit yn) (fd:Fit (yd:Int)) (f1:Fit (xn * yn)) (f2:Fit ((xd:Int) * yd)) (hx:0 < xd) (hy:0 < yd) :
  Calls Tryz.prog 103 #[.agg #[.string a,.string b],.agg #[.string c,.string d]] w (RetN (Rat.divInt (xn * yn) ((xd:Int) * yd)) w):=by
 rw [← itoa_natCast] at hb hd
 have HA:=Lib.hid ha
 have HB:=Lib.hid hb
 have HC:=Lib.hid hc
 have HD:=Lib.hid hd
 have HG:=Lib.hid hG
 have hp:0 < (xd:Int) * yd:=Int.mul_pos (by omega) (by omega)
 clear hG ha hb hc hd
 go_enter Tryz.func103,Tryz.ntmps103
 go_wp2_with fail
 refine (Imul_ok xn yn a c _ (HG.out.below qbl) HA.out fa HC.out fc).mono ?_
 intro e w1 hrx
 obtain ⟨r,hr,rfl,hB1⟩:=hrx.1 f1
 have HR:=Lib.hid hr
 have c1:w1.cell? ⟨w.heap.size,1,none⟩=some (.string b):=keep hB1 (by simp [go_sem])
 have c2:w1.cell? ⟨w.heap.size+1,1,none⟩=some (.string d):=keep hB1 (by simp [go_sem])
 have z1:=lt_of_cell c1
 have z2:=lt_of_cell c2
 have hb1:Below w.heap.size w w1:=qbl
 clear hr hB1 hrx
 go_wp2_with fail
 refine (Imul_ok xd yd b d _ (HG.out.below qbl) HB.out fb HD.out fd).mono ?_
 intro e w2 hrx
 obtain ⟨s,hs,rfl,hB2⟩:=hrx.1 f2
 have HS:=Lib.hid hs
 have hb2:Below w.heap.size w w2:=qbl
 clear hs hB2 hrx
 go_wp2_with fail
 refine (Qnumber_ok (xn * yn) ((xd:Int) * yd) r s _ (HG.out.below qbl) HR.out f1 HS.out f2 hp).mono ?_
 rintro e w3 ⟨v,hv,rfl,hB3⟩
 have HV:=Lib.hid hv
 have hb3:Below w.heap.size w w3:=qbl
 clear hv hB3
 go_wp2_with fail
 go_ret2
 exact ⟨v,HV.out,rfl,hb3⟩
theorem divL_ok {xn yn:Int} {xd yd:Nat} (a b c d:ByteArray) (w:World) (hG:Glo w) (ha:a.data.toList=Lib.itoa xn) (hb:b.data.toList=Lib.decDigits xd) (hc:c.data.toList=Lib.itoa yn) (hd:d.data.toList=Lib.decDigits yd)
  (fa:Fit xn) (fb:Fit (xd:Int)) (fc:Fit yn) (fd:Fit (yd:Int)) (f1:Fit (xn * yd)) (f2:Fit (yn * xd)) (hp:0 < yn * xd) :
  Calls Tryz.prog 151 #[.agg #[.string a,.string b],.agg #[.string c,.string d]] w (RetN (Rat.divInt (xn * yd) (yn * xd)) w):=by
 have hy0:yn≠0:=by intro h;rw [h] at hp;simp at hp
 have hne:(c.toList == [48])=false:=by
  rw [Lib.toList_data,hc];simpa using itoa_ne0 hy0
 have HA:=Lib.hid ha
 have HB:=Lib.hid hb
 have HC:=Lib.hid hc
 have HD:=Lib.hid hd
 have HG:=Lib.hid hG
 clear hG ha hb hc hd hy0
 go_enter Tryz.func151,Tryz.ntmps151
 go_wp2_with fail
 refine (crossedL_ok xn yn xd yd a b c d _ (HG.out.below qbl) HA.out HB.out HC.out HD.out fa fb fc fd f1 f2).mono ?_
 rintro e w1 ⟨r,s,hr,hs,rfl,hB1⟩
 have hb1:Below w.heap.size w w1:=qbl
 clear hB1
 go_wp2_with fail
 refine (Qnumber_ok (xn * yd) (yn * xd) r s _ (HG.out.below qbl) hr.out f1 hs.out f2 hp).mono ?_
 rintro e w3 ⟨v,hv,rfl,hB3⟩
 have HV:=Lib.hid hv
 have hb3:Below w.heap.size w w3:=qbl
 clear hv hB3
 go_wp2_with fail
 go_ret2
 exact ⟨v,HV.out,rfl,hb3⟩
def CombOk (G:Nat) (z:Int) (x y:Int):Prop:=∀ (s t:ByteArray) (w:World),Glo w→s.data.toList=Lib.itoa x→t.data.toList=Lib.itoa y→Calls Tryz.prog G #[.string s,.string t] w (RetI z w)
theorem combL_ok {xn yn z:Int} {xd yd:Nat} (G bx:Nat) (a b c d:ByteArray) (w:World) (hG:Glo w) (hbx:w.cell? ⟨bx,0,none⟩=some (.func (.func G) #[] #[])) (hE:∀ args w,(callFunc G args).run Tryz.prog w=.ok (.enter G args) w) (ha:a.data.toList=Lib.itoa xn) (hb:b.data.toList=Lib.decDigits xd) (hc:c.data.toList=Lib.itoa yn) (hd:d.data.toList=Lib.decDigits yd)
  (fa:Fit xn) (fb:Fit (xd:Int)) (fc:Fit yn) (fd:Fit (yd:Int)) (f1:Fit (xn * yd)) (f2:Fit (yn * xd)) (f3:Fit z) (f4:Fit ((xd:Int) * yd)) (hx:0 < xd) (hy:0 < yd) (hC:CombOk G z (xn * yd) (yn * xd)) :
  Calls Tryz.prog 165 #[.agg #[.string a,.string b],.agg #[.string c,.string d],.pointer (some ⟨bx,0,none⟩)] w (RetN (Rat.divInt z ((xd:Int) * yd)) w):=by
 have HA:=Lib.hid ha
 have HB:=Lib.hid hb
 have HB':Hid (b.data.toList=Lib.itoa (xd:Int)):=Lib.hid (by rw [itoa_natCast];exact hb)
 have HC:=Lib.hid hc
 have HD:=Lib.hid hd
 have HD':Hid (d.data.toList=Lib.itoa (yd:Int)):=Lib.hid (by rw [itoa_natCast];exact hd)
 have HG:=Lib.hid hG
 have HCO:=Lib.hid hC
 have hp:0 < (xd:Int) * yd:=Int.mul_pos (by omega) (by omega)
 have zx:=lt_of_cell hbx
 clear hG ha hb hc hd hC
 go_enter Tryz.func165,Tryz.ntmps165
 go_wp2_with fail
 refine (crossedL_ok xn yn xd yd a b c d _ (HG.out.below qbl) HA.out HB.out HC.out HD.out fa fb fc fd f1 f2).mono ?_
 rintro e w1 ⟨u,v,hu,hv,rfl,hB1⟩
 have hb1:Below w.heap.size w w1:=qbl
 have k1:=keep hb1 hbx
 have c1:w1.cell? ⟨w.heap.size,1,none⟩=some (.string b):=keep hB1 (by simp [go_sem])
 have c2:w1.cell? ⟨w.heap.size+1,1,none⟩=some (.string d):=keep hB1 (by simp [go_sem])
 clear hB1
 go_wp2_with fail
 refine (HCO.out u v _ (HG.out.below hb1) hu.out hv.out).mono ?_
 rintro e w2 ⟨r,hr,rfl,hB2⟩
 have HR:=Lib.hid hr
 have hb2:Below w.heap.size w w2:=below_trans' hb1 hB2
 have c1':=keep hB2 c1
 have c2':=keep hB2 c2
 clear hr hB2
 go_wp2_with fail
 refine (Imul_ok xd yd b d _ (HG.out.below qbl) HB'.out fb HD'.out fd).mono ?_
 intro e w3 hrx
 obtain ⟨s,hs,rfl,hB3⟩:=hrx.1 f4
 have HS:=Lib.hid hs
 have hb3:Below w.heap.size w w3:=below_trans' hb2 hB3
 clear hs hB3 hrx
 go_wp2_with fail
 refine (Qnumber_ok z ((xd:Int) * yd) r s _ (HG.out.below qbl) HR.out f3 HS.out f4 hp).mono ?_
 rintro e w4 ⟨q,hq,rfl,hB4⟩
 have HQ:=Lib.hid hq
 have hb4:Below w.heap.size w w4:=below_trans' hb3 hB4
 clear hq hB4
 go_wp2_with fail
 go_ret2
 exact ⟨q,HQ.out,rfl,hb4⟩
end Go.Proofs.YtbbclfbpllbbbaaGreatDoor
namespace Go.Proofs.YtbbclfbpllbbbaaGreatDoor
open Go.RowKit
def Sz (k:Nat) (q:Rat):Prop:=q.num.natAbs < 10 ^ k∧q.den < 10 ^ k
theorem pow300 {k n:Nat} (h:n < 10 ^ k) (hk:k≤300):n < 10 ^ 300:=Nat.lt_of_lt_of_le h (pow10_le (a:=k) (b:=300) hk)
theorem Sz.fn {k:Nat} {q:Rat} (h:Sz k q) (hk:k≤300):Fit q.num:=fit_of_lt (pow300 h.1 hk)
theorem Sz.fd {k:Nat} {q:Rat} (h:Sz k q) (hk:k≤300):Fit (q.den:Int):=fit_of_lt (pow300 (by simpa using h.2) hk)
theorem mul_lt {a b:Nat} {x y:Int} (hx:x.natAbs < 10 ^ a) (hy:y.natAbs < 10 ^ b):(x * y).natAbs < 10 ^ (a+b):=by
 rw [Int.natAbs_mul,Nat.pow_add]
 exact Nat.mul_lt_mul'' hx hy
theorem fit_mul {a b:Nat} {x y:Int} (hx:x.natAbs < 10 ^ a) (hy:y.natAbs < 10 ^ b) (h:a+b≤300):Fit (x * y):=fit_of_lt (pow300 (mul_lt hx hy) h)
theorem sz_divInt {n d:Int} {k:Nat} (hd:0 < d) (hn:n.natAbs < 10 ^ k) (hk:d.natAbs < 10 ^ k):Sz k (Rat.divInt n d):=by
 obtain ⟨a,b,g,hg,g0,ha,hb,hb0,hnum,hden,q1,q2⟩:=divInt_parts n d hd
 refine ⟨?_,?_⟩
 ·rw [hnum,← q1,Int.natAbs_tdiv]
  exact Nat.lt_of_le_of_lt (Nat.div_le_self _ _) hn
 ·have h:b.natAbs≤d.natAbs:=by rw [← q2,Int.natAbs_tdiv];exact Nat.div_le_self _ _
  omega
theorem rat_add (p q:Rat):Rat.divInt (p.num * q.den+q.num * p.den) ((p.den:Int) * q.den)=p+q:=by rw [Rat.add_def',← Rat.divInt_ofNat];simp
theorem rat_mul (p q:Rat):Rat.divInt (p.num * q.num) ((p.den:Int) * q.den)=p * q:=by rw [Rat.mul_def',← Rat.divInt_ofNat];simp
theorem rat_div (p q:Rat):Rat.divInt (p.num * q.den) (q.num * p.den)=p / q:=by
 rw [Int.mul_comm q.num,Rat.div_def,Rat.inv_def,← Rat.num_divInt_den p,Rat.divInt_mul_divInt,Rat.num_divInt_den]
theorem den_nat (q:Rat):((q.den:Int)).natAbs=q.den:=by simp
theorem den_pos' (p q:Rat):0 < (p.den:Int) * q.den:=Int.mul_pos (by have:=p.den_pos;omega) (by have:=q.den_pos;omega)
theorem sum_lt {a b:Nat} {p q:Rat} (hp:Sz a p) (hq:Sz b q):(p.num * q.den+q.num * p.den).natAbs < 10 ^ (a+b+1):=by
 have h1:=mul_lt (x:=p.num) (y:=(q.den:Int)) hp.1 (by rw [den_nat];exact hq.2)
 have h2:=mul_lt (x:=q.num) (y:=(p.den:Int)) hq.1 (by rw [den_nat];exact hp.2)
 rw [Nat.add_comm b a] at h2
 rw [Nat.pow_succ]
 generalize p.num * (q.den:Int)=u at *
 generalize q.num * (p.den:Int)=v at *
 generalize (10:Nat) ^ (a+b)=P at *
 omega
theorem Sz.mono {a b:Nat} {q:Rat} (h:Sz a q) (hab:a≤b):Sz b q:=⟨Nat.lt_of_lt_of_le h.1 (Nat.pow_le_pow_right (by omega) hab),Nat.lt_of_lt_of_le h.2 (Nat.pow_le_pow_right (by omega) hab)⟩
theorem dens_lt {a b:Nat} {p q:Rat} (hp:Sz a p) (hq:Sz b q):((p.den:Int) * q.den).natAbs < 10 ^ (a+b):=mul_lt (by rw [den_nat];exact hp.2) (by rw [den_nat];exact hq.2)
theorem Sz.add {a b:Nat} {p q:Rat} (hp:Sz a p) (hq:Sz b q):Sz (a+b+1) (p+q):=by
 rw [← rat_add]
 exact sz_divInt (den_pos' p q) (sum_lt hp hq) (Nat.lt_of_lt_of_le (dens_lt hp hq) (Nat.pow_le_pow_right (by omega) (by omega)))
theorem Sz.mul {a b:Nat} {p q:Rat} (hp:Sz a p) (hq:Sz b q):Sz (a+b) (p * q):=by
 rw [← rat_mul]
 exact sz_divInt (den_pos' p q) (mul_lt hp.1 hq.1) (dens_lt hp hq)
theorem Sz.div {a b:Nat} {p q:Rat} (hp:Sz a p) (hq:Sz b q) (h0:0 < q.num):Sz (a+b) (p / q):=by
 rw [← rat_div]
 refine sz_divInt (Int.mul_pos h0 (by have:=p.den_pos;omega)) (mul_lt hp.1 (by rw [den_nat];exact hq.2)) ?_
 rw [Nat.add_comm]
 exact mul_lt hq.1 (by rw [den_nat];exact hp.2)
theorem ratText_len {k:Nat} {q:Rat} (h:Sz k q) (hk:k≤300) (h1:1≤k):(ratText q).length≤2 * k+2:=by
 have l1:=itoa_len_le (n:=q.num) (k:=k) h.1 h1
 have l2:(Lib.decDigits q.den).length≤k:=by rw [Lib.decDigits_length];exact nDigits_le_of_lt h.2 h1
 unfold ratText
 split
 ·omega
 ·rw [List.length_append,List.length_cons];omega
theorem txt_size {k:Nat} {q:Rat} {s:ByteArray} (hs:s.data.toList=ratText q) (h:Sz k q) (hk:k≤300):s.size≤602:=by
 have h1:=ratText_len (h.mono (show k≤300 by omega)) (by omega) (by omega)
 rw [← hs] at h1
 have e:s.size=s.data.toList.length:=rfl
 omega
theorem read_any {k:Nat} {q:Rat} (s:ByteArray) (w:World) (hG:Glo w) (hs:s.data.toList=ratText q) (hq:Sz k q) (hk:k≤300) :
  Calls Tryz.prog 86 #[.string s] w (RetP q (.int .i64 0) w):=by
 by_cases hsm:Small q
 ·exact read_small s w hG hs hsm
 ·have hsz:=txt_size hs hq hk
  have hno:natOf s.data.toList=none:=by rw [hs];exact natOf_big hsm
  have HS:=Lib.hid hs
  have HN:=Lib.hid hno
  have HG:=Lib.hid hG
  have FN:=hq.fn hk
  have FD:=hq.fd hk
  have hred:=q.reduced
  have HRED:Hid (((Int.gcd q.num (q.den:Int):Nat):Int)=1):=Lib.hid (by unfold Int.gcd;rw [den_nat];exact congrArg _ hred)
  clear hs hG hno hred
  go_enter Tryz.func86,Tryz.ntmps86
  go_wp2_with fail
  refine (cut_valid s _ (HG.out.below qbl) HS.out (by omega)).mono ?_
  rintro e w1 ⟨a,b,ha,hb,rfl,hB1⟩
  have c0:w1.cell? ⟨w.heap.size,0,none⟩=some (.string ⟨#[]⟩):=keep hB1 (by simp [go_sem])
  have c1:w1.cell? ⟨w.heap.size,1,none⟩=some (.string ⟨#[]⟩):=keep hB1 (by simp [go_sem])
  have g0:w1.frozen? ⟨w.heap.size,0,none⟩=false:=keepf hB1 (v:=.string ⟨#[]⟩) (by simp [go_sem]) (by simp [go_sem])
  have g1:w1.frozen? ⟨w.heap.size,1,none⟩=false:=keepf hB1 (v:=.string ⟨#[]⟩) (by simp [go_sem]) (by simp [go_sem])
  have z1:=lt_of_cell c0
  go_wp2_with fail
  refine (nativeOf_none s _ (by omega) HN.out).mono ?_
  rintro e w2 ⟨rfl,hB2⟩
  have c0':w2.cell? ⟨w.heap.size,0,none⟩=some (.string ⟨#[]⟩):=keep hB2 (keep (bw4 (bw0 _ _) _) c0)
  have c1':w2.cell? ⟨w.heap.size,1,none⟩=some (.string ⟨#[]⟩):=keep hB2 (keep (bw4 (bw0 _ _) _) c1)
  have g0':w2.frozen? ⟨w.heap.size,0,none⟩=false:=keepf hB2 (keep (bw4 (bw0 _ _) _) c0) (keepf (bw4 (bw0 _ _) _) c0 g0)
  have g1':w2.frozen? ⟨w.heap.size,1,none⟩=false:=keepf hB2 (keep (bw4 (bw0 _ _) _) c1) (keepf (bw4 (bw0 _ _) _) c1 g1)
  have c2:w2.cell? ⟨w1.heap.size,0,none⟩=some (.string a):=keep hB2 (by simp [go_sem])
  have c3:w2.cell? ⟨w1.heap.size,1,none⟩=some (.string b):=keep hB2 (by simp [go_sem])
  have z2:=lt_of_cell c0'
  have z3:=lt_of_cell c2
  have hx:=(trim_itoa q.num).1
  have ha':a.data.toList=Lib.itoa q.num:=ha.out
  rw [← ha'] at hx
  have HX:=Lib.hid hx
  have hbl:(b.size:Int)≤300:=by
   have h2:b.size=b.data.toList.length:=rfl
   have h3:(Lib.decDigits q.den).length≤300:=by have:=FD;unfold Fit at this;rwa [den_nat] at this
   rw [h2,hb.out]
   omega
  have hb2:Below w.heap.size w w2:=qbl
  have HBI:Hid (b.data.toList=Lib.itoa (q.den:Int)):=Lib.hid (by rw [itoa_natCast];exact hb.out)
  clear hx ha' c0 c1 g0 g1 hB1 hB2
  by_cases hd1:q.den=1
  ·have hb1:(b.toList == [49])=true:=eq_of_list (by rw [hb.out,hd1];exact one_digits)
   clear hd1
   go_wp2_with fail
   refine (trimPrefix_any a _ _ HX.out).mono ?_
   rintro e w3 ⟨o,ho,rfl,rfl⟩
   have hol:(o.size:Int)≤300:=by
    have h2:o.size=o.data.toList.length:=rfl
    have h3:=FN
    unfold Fit at h3
    rw [h2,ho.out];omega
   go_wp2_with fail
   refine bodyPost_ret (v:=.tuple #[.agg #[.string a,.string b],.int .i64 0]) (by simp [results,Tryz.results86,go_sem,c0',c1',c2,c3,z2,z3]) rfl ⟨a,b,ha,hb,rfl,qbl⟩
  ·have hb1:(b.toList == [49])=false:=ne_of_list (m:=[49]) HBI.out (itoa_ne1 (by omega))
   clear hd1
   go_wp2_with fail
   refine (trimPrefix_any a _ _ HX.out).mono ?_
   rintro e w3 ⟨o,ho,rfl,rfl⟩
   have hol:(o.size:Int)≤300:=by
    have h2:o.size=o.data.toList.length:=rfl
    have h3:=FN
    unfold Fit at h3
    rw [h2,ho.out];omega
   go_wp2_with fail
   refine (IGcd_ok q.num q.den a b _ (HG.out.below qbl) ha.out FN HBI.out FD).mono ?_
   intro e w4 hrx
   obtain ⟨g,hg,rfl,hB4⟩:=hrx.1 (by rw [HRED.out];exact fit18 (by decide))
   rw [HRED.out] at hg
   have hg1:(g.toList == [49])=true:=eq_of_list (by rw [hg];exact itoa_one)
   have d0:=keep hB4 (keep (bw4 (bw0 w2.heap.size w2) _) c0')
   have d1:=keep hB4 (keep (bw4 (bw0 w2.heap.size w2) _) c1')
   have d2:=keep hB4 (keep (bw4 (bw0 w2.heap.size w2) _) c2)
   have d3:=keep hB4 (keep (bw4 (bw0 w2.heap.size w2) _) c3)
   have f0:=keepf hB4 (keep (bw4 (bw0 w2.heap.size w2) _) c0') (keepf (bw4 (bw0 w2.heap.size w2) _) c0' g0')
   have f1:=keepf hB4 (keep (bw4 (bw0 w2.heap.size w2) _) c1') (keepf (bw4 (bw0 w2.heap.size w2) _) c1' g1')
   have y2:=lt_of_cell d0
   have y3:=lt_of_cell d2
   have hb4:Below w.heap.size w w4:=qbl
   clear hg hrx hB4 c0' c1' c2 c3 g0' g1' z2 z3
   go_wp2_with fail
   refine bodyPost_ret (v:=.tuple #[.agg #[.string a,.string b],.int .i64 0]) (by simp [results,Tryz.results86,go_sem,d0,d1,d2,d3,y2,y3]) rfl ⟨a,b,ha,hb,rfl,qbl⟩
end Go.Proofs.YtbbclfbpllbbbaaGreatDoor
namespace Go.Proofs.YtbbclfbpllbbbaaGreatDoor
open Go.RowKit
theorem quick_none2 {p:Rat} (F:Nat) (s t:ByteArray) (w:World) (hs:s.data.toList=ratText p) (hp:Small p) (ht:t.size≤1000) (h:natOf t.data.toList=none) :
  Calls Tryz.prog 100 #[.string s,.string t,.func (.func F) #[] #[]] w (RetB (.tuple #[.string ⟨#[]⟩,.bool false]) w):=by
 have HN:=Lib.hid h
 have HS:=Lib.hid hs
 clear h hs
 go_enter Tryz.func100,Tryz.ntmps100
 go_wp2_with fail
 refine (nativeOf_small s _ HS.out hp).mono ?_
 rintro e w1 ⟨rfl,hB1⟩
 go_wp2_with fail
 refine (nativeOf_none t _ ht HN.out).mono ?_
 rintro e w2 ⟨rfl,hB2⟩
 go_wp2_with fail
 go_ret2
 exact ⟨rfl,qbl⟩
theorem quick_no {k m:Nat} {p q:Rat} (F:Nat) (s t:ByteArray) (w:World) (hs:s.data.toList=ratText p) (ht:t.data.toList=ratText q) (hp:Sz k p) (hk:k≤300) (hq:Sz m q) (hm:m≤300) (hn:¬ (Small p∧Small q)) :
  Calls Tryz.prog 100 #[.string s,.string t,.func (.func F) #[] #[]] w (RetB (.tuple #[.string ⟨#[]⟩,.bool false]) w):=by
 by_cases h1:Small p
 ·exact quick_none2 F s t w hs h1 (by have:=txt_size ht hq hm;omega) (by rw [ht];exact natOf_big fun h=>hn ⟨h1,h⟩)
 ·exact quick_none F s t w (by have:=txt_size hs hp hk;omega) (by rw [hs];exact natOf_big h1)
theorem both_cap {p q r:Rat} (F bx:Nat) (v0:Value) (s t:ByteArray) (w:World) (hG:Glo w) (hbx:w.cell? ⟨bx,0,none⟩=some v0)
  (hs:∀ W,Glo W→Calls Tryz.prog 86 #[.string s] W (RetP p (.int .i64 0) W)) (ht:∀ W,Glo W→Calls Tryz.prog 86 #[.string t] W (RetP q (.int .i64 0) W))
  (hE:∀ args w,(callFunc F args).run Tryz.prog w=.ok (.enter F args) w)
  (hF:∀ (a b c d:ByteArray) W,Glo W→W.cell? ⟨bx,0,none⟩=some v0→a.data.toList=Lib.itoa p.num→b.data.toList=Lib.decDigits p.den→c.data.toList=Lib.itoa q.num→d.data.toList=Lib.decDigits q.den→Calls Tryz.prog F #[.agg #[.string a,.string b],.agg #[.string c,.string d],.pointer (some ⟨bx,0,none⟩)] W (RetN r W)) :
  Calls Tryz.prog 102 #[.string s,.string t,.func (.func F) #[] #[.pointer (some ⟨bx,0,none⟩)]] w (RetN r w):=by
 have HS:=Lib.hid hs
 have HT:=Lib.hid ht
 have HG:=Lib.hid hG
 have HF:=Lib.hid hF
 have HBX:=Lib.hid hbx
 clear hs ht hG hF hbx
 go_enter Tryz.func102,Tryz.ntmps102
 go_wp2_with fail
 refine (HS.out _ (HG.out.below qbl)).mono ?_
 rintro e w1 ⟨a,b,ha,hb,rfl,hB1⟩
 have hb1:Below w.heap.size w w1:=qbl
 clear hB1
 go_wp2_with fail
 refine (HT.out _ (HG.out.below qbl)).mono ?_
 rintro e w2 ⟨c,d,hc,hd,rfl,hB2⟩
 have hb2:Below w.heap.size w w2:=qbl
 have c1:w2.cell? ⟨w1.heap.size,0,none⟩=some (.string a):=keep hB2 (by simp [go_sem])
 have c2:w2.cell? ⟨w1.heap.size,1,none⟩=some (.string b):=keep hB2 (by simp [go_sem])
 have z1:=lt_of_cell c1
 clear hB2
 go_wp2_with fail
 refine (HF.out a b c d _ (HG.out.below qbl) (keep (show Below w.heap.size w _ from qbl) HBX.out) ha.out hb.out hc.out hd.out).mono ?_
 rintro e w3 ⟨v,hv,rfl,hB3⟩
 have HV:=Lib.hid hv
 have hb3:Below w.heap.size w w3:=qbl
 clear hv hB3
 go_wp2_with fail
 go_ret2
 exact ⟨v,HV.out,rfl,hb3⟩
theorem combined_any (G:Nat) (w:World) :
  Calls Tryz.prog 106 #[.func (.func G) #[] #[]] w fun e w'=>e=.returned (.func (.func 165) #[] #[.pointer (some ⟨w.heap.size,0,none⟩)])∧w'=w.alloc (.cells #[.func (.func G) #[] #[]] 181):=by
 have hmf:∀ (fn:Fn) (first cap:Array Value) (w:World),(Instr.makeFunc fn first cap).run Tryz.prog w=.ok (.func fn first cap) w:=fun _ _ _ _=>rfl
 go_enter Tryz.func106,Tryz.ntmps106
 go_wp2_with fail
 go_ret
 exact ⟨rfl,rfl⟩
theorem RAdd_ok {a b:Nat} {p q:Rat} (s t:ByteArray) (w:World) (hG:Glo w) (hs:s.data.toList=ratText p) (hp:Sz a p) (ht:t.data.toList=ratText q) (hq:Sz b q) (hab:a+b+1≤300) :
  Calls Tryz.prog 51 #[.string s,.string t] w (RetN (p+q) w):=by
 by_cases hsm:Small p∧Small q
 ·exact Add_small s t w hG hs hsm.1 ht hsm.2
 ·have f1:=fit_mul (x:=p.num) (y:=(q.den:Int)) hp.1 (by rw [den_nat];exact hq.2) (show a+b≤300 by omega)
  have f2:=fit_mul (x:=q.num) (y:=(p.den:Int)) hq.1 (by rw [den_nat];exact hp.2) (show b+a≤300 by omega)
  have f3:Fit (p.num * q.den+q.num * p.den):=fit_of_lt (pow300 (sum_lt hp hq) hab)
  have f4:Fit ((p.den:Int) * q.den):=fit_of_lt (pow300 (dens_lt hp hq) (by omega))
  have hC:CombOk 107 (p.num * q.den+q.num * p.den) (p.num * q.den) (q.num * p.den):=fun s t w hG h1 h2=>(Iadd_ok _ _ s t w hG h1 f1 h2 f2).mono fun e w' h=>h.1 f3
  have HQ:=Lib.hid (fun W=>quick_no 105 s t W hs ht hp (show a≤300 by omega) hq (show b≤300 by omega) hsm)
  have HB:=Lib.hid (fun (bx:Nat) (W:World) (hG:Glo W) (hbx:W.cell? ⟨bx,0,none⟩=some (.func (.func 107) #[] #[]))=>both_cap (r:=p+q) 165 bx _ s t W hG hbx (fun W hG=>read_any s W hG hs hp (by omega)) (fun W hG=>read_any t W hG ht hq (by omega)) (enters_of Tryz.func165 (by kernel_rfl) rfl)
   (fun x y u v W hG hb h1 h2 h3 h4=>by rw [← rat_add];exact combL_ok 107 bx x y u v W hG hb (enters_of Tryz.func107 (by kernel_rfl) rfl) h1 h2 h3 h4 (hp.fn (by omega)) (hp.fd (by omega)) (hq.fn (by omega)) (hq.fd (by omega)) f1 f2 f3 f4 p.den_pos q.den_pos hC))
  have HG:=Lib.hid hG
  clear hs ht hG hC f1 f2 f3 f4 hp hq
  go_enter Tryz.func51,Tryz.ntmps51
  go_wp2_with fail
  refine (HQ.out _).mono ?_
  rintro e w1 ⟨rfl,hB1⟩
  go_wp2_with fail
  refine (combined_any _ _).mono ?_
  rintro e w2 ⟨rfl,rfl⟩
  go_wp2_with fail
  refine (HB.out _ _ (HG.out.below qbl) (by simp [go_sem])).mono ?_
  rintro e w3 ⟨r,hr,rfl,hB3⟩
  have HR:=Lib.hid hr
  have hb3:Below w.heap.size w w3:=qbl
  clear hr hB3
  go_wp2_with fail
  go_ret2
  exact ⟨r,HR.out,rfl,hb3⟩
theorem RMul_ok {a b:Nat} {p q:Rat} (s t:ByteArray) (w:World) (hG:Glo w) (hs:s.data.toList=ratText p) (hp:Sz a p) (ht:t.data.toList=ratText q) (hq:Sz b q) (hab:a+b≤300) :
  Calls Tryz.prog 49 #[.string s,.string t] w (RetN (p * q) w):=by
 by_cases hsm:Small p∧Small q
 ·exact Mul_small s t w hG hs hsm.1 ht hsm.2
 ·have HQ:=Lib.hid (fun W=>quick_no 101 s t W hs ht hp (show a≤300 by omega) hq (show b≤300 by omega) hsm)
  have HB:=Lib.hid (fun (W:World) (hG:Glo W)=>both_gen (r:=p * q) 103 s t W hG (fun W hG=>read_any s W hG hs hp (by omega)) (fun W hG=>read_any t W hG ht hq (by omega)) (enters_of Tryz.func103 (by kernel_rfl) rfl)
   (fun x y u v W hG h1 h2 h3 h4=>by rw [← rat_mul];exact mulL_ok x y u v W hG h1 h2 h3 h4 (hp.fn (by omega)) (hp.fd (by omega)) (hq.fn (by omega)) (hq.fd (by omega)) (fit_mul hp.1 hq.1 hab) (fit_of_lt (pow300 (dens_lt hp hq) hab)) p.den_pos q.den_pos))
  have HG:=Lib.hid hG
  clear hs ht hG hp hq
  go_enter Tryz.func49,Tryz.ntmps49
  go_wp2_with fail
  refine (HQ.out _).mono ?_
  rintro e w1 ⟨rfl,hB1⟩
  go_wp2_with fail
  refine (HB.out _ (HG.out.below qbl)).mono ?_
  rintro e w3 ⟨r,hr,rfl,hB3⟩
  have HR:=Lib.hid hr
  have hb3:Below w.heap.size w w3:=qbl
  clear hr hB3
  go_wp2_with fail
  go_ret2
  exact ⟨r,HR.out,rfl,hb3⟩
theorem ratText_ne48 {q:Rat} (h:q≠0):ratText q≠[48]:=by
 intro e
 have hs:Small q:=by
  refine Decidable.byContradiction fun hc=>?_
  have h1:=natOf_big hc
  rw [e] at h1
  revert h1;decide
 exact ratText_ne0 hs h e
theorem RDiv_ok {a b:Nat} {p q:Rat} (s t:ByteArray) (w:World) (hG:Glo w) (hs:s.data.toList=ratText p) (hp:Sz a p) (ht:t.data.toList=ratText q) (hq:Sz b q) (hab:a+b≤300) (h0:0 < q.num) :
  Calls Tryz.prog 91 #[.string s,.string t] w (RetN (p / q) w):=by
 have hq0:q≠0:=fun h=>by rw [h] at h0;simp at h0
 by_cases hsm:Small p∧Small q
 ·exact Div_small s t w hG hs hsm.1 ht hsm.2 hq0
 ·have hne:(t.toList == [48])=false:=ne_of_list ht (ratText_ne48 hq0)
  have HQ:=Lib.hid (fun W=>quick_no 150 s t W hs ht hp (show a≤300 by omega) hq (show b≤300 by omega) hsm)
  have HB:=Lib.hid (fun (W:World) (hG:Glo W)=>both_gen (r:=p / q) 151 s t W hG (fun W hG=>read_any s W hG hs hp (by omega)) (fun W hG=>read_any t W hG ht hq (by omega)) (enters_of Tryz.func151 (by kernel_rfl) rfl)
   (fun x y u v W hG h1 h2 h3 h4=>by rw [← rat_div];exact divL_ok x y u v W hG h1 h2 h3 h4 (hp.fn (by omega)) (hp.fd (by omega)) (hq.fn (by omega)) (hq.fd (by omega)) (fit_mul hp.1 (by rw [den_nat];exact hq.2) hab) (fit_mul hq.1 (by rw [den_nat];exact hp.2) (by omega)) (Int.mul_pos h0 (by have:=p.den_pos;omega))))
  have HG:=Lib.hid hG
  clear hs ht hG hp hq
  go_enter Tryz.func91,Tryz.ntmps91
  go_wp2_with fail
  refine (HQ.out _).mono ?_
  rintro e w1 ⟨rfl,hB1⟩
  go_wp2_with fail
  refine (HB.out _ (HG.out.below qbl)).mono ?_
  rintro e w3 ⟨r,hr,rfl,hB3⟩
  have HR:=Lib.hid hr
  have hb3:Below w.heap.size w w3:=qbl
  clear hr hB3
  go_wp2_with fail
  go_ret2
  exact ⟨r,HR.out,rfl,hb3⟩
end Go.Proofs.YtbbclfbpllbbbaaGreatDoor
namespace Go.Proofs.YtbbclfbpllbbbaaGreatDoor
open Go.RowKit
theorem RCheck_ok {k:Nat} {q:Rat} (s:ByteArray) (w:World) (hG:Glo w) (hs:s.data.toList=ratText q) (hq:Sz k q) (hk:k≤300) :
  Calls Tryz.prog 40 #[.string s] w (RetB (.int .i64 0) w):=by
 have HS:=Lib.hid hs
 have HG:=Lib.hid hG
 have HN:=Lib.hid hq
 clear hs hG hq
 go_enter Tryz.func40,Tryz.ntmps40
 go_wp2_with fail
 refine (read_any s _ HG.out HS.out HN.out hk).mono ?_
 rintro e w1 ⟨a,b,ha,hb,rfl,hB1⟩
 go_wp2_with fail
 go_ret
 exact ⟨rfl,qbl⟩
theorem RCompare_ok {k m:Nat} {p q:Rat} (s t:ByteArray) (w:World) (hG:Glo w) (hs:s.data.toList=ratText p) (hp:Sz k p) (ht:t.data.toList=ratText q) (hq:Sz m q) (hkm:k+m≤300) :
  Calls Tryz.prog 36 #[.string s,.string t] w (RetB (.tuple #[.int .i64 (Lib.compareInt (p.num * q.den) (q.num * p.den)),.int .i64 0]) w):=by
 by_cases hsm:Small p∧Small q
 ·exact Compare_small s t w hs hsm.1 ht hsm.2
 ·have f1:=fit_mul (x:=p.num) (y:=(q.den:Int)) hp.1 (by rw [den_nat];exact hq.2) hkm
  have f2:=fit_mul (x:=q.num) (y:=(p.den:Int)) hq.1 (by rw [den_nat];exact hp.2) (show m+k≤300 by omega)
  have RS:=Lib.hid (fun W hG=>read_any s W hG hs hp (by omega))
  have RT:=Lib.hid (fun W hG=>read_any t W hG ht hq (by omega))
  have CR:=Lib.hid (fun (a b c d:ByteArray) W hG h1 h2 h3 h4=>crossedL_ok p.num q.num p.den q.den a b c d W hG h1 h2 h3 h4 (hp.fn (by omega)) (hp.fd (by omega)) (hq.fn (by omega)) (hq.fd (by omega)) f1 f2)
  have HG:=Lib.hid hG
  have hsz:=txt_size hs hp (by omega)
  have htz:=txt_size ht hq (by omega)
  by_cases h1:Small p
  ·have hno:natOf t.data.toList=none:=by rw [ht];exact natOf_big fun h=>hsm ⟨h1,h⟩
   have HS:=Lib.hid hs
   have HN:=Lib.hid hno
   have HP:=Lib.hid h1
   clear hs ht hG hp hq hsm h1 hno
   go_enter Tryz.func36,Tryz.ntmps36
   go_wp2_with fail
   refine (nativeOf_small s _ HS.out HP.out).mono ?_
   rintro e w1 ⟨rfl,hB1⟩
   have hb1:Below w.heap.size w w1:=qbl
   clear hB1
   go_wp2_with fail
   refine (nativeOf_none t _ (by omega) HN.out).mono ?_
   rintro e w2 ⟨rfl,hB2⟩
   have hb2:Below w.heap.size w w2:=qbl
   clear hB2
   go_wp2_with fail
   refine (RS.out _ (HG.out.below qbl)).mono ?_
   rintro e w3 ⟨a,b,ha,hb,rfl,hB3⟩
   have hb3:Below w.heap.size w w3:=qbl
   clear hB3
   go_wp2_with fail
   refine (RT.out _ (HG.out.below qbl)).mono ?_
   rintro e w4 ⟨c,d,hc,hd,rfl,hB4⟩
   have hb4:Below w.heap.size w w4:=qbl
   have c1:w4.cell? ⟨w3.heap.size,0,none⟩=some (.string a):=keep hB4 (by simp [go_sem])
   have c2:w4.cell? ⟨w3.heap.size,1,none⟩=some (.string b):=keep hB4 (by simp [go_sem])
   have z1:=lt_of_cell c1
   clear hB4
   go_wp2_with fail
   refine (CR.out a b c d _ (HG.out.below qbl) ha.out hb.out hc.out hd.out).mono ?_
   rintro e w5 ⟨u,v,hu,hv,rfl,hB5⟩
   have hb5:Below w.heap.size w w5:=qbl
   clear hB5
   go_wp2_with fail
   refine (ICompare_ok (p.num * q.den) (q.num * p.den) u v _ hu.out f1 hv.out f2).mono ?_
   rintro e w6 ⟨rfl,hB6⟩
   have hb6:Below w.heap.size w w6:=qbl
   go_wp2_with fail
   go_ret2
   exact ⟨rfl,qbl⟩
  ·have hno:natOf s.data.toList=none:=by rw [hs];exact natOf_big h1
   have HN:=Lib.hid hno
   clear hs ht hG hp hq hsm h1 hno
   go_enter Tryz.func36,Tryz.ntmps36
   go_wp2_with fail
   refine (nativeOf_none s _ (by omega) HN.out).mono ?_
   rintro e w2 ⟨rfl,hB2⟩
   have hb2:Below w.heap.size w w2:=qbl
   clear hB2
   go_wp2_with fail
   refine (RS.out _ (HG.out.below qbl)).mono ?_
   rintro e w3 ⟨a,b,ha,hb,rfl,hB3⟩
   have hb3:Below w.heap.size w w3:=qbl
   clear hB3
   go_wp2_with fail
   refine (RT.out _ (HG.out.below qbl)).mono ?_
   rintro e w4 ⟨c,d,hc,hd,rfl,hB4⟩
   have hb4:Below w.heap.size w w4:=qbl
   have c1:w4.cell? ⟨w3.heap.size,0,none⟩=some (.string a):=keep hB4 (by simp [go_sem])
   have c2:w4.cell? ⟨w3.heap.size,1,none⟩=some (.string b):=keep hB4 (by simp [go_sem])
   have z1:=lt_of_cell c1
   clear hB4
   go_wp2_with fail
   refine (CR.out a b c d _ (HG.out.below qbl) ha.out hb.out hc.out hd.out).mono ?_
   rintro e w5 ⟨u,v,hu,hv,rfl,hB5⟩
   have hb5:Below w.heap.size w w5:=qbl
   clear hB5
   go_wp2_with fail
   refine (ICompare_ok (p.num * q.den) (q.num * p.den) u v _ hu.out f1 hv.out f2).mono ?_
   rintro e w6 ⟨rfl,hB6⟩
   have hb6:Below w.heap.size w w6:=qbl
   go_wp2_with fail
   go_ret2
   exact ⟨rfl,qbl⟩
theorem ratText_ne_nil (q:Rat):ratText q≠[]:=by
 unfold ratText
 rcases itoa_cases q.num with ⟨_,e⟩|⟨_,e⟩<;>rw [e]<;>split<;>simp [decDigits_ne]
theorem sz_int {n:Int} {k:Nat} (h:n.natAbs < 10 ^ k) (hk:1≤k):Sz k (n:Rat):=⟨h,by
 show (1:Nat) < 10 ^ k
 exact Nat.one_lt_pow (by omega) (by omega)⟩
end Go.Proofs.YtbbclfbpllbbbaaGreatDoor
namespace Go.Proofs.YtbbclfbpllbbbaaGreatDoor
open Go.RowKit
theorem PartsQ_ok {k:Nat} {q:Rat} (s:ByteArray) (w:World) (hG:Glo w) (hs:s.data.toList=ratText q) (hq:Sz k q) (hk:k≤300) :
  Calls Tryz.prog 96 #[.string s] w fun e w'=>∃ a b:ByteArray,Hid (a.data.toList=Lib.itoa q.num)∧Hid (b.data.toList=Lib.decDigits q.den)∧e=.returned (.tuple #[.string a,.string b,.int .i64 0])∧Below w.heap.size w w':=by
 have H:=Lib.hid (read_any s w hG hs hq hk)
 clear hs hG
 go_enter Tryz.func96,Tryz.ntmps96
 go_wp2_with fail
 refine H.out.mono ?_
 rintro e w1 ⟨a,b,ha,hb,rfl,hB1⟩
 go_wp2_with fail
 go_quiet (fail)
 go_wp2_with fail
 go_ret3
 exact ⟨a,b,ha,hb,rfl,qbl⟩
end Go.Proofs.YtbbclfbpllbbbaaGreatDoor
