/- Joined texts: W48, WBeginAny, WOffAny, WROf, W48b. -/
import Derived.Test.YteepphiomcedfaaGreatDoorW47
import Derived.Test.YteepphiomcedfaaGreatDoorJ29
import Derived.Test.YteepphiomcedfaaGreatDoorJ20
import Derived.Test.YteepphiomcedfaaGreatDoorJ10
import Derived.Maps.AppendAt
import Derived.Test.YteepphiomcedfaaGreatDoorWRes50
set_option maxRecDepth 100000
set_option linter.unusedVariables false
set_option linter.unusedSimpArgs false
set_option maxHeartbeats 6400000
namespace Go.Proofs.YteepphiomcedfaaGreatDoor
open Go.RowKit
theorem rcheck48_any (lo hi:ByteArray) (S:Texts) (c:Value) (wd:Int) (w:World) (hG:Glo w) (hc:CourseAt w c lo hi S) :
  Calls Tryz.prog 48 #[c,.int .i64 wd] w (RetB (.int .i64 (codeC lo hi S wd)) w):=by
 obtain ⟨v,rfl,hv,hlo,hhi,hbr⟩:=hc
 obtain ⟨a,cap,rfl,hv'⟩:=id hv
 have HV:=Lib.hid hv
 have HG:=Lib.hid hG
 obtain ⟨B,hB⟩:∃ B,rightB lo hi S=B:=⟨_,rfl⟩
 have HA:=Lib.hid (fun b0 o0 cap0 W hG c0 c1 c2 hv=>rarea47_any b0 o0 cap0 lo hi S (.slice a S.length cap) W hG c0 c1 c2 hv hlo hhi hbr)
 obtain ⟨K,hK⟩:∃ K,codeC lo hi S wd=K:=⟨_,rfl⟩
 rw [hK]
 rw [hB] at HA
 have HK0:=Lib.hid (show B=false→K=1 from fun h=>by rw [← hK];unfold codeC;rw [hB,h,if_neg (by simp)])
 have HK1:=Lib.hid (show B=true→1≤wd∧wd≤2000→K=0 from fun h h'=>by rw [← hK];unfold codeC;rw [hB,h,if_pos rfl,if_pos h'])
 have HK2:=Lib.hid (show B=true→¬ (1≤wd∧wd≤2000)→K=2 from fun h h'=>by rw [← hK];unfold codeC;rw [hB,h,if_pos rfl,if_neg h'])
 clear hv hv' hG hbr hB hK
 go_enter Tryz.func48,Tryz.ntmps48
 go_wp2_with fail
 refine (HA.out (w.heap.size+1) 0 1 _ (HG.out.below qbl) (by simp [go_sem]) (by simp [go_sem]) (by simp [go_sem]) (HV.out.below qbl)).mono ?_
 rintro e w1 ⟨r,c,rfl,hc,hr,hB⟩
 have hB':Below w.heap.size w w1:=qbl
 clear hB HA
 cases B
 ·obtain rfl:c=1:=hr.out.2 rfl
  obtain rfl:=HK0.out rfl
  clear hr hc
  go_wp2_with fail
  go_ret
  exact ⟨rfl,hB'⟩
 ·have h1:c≠1:=fun h=>by have:=hr.out.1 h;cases this
  have h1b:(c == 1)=false:=by simpa using h1
  clear hr hc h1
  by_cases hw:1≤wd∧wd≤2000
  ·obtain rfl:=HK1.out rfl hw
   obtain ⟨w1',w2'⟩:=hw
   go_wp2_with fail
   go_ret
   exact ⟨rfl,hB'⟩
  ·obtain rfl:=HK2.out rfl hw
   rcases Int.lt_or_le wd 1 with hw1|hw1
   ·clear hw
    go_wp2_with fail
    go_ret
    exact ⟨rfl,hB'⟩
   ·have hw2:2000 < wd:=by omega
    clear hw
    go_wp2_with fail
    go_ret
    exact ⟨rfl,hB'⟩
theorem rcmp48_q {k m:Nat} {p q:Rat} (s t:ByteArray) (w:World) (hG:Glo w) (hs:s.data.toList=ratText p) (hp:Sz k p) (ht:t.data.toList=ratText q) (hq:Sz m q) (hkm:k+m≤300) (o:Int) (ho:ordQ p q=o) :
  Calls Tryz.prog 50 #[.string s,.string t] w (RetB (.int .i64 o) w):=by
 have H:=Lib.hid (RCompare02_q s t w hG hs hp ht hq hkm)
 rw [compareInt_rat,ho] at H
 clear hG hs ht ho
 go_enter Tryz.func50,Tryz.ntmps50
 go_wp2_with fail
 refine H.out.mono ?_
 rintro e w1 ⟨rfl,hB⟩
 go_wp2_with fail
 go_ret
 exact ⟨rfl,qbl⟩
theorem rwidths48 {p q:Rat} (s t:ByteArray) (wd:Int) (w:World) (hG:Glo w) (hs:s.data.toList=ratText p) (ht:t.data.toList=ratText q) (hp:Sz 36 p) (hq:Sz 36 q) (h1:1≤wd) (h2:wd≤2000) :
  Calls Tryz.prog 49 #[.agg #[.string s,.string t],.int .i64 wd] w (RetS (ratText ((q - p) / (wd:Rat))) w):=by
 have HS:=Lib.hid hs
 have HT:=Lib.hid ht
 have HG:=Lib.hid hG
 have hw0:(0:Int) < ((wd:Int):Rat).num:=by show 0 < wd;omega
 have hd:Sz 73 (q - p):=Sz.sub hq hp
 have HO:=Lib.hid (fun W=>rOf1_ok wd W (by omega) (by omega))
 have HW:=Lib.hid (numS_list (wd:Rat))
 generalize numS (wd:Rat)=t1 at *
 clear hs ht hG
 go_enter Tryz.func49,Tryz.ntmps49
 go_wp2_with fail
 refine (HO.out _).mono ?_
 rintro e w1 ⟨rfl,hB1⟩
 have c0:w1.cell? ⟨w.heap.size,0,none⟩=some (.string s):=keep hB1 (by simp [go_sem])
 have c1:w1.cell? ⟨w.heap.size,1,none⟩=some (.string t):=keep hB1 (by simp [go_sem])
 have hb1:Below w.heap.size w w1:=qbl
 clear hB1
 go_wp2_with fail
 refine (RSub02_q t s _ (HG.out.below hb1) HT.out hq HS.out hp (by decide)).mono ?_
 rintro e w2 ⟨r2,hr2,rfl,hB2⟩
 have hb2:Below w.heap.size w w2:=qbl
 have HR2:=Lib.hid hr2
 clear hB2 hr2
 go_wp2_with fail
 refine (RDiv02_q r2 t1 _ (HG.out.below hb2) HR2.out hd HW.out (sz4 h1 h2) (by decide) hw0).mono ?_
 rintro e w3 ⟨r3,hr3,rfl,hB3⟩
 have hb3:Below w.heap.size w w3:=qbl
 have HR3:=Lib.hid hr3
 clear hB3 hr3
 go_wp2_with fail
 go_ret
 exact ⟨r3,HR3.out,rfl,hb3⟩
theorem most_text:(⟨#[49,48,55,51,55,52,49,56,50,52]⟩:ByteArray).data.toList=ratText mostQ:=by
 unfold mostQ;rw [ratText_int];decide +kernel
theorem RCourse48_any (lo hi:ByteArray) (S:Texts) (c:Value) (wd:Int) (w:World) (hG:Glo w) (hc:CourseAt w c lo hi S) :
  Calls Tryz.prog 11 #[c,.int .i64 wd] w (RetB (.tuple #[.int .i64 (courseR lo hi S wd).1,.int .i64 (courseR lo hi S wd).2.1,.int .i64 (courseR lo hi S wd).2.2]) w):=by
 have hri:=fun (w':World) (hB:Below w.heap.size w w')=>rcheck48_any lo hi S c wd w' (hG.below hB) (hc.below hB)
 obtain ⟨v,rfl,hv,-,-,-⟩:=hc
 obtain ⟨a,cap,rfl,hcap,hcells⟩:=id hv
 by_cases hcd:codeC lo hi S wd=0
 rotate_left
 ·have HRI:=Lib.hid hri
  obtain ⟨k,hk⟩:∃ k,codeC lo hi S wd=k:=⟨_,rfl⟩
  have hR:courseR lo hi S wd=(0,0,k):=by unfold courseR;rw [if_neg hcd,hk]
  rw [hR]
  rw [hk] at hcd HRI
  have hkb:(k == 0)=false:=by simpa using hcd
  clear hv hG hcells hri hk hR hcd
  go_enter Tryz.func11,Tryz.ntmps11
  go_wp2_with fail
  refine (HRI.out _ qbl).mono ?_
  rintro e w1 ⟨rfl,hB1⟩
  have hb1:Below w.heap.size w w1:=qbl
  clear hB1
  go_wp2_with fail
  go_ret3
  exact ⟨rfl,hb1⟩
 ·obtain ⟨hrt,h1,h2⟩:=codeC_zero hcd
  have hso:=fun k (hk:k < S.length)=>span_ok hrt h1 h2 hk
  have hl64:=(rightB_short hrt).2.2.1
  have hss:=(rightB_short hrt).2.2.2
  have hR1:FewQ S wd S.length→courseR lo hi S wd=(fullQ S wd S.length,cutQ S wd S.length,0):=fun h=>by unfold courseR;rw [if_pos hcd,if_pos h]
  have hR2:¬ FewQ S wd S.length→courseR lo hi S wd=(0,0,4):=fun h=>by unfold courseR;rw [if_pos hcd,if_neg h]
  rw [hcd] at hri
  obtain ⟨R,hR⟩:∃ R,courseR lo hi S wd=R:=⟨_,rfl⟩
  rw [hR] at hR1 hR2 ⊢
  have HRI:=Lib.hid hri
  have HG:=Lib.hid hG
  have HC:=Lib.hid hcells
  have HSO:=Lib.hid hso
  have HSS:=Lib.hid hss
  have HR1:=Lib.hid hR1
  have HR2:=Lib.hid hR2
  clear hv hG hcells hri hso hss hR1 hR2 hR hcd hrt
  go_enter Tryz.func11,Tryz.ntmps11
  go_wp2_with fail
  refine (HRI.out _ qbl).mono ?_
  rintro e w1 ⟨rfl,hB1⟩
  have hb1:Below w.heap.size w w1:=qbl
  have c2:w1.cell? ⟨w.heap.size,2,none⟩=some (.slice a S.length cap):=keep hB1 (by simp [go_sem])
  have z1:=lt_of_cell c2
  go_wp2_with fail
  go_loopw [8,9,10] (fun f ct i wr=>∃ k:Nat,k≤S.length∧i=.int .i64 k∧f=.int .i64 (fullQ S wd k)∧ct=.int .i64 (cutQ S wd k)∧Hid (FewQ S wd k)∧Below w.heap.size w wr∧wr.cell? ⟨w.heap.size,2,none⟩=some (.slice a S.length cap)) (fun _ _ i _=>S.length - (intOf i).toNat)
  case atStart=>exact ⟨0,by omega,rfl,rfl,rfl,Lib.hid (fun k hk=>by omega),hb1,c2⟩
  case round =>
   obtain ⟨j,hj,rfl,rfl,rfl,HF,hBj,kw⟩:=hrel
   obtain ⟨bd1,bd2,bd3,bd4⟩:=fullQ_bds (fun k (hk:k < j)=>HSO.out k (by omega)) HF.out j (Nat.le_refl _)
   by_cases hjn:j=S.length
   ·subst hjn
    have HE:=Lib.hid (HR1.out HF.out)
    clear HF HR1 HR2 HSO HSS
    go_wp2_with fail
    go_ret3
    exact ⟨by rw [HE.out];first|done|rfl,hBj⟩
   ·have hj1:j < S.length:=by omega
    obtain ⟨b,off,rfl,hbb,hcc⟩:=HC.out (fun h=>by rw [h] at hj1;simp at hj1)
    obtain ⟨e0,e1⟩:=hcc j hj1
    have q0:=keep hBj e0
    have q1:=keep hBj e1
    obtain ⟨s1,s2⟩:=HSS.out j hj1
    have so:=HSO.out j hj1
    have hQd:spanQ S wd j=(qOf (tx S j).2 - qOf (tx S j).1) / (wd:Rat):=rfl
    have f1:fullQ S wd (j+1)=fullQ S wd j+(spanQ S wd j).floor:=rfl
    have f2:cutQ S wd (j+1)=if (spanQ S wd j).den=1 then cutQ S wd j else cutQ S wd j+1:=rfl
    obtain ⟨u,hu⟩:∃ u,(tx S j).1=u:=⟨_,rfl⟩
    obtain ⟨v,hv⟩:∃ v,(tx S j).2=v:=⟨_,rfl⟩
    obtain ⟨so1,so2,so3,so4⟩:=so
    rw [hu] at q0 s1
    rw [hv] at q1 s2
    have HU:=Lib.hid (isShort_spec s1)
    have HV:=Lib.hid (isShort_spec s2)
    have HWD:=Lib.hid (fun W hG=>rwidths48 u v wd W hG HU.out.1 HV.out.1 HU.out.2 HV.out.2 h1 h2)
    rw [← hu,← hv,← hQd,hu,hv] at HWD
    obtain ⟨Q,hQ⟩:∃ Q,spanQ S wd j=Q:=⟨_,rfl⟩
    have HFN:=Lib.hid (show ∀ (h:¬ mostQ < Q),FewQ S wd (j+1) from fun h k hk=>by
     rcases Nat.lt_or_eq_of_le (Nat.le_of_lt_succ hk) with h'|h'
     ·exact HF.out k h'
     ·rw [h',hQ];exact h)
    have HFX:=Lib.hid (show ∀ (h:mostQ < Q),¬ FewQ S wd S.length from fun h hx=>hx j hj1 (by rw [hQ];exact h))
    rw [hQ] at HWD so2 so3 so4 f1 f2
    have HF1:=Lib.hid f1
    have HF2:=Lib.hid f2
    have HFL:=Lib.hid so4
    have HPOS:=Lib.hid so3
    have HDEN:=Lib.hid (den_floor (Q:=Q))
    have hji:(j:Int) < (S.length:Int):=by omega
    obtain ⟨o,hoo⟩:∃ o,ordQ Q mostQ=o:=⟨_,rfl⟩
    have HO:=Lib.hid hoo
    clear hu hv e0 e1 hjn hcc s1 s2 so1 so3 so4 f1 f2 hQd hQ HF HSO HSS hoo HU HV
    go_wp2_with fail
    refine (HWD.out _ (HG.out.below hBj)).mono ?_
    rintro e w2 ⟨r3,hr3,rfl,hB2⟩
    have hB2':Below w.heap.size w w2:=below_trans' hBj hB2
    have kw2:=keep hB2 kw
    have HR3:=Lib.hid hr3
    clear hB2 hr3 HWD q0 q1
    have HCM:=Lib.hid (fun W hG=>rcmp48_q r3 ⟨#[49,48,55,51,55,52,49,56,50,52]⟩ W hG HR3.out so2 most_text sz_most (by decide) o HO.out)
    go_wp2_with fail
    refine (HCM.out _ (HG.out.below hB2')).mono ?_
    rintro e w3 ⟨rfl,hB3⟩
    have hB3':Below w.heap.size w w3:=below_trans' hB2' hB3
    have kw3:=keep hB3 kw2
    clear hB3 HCM kw2 kw
    by_cases hm:mostQ < Q
    ·have ho1:o=1:=by
      rw [← HO.out];unfold ordQ;rw [if_neg (Rat.not_lt.2 (Rat.le_of_lt hm)),if_pos hm]
     subst ho1
     have HE:=Lib.hid (HR2.out (HFX.out hm))
     clear HO hm HR1 HR2 HFN HFX HFL HF1 HF2
     go_wp2_with fail
     go_ret3
     exact ⟨by rw [HE.out];first|done|rfl,hB3'⟩
    ·have ho1:o≤0:=by
      rw [← HO.out];unfold ordQ;rw [if_neg hm]
      split<;>decide
     have hob:decide (0 < o)=false:=by simp;omega
     have HFN':=Lib.hid (HFN.out hm)
     obtain ⟨hf0,hf1⟩:=HFL.out hm
     have HP:=Lib.hid (Int.le_of_lt (num_posR HPOS.out))
     obtain ⟨F,hF⟩:∃ F:Nat,Q.floor=F:=⟨Q.floor.toNat,by omega⟩
     have HFF:=Lib.hid hF
     rw [hF] at hf0 hf1
     have hfl:F≤1073741824:=by omega
     clear HO hm ho1 HFN HFX HFL hF
     go_wp2_with fail
     refine (RFloor02_q r3 _ (HG.out.below hB3') HR3.out so2 (by decide) HP.out).mono ?_
     rintro e w4 ⟨r4,hr4,rfl,hB4⟩
     have hB4':Below w.heap.size w w4:=below_trans' hB3' hB4
     have kw4:=keep hB4 kw3
     have HR4:Hid (r4.data.toList=ratText ((F:Int):Rat)):=Lib.hid (by rw [hr4,HFF.out])
     clear hB4 hr4 kw3
     go_wp2_with fail
     refine (RInt02_n F r4 _ (HG.out.below hB4') HR4.out hfl).mono ?_
     rintro e w5 ⟨rfl,hB5⟩
     have hB5':Below w.heap.size w w5:=below_trans' hB4' hB5
     have kw5:=keep hB5 kw4
     have hw1:IntKind.i64.wrap (fullQ S wd j+F)=fullQ S wd j+F:=IntWalk.i64_in _ (by omega)
     have hw2:IntKind.i64.wrap (cutQ S wd j+1)=cutQ S wd j+1:=IntWalk.i64_in _ (by omega)
     clear hB5 kw4 HP
     have HF1':=Lib.hid (show fullQ S wd (j+1)=fullQ S wd j+F by rw [HF1.out,HFF.out])
     by_cases hde:Q.den=1
     ·have hE:(r4.toList == r3.toList)=true:=by
       have h3:=HDEN.out.1 hde
       have h4:r4.data.toList=r3.data.toList:=by rw [HR4.out,HR3.out,← HFF.out,h3]
       rw [Lib.toList_data,Lib.toList_data,h4];simp
      have HF2':=Lib.hid (show cutQ S wd (j+1)=cutQ S wd j by rw [HF2.out,if_pos hde])
      clear HDEN HF2 HF1 hde HFF
      generalize fullQ S wd j=vf at *
      generalize cutQ S wd j=vc at *
      go_wp2_with fail
      go_roundw
      case rel=>exact ⟨j+1,by omega,by go_num,by rw [HF1'.out],by rw [HF2'.out],HFN',hB5',kw5⟩
      case measure=>simp [intOf];omega
     ·have hE:(r4.toList == r3.toList)=false:=by
       have h4:r4.data.toList≠r3.data.toList:=by
        intro h
        rw [HR4.out,HR3.out] at h
        exact hde (HDEN.out.2 (by rw [HFF.out];exact ratText_inj' h))
       rw [Lib.toList_data,Lib.toList_data];simpa using h4
      have HF2':=Lib.hid (show cutQ S wd (j+1)=cutQ S wd j+1 by rw [HF2.out,if_neg hde])
      clear HDEN HF2 HF1 hde HFF
      generalize fullQ S wd j=vf at *
      generalize cutQ S wd j=vc at *
      go_wp2_with fail
      go_roundw
      case rel=>exact ⟨j+1,by omega,by go_num,by rw [HF1'.out],by rw [HF2'.out],HFN',hB5',kw5⟩
      case measure=>simp [intOf];omega
end Go.Proofs.YteepphiomcedfaaGreatDoor
namespace Go.Proofs.YteepphiomcedfaaGreatDoor
open Go.RowKit Go.Shelf
attribute [local go_sem] Oper.semAt_some
structure StepsA (f hi wd:Rat) (N:Nat):Prop where
 lt:∀ k:Nat,k < N→f+(k:Rat) * wd < hi
 ge:hi≤f+(N:Rat) * wd
 sm:∀ k:Nat,k≤N→Sz 80 (f+(k:Rat) * wd)
 hi:Sz 36 hi
 wd:Sz 4 wd
theorem begin1_any {f hi wd:Rat} {N:Nat} (n:Nat) (hn:1≤n) (l b1 b2 b3:Nat) (B:Nat) (J Jx:List Rat→World→Prop) (hst:StepsA f hi wd N)
  (hY:∀ pre x W,J pre W→pre.length < N→YieldAt Fence.wide (n - 1) Tryz.prog l #[.string (numS x)] W fun e W' =>
   (e=.returned (.bool true)∧J (pre++[x]) W'∧KpB B b2 b3 W W')∨(e=.returned (.bool false)∧Jx (pre++[x]) W'))
  (W:World) (hJ:AbidesFrom W.heap.size J) (w0:World) (hG:Glo w0) (hw0:Below w0.heap.size w0 W) (hB:w0.heap.size≤B)
  (c1:W.cell? ⟨b1,0,none⟩=some (.string (numS f))) (c2:W.cell? ⟨b2,1,none⟩=some (.string (numS hi))) (c3:W.cell? ⟨b3,0,none⟩=some (.string (numS wd))) (h0:J [] W) :
  CallsIn Fence.wide n Tryz.prog 112 #[.func (.yield l) #[] #[],.pointer (some ⟨b1,0,none⟩),.pointer (some ⟨b2,0,none⟩),.pointer (some ⟨b3,0,none⟩)] W fun e W'=>(∃ v,e=.returned v) ∧
   ((∃ ys,ys=ats f wd N∧J ys W')∨(∃ pre,pre <+: ats f wd N∧Jx pre W')):=by
 have HG:=Lib.hid hG
 have HST:=Lib.hid hst
 have HJ:=Lib.hid hJ
 have HY:=Lib.hid hY
 clear hG hst hJ hY
 refine callsIn_of_wp Tryz.func112 rfl trivial ?_ rfl
 simp only [Tryz.ntmps112,List.size_toArray,List.length_cons,List.length_nil,Nat.reduceAdd,Nat.reduceSub,Array.replicate_succ,Array.replicate_zero,List.push_toArray,List.append_toArray,List.nil_append,List.cons_append]
 gi_wp2
 gi_loopg [5] N (fun g v wr=>∃ k:Nat,k≤N∧g=N - k∧v=.string (numS (f+(k:Rat) * wd))∧Hid (J (ats f wd k) wr)∧Below w0.heap.size w0 wr∧wr.cell? ⟨b2,1,none⟩=some (.string (numS hi))∧wr.cell? ⟨b3,0,none⟩=some (.string (numS wd)))
 case atStart=>exact ⟨0,by omega,rfl,by simp [Rat.zero_mul,Rat.add_zero],Lib.hid h0,hw0,c2,c3⟩
 case round =>
  obtain ⟨k,hk,rfl,rfl,hJk,hBk,k2,k3⟩:=hrel
  by_cases hkn:k=N
  ·subst hkn
   have hc:=cmp_ge HST.out.ge
   gi_wp2_with (refine ⟨trivial,?_⟩;gi_at_call 21;refine (callsIn_wide.2 (RCompare_ok _ _ _ (HG.out.below hBk) (numS_list _) (HST.out.sm k (Nat.le_refl _)) (numS_list _) HST.out.hi (by decide))).mono ?_;rintro e w' ⟨rfl,hB'⟩)
   refine ⟨fun _ h=>(by cases h),?_⟩
   gi_wp2
   refine bodyPost_ret (results_none rfl _ _ _) rfl ?_
   exact ⟨⟨_,rfl⟩,.inl ⟨_,rfl,abides_below HJ.out hJk.out hB'⟩⟩
  ·have hk1:k < N:=by omega
   have hc:=cmp_lt (HST.out.lt k hk1)
   have hpl:(ats f wd k).length < N:=by rw [ats_length];exact hk1
   gi_wp2_with (refine ⟨trivial,?_⟩;gi_at_call 21;refine (callsIn_wide.2 (RCompare_ok _ _ _ (HG.out.below hBk) (numS_list _) (HST.out.sm k hk) (numS_list _) HST.out.hi (by decide))).mono ?_;rintro e w' ⟨rfl,hB'⟩;rw [hc];have hB2:Below w0.heap.size w0 w':=hBk.trans (hB'.mono hBk.size);have k2':=keep hB' k2;have k3':=keep hB' k3;obtain ⟨fn,tmps,assign,body,hy,hR⟩:=HY.out (ats f wd k) (f+(k:Rat) * wd) w' (abides_below (HJ.out) hJk.out hB') hpl)
   have hsm1:=HST.out.sm (k+1) hk1
   have hnx:f+(k:Rat) * wd+wd=f+((k+1:Nat):Rat) * wd:=by
    rw [Rat.natCast_add,Rat.add_mul,Rat.add_assoc];simp [Rat.one_mul]
   have HNX:=Lib.hid hnx
   clear hnx
   refine hR.mono ?_
   rintro e W3 (⟨rfl,hJ3,hk3⟩|⟨rfl,hJx3⟩)
   ·have hB3:Below w0.heap.size w0 W3:=hB2.trans (hk3.1.mono hB)
    have k23:W3.cell? ⟨b2,1,none⟩=some (.string (numS hi)):=(World.cell?_of_block hk3.2.1).trans k2'
    have k33:W3.cell? ⟨b3,0,none⟩=some (.string (numS wd)):=(World.cell?_of_block hk3.2.2).trans k3'
    have hJ3':=Lib.hid hJ3
    clear hJ3 hk3
    gi_wp2
    refine ⟨trivial,?_⟩
    refine (callsIn_wide.2 (RAdd_ok _ _ _ (HG.out.below hB3) (numS_list _) (HST.out.sm k hk) (numS_list _) HST.out.wd (by decide))).mono ?_
    rintro e w4 ⟨r,hr,rfl,hB4⟩
    have he:=numS_of hr
    subst he
    rw [HNX.out]
    have hB4':Below w0.heap.size w0 w4:=hB3.trans (hB4.mono hB3.size)
    have k24:=keep hB4 k23
    have k34:=keep hB4 k33
    have hJ4:Hid (J (ats f wd (k+1)) w4):=Lib.hid (by rw [ats_succ];exact abides_below HJ.out hJ3'.out hB4)
    clear hr hB4 k23 k33 hJ3'
    gi_wp2
    gi_roundg (N - (k+1))
    case rel=>exact ⟨k+1,hk1,rfl,by simp [Rat.natCast_add],hJ4,hB4',k24,k34⟩
    case measure=>omega
   ·gi_wp2
    refine bodyPost_ret (results_none rfl _ _ _) rfl ?_
    exact ⟨⟨_,rfl⟩,.inr ⟨_,by rw [← ats_succ];exact ats_prefix _ _ hk1,hJx3⟩⟩
theorem begin_stopsA {f hi wd:Rat} {N:Nat} (n:Nat) (hn:1≤n) (b1 b2 b3:Nat) (B:Nat) (hst:StepsA f hi wd N) (w0 w:World) (hG:Glo w0) (hw0:Below w0.heap.size w0 w) (hB:w0.heap.size≤B)
  (c1:w.cell? ⟨b1,0,none⟩=some (.string (numS f))) (c2:w.cell? ⟨b2,1,none⟩=some (.string (numS hi))) (c3:w.cell? ⟨b3,0,none⟩=some (.string (numS wd))) :
  SeqStopsK Fence.wide n Tryz.prog 112 #[.pointer (some ⟨b1,0,none⟩),.pointer (some ⟨b2,0,none⟩),.pointer (some ⟨b3,0,none⟩)] (fun q:Rat=>#[Value.string (numS q)]) (KpB B b2 b3) (fun ys=>ys=ats f wd N) (fun pre=>pre <+: ats f wd N) N w:=fun l J Jx W hW hJ _ hY h0 =>
 begin1_any n hn l b1 b2 b3 B J Jx hst hY W hJ w0 hG (hw0.trans (hW.mono hw0.size)) hB (keep hW c1) (keep hW c2) (keep hW c3) h0
end Go.Proofs.YteepphiomcedfaaGreatDoor
namespace Go.Proofs.YteepphiomcedfaaGreatDoor
open Go.RowKit Go.Shelf
attribute [local go_sem] Oper.semAt_some
def RetOffs (l:List Rat) (w:World) (e:Ending) (w':World):Prop:=(l.length≤4096∧RetOff l w e w')∨(4096 < l.length∧e=.returned (.tuple #[.slice none 0 0,.int .i64 4])∧Below w.heap.size w w')
theorem cell_ownF {β:Type} {m b:Nat} {v:Value} (h:b < m):OwnFrom m (fun (_:β) W=>W.cell? ⟨b,0,none⟩=some v):=fun s W W' row hs hg hr=>by
 refine (World.cell?_of_block (hg.block b (lt_of_cell hs) ?_)).trans hs
 intro e
 have:=(hr b e.symm).1
 omega
theorem offTo_mono (sp:List (Rat × Rat)) (wd:Int) (odd:Bool) (Ns:Nat→Nat) {i j:Nat} (h:i≤j):(offTo sp wd odd Ns i).length≤(offTo sp wd odd Ns j).length:=by
 induction h with
 | refl=>exact Nat.le_refl _
 | step h ih =>
  refine Nat.le_trans ih ?_
  unfold offTo
  rw [List.range_succ,List.flatMap_append,List.length_append]
  omega
theorem sz_half {wd:Int} (h1:1≤wd) (h2:wd≤2000):Sz 5 ((wd:Rat) / 2):=Sz.div (a:=4) (b:=1) (sz4 h1 h2) ⟨by decide,by decide⟩ (by decide)
theorem Offsets_all {lo hi:Rat} {sp:List (Rat × Rat)} (c:Value) (wd:Int) (odd:Bool) (w:World) (hG:Glo w) (hc:IsCourse w c lo hi sp) (hri:∀ w':World,Below w.heap.size w w'→Calls Tryz.prog 41 #[c,.int .i64 wd] w' (RetB (.int .i64 0) w'))
  (hsz:∀ k (h:k < sp.length),Sz 36 sp[k].1∧Sz 36 sp[k].2) (hl64:sp.length≤64) (h1:1≤wd) (h2:wd≤2000)
  (Ns:Nat→Nat) (hst:∀ k (h:k < sp.length),StepsA (firstAt sp[k] wd odd) sp[k].2 wd (Ns k)) :
  Calls Tryz.prog 14 #[c,.int .i64 wd,.bool odd] w (RetOffs (offTo sp wd odd Ns sp.length) w):=by
 obtain ⟨s,t,v,rfl,hs,ht,hv⟩:=hc
 obtain ⟨a,cap,rfl,hcap,hcells⟩:=id hv
 have hws:Sz 4 (wd:Rat):=sz4 h1 h2
 have hs2:Sz 1 2:=⟨by decide,by decide⟩
 have HRI:=Lib.hid hri
 have HG:=Lib.hid hG
 have HC:=Lib.hid hcells
 have HGC:=Lib.hid hsz
 have HST:=Lib.hid hst
 obtain ⟨i0,hi0,hz0,hz1,hz2⟩:=info_parts Tryz.infoNum
 clear hs ht hv hG hcells hsz hst hri
 refine (callsIn_wide (n:=5)).1 ?_
 refine callsIn_of_wp_marks Tryz.func14 rfl trivial ?_ rfl
 simp only [Tryz.ntmps14,List.size_toArray,List.length_cons,List.length_nil,Nat.reduceAdd,Nat.reduceSub,Array.replicate_succ,Array.replicate_zero,List.push_toArray,List.append_toArray,List.nil_append,List.cons_append]
 gi_wp2
 refine ⟨trivial,?_⟩
 refine (callsIn_wide.2 (HRI.out _ qbl)).mono ?_
 rintro e w1 ⟨rfl,hB1⟩
 have hb1:Below w.heap.size w w1:=qbl
 have c0:w1.cell? ⟨w.heap.size,0,none⟩=some (.string s):=keep hB1 (by simp [go_sem])
 have c1:w1.cell? ⟨w.heap.size,1,none⟩=some (.string t):=keep hB1 (by simp [go_sem])
 have c2:w1.cell? ⟨w.heap.size,2,none⟩=some (.slice a sp.length cap):=keep hB1 (by simp [go_sem])
 have c3:w1.cell? ⟨w.heap.size+1,0,none⟩=some (.slice none 0 0):=keep hB1 (by simp [go_sem])
 have c4:w1.cell? ⟨w.heap.size+2,0,none⟩=some (.int .i64 0):=keep hB1 (by simp [go_sem])
 have z1:=lt_of_cell c2
 have z2:=lt_of_cell c3
 have z3:=lt_of_cell c4
 gi_wp2
 refine ⟨trivial,?_⟩
 refine (callsIn_wide.2 (twhole_any wd _ (HG.out.below qbl) (by omega) (by omega))).mono ?_
 rintro e w2 ⟨r2,hr2,rfl,hB2⟩
 obtain rfl:=numS_of hr2.out
 have hb2:Below w.heap.size w w2:=qbl
 clear hr2
 gi_wp2
 refine ⟨trivial,?_⟩
 refine (callsIn_wide.2 (RDiv_ok (numS wd) ⟨#[50]⟩ _ (HG.out.below qbl) (numS_list _) hws two_text.symm hs2 (by decide) (by decide))).mono ?_
 rintro e w3 ⟨r3,hr3,rfl,hB3⟩
 obtain rfl:=numS_of hr3
 have hb3:Below w.heap.size w w3:=qbl
 have m3:w1.frozen? ⟨w.heap.size+1,0,none⟩=false:=keepf hB1 (v:=.slice none 0 0) (by simp [go_sem]) (by simp [go_sem])
 have m4:w1.frozen? ⟨w.heap.size+2,0,none⟩=false:=keepf hB1 (v:=.int .i64 0) (by simp [go_sem]) (by simp [go_sem])
 have g3:=keepf hB3 (keep hB2 c3) (keepf hB2 c3 m3)
 have g4:=keepf hB3 (keep hB2 c4) (keepf hB2 c4 m4)
 clear m3 m4 hB1
 have e2:=keep hB3 (keep hB2 c2)
 have e3:=keep hB3 (keep hB2 c3)
 have e4:=keep hB3 (keep hB2 c4)
 have z4:=lt_of_cell e2
 have z5:=lt_of_cell e3
 have z6:=lt_of_cell e4
 clear hr3 hB2 hB3 c0 c1 c2 c3 c4
 gi_wp2
 refine wpIn_loop_ghost_k (fun (g:Nat) (a':Act) (w':World)=>∃ (Ds:List Nat) (u14 u15 u16 u33 u34 u35 u36 u37 u38 u39 u40 u41 u42 u43 u44 u45 u46 u47 u48 u49 u50 u51 u52 u53 u54 u55 u56 u57 u58 u59 u60:Value),(∃ j:Nat,j≤sp.length∧g=sp.length - j∧u33=.int .i64 j∧Hid ((offTo sp wd odd Ns j).length≤4096)∧OffInv sp wd odd Ns j w3 (w3.heap.size) Ds w')∧a'={ tmps:=#[.agg #[.string s,.string t,.slice a sp.length cap],.int .i64 wd,.bool odd,.pointer (some ⟨w.heap.size,0,none⟩),undef,undef,.pointer (some ⟨w.heap.size+1,0,none⟩),.pointer (some ⟨w.heap.size+1+1,0,none⟩),.int .i64 0,.string (numS wd),.string (numS ((wd:Rat) / 2)),.int .i64 0,.pointer (some ⟨w3.heap.size,0,none⟩),undef,u14,u15,u16,.agg #[.string s,.string t,.slice a sp.length cap],.int .i64 wd,.int .i64 0,.int .i64 0,.bool false,undef,.int .i64 wd,.string (numS wd),.tuple #[.string (numS ((wd:Rat) / 2)),.int .i64 0],.string (numS wd),.tuple #[.string (numS ((wd:Rat) / 2)),.int .i64 0],.string (numS ((wd:Rat) / 2)),.int .i64 0,.pointer (some ⟨w.heap.size,2,none⟩),.slice a sp.length cap,.int .i64 sp.length,u33,u34,u35,u36,u37,u38,u39,u40,u41,u42,u43,u44,u45,u46,u47,u48,u49,u50,u51,u52,u53,u54,u55,u56,u57,u58,u59,u60],defers:=Ds.map markOf }) sp.length ?_ ?_
 ·exact ⟨[],_,_,_,_,_,_,_,_,_,_,_,_,_,_,_,_,_,_,_,_,_,_,_,_,_,_,_,_,_,_,_,⟨0,by omega,rfl,rfl,Lib.hid (by rw [offTo_zero];decide),offInv_zero _ _ _ _ _⟩,rfl⟩
 ·rintro g _ wr ⟨Ds,u14,u15,u16,u33,u34,u35,u36,u37,u38,u39,u40,u41,u42,u43,u44,u45,u46,u47,u48,u49,u50,u51,u52,u53,u54,u55,u56,u57,u58,u59,u60,hrel,rfl⟩ J K hJ hK
  obtain ⟨j,hj,rfl,rfl,HLE,hI⟩:=hrel
  have f2:=keep hI.below e2
  have f3:=keep hI.below e3
  have f4:=keep hI.below e4
  have h3:=keepf hI.below e3 g3
  have h4:=keepf hI.below e4 g4
  have y3:=lt_of_cell f3
  have y4:=lt_of_cell f4
  have y2:=lt_of_cell f2
  by_cases hjn:j=sp.length
  ·subst hjn
   obtain ⟨v,hv,hrow,hnil⟩:=hI.out
   have hvc:=hv.cell
   obtain ⟨oa,on,oc,rfl⟩:∃ x y z,v=.slice x y z:=by
    rcases hrow.2 with ⟨rfl,_⟩|⟨g,cap',cur,rfl,_⟩<;>exact ⟨_,_,_,rfl⟩
   gi_wp2
   refine leaves_marks w3.heap.size Ds _ hI.nodup (fun D hD=>?_) (fun W' hB' hcc=>?_)
   ·obtain ⟨x1,x2⟩:=hI.marks D hD
    exact ⟨x1,(KeepsOthers.setCell _ _ _).same D _ ((KeepsOthers.setCell _ _ _).same D _ x2 rfl) rfl⟩
   ·have hW1:W'.cell? ⟨w.heap.size+1,0,none⟩=some (.slice oa on oc):=cell_keeps (by simp [go_sem,f3,f4]) hcc
    have hW2:W'.cell? ⟨w.heap.size+2,0,none⟩=some (.int .i64 0):=cell_keeps (by simp [go_sem,f3,f4]) hcc
    refine ⟨.tuple #[.slice oa on oc,.int .i64 0],by simp [results,Tryz.results14,go_sem,hW1,hW2],.inl ⟨HLE.out,_,rfl,?_,hnil,?_⟩⟩
    ·exact ownsRow_base (ownsRow_keeps (ownsRow_setCell (ownsRow_setCell hrow (by omega)) (by omega)) hcc) hb3.size
    ·exact (((hb3.trans (hI.below.mono hb3.size)).setCell (by simp) _).setCell (by simp;omega) _).trans (hB'.mono hb3.size)
  ·have hj1:j < sp.length:=by omega
   obtain ⟨b,off,rfl,hbb,hcc⟩:=HC.out (fun h=>by rw [h] at hj1;simp at hj1)
   obtain ⟨u,v,q0,q1,hu,hv⟩:=hcc j hj1
   have q0':=keep hI.below (keep hb3 q0)
   have q1':=keep hI.below (keep hb3 q1)
   obtain rfl:=numS_of hu
   obtain rfl:=numS_of hv
   have hji:(j:Int) < (sp.length:Int):=by omega
   clear hu hv q0 q1 hcc
   cases odd
   ·gi_wp2
    refine ⟨trivial,?_⟩
    refine (callsIn_wide.2 (beginnings_any _ _ _ _ _)).mono ?_
    rintro e w4 ⟨rfl,rfl⟩
    gi_wp2
    have hIs:OffInv sp wd _ Ns j w3 w3.heap.size Ds ((((wr.alloc (.cells #[.string (numS sp[j].1),.string (numS sp[j].2)] 77)).alloc (.cells #[.string (numS sp[j].1)] 22)).alloc (.cells #[.string (numS sp[j].1),.string (numS sp[j].2)] 77)).alloc (.cells #[.string (numS wd)] 22)):=hI.below' qbl
    have hsz:((((wr.alloc (.cells #[.string (numS sp[j].1),.string (numS sp[j].2)] 77)).alloc (.cells #[.string (numS sp[j].1)] 22)).alloc (.cells #[.string (numS sp[j].1),.string (numS sp[j].2)] 77)).alloc (.cells #[.string (numS wd)] 22)).heap.size=wr.heap.size+3+1:=by simp
    have k1:((((wr.alloc (.cells #[.string (numS sp[j].1),.string (numS sp[j].2)] 77)).alloc (.cells #[.string (numS sp[j].1)] 22)).alloc (.cells #[.string (numS sp[j].1),.string (numS sp[j].2)] 77)).alloc (.cells #[.string (numS wd)] 22)).cell? ⟨wr.heap.size+1,0,none⟩=some (.string (numS sp[j].1)):=by simp [go_sem]
    have k2:((((wr.alloc (.cells #[.string (numS sp[j].1),.string (numS sp[j].2)] 77)).alloc (.cells #[.string (numS sp[j].1)] 22)).alloc (.cells #[.string (numS sp[j].1),.string (numS sp[j].2)] 77)).alloc (.cells #[.string (numS wd)] 22)).cell? ⟨wr.heap.size+2,1,none⟩=some (.string (numS sp[j].2)):=by simp [go_sem]
    have k3:((((wr.alloc (.cells #[.string (numS sp[j].1),.string (numS sp[j].2)] 77)).alloc (.cells #[.string (numS sp[j].1)] 22)).alloc (.cells #[.string (numS sp[j].1),.string (numS sp[j].2)] 77)).alloc (.cells #[.string (numS wd)] 22)).cell? ⟨wr.heap.size+3,0,none⟩=some (.string (numS wd)):=by simp [go_sem]
    have j2:((((wr.alloc (.cells #[.string (numS sp[j].1),.string (numS sp[j].2)] 77)).alloc (.cells #[.string (numS sp[j].1)] 22)).alloc (.cells #[.string (numS sp[j].1),.string (numS sp[j].2)] 77)).alloc (.cells #[.string (numS wd)] 22)).heap[wr.heap.size+2]?=some (.cells #[.string (numS sp[j].1),.string (numS sp[j].2)] 77 (0,0)):=by have h:=World.alloc_heap_new ((wr.alloc (.cells #[.string (numS sp[j].1),.string (numS sp[j].2)] 77)).alloc (.cells #[.string (numS sp[j].1)] 22)) (.cells #[.string (numS sp[j].1),.string (numS sp[j].2)] 77);simp only [World.size_alloc] at h;exact (Below.heap_alloc _ _ _ (by simp)).trans h
    have j3:((((wr.alloc (.cells #[.string (numS sp[j].1),.string (numS sp[j].2)] 77)).alloc (.cells #[.string (numS sp[j].1)] 22)).alloc (.cells #[.string (numS sp[j].1),.string (numS sp[j].2)] 77)).alloc (.cells #[.string (numS wd)] 22)).heap[wr.heap.size+3]?=some (.cells #[.string (numS wd)] 22 (0,0)):=by have h:=World.alloc_heap_new (((wr.alloc (.cells #[.string (numS sp[j].1),.string (numS sp[j].2)] 77)).alloc (.cells #[.string (numS sp[j].1)] 22)).alloc (.cells #[.string (numS sp[j].1),.string (numS sp[j].2)] 77)) (.cells #[.string (numS wd)] 22);simp only [World.size_alloc] at h;exact h
    have hBs:Below wr.heap.size wr ((((wr.alloc (.cells #[.string (numS sp[j].1),.string (numS sp[j].2)] 77)).alloc (.cells #[.string (numS sp[j].1)] 22)).alloc (.cells #[.string (numS sp[j].1),.string (numS sp[j].2)] 77)).alloc (.cells #[.string (numS wd)] 22)):=qbl
    have hwl:wr.heap.size≤wr.heap.size+1:=by omega
    generalize ((((wr.alloc (.cells #[.string (numS sp[j].1),.string (numS sp[j].2)] 77)).alloc (.cells #[.string (numS sp[j].1)] 22)).alloc (.cells #[.string (numS sp[j].1),.string (numS sp[j].2)] 77)).alloc (.cells #[.string (numS wd)] 22))=Ws at *
    obtain ⟨v,hv0,hrow0,hnil⟩:=hI.out
    have hcs:∀ (k:Nat) (o:Obj),wr.heap[k]?=some o→Ws.heap[k]?=some o:=fun k o hk=>(hBs.block _ (Array.getElem?_eq_some_iff.1 hk).1).trans hk
    have hv:Boxed Ws w3.heap.size 34 v:=hcs _ _ hv0
    have hrow:=ownsRow_keeps hrow0 (fun k o hk _=>hcs k o hk)
    have hv3:∀ b,wr.heap.size≤b→v.ownBlock≠some b:=fun b hb e=>by
     rcases hrow0.2 with ⟨rfl,_⟩|⟨g,cap',cur,rfl,_,hg,_⟩
     ·cases e
     ·have:=(Array.getElem?_eq_some_iff.1 hg).1
      simp [Value.ownBlock] at e
      omega
    refine wpIn_rangeFunc_ownG (a₁:=?a1) rfl (by omega) (gf:=112) (lb:=#[.pointer (some ⟨wr.heap.size+1,0,none⟩),.pointer (some ⟨wr.heap.size+2,0,none⟩),.pointer (some ⟨wr.heap.size+3,0,none⟩)]) rfl trivial (enters_of Tryz.func112 (by kernel_rfl) rfl)
     (begin_stopsA _ (by omega) (wr.heap.size+1) (wr.heap.size+2) (wr.heap.size+3) w3.heap.size (HST.out j hj1) w3 _ (HG.out.below hb3) hIs.below (Nat.le_refl _) k1 k2 k3) KpB.t (KpB.b hIs.below.size (by omega) (by omega)) (bw0 _ _) (fun _=>rfl)
     (fun pre W=>(((∃ v,Boxed W w3.heap.size 34 v∧W.ownsRow w3.heap.size 22 1 v (offTo sp wd false Ns j++pre).length (numVs (offTo sp wd false Ns j++pre))∧((v=.slice none 0 0↔offTo sp wd false Ns j++pre=[])∧v.ownBlock≠some (wr.heap.size+2)∧v.ownBlock≠some (wr.heap.size+3)))∧(Below w3.heap.size w3 W∧(offTo sp wd false Ns j++pre).length≤4096))∧(∀ D ∈ Ds,w3.heap.size≤D∧W.heap[D]?=some (.deferred (some []))))∧(W.heap[wr.heap.size+2]?=some (.cells #[.string (numS sp[j].1),.string (numS sp[j].2)] 77 (0,0))∧W.heap[wr.heap.size+3]?=some (.cells #[.string (numS wd)] 22 (0,0))))
     (fun c pre W=>((W.cell? ⟨w.heap.size+1,0,none⟩=some (.slice none 0 0)∧W.cell? ⟨w.heap.size+2,0,none⟩=some (.int .i64 4))∧(Below w.heap.size w W∧(∀ D ∈ Ds,w3.heap.size≤D∧W.heap[D]?=some (.deferred (some [])))))∧((offTo sp wd false Ns j++pre).length=4097∧c=.ret))
     (OwnFrom.and (OwnFrom.and (OwnFrom.and (Own.from (holdsRow_own w3.heap.size w3.heap.size 34 22 1 (fun pre=>(offTo sp wd false Ns j++pre).length) (fun pre=>numVs (offTo sp wd false Ns j++pre)) (fun pre v=>(v=.slice none 0 0↔offTo sp wd false Ns j++pre=[])∧v.ownBlock≠some (wr.heap.size+2)∧v.ownBlock≠some (wr.heap.size+3))) _) (OwnFrom.and (ownFrom_below (Nat.le_refl _) hIs.below.size) (fun _ _ _ _ hs _ _=>hs))) (marks_own (m:=Ws.heap.size) (fun D hD=>(Array.getElem?_eq_some_iff.1 (hIs.marks D hD).2).1))) (OwnFrom.and (block_own (m:=Ws.heap.size) (b:=wr.heap.size+2) (by omega)) (block_own (m:=Ws.heap.size) (b:=wr.heap.size+3) (by omega))))
     (fun c=>OwnFrom.and (OwnFrom.and (OwnFrom.and (cell_ownF (by omega)) (cell_ownF (by omega))) (OwnFrom.and (ownFrom_below (Nat.le_refl _) (by omega)) (marks_own (m:=Ws.heap.size) (fun D hD=>(Array.getElem?_eq_some_iff.1 (hIs.marks D hD).2).1)))) (fun _ _ _ _ hs _ _=>hs))
     ⟨⟨⟨⟨v,hv,by simpa using hrow,by simpa using hnil,hv3 (wr.heap.size+2) (by omega),hv3 (wr.heap.size+3) (by omega)⟩,⟨hIs.below,by simpa using HLE.out⟩⟩,hIs.marks⟩,j2,j3⟩ ?assign ?body ?done ?stop
    case assign =>
     intro l x W K hK
     gi_wp2
     exact hK
    case stop =>
     rintro D c pre W hD hpre ⟨⟨⟨x1,x2⟩,hB,hM⟩,hL,rfl⟩ hKd
     gi_wp2
     refine leaves_marks w3.heap.size (D::Ds) _ ?_ (fun E hE=>?_) (fun W' hB' hcc=>?_)
     ·refine List.nodup_cons.2 ⟨fun hDD=>?_,hI.nodup⟩
      have:=(Array.getElem?_eq_some_iff.1 (hIs.marks D hDD).2).1
      omega
     ·rcases List.mem_cons.1 hE with rfl|hE
      ·exact ⟨Nat.le_trans hIs.below.size hD,hKd⟩
      ·exact hM E hE
     ·have hW1:W'.cell? ⟨w.heap.size+1,0,none⟩=some (.slice none 0 0):=cell_keeps x1 hcc
      have hW2:W'.cell? ⟨w.heap.size+2,0,none⟩=some (.int .i64 4):=cell_keeps x2 hcc
      refine ⟨.tuple #[.slice none 0 0,.int .i64 4],by simp [results,Tryz.results14,go_sem,hW1,hW2],.inr ⟨?_,rfl,hB.trans (hB'.mono (by omega))⟩⟩
      have h6:=hpre.length_le
      have h7:=offTo_mono sp wd false Ns (show j+1≤sp.length from hj1)
      rw [offTo_succ _ _ _ _ hj1,List.length_append] at h7
      rw [List.length_append] at hL
      omega
    case body =>
     rintro l pre x W ⟨⟨⟨⟨v,hv,hrow,hnil,hn2,hn3⟩,hB,hLe⟩,hM⟩,hj2,hj3⟩ hlt
     have hLe':(offTo sp wd false Ns j++pre).length≤4096:=hLe
     clear hLe
     obtain ⟨B',hB1,hB2,hrow',hpick⟩:=base_pick hrow hB.size (by rw [hnil];exact List.length_eq_zero_iff.symm) hj2 hj3 hn2 hn3 (fun cur h=>by cases h) (fun cur h=>by cases h;rfl)
     have hc:=hv.cell
     obtain ⟨oa,oc,rfl⟩:∃ oa oc,v=.slice oa (offTo sp wd false Ns j++pre).length oc:=by
      rcases hrow.2 with ⟨h,hk⟩|⟨g,cap,cur,h,_⟩
      ·exact ⟨none,0,by rw [h,hk]⟩
      ·exact ⟨_,_,h⟩
     by_cases heq:(((offTo sp wd false Ns j++pre).length:Nat):Int)=4096
     ·have p3:=keep hB e3
      have p4:=keep hB e4
      have i3:=keepf hB e3 g3
      have i4:=keepf hB e4 g4
      have s3:=lt_of_cell p3
      have s4:=lt_of_cell p4
      have hbase:Below w.heap.size w W:=hb3.trans (hB.mono hb3.size)
      have HVL:Hid ((offTo sp wd false Ns j++(pre++[x])).length=4097):=Lib.hid (by rw [← List.append_assoc,List.length_append];simp only [List.length_cons,List.length_nil];omega)
      generalize offTo sp wd false Ns j++pre=M at *
      gi_wp2
      refine ⟨((KeepsOthers.setCell _ _ _).from _).trans ((KeepsOthers.setCell _ _ _).from _),⟨⟨⟨?_,?_⟩,?_,?_⟩,HVL.out,rfl⟩⟩
      ·simp [go_sem, *]
      ·simp [go_sem, *]
      ·exact (hbase.setCell (by simp) _).setCell (by simp;omega) _
      ·exact fun D hD=>⟨(hM D hD).1,(KeepsOthers.setCell _ _ _).same D _ ((KeepsOthers.setCell _ _ _).same D _ (hM D hD).2 rfl) rfl⟩
     have hne:¬ (((offTo sp wd false Ns j++pre).length:Int)=4096):=heq
     clear heq
     have hvs:numVs (offTo sp wd false Ns j++(pre++[x]))=numVs (offTo sp wd false Ns j++pre)++[.string (numS x)]:=by simp [numVs]
     have hvl:(offTo sp wd false Ns j++(pre++[x])).length=(offTo sp wd false Ns j++pre).length+1:=by simp;omega
     have HVS:=Lib.hid hvs
     have HVL:=Lib.hid hvl
     have HNIL:=Lib.hid hnil
     clear hvs hvl hnil
     generalize offTo sp wd false Ns j++pre=M at *
     have hnb:M.length+1≤maxLen:=by unfold maxLen;omega
     gi_wp2_with (gi_at_builtin;refine wpListIn_append_own _ rfl _ _ 34 rfl B' 22 i0 (.string ⟨#[]⟩) 1 16 Tryz.underlying34 hi0 hz0 hz1 hz2 rfl (by decide) _ _ _ rfl (hrow'.alloc _) ⟨W.heap.size,0,none⟩ 1 1 [.string (numS x)] rfl rfl (cell_one_new _ _ _) (by simp [Value.oneCell']) hnb (by omega) (by simp;omega) ?_;intro v' w1 hown0 hgrow _;have hown':=ownsRow_base hown0 hB1;obtain ⟨g',cap',rfl⟩:=ownsRow_succ hown';obtain ⟨hv1,hv2,hr2,hk2,hb2⟩:=hv.appended (by decide) hrow hB.size (Nat.le_refl _) hown' hgrow;have hc1:=hv1.cell;have hf1:=hv1.frozen)
     have hgW:W.grownBy w1 (Value.slice oa M.length oc).ownBlock:=⟨hgrow.os,hgrow.tape,hgrow.output,by have:=hgrow.size;simp at this;omega,fun k hk hne=>(hgrow.block k (by simp;omega) hne).trans (Below.heap_alloc W _ k hk)⟩
     obtain ⟨p2,p3⟩:=hpick _ _ _ hown0 hgW
     have hwb:w3.heap.size < wr.heap.size:=hv0.lt
     have x2:(w1.setCell ⟨w3.heap.size,0,none⟩ (.slice (some ⟨g',0,none⟩) (M.length+1) cap')).heap[wr.heap.size+2]?=W.heap[wr.heap.size+2]?:=(Below.heap_setCell _ _ _ _ (by show wr.heap.size+2≠w3.heap.size;omega)).trans (hgW.block _ (Array.getElem?_eq_some_iff.1 hj2).1 (fun e=>hn2 e.symm))
     have x3:(w1.setCell ⟨w3.heap.size,0,none⟩ (.slice (some ⟨g',0,none⟩) (M.length+1) cap')).heap[wr.heap.size+3]?=W.heap[wr.heap.size+3]?:=(Below.heap_setCell _ _ _ _ (by show wr.heap.size+3≠w3.heap.size;omega)).trans (hgW.block _ (Array.getElem?_eq_some_iff.1 hj3).1 (fun e=>hn3 e.symm))
     refine ⟨hk2.from _,⟨hb2,x2,x3⟩,⟨⟨⟨_,hv2,?_,?_,p2,p3⟩,hB.trans hb2,?_⟩,fun D hD=>⟨(hM D hD).1,hk2.same D _ (hM D hD).2 rfl⟩⟩,x2.trans hj2,x3.trans hj3⟩
     ·rw [HVL.out,HVS.out];exact hr2
     ·simp
     ·rw [HVL.out];omega
    case done =>
     rintro D ys W hD rfl ⟨⟨⟨⟨v,hv,hrow,hnil,_,_⟩,hB,hLe⟩,hM⟩,_,_⟩ hKd
     gi_wp2
     refine Handed.intro (sp.length - (j+1)) (by omega) ?_
     first|gi_step|go_step
     refine ⟨D::Ds,_,_,_,_,_,_,_,_,_,_,_,_,_,_,_,_,_,_,_,_,_,_,_,_,_,_,_,_,_,_,_,?_,rfl⟩
     refine ⟨j+1,by omega,rfl,by go_num,Lib.hid (by rw [offTo_succ _ _ _ _ hj1];exact hLe),⟨⟨v,hv,?_,?_⟩,hB,?_,?_⟩⟩
     ·rw [offTo_succ _ _ _ _ hj1];exact hrow
     ·rw [offTo_succ _ _ _ _ hj1];exact hnil
     ·refine List.nodup_cons.2 ⟨fun hDD=>?_,hI.nodup⟩
      have:=(Array.getElem?_eq_some_iff.1 (hIs.marks D hDD).2).1
      omega
     ·intro E hE
      rcases List.mem_cons.1 hE with rfl|hE
      ·exact ⟨Nat.le_trans hIs.below.size hD,hKd⟩
      ·exact hM E hE
   ·have hbr:Below w.heap.size w wr:=hb3.trans (hI.below.mono hb3.size)
    gi_wp2
    refine ⟨trivial,?_⟩
    refine (callsIn_wide.2 (RSub_ok _ _ _ (HG.out.below qbl) (numS_list _) (HGC.out j hj1).1 (numS_list _) (sz_half h1 h2) (by decide))).mono ?_
    rintro e w5 ⟨r,hr,rfl,hB5⟩
    have he:=numS_of hr
    subst he
    have s0:w5.cell? ⟨wr.heap.size,0,none⟩=some (.string (numS sp[j].1)):=keep hB5 (by simp [go_sem])
    have s1:w5.cell? ⟨wr.heap.size,1,none⟩=some (.string (numS sp[j].2)):=keep hB5 (by simp [go_sem])
    have zs:=lt_of_cell s0
    have hb5:Below wr.heap.size wr w5:=qbl
    have hI5:=hI.below' hb5
    clear hr hB5
    gi_wp2
    refine ⟨trivial,?_⟩
    refine (callsIn_wide.2 (beginnings_any _ _ _ _ _)).mono ?_
    rintro e w6 ⟨rfl,rfl⟩
    gi_wp2
    have hIs:OffInv sp wd _ Ns j w3 w3.heap.size Ds (((w5.alloc (.cells #[.string (numS (sp[j].1 - (wd:Rat) / 2))] 22)).alloc (.cells #[.string (numS sp[j].1),.string (numS sp[j].2)] 77)).alloc (.cells #[.string (numS wd)] 22)):=hI5.below' qbl
    have hsz:(((w5.alloc (.cells #[.string (numS (sp[j].1 - (wd:Rat) / 2))] 22)).alloc (.cells #[.string (numS sp[j].1),.string (numS sp[j].2)] 77)).alloc (.cells #[.string (numS wd)] 22)).heap.size=w5.heap.size+2+1:=by simp
    have k1:(((w5.alloc (.cells #[.string (numS (sp[j].1 - (wd:Rat) / 2))] 22)).alloc (.cells #[.string (numS sp[j].1),.string (numS sp[j].2)] 77)).alloc (.cells #[.string (numS wd)] 22)).cell? ⟨w5.heap.size,0,none⟩=some (.string (numS (sp[j].1 - (wd:Rat) / 2))):=by simp [go_sem]
    have k2:(((w5.alloc (.cells #[.string (numS (sp[j].1 - (wd:Rat) / 2))] 22)).alloc (.cells #[.string (numS sp[j].1),.string (numS sp[j].2)] 77)).alloc (.cells #[.string (numS wd)] 22)).cell? ⟨w5.heap.size+1,1,none⟩=some (.string (numS sp[j].2)):=by simp [go_sem]
    have k3:(((w5.alloc (.cells #[.string (numS (sp[j].1 - (wd:Rat) / 2))] 22)).alloc (.cells #[.string (numS sp[j].1),.string (numS sp[j].2)] 77)).alloc (.cells #[.string (numS wd)] 22)).cell? ⟨w5.heap.size+2,0,none⟩=some (.string (numS wd)):=by simp [go_sem]
    have j2:(((w5.alloc (.cells #[.string (numS (sp[j].1 - (wd:Rat) / 2))] 22)).alloc (.cells #[.string (numS sp[j].1),.string (numS sp[j].2)] 77)).alloc (.cells #[.string (numS wd)] 22)).heap[w5.heap.size+1]?=some (.cells #[.string (numS sp[j].1),.string (numS sp[j].2)] 77 (0,0)):=by have h:=World.alloc_heap_new (w5.alloc (.cells #[.string (numS (sp[j].1 - (wd:Rat) / 2))] 22)) (.cells #[.string (numS sp[j].1),.string (numS sp[j].2)] 77);simp only [World.size_alloc] at h;exact (Below.heap_alloc _ _ _ (by simp)).trans h
    have j3:(((w5.alloc (.cells #[.string (numS (sp[j].1 - (wd:Rat) / 2))] 22)).alloc (.cells #[.string (numS sp[j].1),.string (numS sp[j].2)] 77)).alloc (.cells #[.string (numS wd)] 22)).heap[w5.heap.size+2]?=some (.cells #[.string (numS wd)] 22 (0,0)):=by have h:=World.alloc_heap_new ((w5.alloc (.cells #[.string (numS (sp[j].1 - (wd:Rat) / 2))] 22)).alloc (.cells #[.string (numS sp[j].1),.string (numS sp[j].2)] 77)) (.cells #[.string (numS wd)] 22);simp only [World.size_alloc] at h;exact h
    have hBs:Below wr.heap.size wr (((w5.alloc (.cells #[.string (numS (sp[j].1 - (wd:Rat) / 2))] 22)).alloc (.cells #[.string (numS sp[j].1),.string (numS sp[j].2)] 77)).alloc (.cells #[.string (numS wd)] 22)):=qbl
    have hwl:wr.heap.size≤w5.heap.size:=hb5.size
    generalize (((w5.alloc (.cells #[.string (numS (sp[j].1 - (wd:Rat) / 2))] 22)).alloc (.cells #[.string (numS sp[j].1),.string (numS sp[j].2)] 77)).alloc (.cells #[.string (numS wd)] 22))=Ws at *
    obtain ⟨v,hv0,hrow0,hnil⟩:=hI.out
    have hcs:∀ (k:Nat) (o:Obj),wr.heap[k]?=some o→Ws.heap[k]?=some o:=fun k o hk=>(hBs.block _ (Array.getElem?_eq_some_iff.1 hk).1).trans hk
    have hv:Boxed Ws w3.heap.size 34 v:=hcs _ _ hv0
    have hrow:=ownsRow_keeps hrow0 (fun k o hk _=>hcs k o hk)
    have hv3:∀ b,wr.heap.size≤b→v.ownBlock≠some b:=fun b hb e=>by
     rcases hrow0.2 with ⟨rfl,_⟩|⟨g,cap',cur,rfl,_,hg,_⟩
     ·cases e
     ·have:=(Array.getElem?_eq_some_iff.1 hg).1
      simp [Value.ownBlock] at e
      omega
    refine wpIn_rangeFunc_ownG (a₁:=?a2) rfl (by omega) (gf:=112) (lb:=#[.pointer (some ⟨w5.heap.size,0,none⟩),.pointer (some ⟨w5.heap.size+1,0,none⟩),.pointer (some ⟨w5.heap.size+2,0,none⟩)]) rfl trivial (enters_of Tryz.func112 (by kernel_rfl) rfl)
     (begin_stopsA _ (by omega) (w5.heap.size) (w5.heap.size+1) (w5.heap.size+2) w3.heap.size (HST.out j hj1) w3 _ (HG.out.below hb3) hIs.below (Nat.le_refl _) k1 k2 k3) KpB.t (KpB.b hIs.below.size (by omega) (by omega)) (bw0 _ _) (fun _=>rfl)
     (fun pre W=>(((∃ v,Boxed W w3.heap.size 34 v∧W.ownsRow w3.heap.size 22 1 v (offTo sp wd true Ns j++pre).length (numVs (offTo sp wd true Ns j++pre))∧((v=.slice none 0 0↔offTo sp wd true Ns j++pre=[])∧v.ownBlock≠some (w5.heap.size+1)∧v.ownBlock≠some (w5.heap.size+2)))∧(Below w3.heap.size w3 W∧(offTo sp wd true Ns j++pre).length≤4096))∧(∀ D ∈ Ds,w3.heap.size≤D∧W.heap[D]?=some (.deferred (some []))))∧(W.heap[w5.heap.size+1]?=some (.cells #[.string (numS sp[j].1),.string (numS sp[j].2)] 77 (0,0))∧W.heap[w5.heap.size+2]?=some (.cells #[.string (numS wd)] 22 (0,0))))
     (fun c pre W=>((W.cell? ⟨w.heap.size+1,0,none⟩=some (.slice none 0 0)∧W.cell? ⟨w.heap.size+2,0,none⟩=some (.int .i64 4))∧(Below w.heap.size w W∧(∀ D ∈ Ds,w3.heap.size≤D∧W.heap[D]?=some (.deferred (some [])))))∧((offTo sp wd true Ns j++pre).length=4097∧c=.ret))
     (OwnFrom.and (OwnFrom.and (OwnFrom.and (Own.from (holdsRow_own w3.heap.size w3.heap.size 34 22 1 (fun pre=>(offTo sp wd true Ns j++pre).length) (fun pre=>numVs (offTo sp wd true Ns j++pre)) (fun pre v=>(v=.slice none 0 0↔offTo sp wd true Ns j++pre=[])∧v.ownBlock≠some (w5.heap.size+1)∧v.ownBlock≠some (w5.heap.size+2))) _) (OwnFrom.and (ownFrom_below (Nat.le_refl _) hIs.below.size) (fun _ _ _ _ hs _ _=>hs))) (marks_own (m:=Ws.heap.size) (fun D hD=>(Array.getElem?_eq_some_iff.1 (hIs.marks D hD).2).1))) (OwnFrom.and (block_own (m:=Ws.heap.size) (b:=w5.heap.size+1) (by omega)) (block_own (m:=Ws.heap.size) (b:=w5.heap.size+2) (by omega))))
     (fun c=>OwnFrom.and (OwnFrom.and (OwnFrom.and (cell_ownF (by omega)) (cell_ownF (by omega))) (OwnFrom.and (ownFrom_below (Nat.le_refl _) (by omega)) (marks_own (m:=Ws.heap.size) (fun D hD=>(Array.getElem?_eq_some_iff.1 (hIs.marks D hD).2).1)))) (fun _ _ _ _ hs _ _=>hs))
     ⟨⟨⟨⟨v,hv,by simpa using hrow,by simpa using hnil,hv3 (w5.heap.size+1) (by omega),hv3 (w5.heap.size+2) (by omega)⟩,⟨hIs.below,by simpa using HLE.out⟩⟩,hIs.marks⟩,j2,j3⟩ ?assign2 ?body2 ?done2 ?stop2
    case assign2 =>
     intro l x W K hK
     gi_wp2
     exact hK
    case stop2 =>
     rintro D c pre W hD hpre ⟨⟨⟨x1,x2⟩,hB,hM⟩,hL,rfl⟩ hKd
     gi_wp2
     refine leaves_marks w3.heap.size (D::Ds) _ ?_ (fun E hE=>?_) (fun W' hB' hcc=>?_)
     ·refine List.nodup_cons.2 ⟨fun hDD=>?_,hI.nodup⟩
      have:=(Array.getElem?_eq_some_iff.1 (hIs.marks D hDD).2).1
      omega
     ·rcases List.mem_cons.1 hE with rfl|hE
      ·exact ⟨Nat.le_trans hIs.below.size hD,hKd⟩
      ·exact hM E hE
     ·have hW1:W'.cell? ⟨w.heap.size+1,0,none⟩=some (.slice none 0 0):=cell_keeps x1 hcc
      have hW2:W'.cell? ⟨w.heap.size+2,0,none⟩=some (.int .i64 4):=cell_keeps x2 hcc
      refine ⟨.tuple #[.slice none 0 0,.int .i64 4],by simp [results,Tryz.results14,go_sem,hW1,hW2],.inr ⟨?_,rfl,hB.trans (hB'.mono (by omega))⟩⟩
      have h6:=hpre.length_le
      have h7:=offTo_mono sp wd true Ns (show j+1≤sp.length from hj1)
      rw [offTo_succ _ _ _ _ hj1,List.length_append] at h7
      rw [List.length_append] at hL
      omega
    case body2 =>
     rintro l pre x W ⟨⟨⟨⟨v,hv,hrow,hnil,hn2,hn3⟩,hB,hLe⟩,hM⟩,hj2,hj3⟩ hlt
     have hLe':(offTo sp wd true Ns j++pre).length≤4096:=hLe
     clear hLe
     obtain ⟨B',hB1,hB2,hrow',hpick⟩:=base_pick hrow hB.size (by rw [hnil];exact List.length_eq_zero_iff.symm) hj2 hj3 hn2 hn3 (fun cur h=>by cases h) (fun cur h=>by cases h;rfl)
     have hc:=hv.cell
     obtain ⟨oa,oc,rfl⟩:∃ oa oc,v=.slice oa (offTo sp wd true Ns j++pre).length oc:=by
      rcases hrow.2 with ⟨h,hk⟩|⟨g,cap,cur,h,_⟩
      ·exact ⟨none,0,by rw [h,hk]⟩
      ·exact ⟨_,_,h⟩
     by_cases heq:(((offTo sp wd true Ns j++pre).length:Nat):Int)=4096
     ·have p3:=keep hB e3
      have p4:=keep hB e4
      have i3:=keepf hB e3 g3
      have i4:=keepf hB e4 g4
      have s3:=lt_of_cell p3
      have s4:=lt_of_cell p4
      have hbase:Below w.heap.size w W:=hb3.trans (hB.mono hb3.size)
      have HVL:Hid ((offTo sp wd true Ns j++(pre++[x])).length=4097):=Lib.hid (by rw [← List.append_assoc,List.length_append];simp only [List.length_cons,List.length_nil];omega)
      generalize offTo sp wd true Ns j++pre=M at *
      gi_wp2
      refine ⟨((KeepsOthers.setCell _ _ _).from _).trans ((KeepsOthers.setCell _ _ _).from _),⟨⟨⟨?_,?_⟩,?_,?_⟩,HVL.out,rfl⟩⟩
      ·simp [go_sem, *]
      ·simp [go_sem, *]
      ·exact (hbase.setCell (by simp) _).setCell (by simp;omega) _
      ·exact fun D hD=>⟨(hM D hD).1,(KeepsOthers.setCell _ _ _).same D _ ((KeepsOthers.setCell _ _ _).same D _ (hM D hD).2 rfl) rfl⟩
     have hne:¬ (((offTo sp wd true Ns j++pre).length:Int)=4096):=heq
     clear heq
     have hvs:numVs (offTo sp wd true Ns j++(pre++[x]))=numVs (offTo sp wd true Ns j++pre)++[.string (numS x)]:=by simp [numVs]
     have hvl:(offTo sp wd true Ns j++(pre++[x])).length=(offTo sp wd true Ns j++pre).length+1:=by simp;omega
     have HVS:=Lib.hid hvs
     have HVL:=Lib.hid hvl
     have HNIL:=Lib.hid hnil
     clear hvs hvl hnil
     generalize offTo sp wd true Ns j++pre=M at *
     have hnb:M.length+1≤maxLen:=by unfold maxLen;omega
     gi_wp2_with (gi_at_builtin;refine wpListIn_append_own _ rfl _ _ 34 rfl B' 22 i0 (.string ⟨#[]⟩) 1 16 Tryz.underlying34 hi0 hz0 hz1 hz2 rfl (by decide) _ _ _ rfl (hrow'.alloc _) ⟨W.heap.size,0,none⟩ 1 1 [.string (numS x)] rfl rfl (cell_one_new _ _ _) (by simp [Value.oneCell']) hnb (by omega) (by simp;omega) ?_;intro v' w1 hown0 hgrow _;have hown':=ownsRow_base hown0 hB1;obtain ⟨g',cap',rfl⟩:=ownsRow_succ hown';obtain ⟨hv1,hv2,hr2,hk2,hb2⟩:=hv.appended (by decide) hrow hB.size (Nat.le_refl _) hown' hgrow;have hc1:=hv1.cell;have hf1:=hv1.frozen)
     have hgW:W.grownBy w1 (Value.slice oa M.length oc).ownBlock:=⟨hgrow.os,hgrow.tape,hgrow.output,by have:=hgrow.size;simp at this;omega,fun k hk hne=>(hgrow.block k (by simp;omega) hne).trans (Below.heap_alloc W _ k hk)⟩
     obtain ⟨p2,p3⟩:=hpick _ _ _ hown0 hgW
     have hwb:w3.heap.size < wr.heap.size:=hv0.lt
     have x2:(w1.setCell ⟨w3.heap.size,0,none⟩ (.slice (some ⟨g',0,none⟩) (M.length+1) cap')).heap[w5.heap.size+1]?=W.heap[w5.heap.size+1]?:=(Below.heap_setCell _ _ _ _ (by show w5.heap.size+1≠w3.heap.size;omega)).trans (hgW.block _ (Array.getElem?_eq_some_iff.1 hj2).1 (fun e=>hn2 e.symm))
     have x3:(w1.setCell ⟨w3.heap.size,0,none⟩ (.slice (some ⟨g',0,none⟩) (M.length+1) cap')).heap[w5.heap.size+2]?=W.heap[w5.heap.size+2]?:=(Below.heap_setCell _ _ _ _ (by show w5.heap.size+2≠w3.heap.size;omega)).trans (hgW.block _ (Array.getElem?_eq_some_iff.1 hj3).1 (fun e=>hn3 e.symm))
     refine ⟨hk2.from _,⟨hb2,x2,x3⟩,⟨⟨⟨_,hv2,?_,?_,p2,p3⟩,hB.trans hb2,?_⟩,fun D hD=>⟨(hM D hD).1,hk2.same D _ (hM D hD).2 rfl⟩⟩,x2.trans hj2,x3.trans hj3⟩
     ·rw [HVL.out,HVS.out];exact hr2
     ·simp
     ·rw [HVL.out];omega
    case done2 =>
     rintro D ys W hD rfl ⟨⟨⟨⟨v,hv,hrow,hnil,_,_⟩,hB,hLe⟩,hM⟩,_,_⟩ hKd
     gi_wp2
     refine Handed.intro (sp.length - (j+1)) (by omega) ?_
     first|gi_step|go_step
     refine ⟨D::Ds,_,_,_,_,_,_,_,_,_,_,_,_,_,_,_,_,_,_,_,_,_,_,_,_,_,_,_,_,_,_,_,?_,rfl⟩
     refine ⟨j+1,by omega,rfl,by go_num,Lib.hid (by rw [offTo_succ _ _ _ _ hj1];exact hLe),⟨⟨v,hv,?_,?_⟩,hB,?_,?_⟩⟩
     ·rw [offTo_succ _ _ _ _ hj1];exact hrow
     ·rw [offTo_succ _ _ _ _ hj1];exact hnil
     ·refine List.nodup_cons.2 ⟨fun hDD=>?_,hI.nodup⟩
      have:=(Array.getElem?_eq_some_iff.1 (hIs.marks D hDD).2).1
      omega
     ·intro E hE
      rcases List.mem_cons.1 hE with rfl|hE
      ·exact ⟨Nat.le_trans hIs.below.size hD,hKd⟩
      ·exact hM E hE
end Go.Proofs.YteepphiomcedfaaGreatDoor
namespace Go.Proofs.YteepphiomcedfaaGreatDoor
open Go.RowKit
theorem rOf2_ok (n d:Int) (w:World) (h0 : -1000000000000≤n) (h1:n≤1000000000000) (h2:1≤d) (h3:d≤1000000000) :
  Calls Tryz.prog 54 #[.int .i64 n,.int .i64 d] w (RetB (.tuple #[.string (numS (Rat.divInt n d)),.int .i64 0]) w):=by
 have HQ:=Lib.hid (fun W=>quick02_ok n d W (by omega) (by omega) (by omega))
 have b0:(d == 0)=false:=by simp;omega
 have b1:decide (-4611686018427387904 < n)=true:=by simp;omega
 have b2:decide (n < 4611686018427387904)=true:=by simp;omega
 have b3:decide (0 < d)=true:=by simp;omega
 have b4:decide (d < 4611686018427387904)=true:=by simp;omega
 generalize Rat.divInt n d=q at *
 go_enter Tryz.func54,Tryz.ntmps54
 go_wp2_with fail
 refine (HQ.out _).mono ?_
 rintro e w1 ⟨r,hr,rfl,hB⟩
 obtain rfl:=numS_of hr
 clear hr
 go_wp2_with fail
 go_ret2
 exact ⟨rfl,qbl⟩
end Go.Proofs.YteepphiomcedfaaGreatDoor
namespace Go.Proofs.YteepphiomcedfaaGreatDoor
open Go.RowKit
def RetOffR (l:List Rat) (w:World) (e:Ending) (w':World):Prop:=(l.length≤4096∧∃ v,e=.returned (.tuple #[v,.int .i64 0])∧IsStrs w' v (l.map numS)∧Below w.heap.size w w')∨(4096 < l.length∧e=.returned (.tuple #[.slice none 0 0,.int .i64 4])∧Below w.heap.size w w')
def slen:Value→Nat
 | .slice _ n _=>n
 | _=>0
theorem ordQ_ge' {p q:Rat} (h:¬ p < q):decide (ordQ p q < 0)=false:=by
 unfold ordQ
 rw [if_neg h]
 split<;>decide
theorem rowKeep8 {W W':World} {B e size n:Nat} {v:Value} {xs:List Value} (h:W.ownsRow B e size v n xs) (hb:∀ k,B≤k→k < W.heap.size→W'.heap[k]?=W.heap[k]?):W'.ownsRow B e size v n xs:=by
 refine ⟨h.1,?_⟩
 rcases h.2 with hn|⟨g,cap,cur,e,hB,hg,rest⟩
 ·exact .inl hn
 ·exact .inr ⟨g,cap,cur,e,hB,(hb g hB (Array.getElem?_eq_some_iff.1 hg).1).trans hg,rest⟩
theorem num_grown' {w1 wr W:World} {B k cap:Nat} {sa:Option Addr} {xs:List Value} (hrow:wr.ownsRow w1.heap.size 22 1 (.slice sa k cap) k xs) (hB:Below w1.heap.size w1 wr) (o:Obj) (hg:(wr.alloc o).grownBy W (Value.slice sa k cap).ownBlock):Below w1.heap.size w1 W :=
 Below.grown (bw4 hB o) hg (by simp;have:=hB.size;omega) (fun j hj=>by obtain ⟨x,y,e,h⟩:=row_shape hrow;cases e;exact h j hj)
theorem offTo_le (sp:List (Rat × Rat)) (wd:Int) (odd:Bool) (Ns:Nat→Nat) {j:Nat} (h:j < sp.length) (k:Nat) (hk:k≤Ns j):(offTo sp wd odd Ns j++ats (firstAt sp[j] wd odd) wd k).length≤(offTo sp wd odd Ns sp.length).length:=by
 have h1:=offTo_mono sp wd odd Ns (show j+1≤sp.length from h)
 rw [offTo_succ _ _ _ _ h,List.length_append,ats_length] at h1
 rw [List.length_append,ats_length]
 omega
theorem ownsRow_new0 (w:World) (e:TypeId) (size:Nat):(w.alloc (.cells #[] e)).ownsRow w.heap.size e size (.slice (some ⟨w.heap.size,0,none⟩) 0 0) 0 []:=by
 refine ⟨by simp,.inr ⟨w.heap.size,0,#[],rfl,Nat.le_refl _,Array.getElem?_push_size,Nat.le_refl _,by unfold maxLen;omega,by simp,by simp⟩⟩
theorem ROffsets_all {lo hi:Rat} {sp:List (Rat × Rat)} (c:Value) (wd:Int) (odd:Bool) (w:World) (hG:Glo w) (hc:IsCourse w c lo hi sp) (hri:∀ w':World,Below w.heap.size w w'→Calls Tryz.prog 48 #[c,.int .i64 wd] w' (RetB (.int .i64 0) w'))
  (hsz:∀ k (h:k < sp.length),Sz 36 sp[k].1∧Sz 36 sp[k].2) (hl64:sp.length≤64) (h1:1≤wd) (h2:wd≤2000)
  (Ns:Nat→Nat) (hst:∀ k (h:k < sp.length),StepsA (firstAt sp[k] wd odd) sp[k].2 wd (Ns k)) :
  Calls Tryz.prog 15 #[c,.int .i64 wd,.bool odd] w (RetOffR (offTo sp wd odd Ns sp.length) w):=by
 obtain ⟨s,t,v,rfl,hs,ht,hv⟩:=hc
 obtain ⟨a,cap,rfl,hcap,hcells⟩:=id hv
 have hws:Sz 4 (wd:Rat):=sz4 h1 h2
 have HRI:=Lib.hid hri
 have HG:=Lib.hid hG
 have HC:=Lib.hid hcells
 have HGC:=Lib.hid hsz
 have HST:=Lib.hid hst
 have HLE:=Lib.hid (fun j (h:j < sp.length) k hk=>offTo_le sp wd odd Ns h k hk)
 have HO1:=Lib.hid (fun W=>rOf2_ok wd 1 W (by omega) (by omega) (by omega) (by omega))
 have HO2:=Lib.hid (fun W=>rOf2_ok wd 2 W (by omega) (by omega) (by omega) (by omega))
 have e1:Rat.divInt wd 1=(wd:Rat):=by rw [show (1:Int)=((1:Nat):Int) from rfl,Rat.divInt_ofNat,Rat.mkRat_one]
 have e2:Rat.divInt wd 2=(wd:Rat) / 2:=by rw [Rat.divInt_eq_div];rfl
 rw [e1] at HO1
 rw [e2] at HO2
 have HW:=Lib.hid (numS_list (wd:Rat))
 have HH:=Lib.hid (numS_list ((wd:Rat) / 2))
 obtain ⟨tw,htw⟩:∃ x,numS (wd:Rat)=x:=⟨_,rfl⟩
 obtain ⟨th,hth⟩:∃ x,numS ((wd:Rat) / 2)=x:=⟨_,rfl⟩
 rw [htw] at HO1 HW
 rw [hth] at HO2 HH
 obtain ⟨i0,hi0,hz0,hz1,hz2⟩:=info_parts Tryz.infoNum
 clear hs ht hv hG hcells hsz hst hri e1 e2 htw hth
 go_enter Tryz.func15,Tryz.ntmps15
 go_wp2_with fail
 refine (HRI.out _ qbl).mono ?_
 rintro e w1 ⟨rfl,hB1⟩
 have c2:w1.cell? ⟨w.heap.size,2,none⟩=some (.slice a sp.length cap):=keep hB1 (by simp [go_sem])
 have hb1:Below w.heap.size w w1:=qbl
 have z1:=lt_of_cell c2
 clear hB1
 go_wp2_with fail
 refine (HO1.out _).mono ?_
 rintro e w2 ⟨rfl,hB2⟩
 have c2:=keep hB2 c2
 have hb2:Below w.heap.size w w2:=below_trans' hb1 hB2
 clear hB2 hb1
 go_wp2_with fail
 refine (HO2.out _).mono ?_
 rintro e w3 ⟨rfl,hB3⟩
 have c2:=keep hB3 c2
 have hb3:Below w.heap.size w w3:=below_trans' hb2 hB3
 have z3:=lt_of_cell c2
 clear hB3 hb2 HO1 HO2
 go_wp2_with fail
 go_loopw [13,14] (fun out i wr=>∃ (j L:Nat) (oa:Option Addr) (oc:Nat),j≤sp.length∧i=.int .i64 j∧out=.slice oa L oc∧Hid ((offTo sp wd odd Ns j).length=L)∧L≤4096∧Hid (wr.ownsRow w3.heap.size 22 1 (.slice oa L oc) L (numVs (offTo sp wd odd Ns j)))∧Below w3.heap.size w3 wr) (fun _ i _=>sp.length - (intOf i).toNat)
 case atStart=>exact ⟨0,0,_,_,by omega,rfl,rfl,Lib.hid (by rw [offTo_zero];rfl),by omega,Lib.hid (by rw [offTo_zero];exact ownsRow_new0 _ _ _),bw4 (bw0 _ _) _⟩
 case round =>
  obtain ⟨j,L,oa,oc,hj,rfl,rfl,HL,hL4,HROW,hB⟩:=hrel
  have k2:=keep hB c2
  by_cases hjn:j=sp.length
  ·subst hjn
   have HI:=Lib.hid (show IsStrs wr (.slice oa L oc) ((offTo sp wd odd Ns sp.length).map numS) from by have h:=HROW.out;rw [← HL.out] at h ⊢;exact isStrs_row h)
   clear HLE HST HGC
   go_wp2_with fail
   go_ret2
   exact .inl ⟨by rw [HL.out];exact hL4,_,rfl,HI.out,hb3.trans (hB.mono hb3.size)⟩
  ·have hj1:j < sp.length:=by omega
   obtain ⟨b,off,rfl,hbb,hcc⟩:=HC.out (fun h=>by rw [h] at hj1;simp at hj1)
   obtain ⟨u,v,q0,q1,hu,hv⟩:=hcc j hj1
   have p0:=keep hB (keep hb3 q0)
   have q1:=keep hb3 q1
   obtain ⟨z36,y36⟩:=HGC.out j hj1
   have hji:(j:Int) < (sp.length:Int):=by omega
   have HSJ:=Lib.hid (HST.out j hj1)
   obtain ⟨N,hN⟩:∃ N,Ns j=N:=⟨_,rfl⟩
   have HLN:=Lib.hid (fun k hk=>HLE.out j hj1 k hk)
   have HSX:=Lib.hid (fun (_:Nat)=>offTo_succ sp wd odd Ns hj1)
   have hvv:=numS_of hv
   have huu:=numS_of hu
   rw [hN] at HSJ HLN
   obtain ⟨F,hF⟩:∃ F,firstAt sp[j] wd odd=F:=⟨_,rfl⟩
   obtain ⟨X,hX⟩:∃ X,sp[j].2=X:=⟨_,rfl⟩
   rw [hF] at HSJ HLN HSX
   rw [hX] at HSJ
   have HV:Hid (v.data.toList=ratText X):=Lib.hid (by rw [hv,hX])
   have HU:=Lib.hid hu
   have key:∀ (x:ByteArray) (W:World),Below w3.heap.size w3 W→x=numS F→True:=fun _ _ _ _=>trivial
   clear key hv hu hvv q0 HLE HST HGC hcc
   have INNER:Hid (∀ (W:World),Below w3.heap.size w3 W→W.ownsRow w3.heap.size 22 1 (.slice oa L oc) L (numVs (offTo sp wd odd Ns j))→True):=Lib.hid fun _ _ _=>trivial
   clear INNER
   cases odd
   ·have hFu:F=sp[j].1:=hF.symm
    have HFU:Hid (u=numS F):=Lib.hid (by rw [hFu];exact huu)
    clear hFu huu hF hX HU z36
    go_wp2_with fail
    go_loopw [13,15] (fun out at_ wr2=>∃ (k M:Nat) (oa':Option Addr) (oc':Nat),k≤N∧Hid (M=L+k)∧at_=.string (numS (F+(k:Rat) * (wd:Rat)))∧out=.slice oa' M oc'∧M≤4096∧Hid (wr2.ownsRow w3.heap.size 22 1 (.slice oa' M oc') M (numVs (offTo sp wd false Ns j++ats F wd k)))∧Below w3.heap.size w3 wr2) (fun out _ _=>L+N - slen out)
    case atStart=>exact ⟨0,L,oa,oc,by omega,Lib.hid rfl,by rw [HFU.out];simp [Rat.zero_mul,Rat.add_zero],rfl,hL4,Lib.hid (by rw [ats_zero,List.append_nil];exact HROW.out),hB⟩
    case round =>
     clear hB k2 HROW
     obtain ⟨k,M,oa',oc',hk,HM,rfl,rfl,hM4,HROW2,hB2⟩:=hrel
     have d2:=keep hB2 c2
     have d1:=keep hB2 q1
     obtain ⟨p,hp⟩:∃ p,F+(k:Rat) * (wd:Rat)=p:=⟨_,rfl⟩
     have hsm:=HSJ.out.sm k hk
     rw [hp] at hsm
     obtain ⟨o,ho⟩:∃ o,ordQ p X=o:=⟨_,rfl⟩
     have HCM:=Lib.hid (fun W hG=>rcmp48_q (numS p) v W hG (numS_list p) hsm HV.out HSJ.out.hi (by decide) o ho)
     have HAD:=Lib.hid (fun W hG=>RAdd02_q (numS p) tw W hG (numS_list p) hsm HW.out hws (by decide))
     obtain ⟨tp,htp⟩:∃ x,numS p=x:=⟨_,rfl⟩
     have HP:Hid (Value.string (numS p)=.string tp):=Lib.hid (by rw [htp])
     rw [hp,htp]
     rw [htp] at HCM HAD
     have hGW:=Lib.hid (HG.out.below (hb3.trans (hB2.mono hb3.size)))
     by_cases hkN:k < N
     ·have hlt:=HSJ.out.lt k hkN
      rw [hp] at hlt
      have ho1:o=-1:=by rw [← ho,ordQ_lt hlt]
      subst ho1
      have HSC:=Lib.hid (show ats F wd (k+1)=ats F wd k++[p] by rw [ats_succ,hp])
      have HNX:=Lib.hid (show p+(wd:Rat)=F+((k+1:Nat):Rat) * (wd:Rat) by rw [← hp,Rat.natCast_add,Rat.add_mul,Rat.add_assoc];simp [Rat.one_mul])
      clear ho htp hlt hp hsm
      go_wp2_with fail
      refine (HCM.out _ hGW.out).mono ?_
      rintro e wb ⟨rfl,hBb⟩
      have hB3:=below_trans' hB2 hBb
      have HROW3:=Lib.hid (rowKeep8 HROW2.out (fun j hj hjl=>hBb.block j hjl))
      clear hBb HCM d1 d2 HROW2 hGW
      by_cases hM:M=4096
      ·subst hM
       have HLL:=Lib.hid (HLN.out (k+1) hkN)
       have HLA:=Lib.hid HL.out
       clear hM4
       go_wp2_with fail
       go_ret2
       exact .inr ⟨by have h5:=HLL.out;have h6:=HM.out;rw [List.length_append,ats_length,HLA.out] at h5;omega,rfl,hb3.trans (hB3.mono hb3.size)⟩
      ·have hMI:((M:Int) == 4096)=false:=by rw [beq_eq_false_iff_ne];omega
       have HM1:=Lib.hid (show M+1≤4096 by omega)
       have HROW4:=Lib.hid (HROW3.out.alloc (.cells #[.string tp] 22))
       have n1:=Lib.hid (show M+1≤maxLen by unfold maxLen;omega)
       have n2:=Lib.hid (show (M+1) * 16≤140737488355328 by omega)
       have n3:=Lib.hid (show w3.heap.size≤(wb.alloc (.cells #[.string tp] 22)).heap.size by simp;have:=hB3.size;omega)
       have KEY:=Lib.hid (fun (v':Value) (W:World) (ho:W.ownsRow w3.heap.size 22 1 v' (M+1) (numVs (offTo sp wd false Ns j++ats F wd k)++[.string tp])) (hg:(wb.alloc (.cells #[.string tp] 22)).grownBy W (Value.slice oa' M oc').ownBlock)=>(⟨ho,num_grown' (B:=0) HROW3.out hB3 _ hg⟩:W.ownsRow w3.heap.size 22 1 v' (M+1) (numVs (offTo sp wd false Ns j++ats F wd k)++[.string tp])∧Below w3.heap.size w3 W))
       clear hB3 HROW3 hM
       go_wp2_with (at_builtin;refine wpList_append_own _ rfl _ _ 34 rfl w3.heap.size 22 i0 (.string ⟨#[]⟩) 1 16 Tryz.underlying34 hi0 hz0 hz1 hz2 rfl (by decide) _ M _ rfl HROW4.out ⟨wb.heap.size,0,none⟩ 1 1 [.string tp] rfl rfl (cell_one_new _ _ _) (by simp [Value.oneCell']) n1.out n2.out n3.out ?_;intro v' w5 hown' hgrow5 hnil5;have HK:=Lib.hid (KEY.out v' w5 hown' hgrow5);obtain ⟨sa2,sc2,rfl,_⟩:=row_shape hown';clear hown' hgrow5 hnil5)
       refine (HAD.out _ (HG.out.below (hb3.trans (HK.out.2.mono hb3.size)))).mono ?_
       rintro e w6 ⟨r,hr,rfl,hB6⟩
       rw [HNX.out] at hr
       have HRX:=Lib.hid (numS_of hr)
       have HROW6:=Lib.hid (rowKeep8 HK.out.1 (fun j hj hjl=>hB6.block j hjl))
       have hB7:=below_trans' HK.out.2 hB6
       clear hr hB6 HK HAD KEY
       go_wp2_with fail
       go_roundw
       case rel=>exact ⟨k+1,M+1,sa2,sc2,hkN,Lib.hid (by rw [HM.out];omega),by rw [HRX.out],rfl,HM1.out,Lib.hid (by have h5:=HROW6.out;rw [← HP.out] at h5;rw [HSC.out,← List.append_assoc];simpa [numVs] using h5),hB7⟩
       case measure=>have:=HM.out;simp only [slen];omega
     ·obtain rfl:k=N:=by omega
      have hge:=HSJ.out.ge
      rw [hp] at hge
      have hob:decide (o < 0)=false:=by rw [← ho];exact ordQ_ge' (Rat.not_lt.2 hge)
      clear ho htp hp hge hsm HAD HP
      go_wp2_with fail
      refine (HCM.out _ hGW.out).mono ?_
      rintro e wb ⟨rfl,hBb⟩
      have hB3:=below_trans' hB2 hBb
      have HROW3:=Lib.hid (rowKeep8 HROW2.out (fun j hj hjl=>hBb.block j hjl))
      clear hBb HCM d1 d2 HROW2 hGW
      go_wp2_with fail
      go_roundw
      case rel=>exact ⟨j+1,M,oa',oc',by omega,by go_num,rfl,Lib.hid (by rw [HSX.out 0,hN,List.length_append,ats_length,HL.out,HM.out]),hM4,Lib.hid (by rw [HSX.out 0,hN];exact HROW3.out),hB3⟩
      case measure=>simp [intOf];omega
   ·have hFu:F=sp[j].1 - (wd:Rat) / 2:=hF.symm
    have HFU:=Lib.hid hFu
    clear hFu huu hF hX
    go_wp2_with fail
    refine (RSub02_q u th _ (HG.out.below (hb3.trans (hB.mono hb3.size))) HU.out z36 HH.out (sz_half h1 h2) (by decide)).mono ?_
    rintro e wa ⟨r,hr,rfl,hBa⟩
    have HRR:Hid (r=numS F):=Lib.hid (by rw [HFU.out];exact numS_of hr)
    have hB:=below_trans' hB hBa
    have k2:=keep hBa k2
    have HROW:=Lib.hid (rowKeep8 HROW.out (fun j hj hjl=>hBa.block j hjl))
    clear hr hBa HU z36 HFU p0
    go_wp2_with fail
    go_loopw [13,15] (fun out at_ wr2=>∃ (k M:Nat) (oa':Option Addr) (oc':Nat),k≤N∧Hid (M=L+k)∧at_=.string (numS (F+(k:Rat) * (wd:Rat)))∧out=.slice oa' M oc'∧M≤4096∧Hid (wr2.ownsRow w3.heap.size 22 1 (.slice oa' M oc') M (numVs (offTo sp wd true Ns j++ats F wd k)))∧Below w3.heap.size w3 wr2) (fun out _ _=>L+N - slen out)
    case atStart=>exact ⟨0,L,oa,oc,by omega,Lib.hid rfl,by rw [HRR.out];simp [Rat.zero_mul,Rat.add_zero],rfl,hL4,Lib.hid (by rw [ats_zero,List.append_nil];exact HROW.out),hB⟩
    case round =>
     clear hB k2 HROW
     obtain ⟨k,M,oa',oc',hk,HM,rfl,rfl,hM4,HROW2,hB2⟩:=hrel
     have d2:=keep hB2 c2
     have d1:=keep hB2 q1
     obtain ⟨p,hp⟩:∃ p,F+(k:Rat) * (wd:Rat)=p:=⟨_,rfl⟩
     have hsm:=HSJ.out.sm k hk
     rw [hp] at hsm
     obtain ⟨o,ho⟩:∃ o,ordQ p X=o:=⟨_,rfl⟩
     have HCM:=Lib.hid (fun W hG=>rcmp48_q (numS p) v W hG (numS_list p) hsm HV.out HSJ.out.hi (by decide) o ho)
     have HAD:=Lib.hid (fun W hG=>RAdd02_q (numS p) tw W hG (numS_list p) hsm HW.out hws (by decide))
     obtain ⟨tp,htp⟩:∃ x,numS p=x:=⟨_,rfl⟩
     have HP:Hid (Value.string (numS p)=.string tp):=Lib.hid (by rw [htp])
     rw [hp,htp]
     rw [htp] at HCM HAD
     have hGW:=Lib.hid (HG.out.below (hb3.trans (hB2.mono hb3.size)))
     by_cases hkN:k < N
     ·have hlt:=HSJ.out.lt k hkN
      rw [hp] at hlt
      have ho1:o=-1:=by rw [← ho,ordQ_lt hlt]
      subst ho1
      have HSC:=Lib.hid (show ats F wd (k+1)=ats F wd k++[p] by rw [ats_succ,hp])
      have HNX:=Lib.hid (show p+(wd:Rat)=F+((k+1:Nat):Rat) * (wd:Rat) by rw [← hp,Rat.natCast_add,Rat.add_mul,Rat.add_assoc];simp [Rat.one_mul])
      clear ho htp hlt hp hsm
      go_wp2_with fail
      refine (HCM.out _ hGW.out).mono ?_
      rintro e wb ⟨rfl,hBb⟩
      have hB3:=below_trans' hB2 hBb
      have HROW3:=Lib.hid (rowKeep8 HROW2.out (fun j hj hjl=>hBb.block j hjl))
      clear hBb HCM d1 d2 HROW2 hGW
      by_cases hM:M=4096
      ·subst hM
       have HLL:=Lib.hid (HLN.out (k+1) hkN)
       have HLA:=Lib.hid HL.out
       clear hM4
       go_wp2_with fail
       go_ret2
       exact .inr ⟨by have h5:=HLL.out;have h6:=HM.out;rw [List.length_append,ats_length,HLA.out] at h5;omega,rfl,hb3.trans (hB3.mono hb3.size)⟩
      ·have hMI:((M:Int) == 4096)=false:=by rw [beq_eq_false_iff_ne];omega
       have HM1:=Lib.hid (show M+1≤4096 by omega)
       have HROW4:=Lib.hid (HROW3.out.alloc (.cells #[.string tp] 22))
       have n1:=Lib.hid (show M+1≤maxLen by unfold maxLen;omega)
       have n2:=Lib.hid (show (M+1) * 16≤140737488355328 by omega)
       have n3:=Lib.hid (show w3.heap.size≤(wb.alloc (.cells #[.string tp] 22)).heap.size by simp;have:=hB3.size;omega)
       have KEY:=Lib.hid (fun (v':Value) (W:World) (ho:W.ownsRow w3.heap.size 22 1 v' (M+1) (numVs (offTo sp wd true Ns j++ats F wd k)++[.string tp])) (hg:(wb.alloc (.cells #[.string tp] 22)).grownBy W (Value.slice oa' M oc').ownBlock)=>(⟨ho,num_grown' (B:=0) HROW3.out hB3 _ hg⟩:W.ownsRow w3.heap.size 22 1 v' (M+1) (numVs (offTo sp wd true Ns j++ats F wd k)++[.string tp])∧Below w3.heap.size w3 W))
       clear hB3 HROW3 hM
       go_wp2_with (at_builtin;refine wpList_append_own _ rfl _ _ 34 rfl w3.heap.size 22 i0 (.string ⟨#[]⟩) 1 16 Tryz.underlying34 hi0 hz0 hz1 hz2 rfl (by decide) _ M _ rfl HROW4.out ⟨wb.heap.size,0,none⟩ 1 1 [.string tp] rfl rfl (cell_one_new _ _ _) (by simp [Value.oneCell']) n1.out n2.out n3.out ?_;intro v' w5 hown' hgrow5 hnil5;have HK:=Lib.hid (KEY.out v' w5 hown' hgrow5);obtain ⟨sa2,sc2,rfl,_⟩:=row_shape hown';clear hown' hgrow5 hnil5)
       refine (HAD.out _ (HG.out.below (hb3.trans (HK.out.2.mono hb3.size)))).mono ?_
       rintro e w6 ⟨r,hr,rfl,hB6⟩
       rw [HNX.out] at hr
       have HRX:=Lib.hid (numS_of hr)
       have HROW6:=Lib.hid (rowKeep8 HK.out.1 (fun j hj hjl=>hB6.block j hjl))
       have hB7:=below_trans' HK.out.2 hB6
       clear hr hB6 HK HAD KEY
       go_wp2_with fail
       go_roundw
       case rel=>exact ⟨k+1,M+1,sa2,sc2,hkN,Lib.hid (by rw [HM.out];omega),by rw [HRX.out],rfl,HM1.out,Lib.hid (by have h5:=HROW6.out;rw [← HP.out] at h5;rw [HSC.out,← List.append_assoc];simpa [numVs] using h5),hB7⟩
       case measure=>have:=HM.out;simp only [slen];omega
     ·obtain rfl:k=N:=by omega
      have hge:=HSJ.out.ge
      rw [hp] at hge
      have hob:decide (o < 0)=false:=by rw [← ho];exact ordQ_ge' (Rat.not_lt.2 hge)
      clear ho htp hp hge hsm HAD HP
      go_wp2_with fail
      refine (HCM.out _ hGW.out).mono ?_
      rintro e wb ⟨rfl,hBb⟩
      have hB3:=below_trans' hB2 hBb
      have HROW3:=Lib.hid (rowKeep8 HROW2.out (fun j hj hjl=>hBb.block j hjl))
      clear hBb HCM d1 d2 HROW2 hGW
      go_wp2_with fail
      go_roundw
      case rel=>exact ⟨j+1,M,oa',oc',by omega,by go_num,rfl,Lib.hid (by rw [HSX.out 0,hN,List.length_append,ats_length,HL.out,HM.out]),hM4,Lib.hid (by rw [HSX.out 0,hN];exact HROW3.out),hB3⟩
      case measure=>simp [intOf];omega
end Go.Proofs.YteepphiomcedfaaGreatDoor
