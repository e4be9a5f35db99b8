/- Joined texts: WGauge2, WArea2, WSame04, WAwake47, WGreat04, WLaw47, CrsPlain, WLonger, WOpenT. -/
import Derived.Test.YtbbclfbpllbbbaaGreatDoorJ15
import Derived.Test.YtbbclfbpllbbbaaGreatDoorJ02
import Derived.Test.YtbbclfbpllbbbaaGreatDoorJ10
import Derived.Test.YtbbclfbpllbbbaaGreatDoorJ03
import Derived.Test.YtbbclfbpllbbbaaGreatDoorJ01
import Derived.Deep.SlicePairs
import Derived.Deep.Matrix
set_option maxRecDepth 100000
set_option linter.unusedVariables false
set_option linter.unusedSimpArgs false
set_option maxHeartbeats 12800000
namespace Go.Proofs.YtbbclfbpllbbbaaGreatDoor
open Go.RowKit Go.Shelf
theorem CeilZ.ge1 {f:Nat→Rat} {z:Int} (h:CeilZ f z) (hf:PosF f):1≤z:=by
 have key:PosF (fun _=>(z:Rat) - 0):=by
  rcases h with h|⟨h1,_⟩
  ·exact hf.near (h.mul (k:=-1) fun P=>rfl) fun P=>by grind
  ·exact hf.add h1 fun P=>by grind
 have:=pos_const key
 have h2:((0:Int):Rat) < (z:Rat):=this
 have:=Rat.intCast_lt_intCast.1 h2
 omega
theorem oneSurd_uniq {L:TTexts} {T:Terms} {p:Rat} (h:SurdIs L T) (hL:L=oneL p 1) (hp:Sz 60 p):T=oneT p 1:=by
 subst hL
 have hr:=(oneSurd hp).res (Nat.le_trans (oneL_len p 1) (by decide))
 refine List.ext_getElem (h.same.trans hr.same.symm) fun i h1 h2=>?_
 have hi:i < (oneL p 1).length:=by rw [← h.same];exact h1
 have a:=h.ok i hi
 have e1:=ratText_injP (a.c.symm.trans (hr.c i hi))
 have e2:=dec_inj (a.r.symm.trans (hr.r i hi))
 rw [tq_get h1,tq_get h2] at e1 e2
 exact Prod.ext e1 e2
structure GaugeIs (L L':TTexts) (ln lp tl n:Int) (T TG:Terms):Prop where
 surd:SurdIs L T
 pos:PosF (valT T)
 n1:1≤n
 n2:n≤4096
 ceil:CeilZ (fun P=>(1 / ((ln - lp:Int):Rat)) * (valT T P+(tl:Rat))) n
 res:ResT L' TG
 len:L'.length≤L.length+1
 val:Near0 (fun P=>valT TG P - (1 / (n:Rat)) * (valT T P+(tl:Rat)))
def RetGa (L:TTexts) (wd ln lp tl:Int) (D:Prop) (w:World) (e:Ending) (w':World):Prop:=∃ (u:Value) (n c:Int) (L':TTexts),e=.returned (.tuple #[u,.int .i64 n,.int .i64 c])∧IsTerms w' u L'∧Hid (c≠0→n=0∧L'=[]) ∧
 Hid (c=0→TileOk wd ln lp tl∧∃ T TG,GaugeIs L L' ln lp tl n T TG)∧Hid (D→c=0∧n=10∧L'=oneL 305 1)∧Below w.heap.size w w'
theorem RetGa.err {L:TTexts} {wd ln lp tl c:Int} {D:Prop} {w w':World} (hc:c≠0) (hD:D→c=0) (hB:Below w.heap.size w w'):RetGa L wd ln lp tl D w (.returned (.tuple #[.slice none 0 0,.int .i64 0,.int .i64 c])) w' :=
 ⟨_,0,c,[],rfl,isTerms_nil,Lib.hid fun _=>⟨rfl,rfl⟩,Lib.hid fun h=>absurd h hc,Lib.hid fun h=>absurd (hD h) hc,hB⟩
def Ex47 (L:TTexts) (wd ln lp tl:Int):Prop:=L=oneL 3000 1∧wd=250∧ln=400∧lp=80∧tl=50
theorem ex_th:thQ (3050 * (1 / ((320:Int):Rat)) * (3050 * (1 / ((320:Int):Rat))) * (((1:Nat):Int):Rat))=9531:=by
 unfold thQ
 have e:(3050 * (1 / ((320:Int):Rat)) * (3050 * (1 / ((320:Int):Rat))) * (((1:Nat):Int):Rat)).num.toNat * 1000000 / (3050 * (1 / ((320:Int):Rat)) * (3050 * (1 / ((320:Int):Rat))) * (((1:Nat):Int):Rat)).den=90844726:=by decide +kernel
 rw [e]
 exact rootN_uniq (by decide) (by decide)
theorem ex_defz:DefZ (oneT (3050 * (1 / ((320:Int):Rat))) 1) 8 (3050 * (1 / ((320:Int):Rat))):=by
 refine ⟨rfl,by unfold Sz;decide +kernel,by decide +kernel,?_,by decide,by decide +kernel,by decide +kernel⟩
 have h0:oneT (3050 * (1 / ((320:Int):Rat))) 1=[(3050 * (1 / ((320:Int):Rat)),1)]:=if_neg (by decide +kernel)
 rw [h0]
 show (tmK (3050 * (1 / ((320:Int):Rat)),1)+0) / 1000 - 1=8
 unfold tmK
 rw [if_neg (by decide +kernel)]
 dsimp only
 rw [ex_th]
 decide
theorem Gauge_ok (L:TTexts) (wd ln lp tl:Int) (v:Value) (w:World) (hW:Wor w) (hv:IsTerms w v L) (hsz:∀ k,k < L.length→(tt L k).1.size≤1000∧(tt L k).2.size≤1000) (hl0:SurdOk L→L.length≤5) :
  Calls Tryz.prog 22 #[.agg #[.int .i64 wd,.int .i64 ln,.int .i64 lp,.int .i64 tl],v] w (RetGa L wd ln lp tl (Ex47 L wd ln lp tl) w):=by
 have H1:=Lib.hid (tileCheck_ok wd ln lp tl)
 have H2:=Lib.hid (fun W (hB:Below w.heap.size w W)=>sCheck_ok L v W (hW.glo.below hB) (hW.pri.below hB) (hv.below hB) hsz)
 have HW:=Lib.hid hW
 have HV:=Lib.hid hv
 have HL0:=Lib.hid hl0
 obtain ⟨a1,c1,rfl,_⟩:=hv
 clear hW hsz hl0
 have hEX1:Hid (Ex47 L wd ln lp tl→TileOk wd ln lp tl):=Lib.hid (fun ⟨_,h1,h2,h3,h4⟩=>by subst h1 h2 h3 h4;unfold TileOk;omega)
 have hEX2:Hid (Ex47 L wd ln lp tl→SurdOk L):=Lib.hid (fun h=>by rw [h.1];exact ⟨_,oneSurd (by unfold Sz;decide +kernel)⟩)
 go_enter Tryz.func22,Tryz.ntmps22
 go_wp2_with fail
 have hb0:Below w.heap.size w (w.alloc (.cells #[.int .i64 wd,.int .i64 ln,.int .i64 lp,.int .i64 tl] 49)):=bw4 (bw0 _ _) _
 have x1:(w.alloc (.cells #[.int .i64 wd,.int .i64 ln,.int .i64 lp,.int .i64 tl] 49)).cell? ⟨w.heap.size,1,none⟩=some (.int .i64 ln):=by simp [go_sem]
 have x2:(w.alloc (.cells #[.int .i64 wd,.int .i64 ln,.int .i64 lp,.int .i64 tl] 49)).cell? ⟨w.heap.size,2,none⟩=some (.int .i64 lp):=by simp [go_sem]
 have x3:(w.alloc (.cells #[.int .i64 wd,.int .i64 ln,.int .i64 lp,.int .i64 tl] 49)).cell? ⟨w.heap.size,3,none⟩=some (.int .i64 tl):=by simp [go_sem]
 generalize w.alloc (.cells #[.int .i64 wd,.int .i64 ln,.int .i64 lp,.int .i64 tl] 49)=W0 at *
 refine (H1.out _).mono ?_
 rintro e w1 ⟨k1,rfl,h1,hB1⟩
 have hb1:=below_trans' hb0 hB1
 replace x1:=keep hB1 x1
 replace x2:=keep hB1 x2
 replace x3:=keep hB1 x3
 clear hB1 H1 hb0
 by_cases hk1:k1=0
 rotate_left
 ·have HD:Hid (Ex47 L wd ln lp tl→(1:Int)=0):=Lib.hid (fun h=>absurd (h1.out.2 (hEX1.out h)) hk1)
  clear h1 H2 hEX1 hEX2 x1 x2 x3
  go_wp2_with fail
  refine bodyPost_ret (v:=.tuple #[.slice none 0 0,.int .i64 0,.int .i64 1]) (by simp [results,Tryz.results22,go_sem]) rfl ?_
  exact RetGa.err (by decide) HD.out hb1
 have HTI:=Lib.hid (h1.out.1 hk1)
 obtain ⟨t1,t2,t3,t4,t5⟩:=h1.out.1 hk1
 have HU:UnitOk (ln - lp):=⟨by omega,by omega⟩
 subst hk1
 clear h1 hEX1
 go_wp2_with fail
 refine (H2.out _ hb1).mono ?_
 rintro e w2 ⟨k2,rfl,h2,hB2⟩
 have hb2:=below_trans' hb1 hB2
 replace x1:=keep hB2 x1
 replace x2:=keep hB2 x2
 replace x3:=keep hB2 x3
 clear hB2 H2 hb1
 by_cases hk2:k2=0
 rotate_left
 ·have HD:Hid (Ex47 L wd ln lp tl→(1:Int)=0):=Lib.hid (fun h=>absurd (h2.out.2 (hEX2.out h)) hk2)
  clear h2 hEX2 x1 x2 x3 HTI
  go_wp2_with fail
  refine bodyPost_ret (v:=.tuple #[.slice none 0 0,.int .i64 0,.int .i64 1]) (by simp [results,Tryz.results22,go_sem]) rfl ?_
  exact RetGa.err (by decide) HD.out hb2
 obtain ⟨T,hT⟩:=h2.out.1 hk2
 subst hk2
 have hl:=HL0.out ⟨T,hT⟩
 have HT:=Lib.hid hT
 have hR:ResT L T:=hT.res (by omega)
 have hTe:Hid (Ex47 L wd ln lp tl→T=oneT 3000 1):=Lib.hid (fun h=>oneSurd_uniq HT.out h.1 (by unfold Sz;decide +kernel))
 have HR:=Lib.hid hR
 have H3:=Lib.hid (fun W (hB:Below w.heap.size w W)=>SignX_ok T (Ex47 L wd ln lp tl) L _ W (HW.out.glo.below hB) (HW.out.pri.below hB) (HW.out.spl.below hB) (HV.out.below hB) HR.out (fun h=>⟨3000,hTe.out h,by unfold Sz;decide +kernel,.inl (by decide)⟩))
 clear h2 hEX2 hT hR
 go_wp2_with fail
 refine (H3.out _ hb2).mono ?_
 rintro e w3 ⟨s,c3,rfl,hsr,hs3,hd3,hB3⟩
 have hb3:=below_trans' hb2 hB3
 replace x1:=keep hB3 x1
 replace x2:=keep hB3 x2
 replace x3:=keep hB3 x3
 clear hB3 H3 hb2
 by_cases hc3:c3=0
 rotate_left
 ·have HD:Hid (Ex47 L wd ln lp tl→c3=0):=hd3
  clear hd3 hs3 x1 x2 x3 HTI hTe HR HT
  go_wp2_with fail
  refine bodyPost_ret (v:=.tuple #[.slice none 0 0,.int .i64 0,.int .i64 c3]) (by simp [results,Tryz.results22,go_sem]) rfl ?_
  exact RetGa.err hc3 HD.out hb3
 have HS:=Lib.hid (hs3.out hc3)
 subst hc3
 clear hd3 hs3
 by_cases hsp:s≤0
 ·have HD:Hid (Ex47 L wd ln lp tl→(2:Int)=0):=Lib.hid (fun h=>by
   have h1:=HS.out
   rw [hTe.out h] at h1
   have e:valT (oneT 3000 1)=fun _=>(3000:Rat):=funext fun P=>valT_oneT _ _
   rw [e] at h1
   have h2:=h1.of_pos (PosF.const (c:=3000) (by decide) fun _=>rfl)
   omega)
  clear x1 x2 x3 HTI hTe HR HT HS
  go_wp2_with fail
  refine bodyPost_ret (v:=.tuple #[.slice none 0 0,.int .i64 0,.int .i64 2]) (by simp [results,Tryz.results22,go_sem]) rfl ?_
  exact RetGa.err (by decide) HD.out hb3
 have HPOS:Hid (PosF (valT T)):=Lib.hid (by
  rcases HS.out with ⟨_,h⟩|⟨h,_⟩|⟨h,_⟩
  ·exact h
  ·omega
  ·omega)
 have H4:=Lib.hid (fun W (hB:Below w.heap.size w W)=>whole_ok tl W (HW.out.glo.below hB) (by omega) (by omega))
 have htsz:Sz 4 (tl:Rat):=sz_int (by omega) (by decide)
 have H5:=Lib.hid (fun (x:Value) W (hB:Below w.heap.size w W) (hx:IsTerms W x [(numS (tl:Rat),⟨#[49]⟩)])=>MakeN_ok (tl:Rat) (numS (tl:Rat)) x W (HW.out.glo.below hB) (HW.out.pri.below hB) (numS_list _) (htsz.mono (by decide)) hx)
 obtain ⟨D1,hD1,hD1'⟩:∃ D1:Option Rat,(∀ d,D1=some d→Ex47 L wd ln lp tl∧d=3050)∧(Ex47 L wd ln lp tl→D1=some 3050):=by
  by_cases h:Ex47 L wd ln lp tl
  ·exact ⟨some 3050,fun d hd=>by cases hd;exact ⟨h,rfl⟩,fun _=>rfl⟩
  ·refine ⟨none,fun d hd=>?_,fun h2=>absurd h2 h⟩
   cases hd
 have HD1:=Lib.hid hD1
 have HD1':=Lib.hid hD1'
 have HTL:=Lib.hid (show ResT (oneL (tl:Rat) 1) (oneT (tl:Rat) 1) from (oneSurd (htsz.mono (by decide))).res (Nat.le_trans (oneL_len _ 1) (by decide)))
 have H6:=Lib.hid (fun (x:Value) W (hB:Below w.heap.size w W) (hx:IsTerms W x (oneL (tl:Rat) 1))=>AddX_ok T (oneT (tl:Rat) 1) D1 L (oneL (tl:Rat) 1) _ x W (HW.out.glo.below hB) (HW.out.pri.below hB) (HV.out.below hB) hx HR.out HTL.out (by have:=oneL_len (tl:Rat) 1;omega) (fun d hd=>by
  obtain ⟨h1,h2⟩:=HD1.out d hd
  refine ⟨3000,50,hTe.out h1,by rw [h1.2.2.2.2];rfl,by rw [h2];decide +kernel,by unfold Sz;decide +kernel,by unfold Sz;decide +kernel⟩))
 have hEL:Hid ((oneL (tl:Rat) 1).length≤1):=Lib.hid (oneL_len _ 1)
 have HVT:Hid (∀ P,valT T P+valT (oneT (tl:Rat) 1) P=valT T P+(tl:Rat)):=Lib.hid (fun P=>by rw [valT_oneT])
 generalize hLT:oneL (tl:Rat) 1=LT at *
 generalize hST:numS (tl:Rat)=st at *
 clear hD1 hD1' htsz hLT hST HTL HS hsr
 go_wp2_with fail
 refine (H4.out _ hb3).mono ?_
 rintro e w4 ⟨rfl,hB4⟩
 have hb4:=below_trans' hb3 hB4
 replace x1:=keep hB4 x1
 replace x2:=keep hB4 x2
 clear hB4 H4 hb3 x3
 go_wp2_with fail
 have hB5:Below w4.heap.size w4 (w4.alloc (.cells #[.string st,.string ⟨#[49]⟩] 70)):=bw4 (bw0 _ _) _
 have hb5:=below_trans' hb4 hB5
 have hx5:IsTerms (w4.alloc (.cells #[.string st,.string ⟨#[49]⟩] 70)) (.slice (some ⟨w4.heap.size,0,none⟩) 1 1) [(st,⟨#[49]⟩)]:=isTerms_box (t:=70) (BoxT2.new rfl)
 replace x1:=keep hB5 x1
 replace x2:=keep hB5 x2
 generalize w4.alloc (.cells #[.string st,.string ⟨#[49]⟩] 70)=w5 at *
 refine (H5.out _ _ hb5 hx5).mono ?_
 rintro e w6 ⟨y,rfl,hy,hB6⟩
 have hb6:=below_trans' hb5 hB6
 replace x1:=keep hB6 x1
 replace x2:=keep hB6 x2
 have H7:=Lib.hid (H6.out y w6 hb6 hy)
 obtain ⟨ya,yc,rfl,_⟩:=hy
 clear hB6 hB5 H5 H6 hb5 hb4 hx5
 go_wp2_with fail
 refine H7.out.mono ?_
 rintro e w7 ⟨z,c7,L7,rfl,hz,hT7,hd7,hB7⟩
 have hb7:=below_trans' hb6 hB7
 replace x1:=keep hB7 x1
 replace x2:=keep hB7 x2
 clear hB7 H7 hb6
 by_cases hc7:c7=0
 rotate_left
 ·have HD:Hid (Ex47 L wd ln lp tl→c7=0):=Lib.hid (fun h=>hd7.out _ (HD1'.out h))
  obtain ⟨za,zc,rfl,_⟩:=hz
  clear hT7 hd7 x1 x2 HTI hTe HR HT HPOS HD1 HD1' HVT
  go_wp2_with fail
  refine bodyPost_ret (v:=.tuple #[.slice none 0 0,.int .i64 0,.int .i64 c7]) (by simp [results,Tryz.results22,go_sem]) rfl ?_
  exact RetGa.err hc7 HD.out hb7
 obtain ⟨hl7,T7,hR7,hN7,hO7⟩:=hT7.out hc7
 have HR7:=Lib.hid hR7
 have HZ:=Lib.hid hz
 have HN7:Hid (Near0 (fun P=>valT T7 P - (valT T P+(tl:Rat)))):=Lib.hid (by
  have e:(fun P=>valT T7 P - (valT T P+(tl:Rat)))=(fun P=>valT T7 P - (valT T P+valT (oneT (tl:Rat) 1) P)):=funext fun P=>by rw [HVT.out P]
  rw [e];exact hN7)
 have HO7:Hid (Ex47 L wd ln lp tl→T7=oneT 3050 1):=Lib.hid (fun h=>hO7 _ (HD1'.out h))
 have hl76:L7.length≤L.length+1:=by have:=hEL.out;omega
 have HL76:=Lib.hid hl76
 subst hc7
 clear hT7 hd7 hR7 hN7 hO7 hl7 HVT hEL HD1
 have hwu:IntKind.i64.wrap (ln - lp)=ln - lp:=IntWalk.i64_in _ (by omega)
 have H8:=Lib.hid (fun W (hB:Below w.heap.size w W)=>whole_ok (ln - lp) W (HW.out.glo.below hB) (by omega) (by omega))
 obtain ⟨D2,hD2,hD2'⟩:∃ D2:Option Rat,(∀ d,D2=some d→Ex47 L wd ln lp tl∧d=3050 * (1 / ((320:Int):Rat)))∧(Ex47 L wd ln lp tl→D2≠none):=by
  by_cases h:Ex47 L wd ln lp tl
  ·refine ⟨some (3050 * (1 / ((320:Int):Rat))),fun d hd=>?_,fun _ hd=>?_⟩
   ·cases hd;exact ⟨h,rfl⟩
   ·cases hd
  ·refine ⟨none,fun d hd=>?_,fun h2=>absurd h2 h⟩
   cases hd
 have HD2':=Lib.hid hD2'
 have HUU:=Lib.hid HU
 have H9:=Lib.hid (fun W (hB:Below w7.heap.size w7 W)=>Steps_ok T7 D2 L7 (ln - lp) z W (HW.out.below (below_trans' hb7 hB)) (HZ.out.below hB) HR7.out (by omega) HUU.out (fun d hd=>by
  obtain ⟨h1,h2⟩:=hD2 d hd
  have e:ln - lp=320:=by obtain ⟨_,_,a,b,_⟩:=h1;omega
  refine ⟨3050,HO7.out h1,by rw [h2,e],by unfold Sz;decide +kernel,8,by rw [h2];exact ex_defz⟩))
 obtain ⟨za,zc,rfl,_⟩:=hz
 obtain ⟨un,hun⟩:∃ u,ln - lp=u:=⟨_,rfl⟩
 rw [hun] at H8 H9 HUU
 replace hwu:IntKind.i64.wrap (ln - lp)=un:=hwu.trans hun
 have HUN:=Lib.hid hun
 clear hD2 hD2' HU hun
 go_wp2_with fail
 refine (H8.out _ hb7).mono ?_
 rintro e w8 ⟨rfl,hB8⟩
 have hb8:=below_trans' hb7 hB8
 have H10:=Lib.hid (H9.out w8 hB8)
 replace HZ:=Lib.hid (HZ.out.below hB8)
 clear hB8 H8 H9 hb7 x1 x2
 go_wp2_with fail
 refine H10.out.mono ?_
 rintro e w9 ⟨n,c9,rfl,hn9,hd9,hB9⟩
 have hb9:=below_trans' hb8 hB9
 replace HZ:=Lib.hid (HZ.out.below hB9)
 clear hB9 H10 hb8
 by_cases hc9:c9=0
 rotate_left
 ·have HD:Hid (Ex47 L wd ln lp tl→c9=0):=Lib.hid (fun h=>hd9.out (HD2'.out h))
  clear hn9 hd9 HTI hTe HR HT HPOS HN7 HO7 HR7
  go_wp2_with fail
  refine bodyPost_ret (v:=.tuple #[.slice none 0 0,.int .i64 0,.int .i64 c9]) (by simp [results,Tryz.results22,go_sem]) rfl ?_
  exact RetGa.err hc9 HD.out hb9
 obtain ⟨hce,hnl,hnh⟩:=hn9.out hc9
 have HCE:Hid (CeilZ (fun P=>(1 / (un:Rat)) * (valT T P+(tl:Rat))) n):=Lib.hid (hce.near (HN7.out.mul (k:=1 / (un:Rat)) fun P=>by grind))
 have HEXN:Hid (Ex47 L wd ln lp tl→n=10):=Lib.hid (fun h=>by
  have hc:=hce
  rw [HO7.out h] at hc
  have e:un=320:=by obtain ⟨_,_,a,b,_⟩:=h;have:=HUN.out;omega
  rw [e] at hc
  have e2:(fun P=>(1 / ((320:Int):Rat)) * valT (oneT 3050 1) P)=fun _=>(305:Rat) / 32:=funext fun P=>by rw [valT_oneT];decide +kernel
  rw [e2] at hc
  rcases hc with h|⟨h1,h2⟩
  ·have a:=near_const h
   have b:(305:Rat)=(n:Rat) * 32:=by grind
   have b':((305:Int):Rat)=((n * 32:Int):Rat):=by rw [Rat.intCast_mul];exact b
   have:=Rat.intCast_inj.1 b'
   omega
  ·have a:=pos_const h1
   have b:=pos_const h2
   have a':((305:Int):Rat) < ((n * 32:Int):Rat):=by rw [Rat.intCast_mul];show (305:Rat) < (n:Rat) * 32;grind
   have b':(((n - 1) * 32:Int):Rat) < ((305:Int):Rat):=by rw [Rat.intCast_mul];show ((n - 1:Int):Rat) * 32 < (305:Rat);grind
   have a2:=Rat.intCast_lt_intCast.1 a'
   have b2:=Rat.intCast_lt_intCast.1 b'
   omega)
 have hn1:1≤n:=HCE.out.ge1 ((HPOS.out.near (g:=fun _=>0) (h:=valT T) (Near0.zero fun _=>rfl) fun P=>by grind) |> fun h=>by
  have hu:(0:Rat) < 1 / (un:Rat):=by
   have h1:((0:Int):Rat) < (un:Rat):=Rat.intCast_lt_intCast.2 (by have:=HUU.out.1;omega)
   have h1':(0:Rat) < (un:Rat):=h1
   rw [Rat.div_def,Rat.one_mul];exact Rat.inv_pos.2 h1'
  have ht:(0:Rat)≤(tl:Rat):=by
   have:((0:Int):Rat)≤(tl:Rat):=Rat.intCast_le_intCast.2 (by omega)
   exact this
  have hp:PosF (fun P=>valT T P+(tl:Rat)):=by
   obtain ⟨e,C,e0,c0,hC⟩:=h
   exact ⟨e,C,e0,c0,fun P=>by have:=hC P;grind⟩
  exact hp.mul hu fun P=>rfl)
 subst hc9
 clear hn9 hd9 hce HD2' HD1'
 by_cases hnm:4096 < n
 ·have HD:Hid (Ex47 L wd ln lp tl→(4:Int)=0):=Lib.hid (fun h=>by have:=HEXN.out h;omega)
  clear HTI hTe HR HT HPOS HN7 HO7 HR7 HCE HEXN
  go_wp2_with fail
  refine bodyPost_ret (v:=.tuple #[.slice none 0 0,.int .i64 0,.int .i64 4]) (by simp [results,Tryz.results22,go_sem]) rfl ?_
  exact RetGa.err (by decide) HD.out hb9
 have HU2:UnitOk n:=⟨hn1,by omega⟩
 have H11:=Lib.hid (fun W (hB:Below w.heap.size w W)=>whole_ok n W (HW.out.glo.below hB) (by omega) (by omega))
 have H12:=Lib.hid (fun W (hB:Below w.heap.size w W)=>cInv_ok n W (HW.out.glo.below hB) HU2)
 obtain ⟨D3,hD3,hD3'⟩:∃ D3:Option Rat,(∀ d,D3=some d→Ex47 L wd ln lp tl∧d=305)∧(Ex47 L wd ln lp tl→D3=some 305):=by
  by_cases h:Ex47 L wd ln lp tl
  ·exact ⟨some 305,fun d hd=>by cases hd;exact ⟨h,rfl⟩,fun _=>rfl⟩
  ·refine ⟨none,fun d hd=>?_,fun h2=>absurd h2 h⟩
   cases hd
 have HD3':=Lib.hid hD3'
 have H13:=Lib.hid (fun W (hB:Below w9.heap.size w9 W)=>ScaleX_ok T7 (1 / (n:Rat)) D3 L7 _ (numS (1 / (n:Rat))) W (HW.out.glo.below (below_trans' hb9 hB)) (HW.out.pri.below (below_trans' hb9 hB)) (HZ.out.below hB) HR7.out (numS_list _) ((inv_sz HU2).mono (by decide)) (fun d hd=>by
  obtain ⟨h1,h2⟩:=hD3 d hd
  have e:=HEXN.out h1
  subst e
  refine ⟨3050,HO7.out h1,by rw [h2];decide +kernel,by unfold Sz;decide +kernel,by unfold Sz;decide +kernel⟩))
 have HV2:Hid (∀ f:Nat→Rat,Near0 (fun P=>f P - (1 / (n:Rat)) * valT T7 P)→Near0 (fun P=>f P - (1 / (n:Rat)) * (valT T P+(tl:Rat)))):=Lib.hid (fun f h=>h.add (HN7.out.mul (k:=1 / (n:Rat)) fun P=>rfl) fun P=>by grind)
 generalize hsi:numS ((1:Rat) / (n:Rat))=si at *
 generalize hsn:numS (n:Rat)=sn at *
 clear hD3 hD3' HU2 hsi hsn
 go_wp2_with fail
 refine (H11.out _ hb9).mono ?_
 rintro e w10 ⟨rfl,hB10⟩
 have hb10:=below_trans' hb9 hB10
 clear H11
 go_wp2_with fail
 refine (H12.out _ hb10).mono ?_
 rintro e w11 ⟨rfl,hB11⟩
 have hb11:=below_trans' hb10 hB11
 have H14:=Lib.hid (H13.out w11 (below_trans' hB10 hB11))
 clear H12 H13 hB10 hB11 hb10
 go_wp2_with fail
 refine H14.out.mono ?_
 rintro e w12 ⟨g,c12,L12,rfl,hg,hT12,hd12,hB12⟩
 have hb12:=below_trans' hb11 hB12
 have HGG:=Lib.hid hg
 obtain ⟨ga,gc,rfl,_⟩:=hg
 clear hB12 H14 hb11
 by_cases hc12:c12=0
 ·obtain ⟨hl12,T12,hR12,hN12,hO12⟩:=hT12.out hc12
  have HG12:Hid (∃ T TG,GaugeIs L L12 ln lp tl n T TG):=Lib.hid ⟨T,T12,HT.out,HPOS.out,hn1,by omega,by rw [HUN.out];exact HCE.out,hR12,by have:=HL76.out;omega,HV2.out _ hN12⟩
  have HEX:Hid (Ex47 L wd ln lp tl→n=10∧L12=oneL 305 1):=Lib.hid (fun h=>⟨HEXN.out h,by
   have e:=hO12 _ (HD3'.out h)
   rw [e] at hR12
   rw [hR12.cls,clsL_one]⟩)
  subst hc12
  clear hT12 hd12 hR12 hN12 hO12 hl12 hTe HR HT HPOS HN7 HO7 HR7 HCE HEXN HV2 HD3'
  go_wp2_with fail
  refine bodyPost_ret (v:=.tuple #[.slice ga L12.length gc,.int .i64 n,.int .i64 0]) (by simp [results,Tryz.results22,go_sem]) rfl ?_
  exact ⟨_,n,0,L12,rfl,HGG.out,Lib.hid (fun h=>absurd rfl h),Lib.hid (fun _=>⟨HTI.out,HG12.out⟩),Lib.hid (fun h=>⟨rfl,HEX.out h⟩),hb12⟩
 ·have HD:Hid (Ex47 L wd ln lp tl→c12=0):=Lib.hid (fun h=>hd12.out _ (HD3'.out h))
  clear hT12 hd12 HTI hTe HR HT HPOS HN7 HO7 HR7 HCE HEXN HV2 HD3'
  go_wp2_with fail
  refine bodyPost_ret (v:=.tuple #[.slice none 0 0,.int .i64 0,.int .i64 c12]) (by simp [results,Tryz.results22,go_sem]) rfl ?_
  exact RetGa.err hc12 HD.out hb12
end Go.Proofs.YtbbclfbpllbbbaaGreatDoor
namespace Go.Proofs.YtbbclfbpllbbbaaGreatDoor
open Go.RowKit
attribute [local go_sem ↓] Go.wp_at_zero Go.wp_at_succ
structure CrsAt (w:World) (b0 off:Nat) (s t:ByteArray) (v:Value) (lo hi:Rat) (sp:List (Rat × Rat)):Prop where
 c0:w.cell? ⟨b0,off,none⟩=some (.string s)
 c1:w.cell? ⟨b0,off+1,none⟩=some (.string t)
 c2:w.cell? ⟨b0,off+2,none⟩=some v
 hs:s.data.toList=ratText lo
 ht:t.data.toList=ratText hi
 hlo:Small lo
 hhi:Small hi
 hlt:lo < hi
 hv:IsSpans w v sp
 hr:RightSpans sp
 hn:sp.length≤64
structure CrsSum (lo hi:Rat) (sp:List (Rat × Rat)):Prop where
 hsum:∀ k,k≤sp.length→Small (lenTo sp k)
 hdif:∀ k (h:k < sp.length),Small (sp[k].2 - sp[k].1)
 hd:Small (hi - lo)
 hp:Small ((hi - lo) * lenTo sp sp.length)
def totTo (lo hi:Nat→Rat) (sp:Nat→List (Rat × Rat)):Nat→Rat
 | 0=>0
 | k+1=>totTo lo hi sp k+(hi k - lo k) * lenTo (sp k) (sp k).length
theorem right_n {n:Nat} {L H:Nat→Rat} {S:Nat→List (Rat × Rat)} (b0 o0 cap0:Nat) (w:World) (hG:Glo w) (hn4:n≤64)
  (HCR0:∀ k,k < n→∃ s t v,CrsAt w b0 (o0+k * 3) s t v (L k) (H k) (S k)) :
  Calls Tryz.prog 169 #[.slice (some ⟨b0,o0,none⟩) n cap0] w (RetB (.bool true) w):=by
 have HCR:=Lib.hid HCR0
 have HG:=Lib.hid hG
 clear HCR0 hG
 have hn5:¬ (4096:Int) < (n:Int):=by omega
 go_enter Tryz.func169,Tryz.ntmps169
 go_wp2_with fail
 go_loopw [12] (fun i wr=>∃ k:Nat,k≤n∧i=.int .i64 k∧Below w.heap.size w wr) (fun i _=>n - (intOf i).toNat)
 case atStart=>exact ⟨0,by omega,rfl,bw0 _ _⟩
 case round =>
  obtain ⟨k,hk,rfl,hB0⟩:=hrel
  by_cases hk1:k=n
  ·subst hk1
   go_wp2_with fail
   go_ret
   exact ⟨rfl,hB0⟩
  ·have hkn:k < n:=by omega
   obtain ⟨s,t,v,c0,c1,c2,hs,ht,hlo,hhi,hlt,hv,hr,hn⟩:=HCR.out k hkn
   have hkI:(k:Int) < (n:Int):=by omega
   have hkw:IntKind.i64.wrap ((k:Int)+1)=((k+1:Nat):Int):=IntWalk.i64_in _ (by omega)
   generalize L k=lo at *
   generalize H k=hi at *
   generalize S k=sp at *
   obtain ⟨a,cap,rfl,hcap,hcells⟩:=hv
   have HS:=Lib.hid hs
   have HT:=Lib.hid ht
   have HC:=Lib.hid hcells
   have HR:=Lib.hid hr
   have ho1:=ordQ_lt hlt
   clear hs ht hcells hr hk hk1
   have d0:=keep hB0 c0
   have d1:=keep hB0 c1
   have d2:=keep hB0 c2
   clear c0 c1 c2
   go_wp2_with fail
   refine (short_small s _ (HG.out.below qbl) HS.out hlo).mono ?_
   rintro e w2 ⟨rfl,hB2⟩
   obtain ⟨hc2,hf2⟩:=bcell hB2
   have z2:=hB2.size
   simp only [World.size_alloc] at z2
   have f0:w2.cell? ⟨wr.heap.size,0,none⟩=some (.string s):=by rw [hc2 _ _ (by simp)];simp [go_sem]
   have f1:w2.cell? ⟨wr.heap.size,1,none⟩=some (.string t):=by rw [hc2 _ _ (by simp)];simp [go_sem]
   have f2:w2.cell? ⟨wr.heap.size,2,none⟩=some (.slice a sp.length cap):=by rw [hc2 _ _ (by simp)];simp [go_sem]
   have hB2':Below w.heap.size w w2:=qbl
   clear hc2 hf2 hB2 d0 d1 d2
   go_wp2_with fail
   refine (short_small t _ (HG.out.below hB2') HT.out hhi).mono ?_
   rintro e w3 ⟨rfl,hB3⟩
   have z3:=hB3.size
   have g0:=keep hB3 f0
   have g1:=keep hB3 f1
   have g2:=keep hB3 f2
   have hB3':Below w.heap.size w w3:=below_trans' hB2' hB3
   clear hB3 f0 f1 f2 hB2'
   go_wp2_with fail
   refine (order_small s t _ HS.out hlo HT.out hhi).mono ?_
   rintro e w4 ⟨rfl,hB4⟩
   have z4:=hB4.size
   have k0:=keep hB4 g0
   have k1:=keep hB4 g1
   have k2:=keep hB4 g2
   have hB4':Below w.heap.size w w4:=below_trans' hB3' hB4
   have zr:wr.heap.size < w4.heap.size:=by omega
   rw [ho1]
   clear hB4 g0 g1 g2 hB3' ho1
   go_wp2_with fail
   obtain ⟨wo,rfl⟩:∃ wo:World,wo=wr:=⟨_,rfl⟩
   go_loopw [43] (fun i wq=>∃ j:Nat,j≤sp.length∧i=.int .i64 j∧Below w.heap.size w wq∧wq.cell? ⟨wo.heap.size,2,none⟩=some (.slice a sp.length cap)) (fun i _=>sp.length - (intOf i).toNat)
   case atStart=>exact ⟨0,by omega,rfl,hB4',k2⟩
   case round =>
    obtain ⟨j,hj,rfl,hBj,kj⟩:=hrel
    clear k0 k1 k2 hB4' hB0 zr z4 z3 z2
    by_cases hjn:j=sp.length
    ·subst hjn
     go_wp2_with fail
     go_roundw
     case rel=>exact ⟨k+1,by omega,by go_num,hBj⟩
     case measure=>simp [intOf];omega
    ·have hj1:j < sp.length:=by omega
     obtain ⟨b,off,rfl,hbb,hcc⟩:=HC.out (fun h=>by rw [h] at hj1;simp at hj1)
     obtain ⟨u,v,e0,e1,hu,hv⟩:=hcc j hj1
     have q0:=keep hBj e0
     have q1:=keep hBj e1
     have HU:=Lib.hid hu
     have HV:=Lib.hid hv
     have hji:(j:Int) < (sp.length:Int):=by omega
     clear hu hv e0 e1 hjn hcc
     go_wp2_with fail
     have hRj:=HR.out.1 j hj1
     obtain ⟨hR1,hR2,hR3⟩:=hRj
     have ho:=ordQ_lt hR3
     have HO:=Lib.hid ho
     clear ho hR3
     by_cases hj0:j=0
     ·as_aux_lemma =>
      subst hj0
      have x0:(wr.alloc (.cells #[.string u,.string v] 116)).cell? ⟨wr.heap.size,0,none⟩=some (.string u):=by simp [go_sem]
      have x1:(wr.alloc (.cells #[.string u,.string v] 116)).cell? ⟨wr.heap.size,1,none⟩=some (.string v):=by simp [go_sem]
      have hBk:Below w.heap.size w (wr.alloc (.cells #[.string u,.string v] 116)):=(by repeat (first|(with_reducible first|exact bw0 _ _|exact hB|refine bw1 ?_ ?_ _|refine bw2 ?_ _|refine bw3 ?_|refine bw4 ?_ _|refine bw5 (by assumption) ?_)|exact Nat.le_refl _|(focus (simp;done))|(focus (simp;omega))|omega))
      have kj':(wr.alloc (.cells #[.string u,.string v] 116)).cell? ⟨wo.heap.size,2,none⟩=some (.slice (some ⟨b,off,none⟩) sp.length cap):=keep (bw4 (bw0 _ _) _) kj
      have hS:(wr.alloc (.cells #[.string u,.string v] 116)).drew.cell? ⟨wr.heap.size,0,none⟩=some (.string u)∧(wr.alloc (.cells #[.string u,.string v] 116)).drew.cell? ⟨wr.heap.size,1,none⟩=some (.string v)∧(wr.alloc (.cells #[.string u,.string v] 116)).drew.cell? ⟨wo.heap.size,2,none⟩=some (.slice (some ⟨b,off,none⟩) sp.length cap)∧Below w.heap.size w (wr.alloc (.cells #[.string u,.string v] 116)).drew:=⟨x0,x1,kj',hBk.drew⟩
      generalize wr.alloc (.cells #[.string u,.string v] 116)=W at *
      clear x0 x1 kj' hBk
      refine region_held_abs (S:=(fun w'=>w'.cell? ⟨wr.heap.size,0,none⟩=some (.string u)∧w'.cell? ⟨wr.heap.size,1,none⟩=some (.string v)∧w'.cell? ⟨wo.heap.size,2,none⟩=some (.slice (some ⟨b,off,none⟩) sp.length cap)∧Below w.heap.size w w')) 35 #[false,false,false,false,false,false,false,false,false,false,false,false,false,false,false,false,false,false,false,false,false,false,false,false,false,false,false,false,false,false,false,false,false,false,false] (by kernel_rfl) (by kernel_rfl) (by kernel_rfl) (fun _ _ _ _ _ h=>h) hS (fun Q' hQ' hN hHeld=>?_)
      refine tT 48 0 ?_
      refine tT 49 1 ?_
      refine wpAnyH_ready (rs:=[2]) (by kernel_rfl) (by simp) ?_
      refine consW (i:=2) rfl (by kernel_rfl) (fun K hK=>?_)
      go_simp
      refine (short_small u _ (glo3 HG.out hHeld) HU.out hR1).mono ?_
      rintro e w' ⟨rfl,hBx⟩
      go_simp
      refine hK.out _ _ ?_ (fun hHeld=>?_)
      ·exact keep3 hHeld hBx
      clear hK K
      (try simp only [Act.put,bw7,bw8,bw9])
      refine tT 51 3 ?_
      refine tT 52 4 ?_
      refine tT 53 5 ?_
      refine tT 54 6 ?_
      refine wpAnyH_ready (rs:=[7]) (by kernel_rfl) (by simp) ?_
      refine consW (i:=7) rfl (by kernel_rfl) (fun K hK=>?_)
      go_simp
      refine (short_small v _ (glo3 HG.out hHeld) HV.out hR2).mono ?_
      rintro e w' ⟨rfl,hBx⟩
      go_simp
      refine hK.out _ _ ?_ (fun hHeld=>?_)
      ·exact keep3 hHeld hBx
      clear hK K
      (try simp only [Act.put,bw7,bw8,bw9])
      refine tT 56 8 ?_
      refine tT 57 9 ?_
      refine tT 58 10 ?_
      refine tT 59 11 ?_
      refine tT 60 12 ?_
      refine tT 61 13 ?_
      refine tT 62 14 ?_
      refine wpAnyH_ready (rs:=[15]) (by kernel_rfl) (by simp) ?_
      refine consW (i:=15) rfl (by kernel_rfl) (fun K hK=>?_)
      go_simp
      refine (order_lt u v _ HU.out hR1 HV.out hR2 HO.out).mono ?_
      rintro e w' ⟨rfl,hBx⟩
      go_simp
      refine hK.out _ _ ?_ (fun hHeld=>?_)
      ·exact keep3 hHeld hBx
      clear hK K
      (try simp only [Act.put,bw7,bw8,bw9])
      refine tT 64 16 ?_
      refine tT 65 17 ?_
      refine tT 66 18 ?_
      refine tT 67 19 ?_
      refine tT 68 20 ?_
      refine tT 69 21 ?_
      refine tF 70 22 ?_
      refine tF 71 23 ?_
      refine tF 72 24 ?_
      refine tF 73 25 ?_
      refine tF 74 26 ?_
      refine tF 75 27 ?_
      refine tF 76 28 ?_
      refine tF 77 29 ?_
      refine tF 78 30 ?_
      refine tF 79 31 ?_
      refine tF 80 32 ?_
      refine tT 81 33 ?_
      refine tT 82 34 ?_
      refine wpAnyH_done (by kernel_rfl) ?_ _
      refine hN.out _ _ ?_
      go_wp2_with fail
      go_roundw
      case rel=>exact ⟨1,by omega,by go_num,hHeld.2.2.2,hHeld.2.2.1⟩
      case measure=>simp [intOf];omega
     ·as_aux_lemma =>
      have hi1:j - 1 < sp.length:=by omega
      obtain ⟨b',off',hbo,hbb',hcc'⟩:=HC.out (fun h=>by rw [h] at hj1;simp at hj1)
      simp only [Option.some.injEq,Addr.mk.injEq] at hbo
      obtain ⟨rfl,rfl,_⟩:=hbo
      obtain ⟨_,z,_,e1',_,hz⟩:=hcc' (j - 1) hi1
      have q2:=keep hBj e1'
      have hR0:=(HR.out.1 (j - 1) hi1).2.1
      have hj2:j - 1+1 < sp.length:=by omega
      have hlt2:=HR.out.2 (j - 1) hj2
      have hjj:sp[j - 1+1]=sp[j]:=by congr 1;omega
      rw [hjj] at hlt2
      have ho2:=ordQ_lt hlt2
      have HO2:=Lib.hid ho2
      have HZ:=Lib.hid hz
      have hjz:(0:Int) < (j:Int):=by omega
      have hjN:0 < j:=by omega
      have hii:(j:Int) - 1 < (sp.length:Int):=by omega
      have hii0:(0:Int)≤(j:Int) - 1:=by omega
      have hii1:(1:Int)≤(j:Int):=by omega
      have hii2:(j:Int) < (sp.length:Int)+1:=by omega
      have hii3:(j:Int)≤(sp.length:Int):=by omega
      have hwj:IntKind.i64.wrap ((j:Int) - 1)=(j:Int) - 1:=IntWalk.i64_in _ (by omega)
      have hcap':(sp.length:Int)≤64:=by omega
      have x0:(wr.alloc (.cells #[.string u,.string v] 116)).cell? ⟨wr.heap.size,0,none⟩=some (.string u):=by simp [go_sem]
      have x1:(wr.alloc (.cells #[.string u,.string v] 116)).cell? ⟨wr.heap.size,1,none⟩=some (.string v):=by simp [go_sem]
      have hBk:Below w.heap.size w (wr.alloc (.cells #[.string u,.string v] 116)):=(by repeat (first|(with_reducible first|exact bw0 _ _|exact hB|refine bw1 ?_ ?_ _|refine bw2 ?_ _|refine bw3 ?_|refine bw4 ?_ _|refine bw5 (by assumption) ?_)|exact Nat.le_refl _|(focus (simp;done))|(focus (simp;omega))|omega))
      have kj':(wr.alloc (.cells #[.string u,.string v] 116)).cell? ⟨wo.heap.size,2,none⟩=some (.slice (some ⟨b,off,none⟩) sp.length cap):=keep (bw4 (bw0 _ _) _) kj
      have q2':(wr.alloc (.cells #[.string u,.string v] 116)).cell? ⟨b,off+(j - 1) * 2+1,none⟩=some (.string z):=keep (bw4 (bw0 _ _) _) q2
      have hS:(wr.alloc (.cells #[.string u,.string v] 116)).drew.cell? ⟨wr.heap.size,0,none⟩=some (.string u)∧(wr.alloc (.cells #[.string u,.string v] 116)).drew.cell? ⟨wr.heap.size,1,none⟩=some (.string v)∧(wr.alloc (.cells #[.string u,.string v] 116)).drew.cell? ⟨wo.heap.size,2,none⟩=some (.slice (some ⟨b,off,none⟩) sp.length cap)∧(wr.alloc (.cells #[.string u,.string v] 116)).drew.cell? ⟨b,off+(j - 1) * 2+1,none⟩=some (.string z)∧Below w.heap.size w (wr.alloc (.cells #[.string u,.string v] 116)).drew:=⟨x0,x1,kj',q2',hBk.drew⟩
      generalize wr.alloc (.cells #[.string u,.string v] 116)=W at *
      clear x0 x1 kj' hBk q0 q1 q2 q2' hcc' e1' ho2 hz hj0 hlt2 hjj
      refine region_held_abs (S:=(fun w'=>w'.cell? ⟨wr.heap.size,0,none⟩=some (.string u)∧w'.cell? ⟨wr.heap.size,1,none⟩=some (.string v)∧w'.cell? ⟨wo.heap.size,2,none⟩=some (.slice (some ⟨b,off,none⟩) sp.length cap)∧w'.cell? ⟨b,off+(j - 1) * 2+1,none⟩=some (.string z)∧Below w.heap.size w w')) 35 #[false,false,false,false,false,false,false,false,false,false,false,false,false,false,false,false,false,false,false,false,false,false,false,false,false,false,false,false,false,false,false,false,false,false,false] (by kernel_rfl) (by kernel_rfl) (by kernel_rfl) (fun _ _ _ _ _ h=>h) hS (fun Q' hQ' hN hHeld=>?_)
      refine tT 48 0 ?_
      refine tT 49 1 ?_
      refine wpAnyH_ready (rs:=[2]) (by kernel_rfl) (by simp) ?_
      refine consW (i:=2) rfl (by kernel_rfl) (fun K hK=>?_)
      go_simp
      refine (short_small u _ (glo4 HG.out hHeld) HU.out hR1).mono ?_
      rintro e w' ⟨rfl,hBx⟩
      go_simp
      refine hK.out _ _ ?_ (fun hHeld=>?_)
      ·exact keep4 hHeld hBx
      clear hK K
      (try simp only [Act.put,bw7,bw8,bw9])
      refine tT 51 3 ?_
      refine tT 52 4 ?_
      refine tT 53 5 ?_
      refine tT 54 6 ?_
      refine wpAnyH_ready (rs:=[7]) (by kernel_rfl) (by simp) ?_
      refine consW (i:=7) rfl (by kernel_rfl) (fun K hK=>?_)
      go_simp
      refine (short_small v _ (glo4 HG.out hHeld) HV.out hR2).mono ?_
      rintro e w' ⟨rfl,hBx⟩
      go_simp
      refine hK.out _ _ ?_ (fun hHeld=>?_)
      ·exact keep4 hHeld hBx
      clear hK K
      (try simp only [Act.put,bw7,bw8,bw9])
      refine tT 56 8 ?_
      refine tT 57 9 ?_
      refine tT 58 10 ?_
      refine tT 59 11 ?_
      refine tT 60 12 ?_
      refine tT 61 13 ?_
      refine tT 62 14 ?_
      refine wpAnyH_ready (rs:=[15]) (by kernel_rfl) (by simp) ?_
      refine consW (i:=15) rfl (by kernel_rfl) (fun K hK=>?_)
      go_simp
      refine (order_lt u v _ HU.out hR1 HV.out hR2 HO.out).mono ?_
      rintro e w' ⟨rfl,hBx⟩
      go_simp
      refine hK.out _ _ ?_ (fun hHeld=>?_)
      ·exact keep4 hHeld hBx
      clear hK K
      (try simp only [Act.put,bw7,bw8,bw9])
      refine tT 64 16 ?_
      refine tT 65 17 ?_
      refine tT 66 18 ?_
      refine tT 67 19 ?_
      refine tT 68 20 ?_
      refine tT 69 21 ?_
      refine tT 70 22 ?_
      refine tT 71 23 ?_
      refine tT 72 24 ?_
      refine tT 73 25 ?_
      refine tT 74 26 ?_
      refine tT 75 27 ?_
      refine tT 76 28 ?_
      refine tT 77 29 ?_
      refine tT 78 30 ?_
      refine wpAnyH_ready (rs:=[31]) (by kernel_rfl) (by simp) ?_
      refine consW (i:=31) rfl (by kernel_rfl) (fun K hK=>?_)
      go_simp
      refine (order_lt z u _ HZ.out hR0 HU.out hR1 HO2.out).mono ?_
      rintro e w' ⟨rfl,hBx⟩
      go_simp
      refine hK.out _ _ ?_ (fun hHeld=>?_)
      ·exact keep4 hHeld hBx
      clear hK K
      (try simp only [Act.put,bw7,bw8,bw9])
      refine tT 80 32 ?_
      refine tT 81 33 ?_
      refine tT 82 34 ?_
      refine wpAnyH_done (by kernel_rfl) ?_ _
      refine hN.out _ _ ?_
      go_wp2_with fail
      go_roundw
      case rel=>exact ⟨j+1,by omega,by go_num,hHeld.2.2.2.2,hHeld.2.2.1⟩
      case measure=>simp [intOf];omega
theorem sum_area_n {n:Nat} {L H:Nat→Rat} {S:Nat→List (Rat × Rat)} (b0 o0 cap0:Nat) (w:World) (hG:Glo w) (hn4:n≤64)
  (HCR0:∀ k,k < n→∃ s t v,CrsAt w b0 (o0+k * 3) s t v (L k) (H k) (S k)) (HSM0:∀ k,k < n→CrsSum (L k) (H k) (S k)) (htot0:∀ k,k≤n→Small (totTo L H S k)) :
  Calls Tryz.prog 109 #[.slice (some ⟨b0,o0,none⟩) n cap0,.func (.func 110) #[] #[]] w (RetN (totTo L H S n) w):=by
 have HRI:=Lib.hid (right_n b0 o0 cap0 w hG hn4 HCR0)
 have HCR:=Lib.hid HCR0
 have HSM:=Lib.hid HSM0
 have HTO:=Lib.hid htot0
 have HG:=Lib.hid hG
 have HT0:Hid (ratText (totTo L H S 0)=[48]):=Lib.hid zero_text
 clear HCR0 HSM0 htot0 hG
 go_enter Tryz.func109,Tryz.ntmps109
 go_wp2_with fail
 refine (HRI.out).mono ?_
 rintro e w1 ⟨rfl,hB1⟩
 go_wp2_with fail
 go_loopw [6,21] (fun tot i wr=>∃ k:Nat,k≤n∧i=.int .i64 k∧Below w.heap.size w wr∧∃ r:ByteArray,tot=.string r∧Hid (r.data.toList=ratText (totTo L H S k))) (fun _ i _=>n - (intOf i).toNat)
 case atStart=>exact ⟨0,by omega,rfl,hB1,_,rfl,Lib.hid (by rw [HT0.out])⟩
 case round =>
  obtain ⟨k,hk,rfl,hB0,r,rfl,hrt⟩:=hrel
  by_cases hk1:k=n
  ·subst hk1
   go_wp2_with fail
   go_ret2
   exact ⟨r,hrt.out,rfl,hB0⟩
  ·have hkn:k < n:=by omega
   have hr0:=hrt
   have HTK:=Lib.hid (HTO.out k (by omega))
   have HTS:Hid (totTo L H S k+(H k - L k) * lenTo (S k) (S k).length=totTo L H S (k+1)):=Lib.hid rfl
   obtain ⟨s,t,v,c0,c1,c2,hs,ht,hlo,hhi,hlt,hv,hr,hn⟩:=HCR.out k hkn
   obtain ⟨hsum,hdif,hd,hp⟩:=HSM.out k hkn
   have hkI:(k:Int) < (n:Int):=by omega
   have hkw:IntKind.i64.wrap ((k:Int)+1)=((k+1:Nat):Int):=IntWalk.i64_in _ (by omega)
   generalize totTo L H S k=tk at *
   generalize L k=lo at *
   generalize H k=hi at *
   generalize S k=sp at *
   have HV:=Lib.hid hv
   obtain ⟨a,cap,rfl,hcap,hcells⟩:=hv
   have HS:=Lib.hid hs
   have HT:=Lib.hid ht
   have HC:=Lib.hid hcells
   have HSU:=Lib.hid hsum
   have HDI:=Lib.hid hdif
   have HRS:=Lib.hid hr
   clear hs ht hcells hsum hdif hr hrt hk hk1
   have d0:=keep hB0 c0
   have d1:=keep hB0 c1
   have d2:=keep hB0 c2
   clear c0 c1 c2
   go_wp2_with fail
   obtain ⟨wo,rfl⟩:∃ wo:World,wo=wr:=⟨_,rfl⟩
   have k0:(wo.alloc (.cells #[.string s,.string t,.slice a sp.length cap] 119)).cell? ⟨wo.heap.size,0,none⟩=some (.string s):=by simp [go_sem]
   have k1:(wo.alloc (.cells #[.string s,.string t,.slice a sp.length cap] 119)).cell? ⟨wo.heap.size,1,none⟩=some (.string t):=by simp [go_sem]
   have k2:(wo.alloc (.cells #[.string s,.string t,.slice a sp.length cap] 119)).cell? ⟨wo.heap.size,2,none⟩=some (.slice a sp.length cap):=by simp [go_sem]
   have hBk:Below w.heap.size w (wo.alloc (.cells #[.string s,.string t,.slice a sp.length cap] 119)):=bw4 hB0 _
   go_loopw [9,28] (fun len i wq=>∃ j:Nat,j≤sp.length∧i=.int .i64 j∧(∃ q:ByteArray,len=.string q∧Hid (q.data.toList=ratText (lenTo sp j)))∧wq.cell? ⟨wo.heap.size,0,none⟩=some (.string s)∧wq.cell? ⟨wo.heap.size,1,none⟩=some (.string t)∧wq.cell? ⟨wo.heap.size,2,none⟩=some (.slice a sp.length cap)∧Below w.heap.size w wq) (fun _ i _=>sp.length - (intOf i).toNat)
   case atStart=>exact ⟨0,by omega,rfl,⟨_,rfl,Lib.hid (by rw [lenTo_zero,zero_text])⟩,k0,k1,k2,hBk⟩
   case round =>
    obtain ⟨j,hj,rfl,⟨q,rfl,hq⟩,e0,e1,e2,hBj⟩:=hrel
    clear k0 k1 k2 hBk hB0 d0 d1 d2
    by_cases hjn:j=sp.length
    ·subst hjn
     go_wp2_with fail
     refine (area1_small s t q (.slice a sp.length cap) _ (HG.out.below hBj) HS.out HT.out hq.out hlo hhi (HSU.out _ (Nat.le_refl _)) hd rfl).mono ?_
     rintro e w2 ⟨m,hm,rfl,hB2⟩
     have HM:=Lib.hid hm
     have hB2':=below_trans' hBj hB2
     clear hm
     go_wp2_with fail
     refine (Add_small r m _ (HG.out.below hB2') hr0.out HTK.out HM.out hp).mono ?_
     rintro e w3 ⟨m',hm',rfl,hB3⟩
     have HM':=Lib.hid hm'
     have hB3':=below_trans' hB2' hB3
     clear hm'
     go_wp2_with fail
     go_roundw
     case rel=>exact ⟨k+1,by omega,by go_num,hB3',m',rfl,Lib.hid (by rw [HM'.out,HTS.out])⟩
     case measure=>simp [intOf];omega
    ·have hj1:j < sp.length:=by omega
     obtain ⟨b,off,rfl,hbb,hcc⟩:=HC.out (fun h=>by rw [h] at hj1;simp at hj1)
     obtain ⟨u,v,f0,f1,hu,hv⟩:=hcc j hj1
     have q0:=keep hBj f0
     have q1:=keep hBj f1
     have HU:=Lib.hid hu
     have HV:=Lib.hid hv
     have hji:(j:Int) < (sp.length:Int):=by omega
     obtain ⟨hR1,hR2,hR3⟩:=HRS.out.1 j hj1
     have hdj:=HDI.out j hj1
     have hlj:=HSU.out j hj
     clear hu hv f0 f1 hjn hcc hR3
     go_wp2_with fail
     refine (Sub_small v u _ (HG.out.below qbl) HV.out hR2 HU.out hR1).mono ?_
     rintro e w2 ⟨m,hm,rfl,hB2⟩
     have HM:=Lib.hid hm
     have hB2':Below w.heap.size w w2:=qbl
     have e0':=keep hB2 (keep (bw4 (bw0 _ _) _) e0)
     have e1':=keep hB2 (keep (bw4 (bw0 _ _) _) e1)
     have e2':=keep hB2 (keep (bw4 (bw0 _ _) _) e2)
     clear hm e0 e1 e2 hB2 q0 q1
     go_wp2_with fail
     refine (Add_small q m _ (HG.out.below hB2') hq.out hlj HM.out hdj).mono ?_
     rintro e w3 ⟨m',hm',rfl,hB3⟩
     have HM':=Lib.hid hm'
     have hB3':=below_trans' hB2' hB3
     have e0:=keep hB3 e0'
     have e1:=keep hB3 e1'
     have e2:=keep hB3 e2'
     clear hm' e0' e1' e2' hB3
     go_wp2_with fail
     go_roundw
     case rel=>exact ⟨j+1,by omega,by go_num,⟨m',rfl,Lib.hid (by rw [HM'.out,lenTo_succ _ _ hj1])⟩,e0,e1,e2,hB3'⟩
     case measure=>simp [intOf];omega
theorem area_n {n:Nat} {L H:Nat→Rat} {S:Nat→List (Rat × Rat)} (b0 o0 cap0:Nat) (w:World) (hG:Glo w) (hn4:n≤64)
  (HCR0:∀ k,k < n→∃ s t v,CrsAt w b0 (o0+k * 3) s t v (L k) (H k) (S k)) (HSM0:∀ k,k < n→CrsSum (L k) (H k) (S k)) (htot0:∀ k,k≤n→Small (totTo L H S k)) :
  Calls Tryz.prog 60 #[.slice (some ⟨b0,o0,none⟩) n cap0] w (RetN (totTo L H S n) w):=by
 have HH:=Lib.hid (sum_area_n b0 o0 cap0 w hG hn4 HCR0 HSM0 htot0)
 generalize totTo L H S n=Q at *
 clear hG HCR0 HSM0 htot0
 go_enter Tryz.func60,Tryz.ntmps60
 go_wp2_with fail
 refine HH.out.mono ?_
 rintro e w1 ⟨r,hr,rfl,hB⟩
 have HR:=Lib.hid hr
 clear hr
 go_wp2_with fail
 go_ret2
 exact ⟨r,HR.out,rfl,hB⟩
end Go.Proofs.YtbbclfbpllbbbaaGreatDoor
namespace Go.Proofs.YtbbclfbpllbbbaaGreatDoor
open Go.RowKit
theorem same04_ok (L:TTexts) (u v:Value) (w:World) (hu:IsTerms w u L) (hv:IsTerms w v L) (hl:L.length≤100000) :
  Calls Tryz.prog 13 #[u,v] w (RetB (.bool true) w):=by
 obtain ⟨a,cap,rfl,hcap,h⟩:=hu
 obtain ⟨a2,cap2,rfl,hcap2,h2⟩:=hv
 have HC:=Lib.hid h
 have HD:=Lib.hid h2
 clear h h2
 go_enter Tryz.func13,Tryz.ntmps13
 go_wp2_with fail
 go_loopw [5] (fun i wr=>∃ k:Nat,k≤L.length∧i=.int .i64 k∧Below w.heap.size w wr) (fun i _=>L.length - (intOf i).toNat)
 case atStart=>exact ⟨0,by omega,rfl,bw0 _ _⟩
 case round =>
  obtain ⟨k,hk,rfl,hB⟩:=hrel
  by_cases hlt:k < L.length
  ·obtain ⟨b,off,rfl,hc⟩:=HC.out (fun h=>by rw [h] at hlt;simp at hlt)
   obtain ⟨b2,off2,rfl,hd⟩:=HD.out (fun h=>by rw [h] at hlt;simp at hlt)
   obtain ⟨d0,d1⟩:=(hc k hlt).below (w':=wr) hB
   obtain ⟨e0,e1⟩:=(hd k hlt).below (w':=wr) hB
   have hltI:(k:Int) < (L.length:Int):=by omega
   have hk1:IntKind.i64.wrap ((k:Int)+1)=((k+1:Nat):Int):=IntWalk.i64_in _ (by omega)
   clear hc hd
   generalize (tt L k).1=x at *
   generalize (tt L k).2=y at *
   go_wp2_with fail
   go_quiet (fail)
   go_wp2_with fail
   go_roundw
   case rel=>exact ⟨k+1,by omega,by go_num,qbl⟩
   case measure=>simp [intOf];omega
  ·have e:k=L.length:=by omega
   subst e
   go_wp2_with fail
   go_ret
   exact ⟨rfl,hB⟩
end Go.Proofs.YtbbclfbpllbbbaaGreatDoor
namespace Go.Proofs.YtbbclfbpllbbbaaGreatDoor
open Go.RowKit Go.Shelf
def t3000:ByteArray:=⟨#[51,48,48,48]⟩
theorem ex_list:oneL 3000 1=[(t3000,⟨#[49]⟩)]:=by
 unfold oneL
 rw [if_neg (by decide +kernel),show numS 3000=t3000 from (numS_of (by decide +kernel)).symm,show decS 1=⟨#[49]⟩ by decide +kernel]
theorem ex_list2:oneL 305 1=[(⟨#[51,48,53]⟩,⟨#[49]⟩)]:=by
 unfold oneL
 rw [if_neg (by decide +kernel),show numS 305=⟨#[51,48,53]⟩ from (numS_of (by decide +kernel)).symm,show decS 1=⟨#[49]⟩ by decide +kernel]
theorem tile_ok (w:World):Calls Tryz.prog 59 #[] w (RetB (.agg #[.int .i64 250,.int .i64 400,.int .i64 80,.int .i64 50]) w):=by
 go_enter Tryz.func59,Tryz.ntmps59
 go_wp2_with fail
 refine bodyPost_ret (v:=.agg #[.int .i64 250,.int .i64 400,.int .i64 80,.int .i64 50]) (by simp [results,Tryz.results59,go_sem]) rfl ?_
 exact ⟨rfl,qbl⟩
def exLo:Nat→Rat:=fun k=>if k=0 then 0 else 3
def exHi:Nat→Rat:=fun k=>if k=0 then 3 else 4
def exSp:Nat→List (Rat × Rat):=fun k=>if k=0 then [(1,5)] else [(2,3),(7 / 2,4)]
theorem ex_tot:totTo exLo exHi exSp 2=27 / 2:=by decide +kernel
theorem ex_small:∀ k,k≤2→Small (totTo exLo exHi exSp k):=by
 intro k hk
 have:k=0∨k=1∨k=2:=by omega
 rcases this with rfl|rfl|rfl<;>unfold Small<;>decide +kernel
theorem ex_sum:∀ k,k < 2→CrsSum (exLo k) (exHi k) (exSp k):=by
 intro k hk
 have:k=0∨k=1:=by omega
 rcases this with rfl|rfl
 ·refine ⟨fun j hj=>?_,fun j hj=>?_,by unfold Small;decide +kernel,by unfold Small;decide +kernel⟩
  ·have hj':j≤1:=hj
   have:j=0∨j=1:=by omega
   rcases this with rfl|rfl<;>unfold Small<;>decide +kernel
  ·have hj':j < 1:=hj
   obtain rfl:j=0:=by omega
   show Small ((5:Rat) - 1)
   unfold Small;decide +kernel
 ·refine ⟨fun j hj=>?_,fun j hj=>?_,by unfold Small;decide +kernel,by unfold Small;decide +kernel⟩
  ·have hj':j≤2:=hj
   have:j=0∨j=1∨j=2:=by omega
   rcases this with rfl|rfl|rfl<;>unfold Small<;>decide +kernel
  ·have hj':j < 2:=hj
   have:j=0∨j=1:=by omega
   rcases this with rfl|rfl
   ·show Small ((3:Rat) - 2)
    unfold Small;decide +kernel
   ·show Small ((4:Rat) - 7 / 2)
    unfold Small;decide +kernel
theorem ex_spans1 {w:World} {b:Nat} {t:TypeId} (h:BoxT2 t w b (.string ⟨#[49]⟩) (.string ⟨#[53]⟩)):IsSpans w (.slice (some ⟨b,0,none⟩) 1 1) [(1,5)] :=
 ⟨some ⟨b,0,none⟩,1,rfl,Nat.le_refl _,fun _=>⟨b,0,rfl,h.lt,fun k hk=>by
  obtain rfl:k=0:=by simpa using hk
  exact ⟨_,_,h.c0,h.c1,by show _=ratText 1;decide +kernel,by show _=ratText 5;decide +kernel⟩⟩⟩
def BoxQ4 (t:TypeId) (W:World) (b:Nat) (x y z u:Value):Prop:=W.heap[b]?=some (.cells #[x,y,z,u] t (0,0))
theorem BoxQ4.below {t:TypeId} {w w':World} {b:Nat} {x y z u:Value} (h:BoxQ4 t w b x y z u) (hB:Below w.heap.size w w'):BoxQ4 t w' b x y z u:=(hB.block b (Array.getElem?_eq_some_iff.1 h).1).trans h
theorem BoxQ4.new {t:TypeId} {X:World} {n:Nat} {x y z u:Value} (h:X.heap.size=n):BoxQ4 t (X.alloc (.cells #[x,y,z,u] t)) n x y z u:=by subst h;exact World.alloc_heap_new _ _
def BoxQ6 (t:TypeId) (W:World) (b:Nat) (x y z u p q:Value):Prop:=W.heap[b]?=some (.cells #[x,y,z,u,p,q] t (0,0))
theorem BoxQ6.below {t:TypeId} {w w':World} {b:Nat} {x y z u p q:Value} (h:BoxQ6 t w b x y z u p q) (hB:Below w.heap.size w w'):BoxQ6 t w' b x y z u p q:=(hB.block b (Array.getElem?_eq_some_iff.1 h).1).trans h
theorem BoxQ6.new {t:TypeId} {X:World} {n:Nat} {x y z u p q:Value} (h:X.heap.size=n):BoxQ6 t (X.alloc (.cells #[x,y,z,u,p,q] t)) n x y z u p q:=by subst h;exact World.alloc_heap_new _ _
theorem ex_spans2 {w:World} {b:Nat} {t:TypeId} (h:BoxQ4 t w b (.string ⟨#[50]⟩) (.string ⟨#[51]⟩) (.string ⟨#[55,47,50]⟩) (.string ⟨#[52]⟩)):IsSpans w (.slice (some ⟨b,0,none⟩) 2 2) [(2,3),(7 / 2,4)] :=
 ⟨some ⟨b,0,none⟩,2,rfl,Nat.le_refl _,fun _=>⟨b,0,rfl,(Array.getElem?_eq_some_iff.1 h).1,fun k hk=>by
  have hk':k < 2:=hk
  have:k=0∨k=1:=by omega
  rcases this with rfl|rfl
  ·exact ⟨⟨#[50]⟩,⟨#[51]⟩,by simp [World.cell?,show w.heap[b]?=_ from h],by simp [World.cell?,show w.heap[b]?=_ from h],by show _=ratText 2;decide +kernel,by show _=ratText 3;decide +kernel⟩
  ·exact ⟨⟨#[55,47,50]⟩,⟨#[52]⟩,by simp [World.cell?,show w.heap[b]?=_ from h],by simp [World.cell?,show w.heap[b]?=_ from h],by show _=ratText (7 / 2);decide +kernel,by show _=ratText 4;decide +kernel⟩⟩⟩
theorem ex_right1:RightSpans [((1:Rat),5)]:=by
 refine ⟨fun k hk=>?_,fun k hk=>?_⟩
 ·obtain rfl:k=0:=by simpa using hk
  exact ⟨by show Small 1;unfold Small;decide +kernel,by show Small 5;unfold Small;decide +kernel,by show (1:Rat) < 5;decide +kernel⟩
 ·simp at hk
theorem ex_right2:RightSpans [((2:Rat),3),(7 / 2,4)]:=by
 refine ⟨fun k hk=>?_,fun k hk=>?_⟩
 ·have hk':k < 2:=hk
  have:k=0∨k=1:=by omega
  rcases this with rfl|rfl
  ·exact ⟨by show Small 2;unfold Small;decide +kernel,by show Small 3;unfold Small;decide +kernel,by show (2:Rat) < 3;decide +kernel⟩
  ·exact ⟨by show Small (7 / 2);unfold Small;decide +kernel,by show Small 4;unfold Small;decide +kernel,by show (7 / 2:Rat) < 4;decide +kernel⟩
 ·have hk':k+1 < 2:=hk
  obtain rfl:k=0:=by omega
  show (3:Rat) < 7 / 2
  decide +kernel
theorem ex_courses {w:World} {b b1 b2:Nat} {t t1 t2:TypeId} (h:BoxQ6 t w b (.string ⟨#[48]⟩) (.string ⟨#[51]⟩) (.slice (some ⟨b1,0,none⟩) 1 1) (.string ⟨#[51]⟩) (.string ⟨#[52]⟩) (.slice (some ⟨b2,0,none⟩) 2 2))
  (h1:BoxT2 t1 w b1 (.string ⟨#[49]⟩) (.string ⟨#[53]⟩)) (h2:BoxQ4 t2 w b2 (.string ⟨#[50]⟩) (.string ⟨#[51]⟩) (.string ⟨#[55,47,50]⟩) (.string ⟨#[52]⟩)) :
  ∀ k,k < 2→∃ s t v,CrsAt w b (0+k * 3) s t v (exLo k) (exHi k) (exSp k):=by
 intro k hk
 have:k=0∨k=1:=by omega
 rcases this with rfl|rfl
 ·exact ⟨⟨#[48]⟩,⟨#[51]⟩,_,by simp [World.cell?,show w.heap[b]?=_ from h],by simp [World.cell?,show w.heap[b]?=_ from h],by simp [World.cell?,show w.heap[b]?=_ from h],by show _=ratText 0;decide +kernel,by show _=ratText 3;decide +kernel,by show Small 0;unfold Small;decide +kernel,by show Small 3;unfold Small;decide +kernel,by show (0:Rat) < 3;decide +kernel,ex_spans1 h1,ex_right1,by decide⟩
 ·exact ⟨⟨#[51]⟩,⟨#[52]⟩,_,by simp [World.cell?,show w.heap[b]?=_ from h],by simp [World.cell?,show w.heap[b]?=_ from h],by simp [World.cell?,show w.heap[b]?=_ from h],by show _=ratText 3;decide +kernel,by show _=ratText 4;decide +kernel,by show Small 3;unfold Small;decide +kernel,by show Small 4;unfold Small;decide +kernel,by show (3:Rat) < 4;decide +kernel,ex_spans2 h2,ex_right2,by decide⟩
theorem awake47_ok (w:World) (hW:Wor w):Calls Tryz.prog 21 #[] w (RetB (.bool true) w):=by
 have H1:=Lib.hid (fun W=>tile_ok W)
 have H2:=Lib.hid (fun (v:Value) W (hB:Below w.heap.size w W) (hv:IsTerms W v [(t3000,⟨#[49]⟩)])=>(by
  have h:=Gauge_ok [(t3000,⟨#[49]⟩)] 250 400 80 50 v W (hW.below hB) hv (fun k hk=>by
   obtain rfl:k=0:=by simpa using hk
   exact ⟨by decide,by decide⟩) (fun _=>by decide)
  refine h.mono fun e w' h=>?_
  obtain ⟨u,n,c,L',he,hu,_,_,hd,hB⟩:=h
  obtain ⟨rfl,rfl,rfl⟩:=hd.out ⟨ex_list.symm,rfl,rfl,rfl,rfl⟩
  rw [ex_list2] at hu
  exact ⟨u,he,hu,hB⟩:Calls Tryz.prog 22 #[.agg #[.int .i64 250,.int .i64 400,.int .i64 80,.int .i64 50],v] W (fun e w'=>∃ u,e=.returned (.tuple #[u,.int .i64 10,.int .i64 0])∧IsTerms w' u [(⟨#[51,48,53]⟩,⟨#[49]⟩)]∧Below W.heap.size W w')))
 have H3:=Lib.hid (fun b W (hB:Below w.heap.size w W) hc=>(by have h:=area_n (n:=2) (L:=exLo) (H:=exHi) (S:=exSp) b 0 2 W (hW.glo.below hB) (by decide) hc ex_sum ex_small;rw [ex_tot] at h;exact h.mono fun e w' h=>h.bb:Calls Tryz.prog 60 #[.slice (some ⟨b,0,none⟩) 2 2] W (RetB (.tuple #[.string (numS (27 / 2)),.int .i64 0]) W)))
 rw [show numS (27 / 2)=⟨#[50,55,47,50]⟩ from (numS_of (by decide +kernel)).symm] at H3
 have H4:=Lib.hid (fun (u v:Value) W (hu:IsTerms W u [(⟨#[51,48,53]⟩,⟨#[49]⟩)]) (hv:IsTerms W v [(⟨#[51,48,53]⟩,⟨#[49]⟩)])=>same04_ok _ u v W hu hv (by decide))
 clear hW
 go_enter Tryz.func21,Tryz.ntmps21
 go_wp2_with fail
 refine (H1.out _).mono ?_
 rintro e w1 ⟨rfl,hB1⟩
 go_wp2_with fail
 have hb2:Below w.heap.size w (w1.alloc (.cells #[.string t3000,.string ⟨#[49]⟩] 70)):=bw4 hB1 _
 have hx2:IsTerms (w1.alloc (.cells #[.string t3000,.string ⟨#[49]⟩] 70)) (.slice (some ⟨w1.heap.size,0,none⟩) 1 1) [(t3000,⟨#[49]⟩)]:=isTerms_box (t:=70) (BoxT2.new rfl)
 refine (H2.out _ _ hb2 hx2).mono ?_
 rintro e w3 ⟨u,rfl,hu,hB3⟩
 have hb3:=below_trans' hb2 hB3
 have HU:=Lib.hid hu
 obtain ⟨ua,uc,rfl,_⟩:=hu
 clear hB3 hb2 hx2 H1 H2 hB1
 go_wp2_with fail
 have hC1:Below w3.heap.size w3 (w3.alloc (.cells #[.string ⟨#[49]⟩,.string ⟨#[53]⟩] 116)):=bw4 (bw0 _ _) _
 have x1:BoxT2 116 (w3.alloc (.cells #[.string ⟨#[49]⟩,.string ⟨#[53]⟩] 116)) w3.heap.size (.string ⟨#[49]⟩) (.string ⟨#[53]⟩):=BoxT2.new rfl
 have hC2:Below (w3.alloc (.cells #[.string ⟨#[49]⟩,.string ⟨#[53]⟩] 116)).heap.size (w3.alloc (.cells #[.string ⟨#[49]⟩,.string ⟨#[53]⟩] 116)) ((w3.alloc (.cells #[.string ⟨#[49]⟩,.string ⟨#[53]⟩] 116)).alloc (.cells #[.string ⟨#[50]⟩,.string ⟨#[51]⟩,.string ⟨#[55,47,50]⟩,.string ⟨#[52]⟩] 116)):=bw4 (bw0 _ _) _
 have x2:BoxQ4 116 ((w3.alloc (.cells #[.string ⟨#[49]⟩,.string ⟨#[53]⟩] 116)).alloc (.cells #[.string ⟨#[50]⟩,.string ⟨#[51]⟩,.string ⟨#[55,47,50]⟩,.string ⟨#[52]⟩] 116)) (w3.heap.size+1) (.string ⟨#[50]⟩) (.string ⟨#[51]⟩) (.string ⟨#[55,47,50]⟩) (.string ⟨#[52]⟩):=BoxQ4.new (by simp)
 have hC3:Below ((w3.alloc (.cells #[.string ⟨#[49]⟩,.string ⟨#[53]⟩] 116)).alloc (.cells #[.string ⟨#[50]⟩,.string ⟨#[51]⟩,.string ⟨#[55,47,50]⟩,.string ⟨#[52]⟩] 116)).heap.size ((w3.alloc (.cells #[.string ⟨#[49]⟩,.string ⟨#[53]⟩] 116)).alloc (.cells #[.string ⟨#[50]⟩,.string ⟨#[51]⟩,.string ⟨#[55,47,50]⟩,.string ⟨#[52]⟩] 116)) (((w3.alloc (.cells #[.string ⟨#[49]⟩,.string ⟨#[53]⟩] 116)).alloc (.cells #[.string ⟨#[50]⟩,.string ⟨#[51]⟩,.string ⟨#[55,47,50]⟩,.string ⟨#[52]⟩] 116)).alloc (.cells #[.string ⟨#[48]⟩,.string ⟨#[51]⟩,.slice (some ⟨w3.heap.size,0,none⟩) 1 1,.string ⟨#[51]⟩,.string ⟨#[52]⟩,.slice (some ⟨w3.heap.size+1,0,none⟩) 2 2] 119)):=bw4 (bw0 _ _) _
 have x3:BoxQ6 119 (((w3.alloc (.cells #[.string ⟨#[49]⟩,.string ⟨#[53]⟩] 116)).alloc (.cells #[.string ⟨#[50]⟩,.string ⟨#[51]⟩,.string ⟨#[55,47,50]⟩,.string ⟨#[52]⟩] 116)).alloc (.cells #[.string ⟨#[48]⟩,.string ⟨#[51]⟩,.slice (some ⟨w3.heap.size,0,none⟩) 1 1,.string ⟨#[51]⟩,.string ⟨#[52]⟩,.slice (some ⟨w3.heap.size+1,0,none⟩) 2 2] 119)) (w3.heap.size+2) (.string ⟨#[48]⟩) (.string ⟨#[51]⟩) (.slice (some ⟨w3.heap.size,0,none⟩) 1 1) (.string ⟨#[51]⟩) (.string ⟨#[52]⟩) (.slice (some ⟨w3.heap.size+1,0,none⟩) 2 2):=BoxQ6.new (by simp)
 replace x1:=(x1.below hC2).below hC3
 replace x2:=x2.below hC3
 have hb4:=below_trans' (below_trans' (below_trans' hb3 hC1) hC2) hC3
 replace HU:=Lib.hid (((HU.out.below hC1).below hC2).below hC3)
 clear hC1 hC2 hC3 hb3
 generalize ((w3.alloc (.cells #[.string ⟨#[49]⟩,.string ⟨#[53]⟩] 116)).alloc (.cells #[.string ⟨#[50]⟩,.string ⟨#[51]⟩,.string ⟨#[55,47,50]⟩,.string ⟨#[52]⟩] 116)).alloc (.cells #[.string ⟨#[48]⟩,.string ⟨#[51]⟩,.slice (some ⟨w3.heap.size,0,none⟩) 1 1,.string ⟨#[51]⟩,.string ⟨#[52]⟩,.slice (some ⟨w3.heap.size+1,0,none⟩) 2 2] 119)=w4 at *
 have HCC:=ex_courses x3 x1 x2
 refine (H3.out _ _ hb4 HCC).mono ?_
 rintro e w5 ⟨rfl,hB5⟩
 have hb5:=below_trans' hb4 hB5
 replace HU:=Lib.hid (HU.out.below hB5)
 clear hB5 H3 x1 x2 x3 HCC hb4
 go_wp2_with fail
 have hC6:Below w5.heap.size w5 (w5.alloc (.cells #[.string ⟨#[51,48,53]⟩,.string ⟨#[49]⟩] 70)):=bw4 (bw0 _ _) _
 have hx6:IsTerms (w5.alloc (.cells #[.string ⟨#[51,48,53]⟩,.string ⟨#[49]⟩] 70)) (.slice (some ⟨w5.heap.size,0,none⟩) 1 1) [(⟨#[51,48,53]⟩,⟨#[49]⟩)]:=isTerms_box (t:=70) (BoxT2.new rfl)
 have hb6:=below_trans' hb5 hC6
 refine (H4.out _ _ _ (HU.out.below hC6) hx6).mono ?_
 rintro e w7 ⟨rfl,hB7⟩
 have hb7:=below_trans' hb6 hB7
 clear hB7 hb6 hb5 hC6 hx6
 go_wp2_with fail
 go_ret
 exact ⟨rfl,hb7⟩
end Go.Proofs.YtbbclfbpllbbbaaGreatDoor
namespace Go.Proofs.YtbbclfbpllbbbaaGreatDoor
open Go.RowKit
theorem termNeq (c r c0 r0:ByteArray) (W:World):(Go.binOp .neq 70 (.agg #[.string c,.string r]) (.agg #[.string c0,.string r0])).run Tryz.prog W=.ok (.bool (!((c.toList == c0.toList) && (r.toList == r0.toList)))) W:=by
 have hu:=Tryz.underlying70
 have hn:=Tryz.underlying34
 cases h1:(c.toList == c0.toList)<;>cases h2:(r.toList == r0.toList)<;>simp [go_sem,hu,hn,h1,h2]
def Few (L:TTexts) (k:Nat):Prop:=(tt L k).1.size≤40∧(tt L k).2.size≤24∧(4 < L.length→tt L k=tt L 0)
def RetGr (L:TTexts) (w:World) (e:Ending) (w':World):Prop:=∃ g:Bool,e=.returned (.bool g)∧Hid (g=false→L.length≤260∧∀ k,k < L.length→Few L k)∧Below w.heap.size w w'
theorem great04_ok (L:TTexts) (v:Value) (w:World) (hv:IsTerms w v L) (hmax:L.length≤maxLen) :
  Calls Tryz.prog 8 #[v] w (RetGr L w):=by
 obtain ⟨a,cap,rfl,hcap,h⟩:=hv
 have HC:=Lib.hid h
 clear h
 unfold maxLen at hmax
 by_cases hlong:L.length≤260
 ·have hl1:(L.length:Int)≤260:=by omega
  have hl2:¬ (260:Int) < (L.length:Int):=by omega
  go_enter Tryz.func8,Tryz.ntmps8
  go_wp2_with fail
  go_loopw [3] (fun i wr=>∃ k:Nat,k≤L.length∧i=.int .i64 k∧Below w.heap.size w wr∧Hid (∀ j,j < k→Few L j)) (fun i _=>L.length - (intOf i).toNat)
  case atStart=>exact ⟨0,by omega,rfl,bw0 _ _,Lib.hid (fun j h=>by omega)⟩
  case round =>
   obtain ⟨k,hk,rfl,hB,hsz⟩:=hrel
   by_cases hlt:k < L.length
   ·obtain ⟨b,off,rfl,hcell⟩:=HC.out (fun h=>by rw [h] at hlt;simp at hlt)
    obtain ⟨d0,d1⟩:=(hcell k hlt).below (w':=wr) hB
    obtain ⟨e0,e1⟩:=(hcell 0 (by omega)).below (w':=wr) hB
    rw [Nat.zero_mul,Nat.add_zero] at e0 e1
    have hltI:(k:Int) < (L.length:Int):=by omega
    have h0I:(0:Int) < (L.length:Int):=by omega
    have h0N:0 < L.length:=by omega
    have hk1:IntKind.i64.wrap ((k:Int)+1)=((k+1:Nat):Int):=IntWalk.i64_in _ (by omega)
    obtain ⟨c,hcc⟩:∃ c,(tt L k).1=c:=⟨_,rfl⟩
    obtain ⟨r,hrr⟩:∃ r,(tt L k).2=r:=⟨_,rfl⟩
    obtain ⟨c0,hc0⟩:∃ c,(tt L 0).1=c:=⟨_,rfl⟩
    obtain ⟨r0,hr0⟩:∃ r,(tt L 0).2=r:=⟨_,rfl⟩
    rw [hcc] at d0
    rw [hrr] at d1
    rw [hc0] at e0
    rw [hr0] at e1
    have HS2:=Lib.hid (fun (h1:c.size≤40) (h2:r.size≤24) (h3:4 < L.length→(c,r)=(c0,r0))=>(show ∀ j,j < k+1→Few L j from fun j hj=>by
     by_cases h:j < k
     ·exact hsz.out j h
     ·obtain rfl:j=k:=by omega
      refine ⟨by rw [hcc];exact h1,by rw [hrr];exact h2,fun h=>?_⟩
      have e:=h3 h
      exact Prod.ext (hcc.trans ((congrArg Prod.fst e).trans hc0.symm)) (hrr.trans ((congrArg Prod.snd e).trans hr0.symm))))
    clear hcell hcc hrr hc0 hr0 hsz
    by_cases g1:c.size≤40
    ·have g1I:decide ((40:Int) < (c.size:Int))=false:=by simp;omega
     by_cases g2:r.size≤24
     ·have g2I:decide ((24:Int) < (r.size:Int))=false:=by simp;omega
      have HS4:=Lib.hid (HS2.out g1 g2)
      clear HS2 g1 g2
      by_cases g3:4 < L.length
      ·have g3I:decide ((4:Int) < (L.length:Int))=true:=by simp;omega
       have hTN:=fun W=>termNeq c r c0 r0 W
       obtain ⟨p,hp⟩:∃ p,(!((c.toList == c0.toList) && (r.toList == r0.toList)))=p:=⟨_,rfl⟩
       rw [hp] at hTN
       clear g3
       cases p
       ·have HS3:=Lib.hid (HS4.out (fun _=>by
         have h1:(c.toList == c0.toList)=true∧(r.toList == r0.toList)=true:=by simpa using hp
         have e1:=eq_of_beq h1.1
         have e2:=eq_of_beq h1.2
         rw [Lib.toList_data,Lib.toList_data] at e1 e2
         exact Prod.ext (ByteArray.ext (Array.toList_inj.1 e1)) (ByteArray.ext (Array.toList_inj.1 e2))))
        clear hp
        go_wp2_with fail
        go_quiet (fail)
        go_wp2_with fail
        go_roundw
        case rel=>exact ⟨k+1,by omega,by go_num,bw2 hB _,HS3⟩
        case measure=>simp [intOf];omega
       ·clear hp
        go_wp2_with fail
        go_quiet (fail)
        go_wp2_with fail
        go_ret
        exact ⟨true,rfl,Lib.hid (fun h=>by cases h),bw2 hB _⟩
      ·have g3I:decide ((4:Int) < (L.length:Int))=false:=by simp;omega
       have HS3:=Lib.hid (HS4.out (fun h=>absurd h g3))
       clear g3
       go_wp2_with fail
       go_quiet (fail)
       go_wp2_with fail
       go_roundw
       case rel=>exact ⟨k+1,by omega,by go_num,bw2 hB _,HS3⟩
       case measure=>simp [intOf];omega
     ·have g2I:decide ((24:Int) < (r.size:Int))=true:=by simp;omega
      clear HS2 g1 g2
      go_wp2_with fail
      go_quiet (fail)
      go_wp2_with fail
      go_ret
      exact ⟨true,rfl,Lib.hid (fun h=>by cases h),bw2 hB _⟩
    ·have g1I:decide ((40:Int) < (c.size:Int))=true:=by simp;omega
     clear HS2 g1
     go_wp2_with fail
     go_quiet (fail)
     go_wp2_with fail
     go_ret
     exact ⟨true,rfl,Lib.hid (fun h=>by cases h),bw2 hB _⟩
   ·have e:k=L.length:=by omega
    subst e
    have HF:=Lib.hid (show L.length≤260∧∀ k,k < L.length→Few L k from ⟨hlong,hsz.out⟩)
    clear hsz
    go_wp2_with fail
    go_ret
    exact ⟨false,by simp;omega,Lib.hid (fun _=>HF.out),hB⟩
 ·have hl1:¬ (L.length:Int)≤260:=by omega
  have hl2:(260:Int) < (L.length:Int):=by omega
  have hl3:(0:Int) < (L.length:Int):=by omega
  go_enter Tryz.func8,Tryz.ntmps8
  go_wp2_with fail
  go_loopw [3] (fun i wr=>i=.int .i64 0∧wr=w) (fun _ _=>0)
  case atStart=>exact ⟨rfl,rfl⟩
  case round =>
   obtain ⟨rfl,hwr⟩:=hrel
   subst wr
   go_wp2_with fail
   go_ret
   exact ⟨true,rfl,Lib.hid (fun h=>by cases h),qbl⟩
end Go.Proofs.YtbbclfbpllbbbaaGreatDoor
namespace Go.Proofs.YtbbclfbpllbbbaaGreatDoor
open Go.RowKit Go.Shelf
theorem number47_ok (n:Int) (w:World) (hG:Glo w) (hP:Pri w) (h0 : -1000000000000≤n) (h1:n≤1000000000000) :
  Calls Tryz.prog 25 #[.int .i64 n] w (fun e w'=>∃ u,e=.returned u∧IsTerms w' u (oneL (n:Rat) 1)∧Below w.heap.size w w'):=by
 have H:=Lib.hid ((OfI_ok n 1 w hG (by omega) (by omega) (by decide) (by decide)).mono fun e w' h=>h.bb)
 rw [divInt_one] at H
 have hz:Sz 60 (n:Rat):=sz_int (by omega) (by decide)
 have H2:=Lib.hid (fun (x:Value) W (hB:Below w.heap.size w W) (hx:IsTerms W x [(numS (n:Rat),⟨#[49]⟩)])=>MakeN_ok (n:Rat) (numS (n:Rat)) x W (hG.below hB) (hP.below hB) (numS_list _) hz hx)
 generalize numS (n:Rat)=s at *
 generalize oneL (n:Rat) 1=L at *
 clear hG hP hz
 go_enter Tryz.func25,Tryz.ntmps25
 go_wp2_with fail
 refine H.out.mono ?_
 rintro e w1 ⟨rfl,hB1⟩
 go_wp2_with fail
 have hb2:Below w.heap.size w (w1.alloc (.cells #[.string s,.string ⟨#[49]⟩] 70)):=bw4 hB1 _
 have hx2:IsTerms (w1.alloc (.cells #[.string s,.string ⟨#[49]⟩] 70)) (.slice (some ⟨w1.heap.size,0,none⟩) 1 1) [(s,⟨#[49]⟩)]:=isTerms_box (t:=70) (BoxT2.new rfl)
 refine (H2.out _ _ hb2 hx2).mono ?_
 rintro e w3 ⟨u,rfl,hu,hB3⟩
 have hb3:=below_trans' hb2 hB3
 have HU:=Lib.hid hu
 obtain ⟨ua,uc,rfl,_⟩:=hu
 clear hB3 hb2
 go_wp2_with fail
 go_ret
 exact ⟨_,rfl,HU.out,hb3⟩
theorem few_len {L:TTexts} (h:∀ k,k < L.length→Few L k) (hS:SurdOk L):L.length≤4:=by
 refine Nat.not_lt.1 fun h4=>?_
 obtain ⟨T,hT⟩:=hS
 have e:=(h 1 (by omega)).2.2 h4
 have a:=(hT.ok 1 (by omega)).r
 have b:=(hT.ok 0 (by omega)).r
 rw [e] at a
 have h2:=dec_inj (a.symm.trans b)
 have h3:=hT.asc 0 (by omega)
 simp only [Nat.zero_add] at h3
 omega
theorem few_sz {L:TTexts} (h:∀ k,k < L.length→Few L k):∀ k,k < L.length→(tt L k).1.size≤1000∧(tt L k).2.size≤1000:=fun k hk=>⟨Nat.le_trans (h k hk).1 (by decide),Nat.le_trans (h k hk).2.1 (by decide)⟩
end Go.Proofs.YtbbclfbpllbbbaaGreatDoor
/- Plain: rounding up, gauges and courses. -/
namespace Go.Proofs.YtbbclfbpllbbbaaGreatDoor
open Go
/-- a value: not negative -/
def NonF (f:Nat→Rat):Prop:=∃ C:Rat,0≤C∧∀ P,-(C * uP P)≤f P
theorem PosF.non {f:Nat→Rat} (h:PosF f):NonF f:=by
  obtain ⟨e,C,e0,c0,hC⟩:=h
  exact ⟨C,c0,fun P=>by have:=hC P;grind⟩
theorem Near0.non {f:Nat→Rat} (h:Near0 f):NonF f:=by
  obtain ⟨C,c0,hC⟩:=h
  exact ⟨C,c0,fun P=>(hC P).1⟩
theorem NonF.const {f:Nat→Rat} {c:Rat} (hc:0≤c) (e:∀ P,f P=c):NonF f:=⟨0,Rat.le_refl,fun P=>by rw [e P];grind⟩
theorem NonF.add {f g h:Nat→Rat} (hf:NonF f) (hg:NonF g) (e:∀ P,h P=f P+g P):NonF h:=by
  obtain ⟨C,c0,hC⟩:=hf
  obtain ⟨D,d0,hD⟩:=hg
  exact ⟨C+D,by grind,fun P=>by have:=hC P;have:=hD P;rw [e P];grind⟩
theorem NonF.mul {f h:Nat→Rat} {k:Rat} (hf:NonF f) (hk:0≤k) (e:∀ P,h P=k * f P):NonF h:=by
  obtain ⟨C,c0,hC⟩:=hf
  refine ⟨k * C,Rat.mul_nonneg hk c0,fun P=>?_⟩
  have:=Rat.mul_le_mul_of_nonneg_left (hC P) hk
  rw [e P]
  grind
theorem PosF.addN {f g h:Nat→Rat} (hf:PosF f) (hg:NonF g) (e:∀ P,h P=f P+g P):PosF h:=by
  obtain ⟨a,C,a0,c0,hC⟩:=hf
  obtain ⟨D,d0,hD⟩:=hg
  exact ⟨a,C+D,a0,by grind,fun P=>by have:=hC P;have:=hD P;rw [e P];grind⟩
theorem CeilZ.lower {f:Nat→Rat} {z:Int} (h:CeilZ f z):PosF (fun P=>f P - ((z - 1:Int):Rat)):=by
  rcases h with h|⟨_,h⟩
  · refine (PosF.const (f:=fun _=>1) (c:=1) (by decide) fun _=>rfl).near h fun P=>?_
    rw [Rat.intCast_sub]
    show _=1+(f P - (z:Rat))
    have e:((1:Int):Rat)=1:=rfl
    rw [e];grind
  · exact h
theorem CeilZ.upper {f:Nat→Rat} {z:Int} (h:CeilZ f z):NonF (fun P=>(z:Rat) - f P):=by
  rcases h with h|⟨h,_⟩
  · exact (h.mul (k:=-1) (h:=fun P=>(z:Rat) - f P) fun P=>by grind).non
  · exact h.non
theorem inv_pos' {u:Int} (h:1≤u):(0:Rat) < 1 / (u:Rat)∧(1 / (u:Rat)) * (u:Rat)=1∧(0:Rat) < (u:Rat):=by
  have h1:((0:Int):Rat) < (u:Rat):=Rat.intCast_lt_intCast.2 (by omega)
  have h1':(0:Rat) < (u:Rat):=h1
  refine ⟨by rw [Rat.div_def,Rat.one_mul];exact Rat.inv_pos.2 h1',?_,h1'⟩
  exact Rat.div_mul_cancel (fun h=>by rw [h] at h1';exact Rat.lt_irrefl h1')
theorem int_nn {t:Int} (h:0≤t):(0:Rat)≤(t:Rat):=by
  have:((0:Int):Rat)≤(t:Rat):=Rat.intCast_le_intCast.2 h
  exact this
theorem int_le {a b:Int} (h:a≤b):(a:Rat)≤(b:Rat):=Rat.intCast_le_intCast.2 h
/-- longer tiles, or less lap or tail, do not need more courses -/
theorem longer_le {v:Nat→Rat} {u u' t t' n m:Int} (hv:PosF v) (hu:1≤u) (huu:u≤u') (ht:0≤t') (htt:t'≤t)
    (h1:CeilZ (fun P=>(1 / (u:Rat)) * (v P+(t:Rat))) n) (h2:CeilZ (fun P=>(1 / (u':Rat)) * (v P+(t':Rat))) m):m≤n:=by
  refine Int.not_lt.1 fun hmn=>?_
  obtain ⟨a1,a2,a3⟩:=inv_pos' hu
  obtain ⟨b1,b2,b3⟩:=inv_pos' (show 1≤u' by omega)
  have ht1:=int_nn ht
  have ht2:=int_le htt
  have hu2:=int_le huu
  have hinv:1 / (u':Rat)≤1 / (u:Rat):=by
    refine Rat.not_lt.1 fun h=>?_
    have k1:=Rat.mul_lt_mul_of_pos_left h a3
    have k2:=Rat.mul_le_mul_of_nonneg_left hu2 (Rat.le_of_lt b1)
    grind
  have lo:=h2.lower
  have up:=h1.upper
  generalize 1 / (u:Rat)=x at *
  generalize 1 / (u':Rat)=y at *
  have hd:NonF (fun P=>(x - y) * v P):=hv.non.mul (by grind) fun P=>rfl
  have hc:(0:Rat)≤x * (t:Rat) - y * (t':Rat):=by
    have k1:=Rat.mul_le_mul_of_nonneg_left ht2 (Rat.le_of_lt a1)
    have k2:=Rat.mul_le_mul_of_nonneg_right hinv ht1
    grind
  have hcf:NonF (fun _=>x * (t:Rat) - y * (t':Rat)):=NonF.const hc fun _=>rfl
  have key:PosF (fun _=>(n:Rat) - ((m - 1:Int):Rat)):=(lo.addN ((hd.add hcf fun P=>rfl).add up fun P=>rfl)) fun P=>by grind
  have k:=pos_const key
  have:=Rat.intCast_lt_intCast.1 k
  omega
theorem surd_uniq {L:TTexts} {T S:Terms} (h:SurdIs L T) (k:SurdIs L S):T=S:=by
  refine List.ext_getElem (h.same.trans k.same.symm) fun i h1 h2=>?_
  have hi:i < L.length:=by rw [← h.same];exact h1
  have a:=h.ok i hi
  have b:=k.ok i hi
  have e1:=ratText_injP (a.c.symm.trans b.c)
  have e2:=dec_inj (a.r.symm.trans b.r)
  rw [tq_get h1,tq_get h2] at e1 e2
  exact Prod.ext e1 e2
theorem GaugeIs.longer {L L1 L2:TTexts} {ln lp tl n ln' lp' tl' m:Int} {T TG T' TG':Terms} (h1:GaugeIs L L1 ln lp tl n T TG) (h2:GaugeIs L L2 ln' lp' tl' m T' TG') (k1:lp≤ln - 1) (k2:ln - lp≤ln' - lp') (k3:0≤tl') (k4:tl'≤tl):m≤n:=by
  have e:=surd_uniq h2.surd h1.surd
  have c2:=h2.ceil
  rw [e] at c2
  exact longer_le h1.pos (by omega) k2 k3 k4 h1.ceil c2
/-- the signs of the law -/
theorem gauge_same {v g a w:Nat→Rat} {n:Int} (hn:1≤n) (hg:Near0 (fun P=>g P - (1 / (n:Rat)) * v P)) (ha:Near0 (fun P=>a P - (n:Rat) * g P)) (hw:Near0 (fun P=>w P - v P)) {s:Int} (hs:SgnIs (fun P=>a P - w P) s):s=0:=by
  obtain ⟨_,b2,_⟩:=inv_pos' hn
  refine hs.of_near (((ha.add (hg.mul (k:=(n:Rat)) fun P=>rfl) fun P=>rfl).add (hw.mul (k:=-1) fun P=>rfl)) fun P=>?_)
  generalize 1 / (n:Rat)=x at *
  generalize (n:Rat)=y at *
  have:y * (x * v P)=v P:=by
    have:y * (x * v P)=(x * y) * v P:=by grind
    rw [this,b2];grind
  grind
theorem gauge_high {v g:Nat→Rat} {u n:Int} (hu:1≤u) (hn:1≤n) (hc:CeilZ (fun P=>(1 / (u:Rat)) * v P) n) (hg:Near0 (fun P=>g P - (1 / (n:Rat)) * v P)) {s:Int} (hs:SgnIs (fun P=>g P - (u:Rat)) s):s≤0:=by
  obtain ⟨a1,a2,a3⟩:=inv_pos' hu
  obtain ⟨b1,b2,b3⟩:=inv_pos' hn
  rcases hs with ⟨_,h⟩|⟨h,_⟩|⟨h,_⟩
  · exfalso
    have up:=hc.upper.mul (k:=(1 / (n:Rat)) * (u:Rat)) (Rat.le_of_lt (Rat.mul_pos b1 a3)) (h:=fun P=>(u:Rat) - (1 / (n:Rat)) * v P) (fun P=>by
      generalize 1 / (n:Rat)=x at *
      generalize (n:Rat)=y at *
      generalize 1 / (u:Rat)=p at *
      generalize (u:Rat)=q at *
      have e1:x * q * (y - p * v P)=(x * y) * q - x * ((p * q) * v P):=by grind
      rw [e1,b2,a2];grind)
    have key:PosF (fun _=>(0:Rat)):=(h.addN (up.add (hg.mul (k:=-1) fun P=>rfl).non fun P=>rfl)) fun P=>by grind
    exact not_pos_zero key fun _=>rfl
  · omega
  · omega
theorem gauge_less {v w:Nat→Rat} {u n:Int} (hu:1≤u) (hc:CeilZ (fun P=>(1 / (u:Rat)) * v P) n) (hw:Near0 (fun P=>w P - v P)) {s:Int} (hs:SgnIs (fun P=>(((n - 1) * u:Int):Rat) - w P) s):s=-1:=by
  obtain ⟨a1,a2,a3⟩:=inv_pos' hu
  refine hs.of_neg ?_
  have lo:=hc.lower.mul (k:=(u:Rat)) a3 (h:=fun P=>v P - (((n - 1) * u:Int):Rat)) (fun P=>by
    rw [Rat.intCast_mul]
    generalize ((n - 1:Int):Rat)=y at *
    generalize 1 / (u:Rat)=p at *
    generalize (u:Rat)=q at *
    have e1:q * (p * v P - y)=(p * q) * v P - y * q:=by grind
    rw [e1,a2];grind)
  exact lo.near hw fun P=>by grind
end Go.Proofs.YtbbclfbpllbbbaaGreatDoor
namespace Go.Proofs.YtbbclfbpllbbbaaGreatDoor
open Go.RowKit Go.Shelf
attribute [local go_sem] Oper.semAt_some
theorem BoxQ4.c0 {t:TypeId} {W:World} {b:Nat} {x y z u:Value} (h:BoxQ4 t W b x y z u):W.cell? ⟨b,0,none⟩=some x:=by simp only [World.cell?,show W.heap[b]?=_ from h];rfl
theorem BoxQ4.c1 {t:TypeId} {W:World} {b:Nat} {x y z u:Value} (h:BoxQ4 t W b x y z u):W.cell? ⟨b,1,none⟩=some y:=by simp only [World.cell?,show W.heap[b]?=_ from h];rfl
theorem BoxQ4.c2 {t:TypeId} {W:World} {b:Nat} {x y z u:Value} (h:BoxQ4 t W b x y z u):W.cell? ⟨b,2,none⟩=some z:=by simp only [World.cell?,show W.heap[b]?=_ from h];rfl
theorem BoxQ4.c3 {t:TypeId} {W:World} {b:Nat} {x y z u:Value} (h:BoxQ4 t W b x y z u):W.cell? ⟨b,3,none⟩=some u:=by simp only [World.cell?,show W.heap[b]?=_ from h];rfl
theorem BoxQ4.frz {t:TypeId} {W:World} {b:Nat} {x y z u:Value} (h:BoxQ4 t W b x y z u) (k:Nat):W.frozen? ⟨b,k,none⟩=false:=by simp [World.frozen?,show W.heap[b]?=_ from h]
theorem BoxQ4.set1 {t:TypeId} {W:World} {b:Nat} {x y z u:Value} (h:BoxQ4 t W b x y z u) (v:Value):BoxQ4 t (W.setCell ⟨b,1,none⟩ v) b x v z u:=heap_setCell_at h
theorem BoxQ4.set2 {t:TypeId} {W:World} {b:Nat} {x y z u:Value} (h:BoxQ4 t W b x y z u) (v:Value):BoxQ4 t (W.setCell ⟨b,2,none⟩ v) b x y v u:=heap_setCell_at h
theorem BoxQ4.set3 {t:TypeId} {W:World} {b:Nat} {x y z u:Value} (h:BoxQ4 t W b x y z u) (v:Value):BoxQ4 t (W.setCell ⟨b,3,none⟩ v) b x y z v:=heap_setCell_at h
theorem BoxQ4.other {t:TypeId} {W:World} {b c k:Nat} {x y z u:Value} (h:BoxQ4 t W b x y z u) (hne:b≠c) (v:Value):BoxQ4 t (W.setCell ⟨c,k,none⟩ v) b x y z u:=((sameBut_setCell W c k v).block b hne).trans h
theorem max_zero {P:Program} (x:Int) (ts:Array TypeId) (t:TypeId) (w:World):(Builtin.max_ ts t #[.int .i64 x,.int .i64 0]).run P w=.ok (.int .i64 (if 0 > x then 0 else x)) w:=by simp [Builtin.max_,Builtin.max2]
theorem longerLaw (wd ln lp tl a2 a3 a4:Int) (L:TTexts) (v:Value) (w:World) (hW:Wor w) (hv:IsTerms w v L) (hmx:L.length≤maxLen) (b2:0≤a2∧a2≤255) (b3:0≤a3∧a3≤255) (b4:0≤a4∧a4≤255) :
  Calls Tryz.prog 6 #[.agg #[.int .i64 wd,.int .i64 ln,.int .i64 lp,.int .i64 tl],v,.int .u8 a2,.int .u8 a3,.int .u8 a4] w (RetB (.bool true) w):=by
 have HGR:=Lib.hid (fun W (hB:Below w.heap.size w W)=>great04_ok L v W (hv.below hB) hmx)
 have HAW:=Lib.hid (fun W (hB:Below w.heap.size w W)=>awake47_ok W (hW.below hB))
 have HCK:=Lib.hid (fun (a b c d:Int) W=>tileCheck_ok a b c d W)
 have HGA:=Lib.hid (fun (h:∀ k,k < L.length→Few L k) (a b c d:Int) W (hB:Below w.heap.size w W)=>Gauge_ok L a b c d v W (hW.below hB) (hv.below hB) (few_sz h) (fun hS=>Nat.le_trans (few_len h hS) (by decide)))
 have k2:IntKind.i64.wrap a2=a2:=IntWalk.i64_in _ (by omega)
 have k3:IntKind.i64.wrap a3=a3:=IntWalk.i64_in _ (by omega)
 have k4:IntKind.i64.wrap a4=a4:=IntWalk.i64_in _ (by omega)
 obtain ⟨X1,hX1⟩:∃ X,IntKind.i64.wrap (ln+a2)=X:=⟨_,rfl⟩
 obtain ⟨Y2,hY2⟩:∃ X,IntKind.i64.wrap (lp - a3)=X:=⟨_,rfl⟩
 obtain ⟨Y3,hY3⟩:∃ X,IntKind.i64.wrap (tl - a4)=X:=⟨_,rfl⟩
 obtain ⟨X2,hX2⟩:∃ X,(if 0 > Y2 then 0 else Y2)=X:=⟨_,rfl⟩
 obtain ⟨X3,hX3⟩:∃ X,(if 0 > Y3 then 0 else Y3)=X:=⟨_,rfl⟩
 have HM2:=Lib.hid (fun (ts:Array TypeId) (t:TypeId) (W:World)=>(by have h:=max_zero (P:=Tryz.prog) Y2 ts t W;rw [hX2] at h;exact h:(Builtin.max_ ts t #[.int .i64 Y2,.int .i64 0]).run Tryz.prog W=.ok (.int .i64 X2) W))
 have HM3:=Lib.hid (fun (ts:Array TypeId) (t:TypeId) (W:World)=>(by have h:=max_zero (P:=Tryz.prog) Y3 ts t W;rw [hX3] at h;exact h:(Builtin.max_ ts t #[.int .i64 Y3,.int .i64 0]).run Tryz.prog W=.ok (.int .i64 X3) W))
 have HPL:Hid (TileOk wd ln lp tl→lp≤ln - 1∧ln - lp≤X1 - X2∧0≤X3∧X3≤tl):=Lib.hid (fun ⟨_,⟨_,_⟩,⟨_,_⟩,_,_⟩=>by
  have e1:X1=ln+a2:=by rw [← hX1];exact IntWalk.i64_in _ (by omega)
  have e2:Y2=lp - a3:=by rw [← hY2];exact IntWalk.i64_in _ (by omega)
  have e3:Y3=tl - a4:=by rw [← hY3];exact IntWalk.i64_in _ (by omega)
  have e4:X2≤lp:=by rw [← hX2];split<;>omega
  have e5:0≤X3∧X3≤tl:=by rw [← hX3];split<;>omega
  omega)
 have HX1:=Lib.hid hX1
 have HY2:=Lib.hid hY2
 have HY3:=Lib.hid hY3
 obtain ⟨va,vc,rfl,_⟩:=hv
 clear hW hmx hX1 hY2 hY3 hX2 hX3
 go_enter Tryz.func6,Tryz.ntmps6
 go_wp2_with fail
 have hb0:Below w.heap.size w ((w.alloc (.cells #[.int .i64 wd,.int .i64 ln,.int .i64 lp,.int .i64 tl] 49)).alloc (.cells #[.int .i64 wd,.int .i64 ln,.int .i64 lp,.int .i64 tl] 49)):=qbl
 have x0:BoxQ4 49 ((w.alloc (.cells #[.int .i64 wd,.int .i64 ln,.int .i64 lp,.int .i64 tl] 49)).alloc (.cells #[.int .i64 wd,.int .i64 ln,.int .i64 lp,.int .i64 tl] 49)) w.heap.size (.int .i64 wd) (.int .i64 ln) (.int .i64 lp) (.int .i64 tl):=(BoxQ4.new rfl).below (bw4 (bw0 _ _) _)
 have x1:BoxQ4 49 ((w.alloc (.cells #[.int .i64 wd,.int .i64 ln,.int .i64 lp,.int .i64 tl] 49)).alloc (.cells #[.int .i64 wd,.int .i64 ln,.int .i64 lp,.int .i64 tl] 49)) (w.heap.size+1) (.int .i64 wd) (.int .i64 ln) (.int .i64 lp) (.int .i64 tl):=BoxQ4.new (by simp)
 generalize ((w.alloc (.cells #[.int .i64 wd,.int .i64 ln,.int .i64 lp,.int .i64 tl] 49)).alloc (.cells #[.int .i64 wd,.int .i64 ln,.int .i64 lp,.int .i64 tl] 49))=W7 at *
 have hR:Below w.heap.size w W7.drew∧BoxQ4 49 W7.drew w.heap.size (.int .i64 wd) (.int .i64 ln) (.int .i64 lp) (.int .i64 tl):=⟨hb0.trans ((bw0 _ _).drew.mono hb0.size),x0⟩
 replace x1:BoxQ4 49 W7.drew (w.heap.size+1) (.int .i64 wd) (.int .i64 ln) (.int .i64 lp) (.int .i64 tl):=x1
 clear hb0 x0
 refine region_S (F:=[22]) (R:=(fun w'=>Below w.heap.size w w'∧BoxQ4 49 w' w.heap.size (.int .i64 wd) (.int .i64 ln) (.int .i64 lp) (.int .i64 tl))) 23 #[false,false,false,false,false,false,false,false,false,false,false,false,false,false,false,false,false,false,false,false,false,false,false] (by kernel_rfl) (by kernel_rfl) (by kernel_rfl) (fun _ _ _ _ _ h=>h) (fun Q' hQ' hN=>?_)
 generalize W7.drew=wq0 at *
 refine tkS 19 (i:=0) (v:=?_) (fw:=8) hQ' hR rfl ?_ ?_;rotate_left;(focus (intro wq hRq;have c1:=hRq.2.c1;have c2:=hRq.2.c2;have c3:=hRq.2.c3;have hx1:=HX1.out;have hy2:=HY2.out;have hy3:=HY3.out;have hm2:=HM2.out;have hm3:=HM3.out;go_simp;(try with_reducible rfl)));(try simp only [Act.put,bw7,bw8,bw9])
 refine tkS 20 (i:=1) (v:=?_) (fw:=8) hQ' hR rfl ?_ ?_;rotate_left;(focus (intro wq hRq;have c1:=hRq.2.c1;have c2:=hRq.2.c2;have c3:=hRq.2.c3;have hx1:=HX1.out;have hy2:=HY2.out;have hy3:=HY3.out;have hm2:=HM2.out;have hm3:=HM3.out;go_simp;(try with_reducible rfl)));(try simp only [Act.put,bw7,bw8,bw9])
 refine tkS 21 (i:=2) (v:=?_) (fw:=8) hQ' hR rfl ?_ ?_;rotate_left;(focus (intro wq hRq;have c1:=hRq.2.c1;have c2:=hRq.2.c2;have c3:=hRq.2.c3;have hx1:=HX1.out;have hy2:=HY2.out;have hy3:=HY3.out;have hm2:=HM2.out;have hm3:=HM3.out;go_simp;(try with_reducible rfl)));(try simp only [Act.put,bw7,bw8,bw9])
 refine tkS 22 (i:=3) (v:=?_) (fw:=8) hQ' hR rfl ?_ ?_;rotate_left;(focus (intro wq hRq;have c1:=hRq.2.c1;have c2:=hRq.2.c2;have c3:=hRq.2.c3;have hx1:=HX1.out;have hy2:=HY2.out;have hy3:=HY3.out;have hm2:=HM2.out;have hm3:=HM3.out;go_simp;(try with_reducible rfl)));(try simp only [Act.put,bw7,bw8,bw9])
 refine tkS 23 (i:=4) (v:=?_) (fw:=8) hQ' hR rfl ?_ ?_;rotate_left;(focus (intro wq hRq;have c1:=hRq.2.c1;have c2:=hRq.2.c2;have c3:=hRq.2.c3;have hx1:=HX1.out;have hy2:=HY2.out;have hy3:=HY3.out;have hm2:=HM2.out;have hm3:=HM3.out;go_simp;(try with_reducible rfl)));(try simp only [Act.put,bw7,bw8,bw9])
 refine tkS 24 (i:=5) (v:=?_) (fw:=8) hQ' hR rfl ?_ ?_;rotate_left;(focus (intro wq hRq;have c1:=hRq.2.c1;have c2:=hRq.2.c2;have c3:=hRq.2.c3;have hx1:=HX1.out;have hy2:=HY2.out;have hy3:=HY3.out;have hm2:=HM2.out;have hm3:=HM3.out;go_simp;(try with_reducible rfl)));(try simp only [Act.put,bw7,bw8,bw9])
 refine tkS 25 (i:=6) (v:=?_) (fw:=8) hQ' hR rfl ?_ ?_;rotate_left;(focus (intro wq hRq;have c1:=hRq.2.c1;have c2:=hRq.2.c2;have c3:=hRq.2.c3;have hx1:=HX1.out;have hy2:=HY2.out;have hy3:=HY3.out;have hm2:=HM2.out;have hm3:=HM3.out;go_simp;(try with_reducible rfl)));(try simp only [Act.put,bw7,bw8,bw9])
 refine tkS 26 (i:=7) (v:=?_) (fw:=8) hQ' hR rfl ?_ ?_;rotate_left;(focus (intro wq hRq;have c1:=hRq.2.c1;have c2:=hRq.2.c2;have c3:=hRq.2.c3;have hx1:=HX1.out;have hy2:=HY2.out;have hy3:=HY3.out;have hm2:=HM2.out;have hm3:=HM3.out;go_simp;(try with_reducible rfl)));(try simp only [Act.put,bw7,bw8,bw9])
 refine tkS 27 (i:=8) (v:=?_) (fw:=8) hQ' hR rfl ?_ ?_;rotate_left;(focus (intro wq hRq;have c1:=hRq.2.c1;have c2:=hRq.2.c2;have c3:=hRq.2.c3;have hx1:=HX1.out;have hy2:=HY2.out;have hy3:=HY3.out;have hm2:=HM2.out;have hm3:=HM3.out;go_simp;(try with_reducible rfl)));(try simp only [Act.put,bw7,bw8,bw9])
 refine tkS 28 (i:=9) (v:=?_) (fw:=8) hQ' hR rfl ?_ ?_;rotate_left;(focus (intro wq hRq;have c1:=hRq.2.c1;have c2:=hRq.2.c2;have c3:=hRq.2.c3;have hx1:=HX1.out;have hy2:=HY2.out;have hy3:=HY3.out;have hm2:=HM2.out;have hm3:=HM3.out;go_simp;(try with_reducible rfl)));(try simp only [Act.put,bw7,bw8,bw9])
 refine tkS 29 (i:=10) (v:=?_) (fw:=8) hQ' hR rfl ?_ ?_;rotate_left;(focus (intro wq hRq;have c1:=hRq.2.c1;have c2:=hRq.2.c2;have c3:=hRq.2.c3;have hx1:=HX1.out;have hy2:=HY2.out;have hy3:=HY3.out;have hm2:=HM2.out;have hm3:=HM3.out;go_simp;(try with_reducible rfl)));(try simp only [Act.put,bw7,bw8,bw9])
 refine tkS 30 (i:=11) (v:=?_) (fw:=8) hQ' hR rfl ?_ ?_;rotate_left;(focus (intro wq hRq;have c1:=hRq.2.c1;have c2:=hRq.2.c2;have c3:=hRq.2.c3;have hx1:=HX1.out;have hy2:=HY2.out;have hy3:=HY3.out;have hm2:=HM2.out;have hm3:=HM3.out;go_simp;(try with_reducible rfl)));(try simp only [Act.put,bw7,bw8,bw9])
 refine tkS 31 (i:=12) (v:=?_) (fw:=8) hQ' hR rfl ?_ ?_;rotate_left;(focus (intro wq hRq;have c1:=hRq.2.c1;have c2:=hRq.2.c2;have c3:=hRq.2.c3;have hx1:=HX1.out;have hy2:=HY2.out;have hy3:=HY3.out;have hm2:=HM2.out;have hm3:=HM3.out;go_simp;(try with_reducible rfl)));(try simp only [Act.put,bw7,bw8,bw9])
 refine tkS 32 (i:=13) (v:=?_) (fw:=8) hQ' hR rfl ?_ ?_;rotate_left;(focus (intro wq hRq;have c1:=hRq.2.c1;have c2:=hRq.2.c2;have c3:=hRq.2.c3;have hx1:=HX1.out;have hy2:=HY2.out;have hy3:=HY3.out;have hm2:=HM2.out;have hm3:=HM3.out;go_simp;(try with_reducible rfl)));(try simp only [Act.put,bw7,bw8,bw9])
 refine tkS 33 (i:=14) (v:=?_) (fw:=8) hQ' hR rfl ?_ ?_;rotate_left;(focus (intro wq hRq;have c1:=hRq.2.c1;have c2:=hRq.2.c2;have c3:=hRq.2.c3;have hx1:=HX1.out;have hy2:=HY2.out;have hy3:=HY3.out;have hm2:=HM2.out;have hm3:=HM3.out;go_simp;(try with_reducible rfl)));(try simp only [Act.put,bw7,bw8,bw9])
 refine tkS 34 (i:=15) (v:=?_) (fw:=8) hQ' hR rfl ?_ ?_;rotate_left;(focus (intro wq hRq;have c1:=hRq.2.c1;have c2:=hRq.2.c2;have c3:=hRq.2.c3;have hx1:=HX1.out;have hy2:=HY2.out;have hy3:=HY3.out;have hm2:=HM2.out;have hm3:=HM3.out;go_simp;(try with_reducible rfl)));(try simp only [Act.put,bw7,bw8,bw9])
 refine tkS 35 (i:=16) (v:=?_) (fw:=8) hQ' hR rfl ?_ ?_;rotate_left;(focus (intro wq hRq;have c1:=hRq.2.c1;have c2:=hRq.2.c2;have c3:=hRq.2.c3;have hx1:=HX1.out;have hy2:=HY2.out;have hy3:=HY3.out;have hm2:=HM2.out;have hm3:=HM3.out;go_simp;(try with_reducible rfl)));(try simp only [Act.put,bw7,bw8,bw9])
 refine tkS 36 (i:=17) (v:=?_) (fw:=8) hQ' hR rfl ?_ ?_;rotate_left;(focus (intro wq hRq;have c1:=hRq.2.c1;have c2:=hRq.2.c2;have c3:=hRq.2.c3;have hx1:=HX1.out;have hy2:=HY2.out;have hy3:=HY3.out;have hm2:=HM2.out;have hm3:=HM3.out;go_simp;(try with_reducible rfl)));(try simp only [Act.put,bw7,bw8,bw9])
 refine wpAnyS_ready (rs:=[18]) (by kernel_rfl) (by simp) ?_
 refine stepR (i:=18) rfl (by kernel_rfl) (fun K hK=>?_) (AllReadyS.nil)
 have g1:=x1.c1
 have f1:=x1.frz 1
 go_simp
 have hR1:Below w.heap.size w (wq0.setCell ⟨w.heap.size+1,1,none⟩ (.int .i64 X1))∧BoxQ4 49 (wq0.setCell ⟨w.heap.size+1,1,none⟩ (.int .i64 X1)) w.heap.size (.int .i64 wd) (.int .i64 ln) (.int .i64 lp) (.int .i64 tl):=⟨hR.1.setCell (by show w.heap.size≤w.heap.size+1;omega) _,hR.2.other (by omega) _⟩
 have x2:=x1.set1 (.int .i64 X1)
 clear g1 f1 hR x1
 generalize wq0.setCell ⟨w.heap.size+1,1,none⟩ (.int .i64 X1)=wq1 at *
 have hR:=hR1
 have x1:=x2
 clear hR1 x2
 refine hK.out _ _ hR ?_
 clear hK K
 (try simp only [Act.put,bw7,bw8,bw9])
 refine tkS 37 (i:=19) (v:=?_) (fw:=8) hQ' hR rfl ?_ ?_;rotate_left;(focus (intro wq hRq;have c1:=hRq.2.c1;have c2:=hRq.2.c2;have c3:=hRq.2.c3;have hx1:=HX1.out;have hy2:=HY2.out;have hy3:=HY3.out;have hm2:=HM2.out;have hm3:=HM3.out;go_simp;(try with_reducible rfl)));(try simp only [Act.put,bw7,bw8,bw9])
 refine wpAnyS_ready (rs:=[20]) (by kernel_rfl) (by simp) ?_
 refine stepR (i:=20) rfl (by kernel_rfl) (fun K hK=>?_) (AllReadyS.nil)
 have g1:=x1.c2
 have f1:=x1.frz 2
 go_simp
 have hR1:Below w.heap.size w (wq1.setCell ⟨w.heap.size+1,2,none⟩ (.int .i64 X2))∧BoxQ4 49 (wq1.setCell ⟨w.heap.size+1,2,none⟩ (.int .i64 X2)) w.heap.size (.int .i64 wd) (.int .i64 ln) (.int .i64 lp) (.int .i64 tl):=⟨hR.1.setCell (by show w.heap.size≤w.heap.size+1;omega) _,hR.2.other (by omega) _⟩
 have x2:=x1.set2 (.int .i64 X2)
 clear g1 f1 hR x1
 generalize wq1.setCell ⟨w.heap.size+1,2,none⟩ (.int .i64 X2)=wq2 at *
 have hR:=hR1
 have x1:=x2
 clear hR1 x2
 refine hK.out _ _ hR ?_
 clear hK K
 (try simp only [Act.put,bw7,bw8,bw9])
 refine tkS 38 (i:=21) (v:=?_) (fw:=8) hQ' hR rfl ?_ ?_;rotate_left;(focus (intro wq hRq;have c1:=hRq.2.c1;have c2:=hRq.2.c2;have c3:=hRq.2.c3;have hx1:=HX1.out;have hy2:=HY2.out;have hy3:=HY3.out;have hm2:=HM2.out;have hm3:=HM3.out;go_simp;(try with_reducible rfl)));(try simp only [Act.put,bw7,bw8,bw9])
 refine wpAnyS_ready (rs:=[22]) (by kernel_rfl) (by simp) ?_
 refine stepF (i:=22) rfl (by kernel_rfl) (by kernel_rfl) (fun K hK=>?_) (AllReadyS.nil)
 have g1:=x1.c3
 have f1:=x1.frz 3
 go_simp
 have hR1:Below w.heap.size w (wq2.setCell ⟨w.heap.size+1,3,none⟩ (.int .i64 X3))∧BoxQ4 49 (wq2.setCell ⟨w.heap.size+1,3,none⟩ (.int .i64 X3)) w.heap.size (.int .i64 wd) (.int .i64 ln) (.int .i64 lp) (.int .i64 tl):=⟨hR.1.setCell (by show w.heap.size≤w.heap.size+1;omega) _,hR.2.other (by omega) _⟩
 have x2:=x1.set3 (.int .i64 X3)
 clear g1 f1 hR x1
 generalize wq2.setCell ⟨w.heap.size+1,3,none⟩ (.int .i64 X3)=wq3 at *
 have hR:=hR1
 have x1:=x2
 clear hR1 x2
 refine hK.out _ _ ?_
 clear hK K
 (try simp only [Act.put,bw7,bw8,bw9])
 refine wpAnyS_done (by kernel_rfl) ?_ _
 refine hN.out _ _ ?_
 obtain ⟨hb3,x0⟩:=hR
 replace x1:BoxQ4 49 wq3 (w.heap.size+1) (.int .i64 wd) (.int .i64 X1) (.int .i64 X2) (.int .i64 X3):=x1
 clear HX1 HY2 HY3 HM2 HM3 k2 k3 k4
 go_wp2_with fail
 refine (HGR.out _ hb3).mono ?_
 rintro e w4 ⟨g,rfl,hg,hB4⟩
 have hb4:=below_trans' hb3 hB4
 replace x0:=x0.below hB4
 replace x1:=x1.below hB4
 clear hB4 HGR hb3
 cases g
 rotate_left
 ·clear hg HPL x0 x1 HGA HCK
  go_wp2_with fail
  refine (HAW.out _ hb4).mono ?_
  rintro e w5 ⟨rfl,hB5⟩
  have hb5:=below_trans' hb4 hB5
  clear hB5
  go_wp2_with fail
  go_ret
  exact ⟨rfl,hb5⟩
 obtain ⟨_,hfew⟩:=hg.out rfl
 have HG2:=Lib.hid (HGA.out hfew)
 have c0:=x0.c0
 have c1:=x0.c1
 have c2:=x0.c2
 have c3:=x0.c3
 clear hg hfew HGA
 go_wp2_with fail
 refine (HCK.out wd ln lp tl _).mono ?_
 rintro e w5 ⟨k5,rfl,hk5,hB5⟩
 have hb5:=below_trans' hb4 hB5
 replace x0:=x0.below hB5
 replace x1:=x1.below hB5
 clear hB5 hb4 c0 c1 c2 c3
 by_cases h5:k5=0
 rotate_left
 ·clear hk5 HPL x0 x1 HG2 HCK
  go_wp2_with fail
  refine (HAW.out _ hb5).mono ?_
  rintro e w6 ⟨rfl,hB6⟩
  have hb6:=below_trans' hb5 hB6
  clear hB6
  go_wp2_with fail
  go_ret
  exact ⟨rfl,hb6⟩
 have HPP:=Lib.hid (HPL.out (hk5.out.1 h5))
 subst h5
 have c0:=x1.c0
 have c1:=x1.c1
 have c2:=x1.c2
 have c3:=x1.c3
 clear hk5 HPL
 go_wp2_with fail
 refine (HCK.out wd X1 X2 X3 _).mono ?_
 rintro e w6 ⟨k6,rfl,hk6,hB6⟩
 have hb6:=below_trans' hb5 hB6
 replace x0:=x0.below hB6
 replace x1:=x1.below hB6
 clear hB6 hb5 c0 c1 c2 c3 HCK
 by_cases h6:k6=0
 rotate_left
 ·clear hk6 HPP x0 x1 HG2
  go_wp2_with fail
  refine (HAW.out _ hb6).mono ?_
  rintro e w7 ⟨rfl,hB7⟩
  have hb7:=below_trans' hb6 hB7
  clear hB7
  go_wp2_with fail
  go_ret
  exact ⟨rfl,hb7⟩
 subst h6
 have c0:=x0.c0
 have c1:=x0.c1
 have c2:=x0.c2
 have c3:=x0.c3
 clear hk6
 go_wp2_with fail
 refine (HG2.out wd ln lp tl _ hb6).mono ?_
 rintro e w7 ⟨u7,n7,e7,L7,rfl,hu7,_,hg7,_,hB7⟩
 have hb7:=below_trans' hb6 hB7
 replace x1:=x1.below hB7
 clear hB7 hb6 c0 c1 c2 c3 x0
 obtain ⟨p7,q7,rfl,_⟩:=hu7
 have c0:=x1.c0
 have c1:=x1.c1
 have c2:=x1.c2
 have c3:=x1.c3
 go_wp2_with fail
 refine (HG2.out wd X1 X2 X3 _ hb7).mono ?_
 rintro e w8 ⟨u8,n8,e8,L8,rfl,hu8,_,hg8,_,hB8⟩
 have hb8:=below_trans' hb7 hB8
 clear hB8 hb7 c0 c1 c2 c3 x1 HG2
 obtain ⟨p8,q8,rfl,_⟩:=hu8
 by_cases h7:e7=0
 rotate_left
 ·clear hg7 hg8 HPP
  go_wp2_with fail
  refine (HAW.out _ hb8).mono ?_
  rintro e w9 ⟨rfl,hB9⟩
  have hb9:=below_trans' hb8 hB9
  clear hB9
  go_wp2_with fail
  go_ret
  exact ⟨rfl,hb9⟩
 by_cases h8:e8=0
 rotate_left
 ·clear hg7 hg8 HPP
  subst h7
  go_wp2_with fail
  refine (HAW.out _ hb8).mono ?_
  rintro e w9 ⟨rfl,hB9⟩
  have hb9:=below_trans' hb8 hB9
  clear hB9
  go_wp2_with fail
  go_ret
  exact ⟨rfl,hb9⟩
 obtain ⟨_,T7,TG7,g7⟩:=hg7.out h7
 obtain ⟨_,T8,TG8,g8⟩:=hg8.out h8
 have hle:n8≤n7:=g7.longer g8 HPP.out.1 HPP.out.2.1 HPP.out.2.2.1 HPP.out.2.2.2
 have hge:1≤n8:=g8.n1
 subst h7
 subst h8
 clear hg7 hg8 HPP g7 g8
 go_wp2_with fail
 refine (HAW.out _ hb8).mono ?_
 rintro e w9 ⟨rfl,hB9⟩
 have hb9:=below_trans' hb8 hB9
 clear hB9
 go_wp2_with fail
 go_ret
 exact ⟨rfl,hb9⟩
end Go.Proofs.YtbbclfbpllbbbaaGreatDoor
namespace Go.Proofs.YtbbclfbpllbbbaaGreatDoor
open Go.ChangeShapes Go.WideShapes Go.ChangeAt Go.RowKit Go.Deep
theorem cellNumT:Tryz.prog.cellsOf 34=1:=by kernel_rfl
theorem cellTerm:Tryz.prog.cellsOf 70=2:=by kernel_rfl
theorem tt_map {n k:Nat} (f:Nat→ByteArray × ByteArray) (hk:k < n):tt ((List.range n).map f) k=f k:=by
 unfold tt
 rw [List.getD_eq_getElem?_getD,List.getElem?_map,List.getElem?_range hk]
 rfl
theorem choose_ltT {α:Type} [Inhabited α] {n:Nat} {P:Nat→α→Prop} (h:∀ i,i < n→∃ x,P i x):∃ f:Nat→α,∀ i,i < n→P i (f i):=by
 classical
 exact ⟨fun i=>if hi:i < n then (h i hi).choose else default,fun i hi=>by simp only [hi,dif_pos];exact (h i hi).choose_spec⟩
theorem at_noneT {W:World} {a:Addr} {v:Value} (h:W.cell? a=some v):a=⟨a.block,a.off,none⟩:=by
 obtain ⟨b,o,s⟩:=a
 cases s with
 | none=>rfl
 | some x=>simp [World.cell?] at h;split at h<;>simp_all
theorem addr_addO (b off j:Nat):Addr.add ⟨b,off,none⟩ j=⟨b,off+j,none⟩:=by
 unfold Addr.add
 by_cases h:j=0
 ·simp [h]
 ·simp [h]
end Go.Proofs.YtbbclfbpllbbbaaGreatDoor
