/- Joined texts: WFloorZ, WRSub, WEnc, WEncO, WEncOf, WEncOg, AtoiPlain, WRound, WSMul, WCalc, WStart, WRebuild, WRebRat, WLawNum, WGauge. -/
import Derived.Test.YtbbclfbpllbbbaaGreatDoorJ14
import Derived.Test.YtbbclfbpllbbbaaGreatDoorJ11
import Derived.Test.YtbbclfbpllbbbaaGreatDoorJ01
import Derived.Lib.AtoiAllCases
import Derived.Test.YtbbclfbpllbbbaaGreatDoorJ13
import Derived.Test.YtbbclfbpllbbbaaGreatDoorJ03
import Derived.Test.YtbbclfbpllbbbaaGreatDoorJ12
import Derived.Test.YtbbclfbpllbbbaaGreatDoorJ08
set_option maxRecDepth 100000
set_option linter.unusedVariables false
set_option linter.unusedSimpArgs false
set_option maxHeartbeats 12800000
namespace Go.Proofs.YtbbclfbpllbbbaaGreatDoor
open Go.RowKit
theorem IDivideZ_ok (x y:Int) (s t:ByteArray) (w:World) (hG:Glo w) (hs:s.data.toList=Lib.itoa x) (hx:Fit x) (ht:t.data.toList=Lib.itoa y) (hy:Fit y) (hy0:0 < y) :
  Calls Tryz.prog 119 #[.string s,.string t] w (RetQR (x / y) (x % y) w):=by
 by_cases h:x % y=0∨0≤x
 ·exact IDivide_ok x y s t w hG hs hx ht hy hy0 h
 ·by_cases hb:s.size≤18∧t.size≤18
  ·exact Divide_small x y s t w hG hs hb.1 ht hb.2 hy0
  ·exact IDivideN_ok x y s t w hG hs hx ht hy hy0 hb (fun h2=>h (.inl h2)) (Int.not_le.1 fun h2=>h (.inr h2))
theorem Floor_z {k:Nat} {q:Rat} (s:ByteArray) (w:World) (hG:Glo w) (hs:s.data.toList=ratText q) (hq:Sz k q) (hk:k≤300) :
  Calls Tryz.prog 265 #[.string s] w (RetN (q.floor:Int) w):=by
 by_cases hsm:Small q
 ·exact Floor_small s w hG hs hsm
 ·have hsz:=txt_size hs hq hk
  have hno:natOf s.data.toList=none:=by rw [hs];exact natOf_big hsm
  have RS:=Lib.hid (fun W hG=>read_any s W hG hs hq hk)
  have DV:=Lib.hid (fun (a b:ByteArray) W hG h1 h2=>IDivideZ_ok q.num (q.den:Int) a b W hG h1 (hq.fn hk) h2 (hq.fd hk) (by have:=q.den_pos;omega))
  have HF:Hid (ratText (q.floor:Int)=Lib.itoa (q.num / (q.den:Int))):=Lib.hid (by rw [ratText_int,Rat.floor_def])
  have HN:=Lib.hid hno
  have HG:=Lib.hid hG
  clear hs hG hq hno hsm
  go_enter Tryz.func265,Tryz.ntmps265
  go_wp2_with fail
  refine (nativeOf_none s _ (by omega) HN.out).mono ?_
  rintro e w1 ⟨rfl,hB1⟩
  have hb1:Below w.heap.size w w1:=qbl
  clear hB1
  go_wp2_with fail
  refine (RS.out _ (HG.out.below qbl)).mono ?_
  rintro e w2 ⟨a,b,ha,hb,rfl,hB2⟩
  have hb2:Below w.heap.size w w2:=qbl
  clear hB2
  go_wp2_with fail
  refine (DV.out a b _ (HG.out.below qbl) ha.out (by rw [hb.out,itoa_natCast])).mono ?_
  rintro e w3 ⟨x,y,hx,hy,rfl,hB3⟩
  have HX:=Lib.hid hx
  clear hx hy
  go_wp2_with fail
  go_ret2
  exact ⟨x,HX.out.trans HF.out.symm,rfl,qbl⟩
end Go.Proofs.YtbbclfbpllbbbaaGreatDoor
namespace Go.Proofs.YtbbclfbpllbbbaaGreatDoor
open Go.RowKit
theorem Sz.sub {a b:Nat} {p q:Rat} (hp:Sz a p) (hq:Sz b q):Sz (a+b+1) (p - q):=by
 have:=Sz.add hp hq.neg'
 rwa [← Rat.sub_eq_add_neg] at this
theorem RSub_ok {a b:Nat} {p q:Rat} (s t:ByteArray) (w:World) (hG:Glo w) (hs:s.data.toList=ratText p) (hp:Sz a p) (ht:t.data.toList=ratText q) (hq:Sz b q) (hab:a+b+1≤300) :
  Calls Tryz.prog 111 #[.string s,.string t] w (RetN (p - q) w):=by
 by_cases hsm:Small p∧Small q
 ·exact Sub_small s t w hG hs hsm.1 ht hsm.2
 ·have f1:=fit_mul (x:=p.num) (y:=(q.den:Int)) hp.1 (by rw [den_nat];exact hq.2) (show a+b≤300 by omega)
  have f2:=fit_mul (x:=q.num) (y:=(p.den:Int)) hq.1 (by rw [den_nat];exact hp.2) (show b+a≤300 by omega)
  have f3:Fit (p.num * q.den - q.num * p.den):=fit_of_lt (pow300 (by have:=sum_lt hp hq.neg';rwa [Rat.neg_num,Rat.neg_den,Int.neg_mul,← Int.sub_eq_add_neg] at this) hab)
  have f4:Fit ((p.den:Int) * q.den):=fit_of_lt (pow300 (dens_lt hp hq) (by omega))
  have hC:CombOk 168 (p.num * q.den - q.num * p.den) (p.num * q.den) (q.num * p.den):=fun s t w hG h1 h2=>(Isub_ok _ _ s t w hG h1 f1 h2 f2).mono fun e w' h=>h.1 f3
  have HQ:=Lib.hid (fun W=>quick_no 170 s t W hs ht hp (show a≤300 by omega) hq (show b≤300 by omega) hsm)
  have HB:=Lib.hid (fun (bx:Nat) (W:World) (hG:Glo W) (hbx:W.cell? ⟨bx,0,none⟩=some (.func (.func 168) #[] #[]))=>both_cap (r:=p - q) 165 bx _ s t W hG hbx (fun W hG=>read_any s W hG hs hp (by omega)) (fun W hG=>read_any t W hG ht hq (by omega)) (enters_of Tryz.func165 (by kernel_rfl) rfl)
   (fun x y u v W hG hb h1 h2 h3 h4=>by rw [← rat_sub];exact combL_ok 168 bx x y u v W hG hb (enters_of Tryz.func168 (by kernel_rfl) rfl) h1 h2 h3 h4 (hp.fn (by omega)) (hp.fd (by omega)) (hq.fn (by omega)) (hq.fd (by omega)) f1 f2 f3 f4 p.den_pos q.den_pos hC))
  have HG:=Lib.hid hG
  clear hs ht hG hC f1 f2 f3 f4 hp hq
  go_enter Tryz.func111,Tryz.ntmps111
  go_wp2_with fail
  refine (HQ.out _).mono ?_
  rintro e w1 ⟨rfl,hB1⟩
  go_wp2_with fail
  refine (combined_any _ _).mono ?_
  rintro e w2 ⟨rfl,rfl⟩
  go_wp2_with fail
  refine (HB.out _ _ (HG.out.below qbl) (by simp [go_sem])).mono ?_
  rintro e w3 ⟨r,hr,rfl,hB3⟩
  have HR:=Lib.hid hr
  have hb3:Below w.heap.size w w3:=qbl
  clear hr hB3
  go_wp2_with fail
  go_ret2
  exact ⟨r,HR.out,rfl,hb3⟩
end Go.Proofs.YtbbclfbpllbbbaaGreatDoor
namespace Go.Proofs.YtbbclfbpllbbbaaGreatDoor
open Go.RowKit Go.Shelf
theorem RetN.bb {q:Rat} {w:World} {e:Ending} {w':World} (h:RetN q w e w'):RetB (.tuple #[.string (numS q),.int .i64 0]) w e w':=by
 obtain ⟨r,hr,he,hB⟩:=h
 obtain rfl:=numS_of hr
 exact ⟨he,hB⟩
theorem rat_byte {q:Rat} {s:ByteArray} (hs:s.data.toList=ratText q):∃ h0:0 < s.size,((s[0].toNat:Int) == 45)=decide (q.num < 0):=by
 have h0:0 < s.size:=by
  have h1:s.size=s.data.toList.length:=rfl
  rw [h1,hs];exact List.length_pos_iff.2 (ratText_ne_nil q)
 refine ⟨h0,?_⟩
 by_cases h:q.num < 0
 ·rw [decide_eq_true h]
  exact headq45' h0 (by rw [hs,ratText_parts,if_pos h];rfl)
 ·rw [decide_eq_false h]
  refine Bool.eq_false_iff.2 fun h'=>?_
  have h2:=headq45 h0 h'
  rw [hs,ratText_parts,if_neg h] at h2
  exact decDigits_no45 q.num.natAbs _ h2
theorem one_text:(⟨#[49]⟩:ByteArray).data.toList=ratText 1:=by decide +kernel
theorem one_sz:Sz 1 (1:Rat):=by unfold Sz;decide +kernel
theorem zero_text':(⟨#[48]⟩:ByteArray).data.toList=ratText 0:=by decide +kernel
theorem zero_sz':Sz 1 (0:Rat):=by unfold Sz;decide +kernel
theorem term_ok (c:Rat) (m:Nat) (w:World) (hG:Glo w) (hc:Sz 20 c) (hm:m < 10 ^ 40) :
  Calls Tryz.prog 242 #[.agg #[.string (numS c),.string (decS m)],.string thou] w (RetB (.tuple #[.string (numS ((tmK (c,m):Rat) / 1000)),.int .i64 0]) w):=by
 obtain ⟨s1,s2⟩:=sq_sz hc hm
 have hn:=sq_nonneg (c:=c) (m:=m)
 have hth:=thQ_lt s2
 have H1:=Lib.hid (fun W hG=>(RMul_ok (numS c) (numS c) W hG (numS_list c) hc (numS_list c) hc (by decide)).mono fun e w' h=>h.bb)
 have H2:=Lib.hid (fun W hG=>(RMul_ok (numS (c * c)) (decS m) W hG (numS_list _) s1 (by rw [text_natR];exact decS_list m) (sz_natR hm (by decide)) (by decide)).mono fun e w' h=>h.bb)
 have H3:=Lib.hid (fun W hG=>rootFloorT_ok (c * c * ((m:Int):Rat)) W hG (s2.mono (by decide)) hn)
 have hk:Sz 44 (((thQ (c * c * ((m:Int):Rat)):Nat):Rat) / 1000):=sz_thou (k:=((thQ (c * c * ((m:Int):Rat)):Nat):Int)) (by omega) (by decide)
 have H4:=Lib.hid (fun W hG=>(RSub_ok ⟨#[48]⟩ (numS (((thQ (c * c * ((m:Int):Rat)):Nat):Rat) / 1000)) W hG zero_text' zero_sz' (numS_list _) hk (by decide)).mono fun e w' h=>h.bb)
 obtain ⟨h0,hby⟩:=rat_byte (numS_list c)
 have hT1:c.num < 0→0 - (((thQ (c * c * ((m:Int):Rat)):Nat):Rat) / 1000)=(tmK (c,m):Rat) / 1000:=fun h=>by
  unfold tmK
  rw [if_pos h]
  exact thou_neg _
 have hT2:¬ c.num < 0→(((thQ (c * c * ((m:Int):Rat)):Nat):Rat) / 1000)=(tmK (c,m):Rat) / 1000:=fun h=>by
  unfold tmK
  rw [if_neg h];rfl
 have HG:=Lib.hid hG
 generalize (tmK (c,m):Rat) / 1000=RES at *
 generalize (((thQ (c * c * ((m:Int):Rat)):Nat):Rat) / 1000)=TH at *
 generalize c * c * ((m:Int):Rat)=QQ at *
 generalize c * c=CC at *
 generalize hsc:numS c=sc at *
 generalize decS m=sm at *
 generalize thou=t at *
 by_cases hn0:c.num < 0
 ·rw [decide_eq_true hn0] at hby
  have HE:=Lib.hid (hT1 hn0)
  clear hT1 hT2 hn0 hk hth hn s1 s2 hG hc hm hsc
  go_enter Tryz.func242,Tryz.ntmps242
  go_wp2_with fail
  have hb0:Below w.heap.size w (w.alloc (.cells #[.string sc,.string sm] 70)):=qbl
  have x0:BoxT2 70 (w.alloc (.cells #[.string sc,.string sm] 70)) w.heap.size (.string sc) (.string sm):=BoxT2.new rfl
  generalize w.alloc (.cells #[.string sc,.string sm] 70)=W0 at *
  refine (H1.out _ (HG.out.below hb0)).mono ?_
  rintro e w1 ⟨rfl,hB1⟩
  have hb1:=below_trans' hb0 hB1
  replace x0:=x0.below hB1
  have e1:=x0.c1
  clear hB1 H1 hb0
  go_wp2_with fail
  refine (H2.out _ (HG.out.below hb1)).mono ?_
  rintro e w2 ⟨rfl,hB2⟩
  have hb2:=below_trans' hb1 hB2
  replace x0:=x0.below hB2
  have e0:=x0.c0
  clear hB2 H2 hb1 e1
  go_wp2_with fail
  refine (H3.out _ (HG.out.below hb2)).mono ?_
  rintro e w3 ⟨rfl,hB3⟩
  have hb3:=below_trans' hb2 hB3
  replace e0:=keep hB3 e0
  clear hB3 H3 hb2
  go_wp2_with fail
  refine (H4.out _ (HG.out.below hb3)).mono ?_
  rintro e w4 ⟨rfl,hB4⟩
  have hb4:=below_trans' hb3 hB4
  clear hB4 H4 hb3
  go_wp2_with fail
  have h:=HE.out
  subst h
  go_ret2
  exact ⟨rfl,hb4⟩
 ·rw [decide_eq_false hn0] at hby
  have HE:=Lib.hid (hT2 hn0)
  clear hT1 hT2 hn0 hk hth hn s1 s2 hG hc hm hsc H4
  go_enter Tryz.func242,Tryz.ntmps242
  go_wp2_with fail
  have hb0:Below w.heap.size w (w.alloc (.cells #[.string sc,.string sm] 70)):=qbl
  have x0:BoxT2 70 (w.alloc (.cells #[.string sc,.string sm] 70)) w.heap.size (.string sc) (.string sm):=BoxT2.new rfl
  generalize w.alloc (.cells #[.string sc,.string sm] 70)=W0 at *
  refine (H1.out _ (HG.out.below hb0)).mono ?_
  rintro e w1 ⟨rfl,hB1⟩
  have hb1:=below_trans' hb0 hB1
  replace x0:=x0.below hB1
  have e1:=x0.c1
  clear hB1 H1 hb0
  go_wp2_with fail
  refine (H2.out _ (HG.out.below hb1)).mono ?_
  rintro e w2 ⟨rfl,hB2⟩
  have hb2:=below_trans' hb1 hB2
  replace x0:=x0.below hB2
  have e0:=x0.c0
  clear hB2 H2 hb1 e1
  go_wp2_with fail
  refine (H3.out _ (HG.out.below hb2)).mono ?_
  rintro e w3 ⟨rfl,hB3⟩
  have hb3:=below_trans' hb2 hB3
  replace e0:=keep hB3 e0
  clear hB3 H3 hb2
  go_wp2_with fail
  have h:=HE.out
  subst h
  go_ret2
  exact ⟨rfl,hb3⟩
theorem sz_floor1 {k:Int} (hk:k.natAbs < 10 ^ 45):Sz 46 ((k / 1000:Int):Rat):=by
 have h1:(k / 1000).natAbs≤k.natAbs:=by omega
 have h2:(10:Nat) ^ 45 < 10 ^ 46:=by decide
 exact sz_int (by omega) (by decide)
theorem encFloor_ok (k:Int) (w:World) (hG:Glo w) (hk:k.natAbs < 10 ^ 45) :
  Calls Tryz.prog 243 #[.string (numS ((k:Rat) / 1000)),.string ⟨#[49]⟩] w (RetB (.tuple #[.string (numS ((k / 1000:Int):Rat)),.int .i64 0]) w):=by
 have hz:=sz_thou hk (by decide)
 have hz2:Sz 46 ((k / 1000:Int):Rat):=sz_floor1 hk
 have d1:∀ x:Rat,x / 1=x:=fun x=>by grind
 have m1:∀ x:Rat,x * 1=x:=fun x=>by grind
 have H1:=Lib.hid (fun W hG=>(RDiv_ok (numS ((k:Rat) / 1000)) ⟨#[49]⟩ W hG (numS_list _) hz one_text one_sz (by decide) (by decide)).mono fun e w' h=>h.bb)
 rw [d1] at H1
 have H2:=Lib.hid (fun W hG=>(Floor_z (numS ((k:Rat) / 1000)) W hG (numS_list _) hz (by decide)).mono fun e w' h=>h.bb)
 rw [floor_thou] at H2
 have H3:=Lib.hid (fun W hG=>(RMul_ok (a:=46) (numS ((k / 1000:Int):Rat)) ⟨#[49]⟩ W hG (numS_list _) hz2 one_text one_sz (by decide)).mono fun e w' h=>h.bb)
 rw [m1] at H3
 have HG:=Lib.hid hG
 generalize (k:Rat) / 1000=Q at *
 generalize ((k / 1000:Int):Rat)=R at *
 generalize numS Q=sq at *
 generalize numS R=sr at *
 clear hG hk hz hz2 d1 m1
 go_enter Tryz.func243,Tryz.ntmps243
 go_wp2_with fail
 refine (H1.out _ HG.out).mono ?_
 rintro e w1 ⟨rfl,hB1⟩
 go_wp2_with fail
 refine (H2.out _ (HG.out.below hB1)).mono ?_
 rintro e w2 ⟨rfl,hB2⟩
 have hb2:=below_trans' hB1 hB2
 clear hB1 hB2
 go_wp2_with fail
 refine (H3.out _ (HG.out.below hb2)).mono ?_
 rintro e w3 ⟨rfl,hB3⟩
 have hb3:=below_trans' hb2 hB3
 clear hB3 hb2
 go_wp2_with fail
 go_ret2
 exact ⟨rfl,hb3⟩
theorem near_ok (T:Terms) (v:Value) (w:World) (hG:Glo w) (hv:IsTerms w v (clsL T)) (h20:Short20 T) (hl:T.length≤12) :
  Calls Tryz.prog 214 #[v,.string ⟨#[49]⟩] w (RetB (.tuple #[.string (numS ((smK T / 1000 - 1:Int):Rat)),.int .i64 0]) w):=by
 have hfine:(1:Rat) * (1 / 1000)=1 / 1000:=by decide +kernel
 have H1:=Lib.hid (fun W hG=>(RMul_ok ⟨#[49]⟩ thou W hG one_text one_sz thou_text thou_sz (by decide)).mono fun e w' h=>h.bb)
 rw [hfine,← thou_num] at H1
 replace H1:Hid (∀ W,Glo W→Calls Tryz.prog 49 #[.string ⟨#[49]⟩,.string ⟨#[49,47,49,48,48,48]⟩] W (RetB (.tuple #[.string thou,.int .i64 0]) W)):=Lib.hid H1.out
 have H2:=Lib.hid (fun (x:Rat × Nat) (hx:x ∈ T) W hG=>term_ok x.1 x.2 W hG (h20 x hx).1 (h20 x hx).2)
 have hsum:∀ k,(smK (T.take k)).natAbs < 10 ^ 45:=fun k=>smK_lt (h20.take k) (by rw [List.length_take];omega)
 have H3:=Lib.hid (fun (k:Nat) (x:Rat × Nat) (hx:x ∈ T) W hG=>(RAdd_ok (numS ((smK (T.take k):Rat) / 1000)) (numS ((tmK x:Rat) / 1000)) W hG (numS_list _) (sz_thou (hsum k) (by decide)) (numS_list _) (sz_thou (n:=45) (Nat.lt_of_lt_of_le (tmK_lt (h20 x hx).1 (h20 x hx).2) (pow10_le (a:=43) (b:=45) (by decide))) (by decide)) (by decide)).mono fun e w' h=>h.bb)
 have hall:smK T=smK (T.take T.length):=by rw [List.take_length]
 have hT45:(smK T).natAbs < 10 ^ 45:=by rw [hall];exact hsum _
 have H4:=Lib.hid (fun W hG=>encFloor_ok (smK T) W hG hT45)
 have hz2:Sz 46 ((smK T / 1000:Int):Rat):=sz_floor1 hT45
 have H5:=Lib.hid (fun W hG=>(RSub_ok (a:=46) (numS ((smK T / 1000:Int):Rat)) ⟨#[49]⟩ W hG (numS_list _) hz2 one_text one_sz (by decide)).mono fun e w' h=>h.bb)
 rw [show ((smK T / 1000:Int):Rat) - 1=((smK T / 1000 - 1:Int):Rat) by rw [Rat.intCast_sub];rfl] at H5
 have HG:=Lib.hid hG
 have hlen:=clsL_length T
 obtain ⟨a,cap,rfl,hcap,hc⟩:=hv
 have HC:=Lib.hid hc
 rw [hlen] at hcap ⊢
 have HLN:=Lib.hid hlen
 have hz:(⟨#[48]⟩:ByteArray)=numS ((smK (T.take 0):Rat) / 1000):=numS_of (by rw [List.take_zero];decide +kernel)
 have HZ:=Lib.hid hz
 have HALL:=Lib.hid hall
 generalize hth:thou=t at *
 clear hG hc h20 hsum hfine hall hT45 hlen hz hz2 hth
 go_enter Tryz.func214,Tryz.ntmps214
 go_wp2_with fail
 refine (H1.out _ HG.out).mono ?_
 rintro e w1 ⟨rfl,hB1⟩
 clear H1
 go_wp2_with fail
 go_loopw [8,24] (fun s i wr=>∃ k:Nat,k≤T.length∧i=.int .i64 k∧s=.string (numS ((smK (T.take k):Rat) / 1000))∧Below w.heap.size w wr) (fun _ i _=>T.length - (intOf i).toNat)
 case atStart=>exact ⟨0,by omega,rfl,by rw [← HZ.out],hB1⟩
 case round =>
  obtain ⟨k,hk,rfl,rfl,hB⟩:=hrel
  by_cases hlt:k < T.length
  ·obtain ⟨b,off,rfl,hcell⟩:=HC.out (fun h=>by have:=HLN.out;rw [h] at this;simp at this;omega)
   have hkL:k < (clsL T).length:=by rw [HLN.out];exact hlt
   obtain ⟨d0,d1⟩:=(hcell k hkL).below (w':=wr) hB
   rw [clsL_get hlt] at d0 d1
   have hx:=tq_mem hlt
   have HT:=Lib.hid (H2.out _ hx)
   have HA:=Lib.hid (H3.out k _ hx)
   have hst:smK (T.take (k+1))=smK (T.take k)+tmK (tq T k):=by rw [termsTake hlt,smK_snoc]
   have HST:Hid (numS (((smK (T.take k):Rat) / 1000)+((tmK (tq T k):Rat) / 1000))=numS ((smK (T.take (k+1)):Rat) / 1000)):=Lib.hid (by rw [thou_add,hst])
   generalize hxx:tq T k=x at *
   obtain ⟨c,m⟩:=x
   have hltI:(k:Int) < (T.length:Int):=by omega
   have hk1:IntKind.i64.wrap ((k:Int)+1)=((k+1:Nat):Int):=IntWalk.i64_in _ (by omega)
   have hb1:Below w.heap.size w (wr.alloc (.cells #[.string (numS c),.string (decS m)] 70)):=bw4 hB _
   have y0:BoxT2 70 (wr.alloc (.cells #[.string (numS c),.string (decS m)] 70)) wr.heap.size (.string (numS c)) (.string (decS m)):=BoxT2.new rfl
   rw [HST.out] at HA
   generalize (tmK (c,m):Rat) / 1000=TQ at *
   generalize (smK (T.take k):Rat) / 1000=SQ at *
   obtain ⟨SQ1,hq1⟩:∃ q,(smK (T.take (k+1)):Rat) / 1000=q:=⟨_,rfl⟩
   rw [hq1] at HA
   have HQ1:=Lib.hid hq1
   generalize numS TQ=stq at *
   generalize numS SQ=ssq at *
   generalize hs1:numS SQ1=ssq1 at *
   dsimp only at d0 d1 HT
   generalize numS c=sc at *
   generalize decS m=sm at *
   have HS1:=Lib.hid hs1
   clear hcell hx hst HST hxx hs1 hkL hq1
   go_wp2_with fail
   generalize wr.alloc (.cells #[.string sc,.string sm] 70)=W1 at *
   refine (HT.out _ (HG.out.below hb1)).mono ?_
   rintro e w2 ⟨rfl,hB2⟩
   have hb2:=below_trans' hb1 hB2
   clear hB2 hb1 HT y0
   go_wp2_with fail
   refine (HA.out _ (HG.out.below hb2)).mono ?_
   rintro e w3 ⟨rfl,hB3⟩
   have hb3:=below_trans' hb2 hB3
   clear hB3 hb2 HA
   go_wp2_with fail
   go_roundw
   case rel=>exact ⟨k+1,by omega,by go_num,by rw [HQ1.out,HS1.out],hb3⟩
   case measure=>simp [intOf];omega
  ·have e:k=T.length:=by omega
   subst e
   rw [← HALL.out]
   generalize (smK T:Rat) / 1000=SQ at *
   generalize numS SQ=ssq at *
   generalize numS ((smK T / 1000:Int):Rat)=sfl at *
   generalize numS ((smK T / 1000 - 1:Int):Rat)=sres at *
   clear H2 H3 HALL HZ
   go_wp2_with fail
   refine (H4.out _ (HG.out.below hB)).mono ?_
   rintro e w2 ⟨rfl,hB2⟩
   have hb2:=below_trans' hB hB2
   clear hB2 H4
   go_wp2_with fail
   refine (H5.out _ (HG.out.below hb2)).mono ?_
   rintro e w3 ⟨rfl,hB3⟩
   have hb3:=below_trans' hb2 hB3
   clear hB3 H5
   go_wp2_with fail
   go_ret2
   exact ⟨rfl,hb3⟩
end Go.Proofs.YtbbclfbpllbbbaaGreatDoor
namespace Go.Proofs.YtbbclfbpllbbbaaGreatDoor
open Go.RowKit Go.Shelf
def SgnR (s:Int):Prop:=s=1∨s=-1∨s=0
theorem sgnL_range (T:Terms):∀ ps,SgnR (sgnL ps T).1
 | []=>.inr (.inr rfl)
 | p::ps=>by
  unfold sgnL
  split
  ·exact .inl rfl
  ·split
   ·exact .inr (.inl rfl)
   ·exact sgnL_range T ps
theorem sgnF_range (T:Terms):SgnR (sgnF T).1:=by
 unfold sgnF
 split
 ·exact .inr (.inr rfl)
 ·exact sgnL_range T _
def RetCm (f:Nat→Rat) (D:Prop) (w:World) (e:Ending) (w':World):Prop:=∃ s c:Int,e=.returned (.tuple #[.int .i64 s,.int .i64 c])∧SgnR s∧Hid (c=0→SgnIs f s)∧Hid (D→c=0)∧Below w.heap.size w w'
theorem CompareX_ok (T S:Terms) (D:Prop) (L M:TTexts) (u v:Value) (w:World) (hG:Glo w) (hP:Pri w) (hPl:SPl w) (hu:IsTerms w u L) (hv:IsTerms w v M) (hT:ResT L T) (hS:ResT M S) (h12:L.length+M.length≤12)
  (hD:D→∃ p q,T=oneT p 1∧S=oneT q 1∧Sz 28 p∧Sz 27 q∧((p - q).den≤1000∨p - q=0)) :
  Calls Tryz.prog 19 #[u,v] w (RetCm (fun P=>valT T P - valT S P) D w):=by
 obtain ⟨D',h1,h2⟩:∃ D':Option Rat,(∀ d,D'=some d→∃ p q,T=oneT p 1∧S=oneT q 1∧d=p - q∧Sz 28 p∧Sz 27 q)∧(D→∃ d,D'=some d∧(d.den≤1000∨d=0)):=by
  by_cases hd:D
  ·obtain ⟨p,q,e1,e2,s1,s2,hk⟩:=hD hd
   exact ⟨some (p - q),fun d h=>by cases h;exact ⟨p,q,e1,e2,rfl,s1,s2⟩,fun _=>⟨_,rfl,hk⟩⟩
  ·refine ⟨none,fun d h=>?_,fun h=>absurd h hd⟩
   cases h
 have H1:=Lib.hid (SubX_ok T S D' L M u v w hG hP hu hv hT hS h12 h1)
 have H2:=Lib.hid (fun (T':Terms) (L':TTexts) (x:Value) (W:World) hG hPl (hx:IsTerms W x L') (h:ResT L' T')=>(by rw [h.cls] at hx;exact sign_ok T' x W hG hPl hx h.mid (by rw [h.same];exact h.len):Calls Tryz.prog 57 #[x] W (RetB (.tuple #[.int .i64 (sgnF T').1,.int .i64 (sgnF T').2]) W)))
 have HD:=Lib.hid h2
 have HG:=Lib.hid hG
 have HPL:=Lib.hid hPl
 generalize (fun P=>valT T P - valT S P)=f at *
 obtain ⟨a1,c1,rfl,_⟩:=hu
 obtain ⟨a2,c2,rfl,_⟩:=hv
 clear hG hP hPl hT hS h1 h2 hD h12
 go_enter Tryz.func19,Tryz.ntmps19
 go_wp2_with fail
 refine H1.out.mono ?_
 rintro e w1 ⟨x,c,L',rfl,hx,hT,hD2,hB1⟩
 clear H1
 by_cases hc:c=0
 ·obtain ⟨_,T',hR,hN,hO⟩:=hT.out hc
  have H3:=Lib.hid (H2.out T' L' x w1 (HG.out.below hB1) (HPL.out.below hB1) hx hR)
  have HR:=Lib.hid hR
  have HN:=Lib.hid hN
  have HO:Hid (D→(sgnF T').2=0):=Lib.hid (fun h=>by
   obtain ⟨d,hd,hk⟩:=HD.out h
   rw [hO d hd]
   exact sgnF_unit hk)
  have hrg:=sgnF_range T'
  have HSI:Hid ((sgnF T').2=0→SgnIs (valT T') (sgnF T').1):=Lib.hid (fun h=>sgnF_is HR.out.terms (by rw [← h]))
  obtain ⟨a3,c3,rfl,_⟩:=hx
  generalize (sgnF T').1=rs at *
  generalize (sgnF T').2=rc at *
  subst hc
  clear hT hD2 H2 hR hN hO
  go_wp2_with fail
  refine H3.out.mono ?_
  rintro e w2 ⟨rfl,hB2⟩
  have hb2:=below_trans' hB1 hB2
  clear hB2
  go_wp2_with fail
  refine bodyPost_ret (v:=.tuple #[.int .i64 rs,.int .i64 rc]) (by simp [results,Tryz.results19,go_sem]) rfl ?_
  exact ⟨rs,rc,rfl,hrg,Lib.hid (fun h=>(HSI.out h).near HN.out),Lib.hid HO.out,hb2⟩
 ·have HO:Hid (D→c=0):=Lib.hid (fun h=>by
   obtain ⟨d,hd,hk⟩:=HD.out h
   exact hD2.out d hd)
  obtain ⟨a3,c3,rfl,_⟩:=hx
  clear hT hD2 H2
  go_wp2_with fail
  refine bodyPost_ret (v:=.tuple #[.int .i64 0,.int .i64 c]) (by simp [results,Tryz.results19,go_sem]) rfl ?_
  exact ⟨0,c,rfl,.inr (.inr rfl),Lib.hid (fun h=>absurd h hc),HO,hB1⟩
theorem SignX_ok (T:Terms) (D:Prop) (L:TTexts) (v:Value) (w:World) (hG:Glo w) (hP:Pri w) (hPl:SPl w) (hv:IsTerms w v L) (hT:ResT L T)
  (hD:D→∃ p,T=oneT p 1∧Sz 60 p∧(p.den≤1000∨p=0)) :
  Calls Tryz.prog 61 #[v] w (RetCm (valT T) D w):=by
 have H1:=Lib.hid (sCheck_ok L v w hG hP hv hT.sizes)
 have H2:=Lib.hid (fun W hB=>(by rw [hT.cls] at hv;exact sign_ok T v W (hG.below hB) (hPl.below hB) (hv.below hB) hT.mid (by rw [hT.same];exact hT.len):Calls Tryz.prog 57 #[v] W (RetB (.tuple #[.int .i64 (sgnF T).1,.int .i64 (sgnF T).2]) W)))
 have HD1:Hid (D→SurdOk L):=Lib.hid (fun h=>by
  obtain ⟨p,e,hs,_⟩:=hD h
  rw [e] at hT
  exact ⟨_,hT.one hs⟩)
 have HD2:Hid (D→(sgnF T).2=0):=Lib.hid (fun h=>by
  obtain ⟨p,e,_,hk⟩:=hD h
  rw [e];exact sgnF_unit hk)
 have hrg:=sgnF_range T
 have HSI:Hid ((sgnF T).2=0→SgnIs (valT T) (sgnF T).1):=Lib.hid (fun h=>sgnF_is hT.terms (by rw [← h]))
 generalize (sgnF T).1=rs at *
 generalize (sgnF T).2=rc at *
 generalize valT T=f at *
 clear hG hP hPl hT hD
 obtain ⟨a1,c1,rfl,_⟩:=hv
 go_enter Tryz.func61,Tryz.ntmps61
 go_wp2_with fail
 refine H1.out.mono ?_
 rintro e w1 ⟨k1,rfl,h1,hB1⟩
 by_cases hk1:k1=0
 ·subst hk1
  clear h1 H1
  go_wp2_with fail
  refine (H2.out _ hB1).mono ?_
  rintro e w2 ⟨rfl,hB2⟩
  have hb2:=below_trans' hB1 hB2
  clear hB2
  go_wp2_with fail
  refine bodyPost_ret (v:=.tuple #[.int .i64 rs,.int .i64 rc]) (by simp [results,Tryz.results61,go_sem]) rfl ?_
  exact ⟨rs,rc,rfl,hrg,HSI,HD2,hb2⟩
 ·have HO:Hid (D→(1:Int)=0):=Lib.hid (fun h=>absurd (h1.out.2 (HD1.out h)) hk1)
  clear h1 H1
  go_wp2_with fail
  refine bodyPost_ret (v:=.tuple #[.int .i64 0,.int .i64 1]) (by simp [results,Tryz.results61,go_sem]) rfl ?_
  exact ⟨0,1,rfl,.inr (.inr rfl),Lib.hid (fun h=>absurd h (by decide)),HO,hB1⟩
theorem isTerms_box {w:World} {b:Nat} {x y:ByteArray} {t:TypeId} (h:BoxT2 t w b (.string x) (.string y)):IsTerms w (.slice (some ⟨b,0,none⟩) 1 1) [(x,y)] :=
 ⟨some ⟨b,0,none⟩,1,rfl,Nat.le_refl _,fun _=>⟨b,0,rfl,fun k hk=>by
  obtain rfl:k=0:=by simpa using hk
  exact ⟨h.c0,h.c1⟩⟩⟩
theorem sub_den (z:Int) (p:Rat):((z:Rat) - p).den≤p.den:=by
 rw [← rat_sub]
 have e1:((z:Rat)).den=1:=rfl
 have e2:((z:Rat)).num=z:=rfl
 rw [e1,e2]
 have h:Rat.divInt (z * (p.den:Int) - p.num * ((1:Nat):Int)) (((1:Nat):Int) * (p.den:Int))=mkRat (z * (p.den:Int) - p.num * ((1:Nat):Int)) p.den:=by
  rw [show ((1:Nat):Int) * (p.den:Int)=((p.den:Nat):Int) by simp,Rat.divInt_ofNat]
 rw [h,Rat.den_mkRat]
 split
 ·exact p.den_pos
 ·exact Nat.div_le_self _ _
theorem order_ok (T:Terms) (z:Int) (D:Prop) (L:TTexts) (v:Value) (w:World) (hG:Glo w) (hP:Pri w) (hPl:SPl w) (hv:IsTerms w v L) (hT:ResT L T) (h12:L.length≤11) (hz:z.natAbs < 10 ^ 50)
  (hD:D→∃ p,T=oneT p 1∧Sz 27 p∧p.den≤1000∧z.natAbs < 10 ^ 27) :
  Calls Tryz.prog 215 #[v,.string (numS (z:Rat))] w (RetCm (fun P=>valT T P - (z:Rat)) D w):=by
 have hzz:Sz 60 (z:Rat):=sz_int (Nat.lt_of_lt_of_le hz (pow10_le (a:=50) (b:=60) (by decide))) (by decide)
 have H1:=Lib.hid (fun (x:Value) W hG hP (hx:IsTerms W x [(numS (z:Rat),⟨#[49]⟩)])=>MakeN_ok (z:Rat) (numS (z:Rat)) x W hG hP (numS_list _) hzz hx)
 have H2:=Lib.hid (fun (x:Value) W (hB:Below w.heap.size w W) (hx:IsTerms W x (oneL (z:Rat) 1))=>(CompareX_ok (oneT (z:Rat) 1) T D (oneL (z:Rat) 1) L x v W (hG.below hB) (hP.below hB) (hPl.below hB) hx (hv.below hB) ((oneSurd hzz).res (Nat.le_trans (oneL_len _ 1) (by decide))) hT (by have:=oneL_len (z:Rat) 1;omega) (fun h=>by
   obtain ⟨p,e,s,k,hz2⟩:=hD h
   exact ⟨_,_,rfl,e,sz_int (Nat.lt_of_lt_of_le hz2 (pow10_le (a:=27) (b:=28) (by decide))) (by decide),s,.inl (Nat.le_trans (sub_den z p) k)⟩)).mono fun e w' h=>(by
   obtain ⟨s,c,he,hr,hs,hd,hB⟩:=h
   exact ⟨s,c,he,hr,Lib.hid fun h0=>(hs.out h0).neg (g:=fun P=>valT T P - (z:Rat)) fun P=>by rw [valT_oneT];grind,hd,hB⟩:∃ s c:Int,e=.returned (.tuple #[.int .i64 s,.int .i64 c])∧SgnR s∧Hid (c=0→SgnIs (fun P=>valT T P - (z:Rat)) (-s))∧Hid (D→c=0)∧Below W.heap.size W w'))
 generalize (fun P=>valT T P - (z:Rat))=f at *
 have HG:=Lib.hid hG
 have HP:=Lib.hid hP
 generalize numS (z:Rat)=sz at *
 obtain ⟨a1,c1,rfl,_⟩:=hv
 clear hG hP hPl hT hz hzz hD
 go_enter Tryz.func215,Tryz.ntmps215
 go_wp2_with fail
 have hb0:Below w.heap.size w (w.alloc (.cells #[.string sz,.string ⟨#[49]⟩] 70)):=qbl
 have hx0:IsTerms (w.alloc (.cells #[.string sz,.string ⟨#[49]⟩] 70)) (.slice (some ⟨w.heap.size,0,none⟩) 1 1) [(sz,⟨#[49]⟩)]:=isTerms_box (t:=70) (BoxT2.new rfl)
 generalize w.alloc (.cells #[.string sz,.string ⟨#[49]⟩] 70)=W0 at *
 refine (H1.out _ _ (HG.out.below hb0) (HP.out.below hb0) hx0).mono ?_
 rintro e w1 ⟨x,rfl,hx,hB1⟩
 have hb1:=below_trans' hb0 hB1
 have H3:=Lib.hid (H2.out x w1 hb1 hx)
 obtain ⟨a3,c3,rfl,_⟩:=hx
 clear hB1 hb0 hx0 H1 H2
 go_wp2_with fail
 refine H3.out.mono ?_
 rintro e w2 ⟨s,c,rfl,hr,hs,hd,hB2⟩
 have hb2:=below_trans' hb1 hB2
 have hwn:IntKind.i64.wrap (-s)=-s:=IntWalk.i64_in _ (by rcases hr with rfl|rfl|rfl<;>decide)
 have hr2:SgnR (-s):=by rcases hr with rfl|rfl|rfl<;>simp [SgnR]
 clear hB2 H3
 go_wp2_with fail
 refine bodyPost_ret (v:=.tuple #[.int .i64 (-s),.int .i64 c]) (by simp [results,Tryz.results215,go_sem]) rfl ?_
 exact ⟨-s,c,rfl,hr2,hs,hd,hb2⟩
end Go.Proofs.YtbbclfbpllbbbaaGreatDoor
namespace Go.Proofs.YtbbclfbpllbbbaaGreatDoor
open Go.RowKit Go.Shelf
def longB (q:Rat):Bool:=decide (20 < (Lib.decDigits q.num.natAbs).length) || decide (20 < (Lib.decDigits q.den).length)
theorem longB_false {q:Rat} (h:longB q=false):Sz 20 q:=by
 unfold longB at h
 simp only [Bool.or_eq_false_iff,decide_eq_false_iff_not] at h
 exact ⟨lenSz (by omega),lenSz (by omega)⟩
theorem longB_sz {q:Rat} (h:Sz 20 q):longB q=false:=by
 unfold longB
 have h1:=len_of_lt h.1 (by decide)
 have h2:=len_of_lt h.2 (by decide)
 simp only [Bool.or_eq_false_iff,decide_eq_false_iff_not]
 omega
theorem encLong_ok (c:Rat) (s:ByteArray) (w:World) (hG:Glo w) (hs:s.data.toList=ratText c) (hc:Sz 60 c) :
  Calls Tryz.prog 213 #[.string s] w (RetB (.bool (longB c)) w):=by
 have HPA:=Lib.hid (PartsQ_ok (k:=60) s w hG hs hc (by decide))
 have HBL:Hid (longB c=(decide (20 < (Lib.decDigits c.num.natAbs).length) || decide (20 < (Lib.decDigits c.den).length))):=Lib.hid rfl
 obtain ⟨X,hX⟩:∃ X,(Lib.decDigits c.num.natAbs).length=X:=⟨_,rfl⟩
 obtain ⟨Y,hY⟩:∃ Y,(Lib.decDigits c.den).length=Y:=⟨_,rfl⟩
 rw [hX,hY] at HBL
 have HX:=Lib.hid hX
 have HY:=Lib.hid hY
 generalize longB c=B at *
 clear hG hs hc hX hY
 go_enter Tryz.func213,Tryz.ntmps213
 go_wp2_with fail
 refine HPA.out.mono ?_
 rintro e w1 ⟨a,b,ha,hb,rfl,hB1⟩
 have HTR:=Lib.hid (fun W=>trimPrefix_any a ⟨#[45]⟩ W (trimMinus ha.out))
 have hbl:b.size=Y:=by rw [← HY.out,← hb.out];rfl
 clear HPA
 go_wp2_with fail
 refine (HTR.out _).mono ?_
 rintro e w2 ⟨z,hz,rfl,rfl⟩
 have hzl:z.size=X:=by rw [← HX.out,← hz.out];rfl
 clear HTR
 by_cases h1:20 < X
 ·have h1I:(20:Int) < (z.size:Int):=by omega
  have HE:Hid (B=true):=Lib.hid (by rw [HBL.out,decide_eq_true h1];rfl)
  clear h1
  obtain rfl:=HE.out
  go_wp2_with fail
  go_ret
  exact ⟨rfl,hB1⟩
 ·have h1I:¬ (20:Int) < (z.size:Int):=by omega
  have HE:Hid (B=decide (20 < Y)):=Lib.hid (by rw [HBL.out,decide_eq_false h1];rfl)
  clear h1
  by_cases h2:20 < Y
  ·have h2I:(20:Int) < (b.size:Int):=by omega
   have HE2:Hid (B=true):=Lib.hid (by rw [HE.out,decide_eq_true h2])
   have h1X:¬ (20:Int) < (X:Int):=by omega
   have h2Y:(20:Int) < (Y:Int):=by omega
   clear h2 HE h1I
   obtain rfl:=HE2.out
   go_wp2_with fail
   go_ret
   exact ⟨by simp [h1X,h2Y],hB1⟩
  ·have h2I:¬ (20:Int) < (b.size:Int):=by omega
   have HE2:Hid (B=false):=Lib.hid (by rw [HE.out,decide_eq_false h2])
   have h1X:¬ (20:Int) < (X:Int):=by omega
   have h2Y:¬ (20:Int) < (Y:Int):=by omega
   clear h2 HE h1I
   obtain rfl:=HE2.out
   go_wp2_with fail
   go_ret
   exact ⟨by simp [h1X,h2Y],hB1⟩
theorem encCkF_ok (c:Rat) (s r:ByteArray) (w:World) (hG:Glo w) (hs:s.data.toList=ratText c) (hc:Sz 60 c) :
  Calls Tryz.prog 212 #[.agg #[.string s,.string r]] w (RetB (.bool (longB c)) w):=by
 have H:=Lib.hid (fun W hG=>encLong_ok c s W hG hs hc)
 have HG:=Lib.hid hG
 generalize longB c=B at *
 clear hG hs hc
 go_enter Tryz.func212,Tryz.ntmps212
 go_wp2_with fail
 refine (H.out _ (HG.out.below qbl)).mono ?_
 rintro e w1 ⟨rfl,hB1⟩
 have hb1:Below w.heap.size w w1:=qbl
 clear hB1
 go_wp2_with fail
 go_ret
 exact ⟨rfl,hb1⟩
theorem checkSurd_ok (T:Terms) (L:TTexts) (v:Value) (w:World) (hG:Glo w) (hP:Pri w) (hv:IsTerms w v L) (hT:ResT L T) :
  Calls Tryz.prog 172 #[v] w (RetC0 (SurdOk L∧Short20 T) w):=by
 have H1:=Lib.hid (sCheck_ok L v w hG hP hv hT.sizes)
 have H2:=Lib.hid (fun W (hB:Below w.heap.size w W)=>containsTerm_any 212 #[] L (fun i=>longB (tq T i).1) v W (hv.below hB) (by have:=hT.len;omega) (enters_of Tryz.func212 (by kernel_rfl) rfl) (fun i hi W2 hW2=>by
   have h:=encCkF_ok (tq T i).1 (tt L i).1 (tt L i).2 W2 (hG.below (below_trans' hB hW2)) (hT.c i hi) (longD_sz (hT.cz i hi))
   exact h))
 have HS:Hid ((∀ k,k < L.length→longB (tq T k).1=false)↔Short20 T):=Lib.hid ⟨fun h x hx=>by
   obtain ⟨k,hk,rfl⟩:=List.getElem_of_mem hx
   have hk2:k < L.length:=by rw [← hT.same];exact hk
   have h1:=h k hk2
   have h2:=hT.rn k hk2
   rw [tq_get hk] at h1 h2
   exact ⟨longB_false h1,lenSz h2⟩,fun h k hk=>by
   have hk2:k < T.length:=by rw [hT.same];exact hk
   exact longB_sz (h _ (tq_mem hk2)).1⟩
 generalize SurdOk L=C1 at *
 generalize Short20 T=C2 at *
 clear hG hP hT
 obtain ⟨a1,c1,rfl,_⟩:=hv
 go_enter Tryz.func172,Tryz.ntmps172
 go_wp2_with fail
 refine H1.out.mono ?_
 rintro e w1 ⟨k1,rfl,h1,hB1⟩
 by_cases hk1:k1=0
 ·have J1:=Lib.hid (h1.out.1 hk1)
  subst hk1
  clear h1 H1
  go_wp2_with fail
  refine (H2.out _ hB1).mono ?_
  rintro e w2 ⟨b,rfl,hb,hB2⟩
  have hb2:=below_trans' hB1 hB2
  clear hB2 H2
  cases b
  ·have J2:=Lib.hid (HS.out.1 (hb.out.1 rfl))
   clear hb HS
   go_wp2_with fail
   go_ret
   exact ⟨0,rfl,Lib.hid ⟨fun _=>⟨J1.out,J2.out⟩,fun _=>rfl⟩,hb2⟩
  ·have J2:Hid (¬ C2):=Lib.hid (fun h=>by have:=hb.out.2 (HS.out.2 h);cases this)
   clear hb HS
   go_wp2_with fail
   go_ret
   exact ⟨4,rfl,Lib.hid ⟨fun h=>absurd h (by decide),fun h=>absurd h.2 J2.out⟩,hb2⟩
 ·have J1:Hid (¬ C1):=Lib.hid (fun h=>hk1 (h1.out.2 h))
  clear h1 H1 H2 HS
  go_wp2_with fail
  go_ret
  exact ⟨1,rfl,Lib.hid ⟨fun h=>absurd h (by decide),fun h=>absurd h.1 J1.out⟩,hB1⟩
end Go.Proofs.YtbbclfbpllbbbaaGreatDoor
namespace Go.Proofs.YtbbclfbpllbbbaaGreatDoor
open Go.RowKit Go.Shelf
def CeilZ (f:Nat→Rat) (z:Int):Prop:=Near0 (fun P=>f P - (z:Rat))∨(PosF (fun P=>(z:Rat) - f P)∧PosF (fun P=>f P - ((z - 1:Int):Rat)))
def RetEn (f:Nat→Rat) (D:Prop) (w:World) (e:Ending) (w':World):Prop:=∃ (lo hi:ByteArray) (c:Int),e=.returned (.tuple #[.agg #[.string lo,.string hi],.int .i64 c])∧Hid (c=0→∃ z:Int,hi=numS (z:Rat)∧z.natAbs < 10 ^ 50∧CeilZ f z)∧Hid (D→c=0)∧Below w.heap.size w w'
theorem Tryz.infoRange:(Tryz.prog.info? 116).map (·.size)=some 2:=by kernel_rfl
structure DefZ (T:Terms) (z0:Int) (p:Rat):Prop where
 one:T=oneT p 1
 sz:Sz 20 p
 den:p.den≤1000
 z:smK T / 1000 - 1=z0
 zl:z0.natAbs < 10 ^ 15
 lo:(z0:Rat) < p
 hi:p < ((z0+2:Int):Rat)
theorem DefZ.sgn {T:Terms} {z0:Int} {p:Rat} (h:DefZ T z0 p) {z:Int} {s:Int} (hs:SgnIs (fun P=>valT T P - (z:Rat)) s):((z:Rat) < p→s=1)∧(p < (z:Rat)→s=-1):=by
 have e:(fun P=>valT T P - (z:Rat))=fun _=>p - (z:Rat):=funext fun P=>by rw [h.one,valT_oneT]
 rw [e] at hs
 refine ⟨fun h1=>hs.of_pos (PosF.const (c:=p - (z:Rat)) (by grind) fun _=>rfl),fun h1=>hs.of_neg (PosF.const (c:=(z:Rat) - p) (by grind) fun _=>by grind)⟩
theorem encOf_ok (T:Terms) (D:Prop) (L:TTexts) (v:Value) (w:World) (hG:Glo w) (hP:Pri w) (hPl:SPl w) (hv:IsTerms w v L) (hT:ResT L T) (h12:L.length≤11) (h20:Short20 T)
  (hD:D→∃ z0 p,DefZ T z0 p) :
  Calls Tryz.prog 173 #[v,.string ⟨#[49]⟩] w (RetEn (valT T) D w):=by
 have hTL:T.length≤12:=by rw [hT.same];omega
 have hTl:T.length=L.length:=hT.same
 obtain ⟨z0,hz0⟩:∃ z,smK T / 1000 - 1=z:=⟨_,rfl⟩
 have HN:=Lib.hid (fun W (hB:Below w.heap.size w W)=>near_ok T v W (hG.below hB) (by have:=hv.below hB;rw [hT.cls] at this;exact this) h20 hTL)
 rw [hz0] at HN
 have hz45:z0.natAbs≤10 ^ 45+1:=by
  have:=smK_lt h20 hTL
  omega
 have hD2:Hid (D→∃ p,DefZ T z0 p):=Lib.hid (fun h=>by
  obtain ⟨z,p,hd⟩:=hD h
  have:=hd.z
  rw [hz0] at this
  subst this
  exact ⟨p,hd⟩)
 have HO:=Lib.hid (fun (k:Nat) (hk:k≤20) W (hB:Below w.heap.size w W)=>order_ok T (z0+(k:Int)) D L v W (hG.below hB) (hP.below hB) (hPl.below hB) (hv.below hB) hT h12 (by
   have e:(10:Nat) ^ 45+30 < 10 ^ 50:=by decide
   omega) (fun h=>by
   obtain ⟨p,hd⟩:=hD2.out h
   have h1:=hd.zl
   have e:(10:Nat) ^ 15+30 < 10 ^ 27:=by decide
   exact ⟨p,hd.one,hd.sz.mono (by decide),hd.den,by omega⟩))
 have HAD:=Lib.hid (fun (k:Nat) (hk:k≤20) W hG=>(by
   have h:=(RAdd_ok (a:=50) (numS ((z0+(k:Int):Int):Rat)) ⟨#[49]⟩ W hG (numS_list _) (sz_int (by
    have e:(10:Nat) ^ 45+30 < 10 ^ 50:=by decide
    omega) (by decide)) one_text one_sz (by decide)).mono fun e w' h=>h.bb
   rw [show ((z0+(k:Int):Int):Rat)+1=((z0+((k+1:Nat):Int):Int):Rat) by rw [Rat.intCast_add,Rat.intCast_add];push_cast;grind] at h
   exact h:Calls Tryz.prog 51 #[.string (numS ((z0+(k:Int):Int):Rat)),.string ⟨#[49]⟩] W (RetB (.tuple #[.string (numS ((z0+((k+1:Nat):Int):Int):Rat)),.int .i64 0]) W)))
 have HZB:Hid (∀ k:Nat,k≤20→(z0+(k:Int)).natAbs < 10 ^ 50):=Lib.hid (fun k hk=>by
  have e:(10:Nat) ^ 45+30 < 10 ^ 50:=by decide
  omega)
 have HDS:Hid (D→∀ k:Nat,2≤k→∀ s,SgnIs (fun P=>valT T P - ((z0+(k:Int):Int):Rat)) s→s=-1):=Lib.hid (fun h k hk s hs=>by
  obtain ⟨p,hd⟩:=hD2.out h
  refine (hd.sgn hs).2 ?_
  have h1:=hd.hi
  have h2:((z0+2:Int):Rat)≤((z0+(k:Int):Int):Rat):=Rat.intCast_le_intCast.2 (by omega)
  grind)
 have HDS0:Hid (D→∀ s,SgnIs (fun P=>valT T P - ((z0+((0:Nat):Int):Int):Rat)) s→s=1):=Lib.hid (fun h s hs=>by
  obtain ⟨p,hd⟩:=hD2.out h
  refine (hd.sgn hs).1 ?_
  have h1:=hd.lo
  rw [show z0+((0:Nat):Int)=z0 by simp]
  exact h1)
 have e00:z0+((0:Nat):Int)=z0:=by simp
 have HO0:=Lib.hid (fun W (hB:Below w.heap.size w W)=>HO.out 0 (by decide) W hB)
 rw [e00] at HO0 HDS0
 obtain ⟨s0,hs00⟩:∃ s,numS (z0:Rat)=s:=⟨_,rfl⟩
 rw [hs00] at HO0 HN
 have hns:Hid (s0=numS ((z0+((0:Nat):Int):Int):Rat)):=Lib.hid (by rw [e00,hs00])
 have HE0:=Lib.hid e00
 generalize hf:valT T=vf at *
 have hlw:IntKind.i64.wrap ((L.length:Int)+4)=(L.length:Int)+4:=IntWalk.i64_in _ (by omega)
 obtain ⟨a1,c1,rfl,_⟩:=hv
 have HG:=Lib.hid hG
 clear hG hP hPl hT h20 hTL hD hz0 hz45 hD2 hf hTl e00 hs00
 go_enter Tryz.func173,Tryz.ntmps173
 go_wp2_with fail
 have hb0:Below w.heap.size w (w.alloc (.cells #[.string ⟨#[]⟩,.string ⟨#[]⟩] 116)):=qbl
 have x0:BoxT2 116 (w.alloc (.cells #[.string ⟨#[]⟩,.string ⟨#[]⟩] 116)) w.heap.size (.string ⟨#[]⟩) (.string ⟨#[]⟩):=BoxT2.new rfl
 generalize w.alloc (.cells #[.string ⟨#[]⟩,.string ⟨#[]⟩] 116)=W0 at *
 refine (HN.out _ hb0).mono ?_
 rintro e w1 ⟨rfl,hB1⟩
 have hb1:=below_trans' hb0 hB1
 replace x0:=x0.below hB1
 clear hB1 HN hb0
 go_wp2_with fail
 refine (HO0.out _ hb1).mono ?_
 rintro e w2 ⟨n0,c0,rfl,hr0,hs0,hd0,hB2⟩
 have hb2:=below_trans' hb1 hB2
 replace x0:=x0.below hB2
 clear hB2 hb1
 by_cases hz:c0=0∧n0=0
 ·obtain ⟨rfl,rfl⟩:=hz
  have HRES:Hid (∃ z:Int,s0=numS (z:Rat)∧z.natAbs < 10 ^ 50∧CeilZ vf z):=Lib.hid (⟨z0+((0:Nat):Int),hns.out,HZB.out 0 (by decide),.inl (by
   rw [HE0.out]
   rcases hs0.out rfl with ⟨h,_⟩|⟨h,_⟩|⟨_,h⟩
   ·cases h
   ·cases h
   ·exact h)⟩)
  clear hs0 hd0
  go_wp2_with (refine wpList_store2 rfl _ _ _ rfl x0 Tryz.infoRange rfl rfl rfl rfl (fun W hS hx=>?_);have hbz:=Lib.hid (hS.below hb2 (by simp));have g0:=hx.c0;have g1:=hx.c1;clear hS hx)
  refine bodyPost_ret (v:=.tuple #[.agg #[.string s0,.string s0],.int .i64 0]) (by simp [results,Tryz.results173,go_sem,g0,g1]) rfl ?_
  exact ⟨s0,s0,0,rfl,Lib.hid (fun _=>HRES.out),Lib.hid (fun _=>rfl),hbz.out⟩
 ·have hcase:(c0=0∧(n0 == 0)=false∧¬ n0=0)∨(¬ c0=0∧(c0 == 0)=false):=by
   by_cases h:c0=0
   ·exact .inl ⟨h,by simpa using fun h2=>hz ⟨h,h2⟩,fun h2=>hz ⟨h,h2⟩⟩
   ·exact .inr ⟨h,by simpa using h⟩
  have HI0:Hid (D→c0=0∧n0=1):=Lib.hid (fun h=>⟨hd0.out h,HDS0.out h n0 (hs0.out (hd0.out h))⟩)
  have HI1:Hid (c0=0→n0≠0):=Lib.hid (fun h h2=>hz ⟨h,h2⟩)
  clear hz hd0 HDS0 HO0
  rcases hcase with ⟨hc0,hdec,hn0⟩|⟨hc0,hdec⟩
  all_goals (
   first|subst hc0|skip
   go_wp2_with fail
   go_loopw [6,8,9,42] (fun lo n f i wr=>∃ (k:Nat) (nn ff:Int),k≤L.length+4∧i=.int .i64 k∧lo=.string (numS ((z0+(k:Int):Int):Rat))∧n=.int .i64 nn∧f=.int .i64 ff∧SgnR nn∧Hid (ff=0→SgnIs (fun P=>vf P - ((z0+(k:Int):Int):Rat)) nn)∧Hid (D→ff=0∧nn=1)∧Hid (ff=0→nn≠0)∧BoxT2 116 wr w.heap.size (.string ⟨#[]⟩) (.string ⟨#[]⟩)∧Below w.heap.size w wr) (fun _ _ _ i _=>L.length+4 - (intOf i).toNat)
   case atStart=>exact ⟨0,n0,_,by omega,rfl,by rw [hns.out],rfl,rfl,hr0,Lib.hid (by rw [HE0.out];first|exact hs0.out|exact fun _=>hs0.out trivial|exact fun h=>absurd h hc0),Lib.hid (by first|exact HI0.out|exact fun h=>⟨rfl,(HI0.out h).2⟩|exact fun h=>⟨rfl,HI0.out h⟩|exact fun h=>absurd h HI0.out|exact fun h=>(HI0.out h).1.elim|exact fun h=>(HI0.out h).elim),Lib.hid (by first|exact HI1.out|exact fun _=>HI1.out trivial|exact fun h=>absurd h hc0),x0,hb2⟩
   case round =>
    clear hr0 hs0 HI0 HI1 x0 hb2 hns HE0
    obtain ⟨k,nn,ff,hk,rfl,rfl,rfl,rfl,hrn,hsn,hin,hzn,x1,hB⟩:=hrel
    by_cases hkl:k < L.length+4
    ·have HA:=Lib.hid (HAD.out k (by omega))
     have HC:=Lib.hid (HO.out (k+1) (by omega))
     have HZ1:=Lib.hid (HZB.out (k+1) (by omega))
     have hkI:(k:Int) < (L.length:Int)+4:=by omega
     have hk1:IntKind.i64.wrap ((k:Int)+1)=((k+1:Nat):Int):=IntWalk.i64_in _ (by omega)
     obtain ⟨Z,hZ⟩:∃ Z,z0+(k:Int)=Z:=⟨_,rfl⟩
     have hZ1:z0+((k+1:Nat):Int)=Z+1:=by omega
     rw [hZ] at HA hsn ⊢
     rw [hZ1] at HA HC HZ1
     have HZZ:=Lib.hid hZ1
     clear hZ hZ1
     obtain ⟨sl,hsl⟩:∃ s,numS (Z:Rat)=s:=⟨_,rfl⟩
     obtain ⟨sn,hsn1⟩:∃ s,numS ((Z+1:Int):Rat)=s:=⟨_,rfl⟩
     rw [hsl] at HA ⊢
     rw [hsn1] at HA HC
     have HSN:=Lib.hid hsn1
     clear hsl hsn1
     go_wp2_with fail
     refine (HA.out _ (HG.out.below hB)).mono ?_
     rintro e w3 ⟨rfl,hB3⟩
     have hb3:=below_trans' hB hB3
     replace x1:=x1.below hB3
     clear hB3 HA
     go_wp2_with fail
     refine (HC.out _ hb3).mono ?_
     rintro e w4 ⟨m,c,rfl,hrm,hsm,hdm,hB4⟩
     have hb4:=below_trans' hb3 hB4
     replace x1:=x1.below hB4
     clear hB4 HC hb3 hB
     by_cases hc:c=0
     ·replace hsm:=Lib.hid (hsm.out hc)
      subst hc
      by_cases hm0:m=0
      ·subst hm0
       have HRES:Hid (∃ z:Int,sn=numS (z:Rat)∧z.natAbs < 10 ^ 50∧CeilZ vf z):=Lib.hid (⟨Z+1,HSN.out.symm,HZ1.out,.inl (by
        rcases hsm.out with ⟨h,_⟩|⟨h,_⟩|⟨_,h⟩
        ·cases h
        ·cases h
        ·exact h)⟩)
       clear hsm hsn hin hzn hdm
       go_wp2_with (refine wpList_store2 rfl _ _ _ rfl x1 Tryz.infoRange rfl rfl rfl rfl (fun W hS hx=>?_);have hbz:=Lib.hid (hS.below hb4 (by simp));have g0:=hx.c0;have g1:=hx.c1;clear hS hx)
       refine bodyPost_ret (v:=.tuple #[.agg #[.string sn,.string sn],.int .i64 0]) (by simp [results,Tryz.results173,go_sem,g0,g1]) rfl ?_
       exact ⟨sn,sn,0,rfl,Lib.hid (fun _=>HRES.out),Lib.hid (fun _=>rfl),hbz.out⟩
      ·by_cases hff:ff=0
       ·replace hsn:=Lib.hid (hsn.out hff)
        subst hff
        by_cases hnp:0 < nn
        ·by_cases hmn:m < 0
         ·have HRES:Hid (∃ z:Int,sn=numS (z:Rat)∧z.natAbs < 10 ^ 50∧CeilZ vf z):=Lib.hid (⟨Z+1,HSN.out.symm,HZ1.out,.inr ⟨by
           rcases hsm.out with ⟨h,_⟩|⟨_,h⟩|⟨h,_⟩
           ·omega
           ·have e:(fun P=>-(vf P - ((Z+1:Int):Rat)))=fun P=>((Z+1:Int):Rat) - vf P:=funext fun P=>by grind
            rw [← e];exact h
           ·omega,by
           rcases hsn.out with ⟨_,h⟩|⟨h,_⟩|⟨h,_⟩
           ·rw [show Z+1 - 1=Z by omega];exact h
           ·omega
           ·omega⟩⟩)
          clear hsm hsn hin hzn hdm hrm hrn
          go_wp2_with (refine wpList_store2 rfl _ _ _ rfl x1 Tryz.infoRange rfl rfl rfl rfl (fun W hS hx=>?_);have hbz:=Lib.hid (hS.below hb4 (by simp));have g0:=hx.c0;have g1:=hx.c1;clear hS hx)
          refine bodyPost_ret (v:=.tuple #[.agg #[.string sl,.string sn],.int .i64 0]) (by simp [results,Tryz.results173,go_sem,g0,g1]) rfl ?_
          exact ⟨sl,sn,0,rfl,Lib.hid (fun _=>HRES.out),Lib.hid (fun _=>rfl),hbz.out⟩
         ·have HI:Hid (D→m=1):=Lib.hid (fun _=>by rcases hrm with h|h|h<;>omega)
          have HM0:Hid (m≠0):=Lib.hid hm0
          clear hsn hin hzn hdm
          go_wp2_with fail
          go_roundw
          case rel=>exact ⟨k+1,m,0,by omega,by go_num,by rw [HZZ.out,HSN.out],rfl,rfl,hrm,Lib.hid (by rw [HZZ.out];exact fun _=>hsm.out),Lib.hid (fun h=>⟨rfl,HI.out h⟩),Lib.hid (fun _=>HM0.out),x1,hb4⟩
          case measure=>simp [intOf];omega
        ·have HI:Hid (D→m=1):=Lib.hid (fun h=>by have:=(hin.out h).2;omega)
         have HM0:Hid (m≠0):=Lib.hid hm0
         clear hsn hin hzn hdm
         go_wp2_with fail
         go_roundw
         case rel=>exact ⟨k+1,m,0,by omega,by go_num,by rw [HZZ.out,HSN.out],rfl,rfl,hrm,Lib.hid (by rw [HZZ.out];exact fun _=>hsm.out),Lib.hid (fun h=>⟨rfl,HI.out h⟩),Lib.hid (fun _=>HM0.out),x1,hb4⟩
         case measure=>simp [intOf];omega
       ·have HI:Hid (D→m=1):=Lib.hid (fun h=>absurd (hin.out h).1 hff)
        have HM0:Hid (m≠0):=Lib.hid hm0
        clear hsn hin hzn hdm
        go_wp2_with fail
        go_roundw
        case rel=>exact ⟨k+1,m,0,by omega,by go_num,by rw [HZZ.out,HSN.out],rfl,rfl,hrm,Lib.hid (by rw [HZZ.out];exact fun _=>hsm.out),Lib.hid (fun h=>⟨rfl,HI.out h⟩),Lib.hid (fun _=>HM0.out),x1,hb4⟩
        case measure=>simp [intOf];omega
     ·have HI:Hid (D→c=0∧m=1):=Lib.hid (fun h=>absurd (hdm.out h) hc)
      have HM0:Hid (c=0→m≠0):=Lib.hid (fun h=>absurd h hc)
      by_cases hff:ff=0
      ·subst hff
       clear hsn hin hzn hdm
       go_wp2_with fail
       go_roundw
       case rel=>exact ⟨k+1,m,c,by omega,by go_num,by rw [HZZ.out,HSN.out],rfl,rfl,hrm,by rw [HZZ.out];exact hsm,HI,HM0,x1,hb4⟩
       case measure=>simp [intOf];omega
      ·clear hsn hin hzn hdm
       go_wp2_with fail
       go_roundw
       case rel=>exact ⟨k+1,m,c,by omega,by go_num,by rw [HZZ.out,HSN.out],rfl,rfl,hrm,by rw [HZZ.out];exact hsm,HI,HM0,x1,hb4⟩
       case measure=>simp [intOf];omega
    ·obtain rfl:k=L.length+4:=by omega
     have HND:Hid (D→(4:Int)=0):=Lib.hid (fun h=>by
      obtain ⟨h1,h2⟩:=hin.out h
      have h3:=HDS.out h (L.length+4) (by omega) nn (hsn.out h1)
      omega)
     clear hsn hin hzn
     go_wp2_with (refine wpList_store2 rfl _ _ _ rfl x1 Tryz.infoRange rfl rfl rfl rfl (fun W hS hx=>?_);have hbz:=Lib.hid (hS.below hB (by simp));have g0:=hx.c0;have g1:=hx.c1;clear hS hx)
     refine bodyPost_ret (v:=.tuple #[.agg #[.string ⟨#[]⟩,.string ⟨#[]⟩],.int .i64 4]) (by simp [results,Tryz.results173,go_sem,g0,g1]) rfl ?_
     exact ⟨_,_,4,rfl,Lib.hid (fun h=>absurd h (by decide)),HND,hbz.out⟩)
theorem EncOf_ok (T:Terms) (D:Prop) (L:TTexts) (v:Value) (w:World) (hG:Glo w) (hP:Pri w) (hPl:SPl w) (hv:IsTerms w v L) (hT:ResT L T) (h12:L.length≤11)
  (hD:D→(∃ z0 p,DefZ T z0 p)∧SurdOk L∧Short20 T) :
  Calls Tryz.prog 113 #[v,.int .i64 0] w (RetEn (valT T) D w):=by
 have H1:=Lib.hid (fun W (hB:Below w.heap.size w W)=>checkSurd_ok T L v W (hG.below hB) (hP.below hB) (hv.below hB) hT)
 have H2:=Lib.hid (fun (h:Short20 T) W (hB:Below w.heap.size w W)=>encOf_ok T D L v W (hG.below hB) (hP.below hB) (hPl.below hB) (hv.below hB) hT h12 h (fun h=>(hD h).1))
 have HD:=Lib.hid (fun h=>(hD h).2)
 generalize valT T=vf at *
 have H0:∀ W,Calls Tryz.prog 174 #[.int .i64 0] W (RetB (.string ⟨#[49]⟩) W):=by
  intro W
  clear H1 H2 HD hD hG hP hPl hv hT
  go_enter Tryz.func174,Tryz.ntmps174
  go_wp2_with fail
  go_ret
  exact ⟨rfl,qbl⟩
 have HU:=Lib.hid H0
 clear hG hP hPl hT hD H0
 obtain ⟨a1,c1,rfl,_⟩:=hv
 go_enter Tryz.func113,Tryz.ntmps113
 go_wp2_with fail
 have hb0:Below w.heap.size w (w.alloc (.cells #[.string ⟨#[]⟩,.string ⟨#[]⟩] 116)):=qbl
 have x0:BoxT2 116 (w.alloc (.cells #[.string ⟨#[]⟩,.string ⟨#[]⟩] 116)) w.heap.size (.string ⟨#[]⟩) (.string ⟨#[]⟩):=BoxT2.new rfl
 generalize w.alloc (.cells #[.string ⟨#[]⟩,.string ⟨#[]⟩] 116)=W0 at *
 refine (H1.out _ hb0).mono ?_
 rintro e w1 ⟨k,rfl,hk,hB1⟩
 have hb1:=below_trans' hb0 hB1
 replace x0:=x0.below hB1
 clear hB1 H1 hb0
 by_cases hk0:k=0
 ·have H3:=Lib.hid (H2.out (hk.out.1 hk0).2)
  subst hk0
  clear hk H2 HD
  go_wp2_with fail
  refine (HU.out _).mono ?_
  rintro e w2 ⟨rfl,hB2⟩
  have hb2:=below_trans' hb1 hB2
  replace x0:=x0.below hB2
  clear hB2 HU hb1
  go_wp2_with fail
  refine (H3.out _ hb2).mono ?_
  rintro e w3 ⟨lo,hi,c,rfl,hr,hd,hB3⟩
  have hb3:=below_trans' hb2 hB3
  replace x0:=x0.below hB3
  clear hB3 H3 hb2
  go_wp2_with (refine wpList_store2 rfl _ _ _ rfl x0 Tryz.infoRange rfl rfl rfl rfl (fun W hS hx=>?_);have hbz:=Lib.hid (hS.below hb3 (by simp));have g0:=hx.c0;have g1:=hx.c1;clear hS hx)
  refine bodyPost_ret (v:=.tuple #[.agg #[.string lo,.string hi],.int .i64 c]) (by simp [results,Tryz.results113,go_sem,g0,g1]) rfl ?_
  exact ⟨lo,hi,c,rfl,hr,hd,hbz.out⟩
 ·have HN:Hid (D→k=0):=Lib.hid (fun h=>hk.out.2 (HD.out h))
  clear hk H2 HD
  go_wp2_with (refine wpList_store2 rfl _ _ _ rfl x0 Tryz.infoRange rfl rfl rfl rfl (fun W hS hx=>?_);have hbz:=Lib.hid (hS.below hb1 (by simp));have g0:=hx.c0;have g1:=hx.c1;clear hS hx)
  refine bodyPost_ret (v:=.tuple #[.agg #[.string ⟨#[]⟩,.string ⟨#[]⟩],.int .i64 k]) (by simp [results,Tryz.results113,go_sem,g0,g1]) rfl ?_
  exact ⟨_,_,k,rfl,Lib.hid (fun h=>absurd h hk0),HN,hbz.out⟩
end Go.Proofs.YtbbclfbpllbbbaaGreatDoor
namespace Go.Proofs.YtbbclfbpllbbbaaGreatDoor
open Go
theorem parse_cases:∀ (l:List UInt8) (acc:Nat),(∀ c ∈ l,isDig c=true)→Lib.parseUint10 acc l=.range∨Lib.parseUint10 acc l=.ok (l.foldl (fun a c=>10 * a+(c.toNat - 48)) acc)
 | [],acc,_=>.inr rfl
 | c::r,acc,h=>by
  have hc:=(isDig_iff c).1 (h c (by simp))
  rw [Lib.parseUint10,if_pos hc]
  split
  ·exact .inl rfl
  ·split
   ·exact .inl rfl
   ·have e:=parse_cases r (acc * 10+(c.toNat - 48)) fun d hd=>h d (by simp [hd])
    rw [List.foldl_cons,Nat.mul_comm 10 acc]
    exact e
theorem atoi_range {n:Int} (h:n < -9223372036854775808∨9223372036854775807 < n):Lib.atoiAll (Lib.itoa n)=.range:=by
 have hp:Lib.parseMag (Lib.decDigits n.natAbs)=.range∨Lib.parseMag (Lib.decDigits n.natAbs)=.ok n.natAbs:=by
  unfold Lib.parseMag
  rw [if_neg (decDigits_ne _)]
  rcases parse_cases (Lib.decDigits n.natAbs) 0 (decDigits_isDig _) with h|h
  ·exact .inl h
  ·right
   rw [h]
   have:=dval_decDigits n.natAbs
   unfold dval at this
   rw [this]
 rcases itoa_cases n with ⟨h1,e⟩|⟨h1,e⟩
 ·rw [e,Lib.atoiAll_minus]
  rcases hp with hp|hp
  ·rw [hp];rfl
  ·rw [hp];unfold Lib.signed;simp only [];rw [if_pos (by omega)]
 ·rw [e]
  cases hd:Lib.decDigits n.natAbs with
  | nil=>exact absurd hd (decDigits_ne _)
  | cons c r =>
   have hc:=(isDig_iff c).1 (decDigits_isDig n.natAbs c (by rw [hd];simp))
   rw [Lib.atoiAll_plain c r (by omega) (by omega),← hd]
   rcases hp with hp|hp
   ·rw [hp];rfl
   ·rw [hp];unfold Lib.signless;simp only [];rw [if_pos (by omega)]
end Go.Proofs.YtbbclfbpllbbbaaGreatDoor
namespace Go.Proofs.YtbbclfbpllbbbaaGreatDoor
open Go.RowKit Go.Shelf
def RetZ (z:Int) (w:World) (e:Ending) (w':World):Prop:=∃ k c:Int,e=.returned (.tuple #[.int .i64 k,.int .i64 c])∧Hid (c=0→k=z∧-4611686018427387904≤z∧z≤4611686018427387904)∧Hid (z.natAbs≤1152921504606846976→c=0)∧Below w.heap.size w w'
theorem atoi_range_any (s:ByteArray) (w:World) (hE:Erg w) (hs:s.size≤1000) (h:Lib.atoiAll s.data.toList=.range) :
  Calls Tryz.prog 175 #[.string s] w (fun e w'=>∃ v te pe,e=.returned (.tuple #[.int .i64 v,.iface te pe])∧Below w.heap.size w w'):=by
 obtain ⟨te,pe,hE⟩:=hE
 refine (Tryz.strconv_Atoi_range s (by omega) h _ w hE (.inr ⟨_,_,rfl⟩)).mono fun e w' ⟨N,he,_,_,hB⟩=>⟨_,_,_,he,hB⟩
theorem IntZ_ok (z:Int) (s:ByteArray) (w:World) (hG:Glo w) (hE:Erg w) (hs:s.data.toList=ratText (z:Rat)) (hz:z.natAbs < 10 ^ 50) :
  Calls Tryz.prog 114 #[.string s] w (RetZ z w):=by
 by_cases h60:z.natAbs≤1152921504606846976
 ·exact (Int_q z s w hG hs h60).mono fun e w' ⟨he,hB⟩=>⟨z,0,he,Lib.hid fun _=>⟨rfl,by omega,by omega⟩,Lib.hid fun _=>rfl,hB⟩
 have hsz:Sz 50 (z:Rat):=sz_int hz (by decide)
 have RS:=Lib.hid (fun W hG=>read_any s W hG hs hsz (by omega))
 have HG:=Lib.hid hG
 have HE:=Lib.hid hE
 have hal:Hid (∀ a:ByteArray,a.data.toList=Lib.itoa ((z:Rat)).num→a.size≤1000):=Lib.hid (fun a ha=>by
  have h1:=itoa_len_le (n:=z) (k:=50) hz (by omega)
  have h2:a.size=a.data.toList.length:=rfl
  rw [h2,ha,Rat.num_intCast]
  exact Nat.le_trans h1 (by omega))
 by_cases hr:z < -9223372036854775808∨9223372036854775807 < z
 ·have hat:=Lib.hid (atoi_range hr)
  clear hs hG hE hsz hz hr
  go_enter Tryz.func114,Tryz.ntmps114
  go_wp2_with fail
  refine (RS.out _ HG.out).mono ?_
  rintro e w1 ⟨a,b,ha,hb,rfl,hB1⟩
  have hb1:=eq_of_list (s:=b) (m:=[49]) (by rw [hb.out];exact one_digits)
  have hba:Below w.heap.size w (w1.alloc (.cells #[.string a,.string b] 156)):=bw4 hB1 _
  go_wp2_with fail
  refine (atoi_range_any a _ (HE.out.below qbl) (hal.out a ha.out) (by rw [ha.out,Rat.num_intCast];exact hat.out)).mono ?_
  rintro e w2 ⟨v,te,pe,rfl,hB2⟩
  have hb2:Below w.heap.size w w2:=qbl
  clear hB2
  go_wp2_with fail
  go_ret2
  exact ⟨0,2,rfl,Lib.hid fun h=>absurd h (by decide),Lib.hid fun h=>absurd h h60,hb2⟩
 ·have hat:=Lib.hid (atoi_itoa (n:=z) (by omega) (by omega))
  clear hs hG hE hsz hz
  by_cases hlo:z < -4611686018427387904
  ·clear hr
   go_enter Tryz.func114,Tryz.ntmps114
   go_wp2_with fail
   refine (RS.out _ HG.out).mono ?_
   rintro e w1 ⟨a,b,ha,hb,rfl,hB1⟩
   have hb1:=eq_of_list (s:=b) (m:=[49]) (by rw [hb.out];exact one_digits)
   go_wp2_with fail
   refine (atoi_any a _ (hal.out a ha.out) (by rw [ha.out,Rat.num_intCast];exact hat.out)).mono ?_
   rintro e w2 ⟨rfl,hB2⟩
   have hb2:Below w.heap.size w w2:=qbl
   clear hB2
   go_wp2_with fail
   go_ret2
   exact ⟨0,2,rfl,Lib.hid fun h=>absurd h (by decide),Lib.hid fun h=>absurd h h60,hb2⟩
  ·by_cases hhi:4611686018427387904 < z
   ·clear hr
    go_enter Tryz.func114,Tryz.ntmps114
    go_wp2_with fail
    refine (RS.out _ HG.out).mono ?_
    rintro e w1 ⟨a,b,ha,hb,rfl,hB1⟩
    have hb1:=eq_of_list (s:=b) (m:=[49]) (by rw [hb.out];exact one_digits)
    go_wp2_with fail
    refine (atoi_any a _ (hal.out a ha.out) (by rw [ha.out,Rat.num_intCast];exact hat.out)).mono ?_
    rintro e w2 ⟨rfl,hB2⟩
    have hb2:Below w.heap.size w w2:=qbl
    clear hB2
    go_wp2_with fail
    go_ret2
    exact ⟨0,2,rfl,Lib.hid fun h=>absurd h (by decide),Lib.hid fun h=>absurd h h60,hb2⟩
   ·clear hr
    go_enter Tryz.func114,Tryz.ntmps114
    go_wp2_with fail
    refine (RS.out _ HG.out).mono ?_
    rintro e w1 ⟨a,b,ha,hb,rfl,hB1⟩
    have hb1:=eq_of_list (s:=b) (m:=[49]) (by rw [hb.out];exact one_digits)
    go_wp2_with fail
    refine (atoi_any a _ (hal.out a ha.out) (by rw [ha.out,Rat.num_intCast];exact hat.out)).mono ?_
    rintro e w2 ⟨rfl,hB2⟩
    have hb2:Below w.heap.size w w2:=qbl
    clear hB2
    go_wp2_with fail
    go_ret2
    exact ⟨z,0,rfl,Lib.hid fun _=>⟨rfl,by omega,by omega⟩,Lib.hid fun _=>rfl,hb2⟩
def UnitOk (n:Int):Prop:=1≤n∧n≤5000
theorem UnitOk.sz {n:Int} (h:UnitOk n):Sz 4 (n:Rat):=sz_int (by obtain ⟨a,b⟩:=h;omega) (by decide)
theorem unit_num {n:Int}:((n:Rat)).num=n:=rfl
theorem compareInt_pos {x:Int} (h:0 < x):Lib.compareInt x 0=1:=by
 unfold Lib.compareInt
 rw [if_neg (by omega),if_pos h]
theorem rndCheck_ok (T:Terms) (L:TTexts) (n:Int) (v:Value) (w:World) (hG:Glo w) (hP:Pri w) (hv:IsTerms w v L) (hT:ResT L T) (hn:UnitOk n) :
  Calls Tryz.prog 171 #[v,.string (numS (n:Rat))] w (RetC0 (SurdOk L) w):=by
 have H1:=Lib.hid (sCheck_ok L v w hG hP hv hT.sizes)
 have H2:=Lib.hid (fun W hG=>RCheck_ok (numS (n:Rat)) W hG (numS_list _) hn.sz (by decide))
 have H3:=Lib.hid (fun W hG=>RCompare_ok (numS (n:Rat)) ⟨#[48]⟩ W hG (numS_list _) hn.sz zero_text' zero_sz' (by decide))
 have e:Lib.compareInt (((n:Rat)).num * (((0:Rat)).den:Int)) (((0:Rat)).num * (((n:Rat)).den:Int))=1:=by
  show Lib.compareInt (n * 1) (0 * 1)=1
  rw [Int.mul_one,Int.zero_mul]
  exact compareInt_pos (by have:=hn.1;omega)
 rw [e] at H3
 have HG:=Lib.hid hG
 generalize SurdOk L=C at *
 generalize numS (n:Rat)=sn at *
 clear hG hP hT hn e
 obtain ⟨a1,c1,rfl,_⟩:=hv
 go_enter Tryz.func171,Tryz.ntmps171
 go_wp2_with fail
 refine H1.out.mono ?_
 rintro e w1 ⟨k1,rfl,h1,hB1⟩
 by_cases hk1:k1=0
 ·have J1:=Lib.hid (h1.out.1 hk1)
  subst hk1
  clear h1 H1
  go_wp2_with fail
  refine (H2.out _ (HG.out.below hB1)).mono ?_
  rintro e w2 ⟨rfl,hB2⟩
  have hb2:=below_trans' hB1 hB2
  clear hB2 H2
  go_wp2_with fail
  refine (H3.out _ (HG.out.below hb2)).mono ?_
  rintro e w3 ⟨rfl,hB3⟩
  have hb3:=below_trans' hb2 hB3
  clear hB3 H3
  go_wp2_with fail
  go_ret
  exact ⟨0,rfl,Lib.hid ⟨fun _=>J1.out,fun _=>rfl⟩,hb3⟩
 ·have J1:Hid (¬ C):=Lib.hid (fun h=>hk1 (h1.out.2 h))
  clear h1 H1 H2 H3
  go_wp2_with fail
  go_ret
  exact ⟨1,rfl,Lib.hid ⟨fun h=>absurd h (by decide),fun h=>absurd h J1.out⟩,hB1⟩
theorem inv_sz {n:Int} (h:UnitOk n):Sz 8 ((1:Rat) / (n:Rat)) :=
 (Sz.div (a:=1) (b:=4) one_sz h.sz (by rw [unit_num];have:=h.1;omega)).mono (by decide)
theorem units_ok (T:Terms) (D:Option Rat) (L:TTexts) (n:Int) (v:Value) (w:World) (hG:Glo w) (hP:Pri w) (hv:IsTerms w v L) (hT:ResT L T) (hn:UnitOk n)
  (hD:∀ d,D=some d→∃ p,T=oneT p 1∧d=p * (1 / (n:Rat))∧Sz 20 p) :
  Calls Tryz.prog 112 #[v,.string (numS (n:Rat))] w (RetMX (fun P=>(1 / (n:Rat)) * valT T P) D L.length w):=by
 have H1:=Lib.hid (rndCheck_ok T L n v w hG hP hv hT hn)
 have H2:=Lib.hid (fun W hG=>(RDiv_ok ⟨#[49]⟩ (numS (n:Rat)) W hG one_text one_sz (numS_list _) hn.sz (by decide) (by rw [unit_num];have:=hn.1;omega)).mono fun e w' h=>h.bb)
 have H3:=Lib.hid (fun W hB=>ScaleX_ok T (1 / (n:Rat)) D L v (numS (1 / (n:Rat))) W (hG.below hB) (hP.below hB) (hv.below hB) hT (numS_list _) ((inv_sz hn).mono (by decide)) (fun d h=>by
  obtain ⟨p,e1,e2,e3⟩:=hD d h
  exact ⟨p,e1,e2,e3.mono (by decide),(e3.mul (inv_sz hn)).mono (by decide)⟩))
 have HS:Hid (∀ p,D=some p→SurdOk L):=Lib.hid (fun d h=>by
  obtain ⟨p,e1,e2,e3⟩:=hD d h
  rw [e1] at hT
  exact ⟨_,hT.one (e3.mono (by decide))⟩)
 have HG:=Lib.hid hG
 generalize numS ((1:Rat) / (n:Rat))=si at *
 generalize numS (n:Rat)=sn at *
 generalize (fun P=>(1 / (n:Rat)) * valT T P)=f at *
 clear hG hP hT hn hD
 obtain ⟨a1,c1,rfl,_⟩:=hv
 go_enter Tryz.func112,Tryz.ntmps112
 go_wp2_with fail
 refine H1.out.mono ?_
 rintro e w1 ⟨k1,rfl,h1,hB1⟩
 by_cases hk1:k1=0
 ·subst hk1
  clear h1 H1 HS
  go_wp2_with fail
  refine (H2.out _ (HG.out.below hB1)).mono ?_
  rintro e w2 ⟨rfl,hB2⟩
  have hb2:=below_trans' hB1 hB2
  clear hB2 H2
  go_wp2_with fail
  refine (H3.out _ hb2).mono ?_
  rintro e w3 ⟨x,c,L',rfl,hx,hT,hd,hB3⟩
  have hb3:=below_trans' hb2 hB3
  have HX:=Lib.hid hx
  obtain ⟨xa,xc,rfl,_⟩:=hx
  clear hB3 H3
  go_wp2_with fail
  refine bodyPost_ret (v:=.tuple #[.slice xa L'.length xc,.int .i64 c]) (by simp [results,Tryz.results112,go_sem]) rfl ?_
  exact ⟨_,c,L',rfl,HX.out,hT,hd,hb3⟩
 ·have HN:Hid (∀ p,D=some p→k1=0):=Lib.hid (fun p h=>h1.out.2 (HS.out p h))
  clear h1 H1 H2 H3 HS
  go_wp2_with fail
  refine bodyPost_ret (v:=.tuple #[.slice none 0 0,.int .i64 k1]) (by simp [results,Tryz.results112,go_sem]) rfl ?_
  exact ⟨_,k1,[],rfl,isTerms_nil,Lib.hid (fun h=>absurd h hk1),HN,hB1⟩
def RetSt (f:Nat→Rat) (D:Prop) (w:World) (e:Ending) (w':World):Prop:=∃ k c:Int,e=.returned (.tuple #[.int .i64 k,.int .i64 c])∧Hid (c=0→CeilZ f k∧-4611686018427387904≤k∧k≤4611686018427387904)∧Hid (D→c=0)∧Below w.heap.size w w'
theorem CeilZ.near {f g:Nat→Rat} {z:Int} (h:CeilZ f z) (n:Near0 (fun P=>f P - g P)):CeilZ g z:=by
 rcases h with h|⟨h1,h2⟩
 ·exact .inl ((n.mul (k:=-1) (h:=fun P=>-1 * (f P - g P)) fun P=>rfl).add h fun P=>by grind)
 ·exact .inr ⟨h1.near n fun P=>by grind,h2.near (n.mul (k:=-1) fun P=>rfl) fun P=>by grind⟩
theorem pos_const {c d:Rat} (h:PosF fun _=>c - d):d < c:=by
 refine Rat.not_le.1 fun h2=>?_
 rcases Rat.le_iff_lt_or_eq.1 h2 with h3|h3
 ·exact h.notNeg (PosF.const (f:=fun _=>d - c) (c:=d - c) (by grind) fun _=>rfl) fun _=>by grind
 ·exact not_pos_zero h fun _=>by grind
theorem near_const {c d:Rat} (h:Near0 fun _=>c - d):c=d:=by
 rcases (Rat.le_total:c≤d∨d≤c) with h2|h2
 ·rcases Rat.le_iff_lt_or_eq.1 h2 with h3|h3
  ·exact ((PosF.const (f:=fun _=>d - c) (c:=d - c) (by grind) fun _=>rfl).notNear (h.mul (k:=-1) fun _=>by grind)).elim
  ·exact h3
 ·rcases Rat.le_iff_lt_or_eq.1 h2 with h3|h3
  ·exact ((PosF.const (f:=fun _=>c - d) (c:=c - d) (by grind) fun _=>rfl).notNear h).elim
  ·exact h3.symm
theorem DefZ.ceil {T:Terms} {z0:Int} {d:Rat} (h:DefZ (oneT d 1) z0 d) (e:T=oneT d 1) {z:Int} (hz:CeilZ (valT T) z):z.natAbs≤1152921504606846976:=by
 have hv:valT T=fun _=>d:=funext fun P=>by rw [e,valT_oneT]
 rw [hv] at hz
 have hlo:=h.lo
 have hhi:=h.hi
 have hzl:=h.zl
 have key:z0≤z∧z≤z0+3:=by
  rcases hz with hz|⟨h1,h2⟩
  ·have hd:d=(z:Rat):=near_const hz
   rw [hd] at hlo hhi
   have a:=Rat.intCast_lt_intCast.1 hlo
   have b:=Rat.intCast_lt_intCast.1 hhi
   omega
  ·have a:=pos_const h1
   have b:=pos_const h2
   have a':(z0:Rat) < (z:Rat):=by grind
   have b':((z - 1:Int):Rat) < ((z0+2:Int):Rat):=by grind
   have a2:=Rat.intCast_lt_intCast.1 a'
   have b2:=Rat.intCast_lt_intCast.1 b'
   omega
 have e15:(10:Nat) ^ 15+10 < 1152921504606846976:=by decide
 omega
theorem Steps_ok (T:Terms) (D:Option Rat) (L:TTexts) (n:Int) (v:Value) (w:World) (hW:Wor w) (hv:IsTerms w v L) (hT:ResT L T) (h11:L.length≤11) (hn:UnitOk n)
  (hD:∀ d,D=some d→∃ p,T=oneT p 1∧d=p * (1 / (n:Rat))∧Sz 20 p∧(∃ z0,DefZ (oneT d 1) z0 d)) :
  Calls Tryz.prog 63 #[v,.string (numS (n:Rat))] w (RetSt (fun P=>(1 / (n:Rat)) * valT T P) (D≠none) w):=by
 have H1:=Lib.hid (units_ok T D L n v w hW.glo hW.pri hv hT hn (fun d h=>by
  obtain ⟨p,e1,e2,e3,_⟩:=hD d h
  exact ⟨p,e1,e2,e3⟩))
 have HDD:=Lib.hid (fun d (h:D=some d)=>by
  obtain ⟨p,e1,e2,e3,e4⟩:=hD d h
  exact e4)
 have HW:=Lib.hid hW
 generalize (fun P=>(1 / (n:Rat)) * valT T P)=f at *
 generalize numS (n:Rat)=sn at *
 obtain ⟨a1,c1,rfl,_⟩:=hv
 clear hW hT hn hD
 go_enter Tryz.func63,Tryz.ntmps63
 go_wp2_with fail
 refine H1.out.mono ?_
 rintro e w1 ⟨x,c,L',rfl,hx,hT,hd,hB1⟩
 clear H1
 by_cases hc:c=0
 ·obtain ⟨hl,T',hR,hN,hO⟩:=hT.out hc
  have HN:=Lib.hid hN
  have H2:=Lib.hid (EncOf_ok T' (D≠none) L' x w1 (HW.out.glo.below hB1) (HW.out.pri.below hB1) (HW.out.spl.below hB1) hx hR (by omega) (fun h=>by
   cases hD:D with
   | none=>exact absurd hD h
   | some d =>
    have e:=hO d hD
    obtain ⟨z0,hz⟩:=HDD.out d hD
    refine ⟨⟨z0,d,by rw [e];exact hz⟩,?_,?_⟩
    ·rw [e] at hR
     exact ⟨_,hR.one (hz.sz.mono (by decide))⟩
    ·rw [e]
     intro y hy
     unfold oneT at hy
     split at hy
     ·cases hy
     ·obtain rfl:=List.mem_singleton.1 hy
      exact ⟨hz.sz,show (1:Nat) < 10 ^ 40 by decide⟩))
  have HI:=Lib.hid (fun (z:Int) (hz:z.natAbs < 10 ^ 50) W (hB:Below w.heap.size w W)=>IntZ_ok z (numS (z:Rat)) W (HW.out.glo.below hB) (HW.out.erg.below hB) (numS_list _) hz)
  have HDZ:Hid (D≠none→∀ z,CeilZ (valT T') z→z.natAbs≤1152921504606846976):=Lib.hid (fun h z hz=>by
   cases hD:D with
   | none=>exact absurd hD h
   | some d =>
    have e:=hO d hD
    obtain ⟨z0,hz0⟩:=HDD.out d hD
    exact hz0.ceil e hz)
  generalize valT T'=g at *
  have hce:∀ (W:World) (a b:ByteArray),Calls Tryz.prog 115 #[.agg #[.string a,.string b]] W (RetB (.string b) W):=by
   intro W a b
   clear H2 HI HDZ HN hR hN hO hx hT hd HDD HW hl
   go_enter Tryz.func115,Tryz.ntmps115
   go_wp2_with fail
   go_ret
   exact ⟨rfl,qbl⟩
  have HCE:=Lib.hid hce
  obtain ⟨a3,c3,rfl,_⟩:=hx
  subst hc
  clear hT hd hR hN hO HDD hl hce
  go_wp2_with fail
  refine H2.out.mono ?_
  rintro e w2 ⟨lo,hi,c2,rfl,hr,hd2,hB2⟩
  have hb2:=below_trans' hB1 hB2
  clear hB2 H2
  by_cases hc2:c2=0
  ·obtain ⟨z,hhi,hzb,hcz⟩:=hr.out hc2
   have HIZ:=Lib.hid (HI.out z hzb)
   rw [← hhi] at HIZ
   have HCZ:=Lib.hid (hcz.near HN.out)
   have HZS:=Lib.hid (fun h=>HDZ.out h z hcz)
   subst hc2
   clear hr hd2 hhi hzb hcz HI HDZ HN
   go_wp2_with fail
   have hb3:Below w.heap.size w (w2.alloc (.cells #[.string lo,.string hi] 116)):=bw4 hb2 _
   generalize w2.alloc (.cells #[.string lo,.string hi] 116)=w3 at *
   refine (HCE.out _ _ _).mono ?_
   rintro e w4 ⟨rfl,hB4⟩
   have hb4:=below_trans' hb3 hB4
   clear hB4 hb3 HCE
   go_wp2_with fail
   refine (HIZ.out _ hb4).mono ?_
   rintro e w5 ⟨k,c5,rfl,hk,hs,hB5⟩
   have hb5:=below_trans' hb4 hB5
   clear hB5 hb4 HIZ
   by_cases hc5:c5=0
   ·obtain ⟨rfl,h1,h2⟩:=hk.out hc5
    subst hc5
    clear hk hs
    go_wp2_with fail
    refine bodyPost_ret (v:=.tuple #[.int .i64 k,.int .i64 0]) (by simp [results,Tryz.results63,go_sem]) rfl ?_
    exact ⟨k,0,rfl,Lib.hid (fun _=>⟨HCZ.out,h1,h2⟩),Lib.hid (fun _=>rfl),hb5⟩
   ·have HND:Hid (D≠none→(2:Int)=0):=Lib.hid (fun h=>absurd (hs.out (HZS.out h)) hc5)
    clear hk hs
    go_wp2_with fail
    refine bodyPost_ret (v:=.tuple #[.int .i64 0,.int .i64 2]) (by simp [results,Tryz.results63,go_sem]) rfl ?_
    exact ⟨0,2,rfl,Lib.hid (fun h=>absurd h (by decide)),HND,hb5⟩
  ·have HND:Hid (D≠none→c2=0):=Lib.hid hd2.out
   clear hr hd2 HI HDZ HN HCE
   go_wp2_with fail
   have hb3:Below w.heap.size w (w2.alloc (.cells #[.string lo,.string hi] 116)):=bw4 hb2 _
   refine bodyPost_ret (v:=.tuple #[.int .i64 0,.int .i64 c2]) (by simp [results,Tryz.results63,go_sem]) rfl ?_
   exact ⟨0,c2,rfl,Lib.hid (fun h=>absurd h hc2),HND,hb3⟩
 ·have HND:Hid (D≠none→c=0):=Lib.hid (fun h=>by
   cases hD:D with
   | none=>exact absurd hD h
   | some d=>exact hd.out d hD)
  obtain ⟨a3,c3,rfl,_⟩:=hx
  clear hT hd HDD
  go_wp2_with fail
  refine bodyPost_ret (v:=.tuple #[.int .i64 0,.int .i64 c]) (by simp [results,Tryz.results63,go_sem]) rfl ?_
  exact ⟨0,c,rfl,Lib.hid (fun h=>absurd h hc),HND,hB1⟩
end Go.Proofs.YtbbclfbpllbbbaaGreatDoor
namespace Go.Proofs.YtbbclfbpllbbbaaGreatDoor
open Go.RowKit Go.Shelf
end Go.Proofs.YtbbclfbpllbbbaaGreatDoor
namespace Go.Proofs.YtbbclfbpllbbbaaGreatDoor
open Go.RowKit Go.Shelf
def CBox (w:World) (b:Nat):Prop:=BoxT1 103 w b (.bool false)
end Go.Proofs.YtbbclfbpllbbbaaGreatDoor
namespace Go.Proofs.YtbbclfbpllbbbaaGreatDoor
open Go.RowKit Go.Shelf
theorem CBox.below {w w':World} {b:Nat} (h:CBox w b) (hB:Below w.heap.size w w'):CBox w' b:=BoxT1.below h hB
def IsQ (s:ByteArray) (q:Rat):Prop:=s.data.toList=ratText q∧Sz 90 q
end Go.Proofs.YtbbclfbpllbbbaaGreatDoor
namespace Go.Proofs.YtbbclfbpllbbbaaGreatDoor
open Go.RowKit Go.Shelf
attribute [local go_sem] Oper.semAt_some
theorem RetN.b {q:Rat} {w:World} {e:Ending} {w':World} (h:RetN q w e w'):RetB (.tuple #[.string (numS q),.int .i64 0]) w e w':=by
 obtain ⟨r,hr,he,hB⟩:=h
 obtain rfl:=numS_of hr
 exact ⟨he,hB⟩
def BoxT3 (t:TypeId) (W:World) (b:Nat) (x y z:Value):Prop:=W.heap[b]?=some (.cells #[x,y,z] t (0,0))
theorem BoxT3.lt {t:TypeId} {W:World} {b:Nat} {x y z:Value} (h:BoxT3 t W b x y z):b < W.heap.size:=(Array.getElem?_eq_some_iff.1 h).1
theorem BoxT3.below {t:TypeId} {w w':World} {b:Nat} {x y z:Value} (h:BoxT3 t w b x y z) (hB:Below w.heap.size w w'):BoxT3 t w' b x y z:=(hB.block b h.lt).trans h
theorem BoxT3.c0 {t:TypeId} {W:World} {b:Nat} {x y z:Value} (h:BoxT3 t W b x y z):W.cell? ⟨b,0,none⟩=some x:=by simp only [World.cell?,show W.heap[b]?=_ from h];rfl
theorem BoxT3.c1 {t:TypeId} {W:World} {b:Nat} {x y z:Value} (h:BoxT3 t W b x y z):W.cell? ⟨b,1,none⟩=some y:=by simp only [World.cell?,show W.heap[b]?=_ from h];rfl
theorem BoxT3.c2 {t:TypeId} {W:World} {b:Nat} {x y z:Value} (h:BoxT3 t W b x y z):W.cell? ⟨b,2,none⟩=some z:=by simp only [World.cell?,show W.heap[b]?=_ from h];rfl
theorem BoxT3.new {t:TypeId} {X:World} {n:Nat} {x y z:Value} (h:X.heap.size=n):BoxT3 t (X.alloc (.cells #[x,y,z] t)) n x y z:=by subst h;exact World.alloc_heap_new _ _
theorem BoxT3.but {t:TypeId} {W W':World} {b c:Nat} {x y z:Value} (h:BoxT3 t W b x y z) (hs:SameBut c W W') (hne:b≠c):BoxT3 t W' b x y z:=(hs.block b hne).trans h
end Go.Proofs.YtbbclfbpllbbbaaGreatDoor
namespace Go.Proofs.YtbbclfbpllbbbaaGreatDoor
open Go.RowKit Go.Shelf
def IsR (k:Nat) (s:ByteArray) (q:Rat):Prop:=s.data.toList=ratText q∧Sz k q
theorem IsR.q {k:Nat} {s:ByteArray} {q:Rat} (h:IsR k s q) (hk:k≤90):IsQ s q:=⟨h.1,h.2.mono hk⟩
end Go.Proofs.YtbbclfbpllbbbaaGreatDoor
namespace Go.Proofs.YtbbclfbpllbbbaaGreatDoor
open Go.RowKit Go.Shelf
theorem OfI_ok (n:Int) (d:Nat) (w:World) (hG:Glo w) (hn0 : -1000000000000000000≤n) (hn:n≤1000000000000000000) (hd:d≤1000000000000000000) (hd0:0 < d) :
  Calls Tryz.prog 23 #[.int .i64 n,.int .i64 (d:Int)] w (RetN (Rat.divInt n d) w):=by
 have HI:=Lib.hid (fun (x:Int) (hx0 : -1000000000000000000≤x) (hx:x≤1000000000000000000) W hG=>itoa_any x (by omega) (by omega) W hG)
 have HG:=Lib.hid hG
 have d0:¬ ((d:Int)=0):=by omega
 by_cases h1:d=1
 ·subst h1
  have e:Lib.itoa n=ratText (Rat.divInt n (1:Nat)):=by
   rw [show Rat.divInt n ((1:Nat):Int)=(n:Rat) from by rw [Rat.divInt_ofNat,Rat.mkRat_one],ratText_int]
  have HE:=Lib.hid e
  clear e hG
  go_enter Tryz.func23,Tryz.ntmps23
  go_wp2_with fail
  refine (HI.out n hn0 hn _ (HG.out.below qbl)).mono ?_
  rintro e w1 ⟨r,hr,rfl,hB1⟩
  have HR:=Lib.hid hr
  clear hr
  go_wp2_with fail
  go_ret2
  exact ⟨r,by rw [HR.out,HE.out],rfl,hB1⟩
 ·have d1:¬ ((d:Int)=1):=by omega
  have HN:=Lib.hid (fun (s t:ByteArray) W hG hs ht=>Qnumber_ok n (d:Int) s t W hG hs (fit_of_lt (Nat.lt_of_le_of_lt (show n.natAbs≤1000000000000000000 by omega) (Nat.lt_of_lt_of_le (by decide:1000000000000000000 < 10 ^ 19) (pow10_le (a:=19) (b:=300) (by decide))))) ht (fit_nat (Nat.lt_of_le_of_lt hd (Nat.lt_of_lt_of_le (by decide:1000000000000000000 < 10 ^ 19) (pow10_le (a:=19) (b:=300) (by decide))))) (by omega))
  clear hG h1 hd0
  go_enter Tryz.func23,Tryz.ntmps23
  go_wp2_with fail
  refine (HI.out n hn0 hn _ (HG.out.below qbl)).mono ?_
  rintro e w1 ⟨r,hr,rfl,hB1⟩
  have HR:=Lib.hid hr
  clear hr
  go_wp2_with fail
  refine (HI.out (d:Int) (by omega) (by omega) _ (HG.out.below hB1)).mono ?_
  rintro e w2 ⟨s,hs,rfl,hB2⟩
  have hb2:=below_trans' hB1 hB2
  have HS:=Lib.hid hs
  clear hs hB2 hB1
  go_wp2_with fail
  refine (HN.out r s _ (HG.out.below hb2) HR.out HS.out).mono ?_
  rintro e w3 ⟨t,ht,rfl,hB3⟩
  have hb3:=below_trans' hb2 hB3
  have HT:=Lib.hid ht
  clear ht hB3
  go_wp2_with fail
  go_ret2
  exact ⟨t,HT.out,rfl,hb3⟩
end Go.Proofs.YtbbclfbpllbbbaaGreatDoor
namespace Go.Proofs.YtbbclfbpllbbbaaGreatDoor
open Go.RowKit Go.Shelf
theorem divInt_one (n:Int):Rat.divInt n ((1:Nat):Int)=(n:Rat):=by
 rw [Rat.divInt_eq_div]
 show (n:Rat) / 1=_
 grind
theorem whole_ok (n:Int) (w:World) (hG:Glo w) (h0 : -1000000000≤n) (h1:n≤1000000000):Calls Tryz.prog 62 #[.int .i64 n] w (RetB (.string (numS (n:Rat))) w):=by
 have H:=Lib.hid ((OfI_ok n 1 w hG (by omega) (by omega) (by decide) (by decide)).mono fun e w' h=>h.bb)
 rw [divInt_one] at H
 generalize numS (n:Rat)=s at *
 clear hG
 go_enter Tryz.func62,Tryz.ntmps62
 go_wp2_with fail
 refine H.out.mono ?_
 rintro e w1 ⟨rfl,hB1⟩
 go_wp2_with fail
 go_ret
 exact ⟨rfl,hB1⟩
theorem cInv_ok (n:Int) (w:World) (hG:Glo w) (hn:UnitOk n):Calls Tryz.prog 64 #[.string ⟨#[49]⟩,.string (numS (n:Rat))] w (RetB (.string (numS (1 / (n:Rat)))) w):=by
 have H:=Lib.hid ((RDiv_ok ⟨#[49]⟩ (numS (n:Rat)) w hG one_text one_sz (numS_list _) hn.sz (by decide) (by rw [unit_num];have:=hn.1;omega)).mono fun e w' h=>h.bb)
 generalize numS ((1:Rat) / (n:Rat))=si at *
 generalize numS (n:Rat)=sn at *
 clear hG hn
 go_enter Tryz.func64,Tryz.ntmps64
 go_wp2_with fail
 refine H.out.mono ?_
 rintro e w1 ⟨rfl,hB1⟩
 go_wp2_with fail
 go_ret
 exact ⟨rfl,hB1⟩
theorem betw_ok (n a b:Int) (B:Bool) (hB:(decide (a≤n) && decide (n≤b))=B) (w:World):Calls Tryz.prog 58 #[.int .i64 n,.int .i64 a,.int .i64 b] w (RetB (.bool B) w):=by
 have HB:=Lib.hid hB
 clear hB
 by_cases h1:a≤n
 ·by_cases h2:n≤b
  ·have e:=HB.out
   rw [decide_eq_true h1,decide_eq_true h2] at e
   subst e
   clear HB
   go_enter Tryz.func58,Tryz.ntmps58
   go_wp2_with fail
   go_ret
   exact ⟨rfl,qbl⟩
  ·have e:=HB.out
   rw [decide_eq_true h1,decide_eq_false h2] at e
   subst e
   clear HB
   go_enter Tryz.func58,Tryz.ntmps58
   go_wp2_with fail
   go_ret
   exact ⟨by simp,qbl⟩
 ·have e:=HB.out
  rw [decide_eq_false h1,Bool.false_and] at e
  subst e
  clear HB
  go_enter Tryz.func58,Tryz.ntmps58
  go_wp2_with fail
  go_ret
  exact ⟨rfl,qbl⟩
def TileOk (wd ln lp tl:Int):Prop:=(1≤wd∧wd≤2000)∧(1≤ln∧ln≤2000)∧(0≤lp∧lp≤ln - 1)∧0≤tl∧tl≤1000
theorem two_dec {a b n:Int}:((decide (a≤n) && decide (n≤b))=true↔a≤n∧n≤b):=by simp
theorem tileCheck_ok (wd ln lp tl:Int) (w:World) :
  Calls Tryz.prog 20 #[.agg #[.int .i64 wd,.int .i64 ln,.int .i64 lp,.int .i64 tl]] w (RetC0 (TileOk wd ln lp tl) w):=by
 have HT:Hid (TileOk wd ln lp tl↔(1≤wd∧wd≤2000)∧(1≤ln∧ln≤2000)∧(0≤lp∧lp≤ln - 1)∧(0≤tl∧tl≤1000)):=Lib.hid Iff.rfl
 generalize TileOk wd ln lp tl=C at *
 have HBT:=Lib.hid (fun (n a b:Int) (B:Bool) hB W=>betw_ok n a b B hB W)
 by_cases h1:1≤wd∧wd≤2000
 ·have d1:=Lib.hid (HBT.out wd 1 2000 true (by rw [two_dec];exact h1))
  have N1:=Lib.hid h1
  clear h1
  by_cases h2:1≤ln∧ln≤2000
  ·have d2:=Lib.hid (HBT.out ln 1 2000 true (by rw [two_dec];exact h2))
   have hw:IntKind.i64.wrap (ln - 1)=ln - 1:=IntWalk.i64_in _ (by omega)
   have N2:=Lib.hid h2
   clear h2
   by_cases h3:0≤lp∧lp≤ln - 1
   ·have d3:=Lib.hid (HBT.out lp 0 (ln - 1) true (by rw [two_dec];exact h3))
    have N3:=Lib.hid h3
    clear h3
    by_cases h4:0≤tl∧tl≤1000
    ·have d4:=Lib.hid (HBT.out tl 0 1000 true (by rw [two_dec];exact h4))
     have N4:=Lib.hid h4
     clear h4 HBT
     go_enter Tryz.func20,Tryz.ntmps20
     go_wp2_with fail
     have x1:(w.alloc (.cells #[.int .i64 wd,.int .i64 ln,.int .i64 lp,.int .i64 tl] 49)).cell? ⟨w.heap.size,1,none⟩=some (.int .i64 ln):=by simp [go_sem]
     have x2:(w.alloc (.cells #[.int .i64 wd,.int .i64 ln,.int .i64 lp,.int .i64 tl] 49)).cell? ⟨w.heap.size,2,none⟩=some (.int .i64 lp):=by simp [go_sem]
     have x3:(w.alloc (.cells #[.int .i64 wd,.int .i64 ln,.int .i64 lp,.int .i64 tl] 49)).cell? ⟨w.heap.size,3,none⟩=some (.int .i64 tl):=by simp [go_sem]
     have hb0:Below w.heap.size w (w.alloc (.cells #[.int .i64 wd,.int .i64 ln,.int .i64 lp,.int .i64 tl] 49)):=bw4 (bw0 _ _) _
     generalize w.alloc (.cells #[.int .i64 wd,.int .i64 ln,.int .i64 lp,.int .i64 tl] 49)=W0 at *
     refine (d1.out _).mono ?_
     rintro e w1 ⟨rfl,hB1⟩
     have hb1:=below_trans' hb0 hB1
     have y1:=keep hB1 x1
     have y2:=keep hB1 x2
     have y3:=keep hB1 x3
     clear hB1 x1 x2 x3 hb0
     go_wp2_with fail
     refine (d2.out _).mono ?_
     rintro e w2 ⟨rfl,hB2⟩
     have hb2:=below_trans' hb1 hB2
     have x1:=keep hB2 y1
     have x2:=keep hB2 y2
     have x3:=keep hB2 y3
     clear hB2 y1 y2 y3 hb1
     go_wp2_with fail
     refine (d3.out _).mono ?_
     rintro e w3 ⟨rfl,hB3⟩
     have hb3:=below_trans' hb2 hB3
     have y3:=keep hB3 x3
     clear hB3 x1 x2 x3 hb2
     go_wp2_with fail
     refine (d4.out _).mono ?_
     rintro e w4 ⟨rfl,hB4⟩
     have hb4:=below_trans' hb3 hB4
     clear hB4 hb3
     go_wp2_with fail
     go_ret
     exact ⟨0,rfl,Lib.hid ⟨fun _=>HT.out.2 ⟨N1.out,N2.out,N3.out,N4.out⟩,fun _=>rfl⟩,hb4⟩
    ·have d4:=Lib.hid (HBT.out tl 0 1000 false (by rw [Bool.eq_false_iff,Ne,two_dec];exact h4))
     have N4:Hid (¬ C):=Lib.hid (fun h=>h4 (HT.out.1 h).2.2.2)
     clear h4 HBT HT N1 N2 N3
     go_enter Tryz.func20,Tryz.ntmps20
     go_wp2_with fail
     have x1:(w.alloc (.cells #[.int .i64 wd,.int .i64 ln,.int .i64 lp,.int .i64 tl] 49)).cell? ⟨w.heap.size,1,none⟩=some (.int .i64 ln):=by simp [go_sem]
     have x2:(w.alloc (.cells #[.int .i64 wd,.int .i64 ln,.int .i64 lp,.int .i64 tl] 49)).cell? ⟨w.heap.size,2,none⟩=some (.int .i64 lp):=by simp [go_sem]
     have x3:(w.alloc (.cells #[.int .i64 wd,.int .i64 ln,.int .i64 lp,.int .i64 tl] 49)).cell? ⟨w.heap.size,3,none⟩=some (.int .i64 tl):=by simp [go_sem]
     have hb0:Below w.heap.size w (w.alloc (.cells #[.int .i64 wd,.int .i64 ln,.int .i64 lp,.int .i64 tl] 49)):=bw4 (bw0 _ _) _
     generalize w.alloc (.cells #[.int .i64 wd,.int .i64 ln,.int .i64 lp,.int .i64 tl] 49)=W0 at *
     refine (d1.out _).mono ?_
     rintro e w1 ⟨rfl,hB1⟩
     have hb1:=below_trans' hb0 hB1
     have y1:=keep hB1 x1
     have y2:=keep hB1 x2
     have y3:=keep hB1 x3
     clear hB1 x1 x2 x3 hb0
     go_wp2_with fail
     refine (d2.out _).mono ?_
     rintro e w2 ⟨rfl,hB2⟩
     have hb2:=below_trans' hb1 hB2
     have x1:=keep hB2 y1
     have x2:=keep hB2 y2
     have x3:=keep hB2 y3
     clear hB2 y1 y2 y3 hb1
     go_wp2_with fail
     refine (d3.out _).mono ?_
     rintro e w3 ⟨rfl,hB3⟩
     have hb3:=below_trans' hb2 hB3
     have y3:=keep hB3 x3
     clear hB3 x1 x2 x3 hb2
     go_wp2_with fail
     refine (d4.out _).mono ?_
     rintro e w4 ⟨rfl,hB4⟩
     have hb4:=below_trans' hb3 hB4
     clear hB4 hb3
     go_wp2_with fail
     go_ret
     exact ⟨2,rfl,Lib.hid ⟨fun h=>absurd h (by decide),fun h=>absurd h N4.out⟩,hb4⟩
   ·have d3:=Lib.hid (HBT.out lp 0 (ln - 1) false (by rw [Bool.eq_false_iff,Ne,two_dec];exact h3))
    have N4:Hid (¬ C):=Lib.hid (fun h=>h3 (HT.out.1 h).2.2.1)
    clear h3 HBT HT N1 N2
    go_enter Tryz.func20,Tryz.ntmps20
    go_wp2_with fail
    have x1:(w.alloc (.cells #[.int .i64 wd,.int .i64 ln,.int .i64 lp,.int .i64 tl] 49)).cell? ⟨w.heap.size,1,none⟩=some (.int .i64 ln):=by simp [go_sem]
    have x2:(w.alloc (.cells #[.int .i64 wd,.int .i64 ln,.int .i64 lp,.int .i64 tl] 49)).cell? ⟨w.heap.size,2,none⟩=some (.int .i64 lp):=by simp [go_sem]
    have hb0:Below w.heap.size w (w.alloc (.cells #[.int .i64 wd,.int .i64 ln,.int .i64 lp,.int .i64 tl] 49)):=bw4 (bw0 _ _) _
    generalize w.alloc (.cells #[.int .i64 wd,.int .i64 ln,.int .i64 lp,.int .i64 tl] 49)=W0 at *
    refine (d1.out _).mono ?_
    rintro e w1 ⟨rfl,hB1⟩
    have hb1:=below_trans' hb0 hB1
    have y1:=keep hB1 x1
    have y2:=keep hB1 x2
    clear hB1 x1 x2 hb0
    go_wp2_with fail
    refine (d2.out _).mono ?_
    rintro e w2 ⟨rfl,hB2⟩
    have hb2:=below_trans' hb1 hB2
    have x1:=keep hB2 y1
    have x2:=keep hB2 y2
    clear hB2 y1 y2 hb1
    go_wp2_with fail
    refine (d3.out _).mono ?_
    rintro e w3 ⟨rfl,hB3⟩
    have hb3:=below_trans' hb2 hB3
    clear hB3 hb2
    go_wp2_with fail
    go_ret
    exact ⟨2,rfl,Lib.hid ⟨fun h=>absurd h (by decide),fun h=>absurd h N4.out⟩,hb3⟩
  ·have d2:=Lib.hid (HBT.out ln 1 2000 false (by rw [Bool.eq_false_iff,Ne,two_dec];exact h2))
   have N4:Hid (¬ C):=Lib.hid (fun h=>h2 (HT.out.1 h).2.1)
   clear h2 HBT HT N1
   go_enter Tryz.func20,Tryz.ntmps20
   go_wp2_with fail
   have x1:(w.alloc (.cells #[.int .i64 wd,.int .i64 ln,.int .i64 lp,.int .i64 tl] 49)).cell? ⟨w.heap.size,1,none⟩=some (.int .i64 ln):=by simp [go_sem]
   have hb0:Below w.heap.size w (w.alloc (.cells #[.int .i64 wd,.int .i64 ln,.int .i64 lp,.int .i64 tl] 49)):=bw4 (bw0 _ _) _
   generalize w.alloc (.cells #[.int .i64 wd,.int .i64 ln,.int .i64 lp,.int .i64 tl] 49)=W0 at *
   refine (d1.out _).mono ?_
   rintro e w1 ⟨rfl,hB1⟩
   have hb1:=below_trans' hb0 hB1
   have y1:=keep hB1 x1
   clear hB1 x1 hb0
   go_wp2_with fail
   refine (d2.out _).mono ?_
   rintro e w2 ⟨rfl,hB2⟩
   have hb2:=below_trans' hb1 hB2
   clear hB2 hb1
   go_wp2_with fail
   go_ret
   exact ⟨2,rfl,Lib.hid ⟨fun h=>absurd h (by decide),fun h=>absurd h N4.out⟩,hb2⟩
 ·have d1:=Lib.hid (HBT.out wd 1 2000 false (by rw [Bool.eq_false_iff,Ne,two_dec];exact h1))
  have N4:Hid (¬ C):=Lib.hid (fun h=>h1 (HT.out.1 h).1)
  clear h1 HBT HT
  go_enter Tryz.func20,Tryz.ntmps20
  go_wp2_with fail
  have hb0:Below w.heap.size w (w.alloc (.cells #[.int .i64 wd,.int .i64 ln,.int .i64 lp,.int .i64 tl] 49)):=bw4 (bw0 _ _) _
  generalize w.alloc (.cells #[.int .i64 wd,.int .i64 ln,.int .i64 lp,.int .i64 tl] 49)=W0 at *
  refine (d1.out _).mono ?_
  rintro e w1 ⟨rfl,hB1⟩
  have hb1:=below_trans' hb0 hB1
  clear hB1 hb0
  go_wp2_with fail
  go_ret
  exact ⟨2,rfl,Lib.hid ⟨fun h=>absurd h (by decide),fun h=>absurd h N4.out⟩,hb1⟩
end Go.Proofs.YtbbclfbpllbbbaaGreatDoor
