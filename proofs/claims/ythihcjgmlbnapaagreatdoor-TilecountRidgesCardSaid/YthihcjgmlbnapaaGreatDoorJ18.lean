/- Joined texts: WRound, NonPlain, RidPlain, RidSum, WRidges, WCmpG, WAwake, WRidLaw. -/
import Derived.Test.YthihcjgmlbnapaaGreatDoorJ17
import Derived.Test.YthihcjgmlbnapaaGreatDoorJ15
import Derived.Test.YthihcjgmlbnapaaGreatDoorJ16
import Derived.Test.YthihcjgmlbnapaaGreatDoorJ03
import Derived.Test.YthihcjgmlbnapaaGreatDoorJ04
set_option maxRecDepth 100000
set_option linter.unusedVariables false
set_option linter.unusedSimpArgs false
set_option maxHeartbeats 12800000
namespace Go.Proofs.YthihcjgmlbnapaaGreatDoor
open Go.RowKit Go.Shelf
def RetZ (z:Int) (w:World) (e:Ending) (w':World):Prop:=∃ k c:Int,e=.returned (.tuple #[.int .i64 k,.int .i64 c])∧Hid (c=0→k=z∧-4611686018427387904≤z∧z≤4611686018427387904)∧Hid (z.natAbs≤1152921504606846976→c=0)∧Below w.heap.size w w'
theorem atoi_range_any (s:ByteArray) (w:World) (hE:Erg w) (hs:s.size≤1000) (h:Lib.atoiAll s.data.toList=.range) :
  Calls Tryz.prog 82 #[.string s] w (fun e w'=>∃ v te pe,e=.returned (.tuple #[.int .i64 v,.iface te pe])∧Below w.heap.size w w'):=by
 obtain ⟨te,pe,hE⟩:=hE
 refine (Tryz.strconv_Atoi_range s (by omega) h _ w hE (.inr ⟨_,_,rfl⟩)).mono fun e w' ⟨N,he,_,_,hB⟩=>⟨_,_,_,he,hB⟩
theorem IntZ_ok (z:Int) (s:ByteArray) (w:World) (hG:Glo w) (hE:Erg w) (hs:s.data.toList=ratText (z:Rat)) (hz:z.natAbs < 10 ^ 50) :
  Calls Tryz.prog 39 #[.string s] w (RetZ z w):=by
 by_cases h60:z.natAbs≤1152921504606846976
 ·exact (Int_q z s w hG hs h60).mono fun e w' ⟨he,hB⟩=>⟨z,0,he,Lib.hid fun _=>⟨rfl,by omega,by omega⟩,Lib.hid fun _=>rfl,hB⟩
 have hsz:Sz 50 (z:Rat):=sz_int hz (by decide)
 have RS:=Lib.hid (fun W hG=>read_any s W hG hs hsz (by omega))
 have HG:=Lib.hid hG
 have HE:=Lib.hid hE
 have hal:Hid (∀ a:ByteArray,a.data.toList=Lib.itoa ((z:Rat)).num→a.size≤1000):=Lib.hid (fun a ha=>by
  have h1:=itoa_len_le (n:=z) (k:=50) hz (by omega)
  have h2:a.size=a.data.toList.length:=rfl
  rw [h2,ha,Rat.num_intCast]
  exact Nat.le_trans h1 (by omega))
 by_cases hr:z < -9223372036854775808∨9223372036854775807 < z
 ·have hat:=Lib.hid (atoi_range hr)
  clear hs hG hE hsz hz hr
  go_enter Tryz.func39,Tryz.ntmps39
  go_wp2_with fail
  refine (RS.out _ HG.out).mono ?_
  rintro e w1 ⟨a,b,ha,hb,rfl,hB1⟩
  have hb1:=eq_of_list (s:=b) (m:=[49]) (by rw [hb.out];exact one_digits)
  have hba:Below w.heap.size w (w1.alloc (.cells #[.string a,.string b] 116)):=bw4 hB1 _
  go_wp2_with fail
  refine (atoi_range_any a _ (HE.out.below qbl) (hal.out a ha.out) (by rw [ha.out,Rat.num_intCast];exact hat.out)).mono ?_
  rintro e w2 ⟨v,te,pe,rfl,hB2⟩
  have hb2:Below w.heap.size w w2:=qbl
  clear hB2
  go_wp2_with fail
  go_ret2
  exact ⟨0,2,rfl,Lib.hid fun h=>absurd h (by decide),Lib.hid fun h=>absurd h h60,hb2⟩
 ·have hat:=Lib.hid (atoi_itoa (n:=z) (by omega) (by omega))
  clear hs hG hE hsz hz
  by_cases hlo:z < -4611686018427387904
  ·clear hr
   go_enter Tryz.func39,Tryz.ntmps39
   go_wp2_with fail
   refine (RS.out _ HG.out).mono ?_
   rintro e w1 ⟨a,b,ha,hb,rfl,hB1⟩
   have hb1:=eq_of_list (s:=b) (m:=[49]) (by rw [hb.out];exact one_digits)
   go_wp2_with fail
   refine (atoi_any a _ (hal.out a ha.out) (by rw [ha.out,Rat.num_intCast];exact hat.out)).mono ?_
   rintro e w2 ⟨rfl,hB2⟩
   have hb2:Below w.heap.size w w2:=qbl
   clear hB2
   go_wp2_with fail
   go_ret2
   exact ⟨0,2,rfl,Lib.hid fun h=>absurd h (by decide),Lib.hid fun h=>absurd h h60,hb2⟩
  ·by_cases hhi:4611686018427387904 < z
   ·clear hr
    go_enter Tryz.func39,Tryz.ntmps39
    go_wp2_with fail
    refine (RS.out _ HG.out).mono ?_
    rintro e w1 ⟨a,b,ha,hb,rfl,hB1⟩
    have hb1:=eq_of_list (s:=b) (m:=[49]) (by rw [hb.out];exact one_digits)
    go_wp2_with fail
    refine (atoi_any a _ (hal.out a ha.out) (by rw [ha.out,Rat.num_intCast];exact hat.out)).mono ?_
    rintro e w2 ⟨rfl,hB2⟩
    have hb2:Below w.heap.size w w2:=qbl
    clear hB2
    go_wp2_with fail
    go_ret2
    exact ⟨0,2,rfl,Lib.hid fun h=>absurd h (by decide),Lib.hid fun h=>absurd h h60,hb2⟩
   ·clear hr
    go_enter Tryz.func39,Tryz.ntmps39
    go_wp2_with fail
    refine (RS.out _ HG.out).mono ?_
    rintro e w1 ⟨a,b,ha,hb,rfl,hB1⟩
    have hb1:=eq_of_list (s:=b) (m:=[49]) (by rw [hb.out];exact one_digits)
    go_wp2_with fail
    refine (atoi_any a _ (hal.out a ha.out) (by rw [ha.out,Rat.num_intCast];exact hat.out)).mono ?_
    rintro e w2 ⟨rfl,hB2⟩
    have hb2:Below w.heap.size w w2:=qbl
    clear hB2
    go_wp2_with fail
    go_ret2
    exact ⟨z,0,rfl,Lib.hid fun _=>⟨rfl,by omega,by omega⟩,Lib.hid fun _=>rfl,hb2⟩
def UnitOk (n:Int):Prop:=1≤n∧n≤5000
theorem UnitOk.sz {n:Int} (h:UnitOk n):Sz 4 (n:Rat):=sz_int (by obtain ⟨a,b⟩:=h;omega) (by decide)
theorem unit_num {n:Int}:((n:Rat)).num=n:=rfl
theorem compareInt_pos {x:Int} (h:0 < x):Lib.compareInt x 0=1:=by
 unfold Lib.compareInt
 rw [if_neg (by omega),if_pos h]
theorem rndCheck_ok (T:Terms) (L:TTexts) (n:Int) (v:Value) (w:World) (hG:Glo w) (hP:Pri w) (hv:IsTerms w v L) (hT:ResT L T) (hn:UnitOk n) :
  Calls Tryz.prog 85 #[v,.string (numS (n:Rat))] w (RetC0 (SurdOk L) w):=by
 have H1:=Lib.hid (sCheck_ok L v w hG hP hv hT.sizes)
 have H2:=Lib.hid (fun W hG=>RCheck_ok (numS (n:Rat)) W hG (numS_list _) hn.sz (by decide))
 have H3:=Lib.hid (fun W hG=>RCompare_ok (numS (n:Rat)) ⟨#[48]⟩ W hG (numS_list _) hn.sz zero_text' zero_sz' (by decide))
 have e:Lib.compareInt (((n:Rat)).num * (((0:Rat)).den:Int)) (((0:Rat)).num * (((n:Rat)).den:Int))=1:=by
  show Lib.compareInt (n * 1) (0 * 1)=1
  rw [Int.mul_one,Int.zero_mul]
  exact compareInt_pos (by have:=hn.1;omega)
 rw [e] at H3
 have HG:=Lib.hid hG
 generalize SurdOk L=C at *
 generalize numS (n:Rat)=sn at *
 clear hG hP hT hn e
 obtain ⟨a1,c1,rfl,_⟩:=hv
 go_enter Tryz.func85,Tryz.ntmps85
 go_wp2_with fail
 refine H1.out.mono ?_
 rintro e w1 ⟨k1,rfl,h1,hB1⟩
 by_cases hk1:k1=0
 ·have J1:=Lib.hid (h1.out.1 hk1)
  subst hk1
  clear h1 H1
  go_wp2_with fail
  refine (H2.out _ (HG.out.below hB1)).mono ?_
  rintro e w2 ⟨rfl,hB2⟩
  have hb2:=below_trans' hB1 hB2
  clear hB2 H2
  go_wp2_with fail
  refine (H3.out _ (HG.out.below hb2)).mono ?_
  rintro e w3 ⟨rfl,hB3⟩
  have hb3:=below_trans' hb2 hB3
  clear hB3 H3
  go_wp2_with fail
  go_ret
  exact ⟨0,rfl,Lib.hid ⟨fun _=>J1.out,fun _=>rfl⟩,hb3⟩
 ·have J1:Hid (¬ C):=Lib.hid (fun h=>hk1 (h1.out.2 h))
  clear h1 H1 H2 H3
  go_wp2_with fail
  go_ret
  exact ⟨1,rfl,Lib.hid ⟨fun h=>absurd h (by decide),fun h=>absurd h J1.out⟩,hB1⟩
theorem inv_sz {n:Int} (h:UnitOk n):Sz 8 ((1:Rat) / (n:Rat)) :=
 (Sz.div (a:=1) (b:=4) one_sz h.sz (by rw [unit_num];have:=h.1;omega)).mono (by decide)
theorem units_ok (T:Terms) (D:Option Rat) (L:TTexts) (n:Int) (v:Value) (w:World) (hG:Glo w) (hP:Pri w) (hv:IsTerms w v L) (hT:ResT L T) (hn:UnitOk n)
  (hD:∀ d,D=some d→∃ p,T=oneT p 1∧d=p * (1 / (n:Rat))∧Sz 20 p) :
  Calls Tryz.prog 41 #[v,.string (numS (n:Rat))] w (RetMX (fun P=>(1 / (n:Rat)) * valT T P) D L.length w):=by
 have H1:=Lib.hid (rndCheck_ok T L n v w hG hP hv hT hn)
 have H2:=Lib.hid (fun W hG=>(RDiv_ok ⟨#[49]⟩ (numS (n:Rat)) W hG one_text one_sz (numS_list _) hn.sz (by decide) (by rw [unit_num];have:=hn.1;omega)).mono fun e w' h=>h.bb)
 have H3:=Lib.hid (fun W hB=>ScaleX_ok T (1 / (n:Rat)) D L v (numS (1 / (n:Rat))) W (hG.below hB) (hP.below hB) (hv.below hB) hT (numS_list _) ((inv_sz hn).mono (by decide)) (fun d h=>by
  obtain ⟨p,e1,e2,e3⟩:=hD d h
  exact ⟨p,e1,e2,e3.mono (by decide),(e3.mul (inv_sz hn)).mono (by decide)⟩))
 have HS:Hid (∀ p,D=some p→SurdOk L):=Lib.hid (fun d h=>by
  obtain ⟨p,e1,e2,e3⟩:=hD d h
  rw [e1] at hT
  exact ⟨_,hT.one (e3.mono (by decide))⟩)
 have HG:=Lib.hid hG
 generalize numS ((1:Rat) / (n:Rat))=si at *
 generalize numS (n:Rat)=sn at *
 generalize (fun P=>(1 / (n:Rat)) * valT T P)=f at *
 clear hG hP hT hn hD
 obtain ⟨a1,c1,rfl,_⟩:=hv
 go_enter Tryz.func41,Tryz.ntmps41
 go_wp2_with fail
 refine H1.out.mono ?_
 rintro e w1 ⟨k1,rfl,h1,hB1⟩
 by_cases hk1:k1=0
 ·subst hk1
  clear h1 H1 HS
  go_wp2_with fail
  refine (H2.out _ (HG.out.below hB1)).mono ?_
  rintro e w2 ⟨rfl,hB2⟩
  have hb2:=below_trans' hB1 hB2
  clear hB2 H2
  go_wp2_with fail
  refine (H3.out _ hb2).mono ?_
  rintro e w3 ⟨x,c,L',rfl,hx,hT,hd,hB3⟩
  have hb3:=below_trans' hb2 hB3
  have HX:=Lib.hid hx
  obtain ⟨xa,xc,rfl,_⟩:=hx
  clear hB3 H3
  go_wp2_with fail
  refine bodyPost_ret (v:=.tuple #[.slice xa L'.length xc,.int .i64 c]) (by simp [results,Tryz.results41,go_sem]) rfl ?_
  exact ⟨_,c,L',rfl,HX.out,hT,hd,hb3⟩
 ·have HN:Hid (∀ p,D=some p→k1=0):=Lib.hid (fun p h=>h1.out.2 (HS.out p h))
  clear h1 H1 H2 H3 HS
  go_wp2_with fail
  refine bodyPost_ret (v:=.tuple #[.slice none 0 0,.int .i64 k1]) (by simp [results,Tryz.results41,go_sem]) rfl ?_
  exact ⟨_,k1,[],rfl,isTerms_nil,Lib.hid (fun h=>absurd h hk1),HN,hB1⟩
def RetSt (f:Nat→Rat) (D:Prop) (w:World) (e:Ending) (w':World):Prop:=∃ k c:Int,e=.returned (.tuple #[.int .i64 k,.int .i64 c])∧Hid (c=0→CeilZ f k∧-4611686018427387904≤k∧k≤4611686018427387904)∧Hid (D→c=0)∧Below w.heap.size w w'
theorem CeilZ.near {f g:Nat→Rat} {z:Int} (h:CeilZ f z) (n:Near0 (fun P=>f P - g P)):CeilZ g z:=by
 rcases h with h|⟨h1,h2⟩
 ·exact .inl ((n.mul (k:=-1) (h:=fun P=>-1 * (f P - g P)) fun P=>rfl).add h fun P=>by grind)
 ·exact .inr ⟨h1.near n fun P=>by grind,h2.near (n.mul (k:=-1) fun P=>rfl) fun P=>by grind⟩
theorem pos_const {c d:Rat} (h:PosF fun _=>c - d):d < c:=by
 refine Rat.not_le.1 fun h2=>?_
 rcases Rat.le_iff_lt_or_eq.1 h2 with h3|h3
 ·exact h.notNeg (PosF.const (f:=fun _=>d - c) (c:=d - c) (by grind) fun _=>rfl) fun _=>by grind
 ·exact not_pos_zero h fun _=>by grind
theorem near_const {c d:Rat} (h:Near0 fun _=>c - d):c=d:=by
 rcases (Rat.le_total:c≤d∨d≤c) with h2|h2
 ·rcases Rat.le_iff_lt_or_eq.1 h2 with h3|h3
  ·exact ((PosF.const (f:=fun _=>d - c) (c:=d - c) (by grind) fun _=>rfl).notNear (h.mul (k:=-1) fun _=>by grind)).elim
  ·exact h3
 ·rcases Rat.le_iff_lt_or_eq.1 h2 with h3|h3
  ·exact ((PosF.const (f:=fun _=>c - d) (c:=c - d) (by grind) fun _=>rfl).notNear h).elim
  ·exact h3.symm
theorem DefZ.ceil {T:Terms} {z0:Int} {d:Rat} (h:DefZ (oneT d 1) z0 d) (e:T=oneT d 1) {z:Int} (hz:CeilZ (valT T) z):z.natAbs≤1152921504606846976:=by
 have hv:valT T=fun _=>d:=funext fun P=>by rw [e,valT_oneT]
 rw [hv] at hz
 have hlo:=h.lo
 have hhi:=h.hi
 have hzl:=h.zl
 have key:z0≤z∧z≤z0+3:=by
  rcases hz with hz|⟨h1,h2⟩
  ·have hd:d=(z:Rat):=near_const hz
   rw [hd] at hlo hhi
   have a:=Rat.intCast_lt_intCast.1 hlo
   have b:=Rat.intCast_lt_intCast.1 hhi
   omega
  ·have a:=pos_const h1
   have b:=pos_const h2
   have a':(z0:Rat) < (z:Rat):=by grind
   have b':((z - 1:Int):Rat) < ((z0+2:Int):Rat):=by grind
   have a2:=Rat.intCast_lt_intCast.1 a'
   have b2:=Rat.intCast_lt_intCast.1 b'
   omega
 have e15:(10:Nat) ^ 15+10 < 1152921504606846976:=by decide
 omega
theorem Steps_ok (T:Terms) (D:Option Rat) (L:TTexts) (n:Int) (v:Value) (w:World) (hW:Wor w) (hv:IsTerms w v L) (hT:ResT L T) (h11:L.length≤11) (hn:UnitOk n)
  (hD:∀ d,D=some d→∃ p,T=oneT p 1∧d=p * (1 / (n:Rat))∧Sz 20 p∧(∃ z0,DefZ (oneT d 1) z0 d)) :
  Calls Tryz.prog 17 #[v,.string (numS (n:Rat))] w (RetSt (fun P=>(1 / (n:Rat)) * valT T P) (D≠none) w):=by
 have H1:=Lib.hid (units_ok T D L n v w hW.glo hW.pri hv hT hn (fun d h=>by
  obtain ⟨p,e1,e2,e3,_⟩:=hD d h
  exact ⟨p,e1,e2,e3⟩))
 have HDD:=Lib.hid (fun d (h:D=some d)=>by
  obtain ⟨p,e1,e2,e3,e4⟩:=hD d h
  exact e4)
 have HW:=Lib.hid hW
 generalize (fun P=>(1 / (n:Rat)) * valT T P)=f at *
 generalize numS (n:Rat)=sn at *
 obtain ⟨a1,c1,rfl,_⟩:=hv
 clear hW hT hn hD
 go_enter Tryz.func17,Tryz.ntmps17
 go_wp2_with fail
 refine H1.out.mono ?_
 rintro e w1 ⟨x,c,L',rfl,hx,hT,hd,hB1⟩
 clear H1
 by_cases hc:c=0
 ·obtain ⟨hl,T',hR,hN,hO⟩:=hT.out hc
  have HN:=Lib.hid hN
  have H2:=Lib.hid (EncOf_ok T' (D≠none) L' x w1 (HW.out.glo.below hB1) (HW.out.pri.below hB1) (HW.out.spl.below hB1) hx hR (by omega) (fun h=>by
   cases hD:D with
   | none=>exact absurd hD h
   | some d =>
    have e:=hO d hD
    obtain ⟨z0,hz⟩:=HDD.out d hD
    refine ⟨⟨z0,d,by rw [e];exact hz⟩,?_,?_⟩
    ·rw [e] at hR
     exact ⟨_,hR.one (hz.sz.mono (by decide))⟩
    ·rw [e]
     intro y hy
     unfold oneT at hy
     split at hy
     ·cases hy
     ·obtain rfl:=List.mem_singleton.1 hy
      exact ⟨hz.sz,show (1:Nat) < 10 ^ 40 by decide⟩))
  have HI:=Lib.hid (fun (z:Int) (hz:z.natAbs < 10 ^ 50) W (hB:Below w.heap.size w W)=>IntZ_ok z (numS (z:Rat)) W (HW.out.glo.below hB) (HW.out.erg.below hB) (numS_list _) hz)
  have HDZ:Hid (D≠none→∀ z,CeilZ (valT T') z→z.natAbs≤1152921504606846976):=Lib.hid (fun h z hz=>by
   cases hD:D with
   | none=>exact absurd hD h
   | some d =>
    have e:=hO d hD
    obtain ⟨z0,hz0⟩:=HDD.out d hD
    exact hz0.ceil e hz)
  generalize valT T'=g at *
  have hce:∀ (W:World) (a b:ByteArray),Calls Tryz.prog 43 #[.agg #[.string a,.string b]] W (RetB (.string b) W):=by
   intro W a b
   clear H2 HI HDZ HN hR hN hO hx hT hd HDD HW hl
   go_enter Tryz.func43,Tryz.ntmps43
   go_wp2_with fail
   go_ret
   exact ⟨rfl,qbl⟩
  have HCE:=Lib.hid hce
  obtain ⟨a3,c3,rfl,_⟩:=hx
  subst hc
  clear hT hd hR hN hO HDD hl hce
  go_wp2_with fail
  refine H2.out.mono ?_
  rintro e w2 ⟨lo,hi,c2,rfl,hr,hd2,hB2⟩
  have hb2:=below_trans' hB1 hB2
  clear hB2 H2
  by_cases hc2:c2=0
  ·obtain ⟨z,hhi,hzb,hcz⟩:=hr.out hc2
   have HIZ:=Lib.hid (HI.out z hzb)
   rw [← hhi] at HIZ
   have HCZ:=Lib.hid (hcz.near HN.out)
   have HZS:=Lib.hid (fun h=>HDZ.out h z hcz)
   subst hc2
   clear hr hd2 hhi hzb hcz HI HDZ HN
   go_wp2_with fail
   have hb3:Below w.heap.size w (w2.alloc (.cells #[.string lo,.string hi] 54)):=bw4 hb2 _
   generalize w2.alloc (.cells #[.string lo,.string hi] 54)=w3 at *
   refine (HCE.out _ _ _).mono ?_
   rintro e w4 ⟨rfl,hB4⟩
   have hb4:=below_trans' hb3 hB4
   clear hB4 hb3 HCE
   go_wp2_with fail
   refine (HIZ.out _ hb4).mono ?_
   rintro e w5 ⟨k,c5,rfl,hk,hs,hB5⟩
   have hb5:=below_trans' hb4 hB5
   clear hB5 hb4 HIZ
   by_cases hc5:c5=0
   ·obtain ⟨rfl,h1,h2⟩:=hk.out hc5
    subst hc5
    clear hk hs
    go_wp2_with fail
    refine bodyPost_ret (v:=.tuple #[.int .i64 k,.int .i64 0]) (by simp [results,Tryz.results17,go_sem]) rfl ?_
    exact ⟨k,0,rfl,Lib.hid (fun _=>⟨HCZ.out,h1,h2⟩),Lib.hid (fun _=>rfl),hb5⟩
   ·have HND:Hid (D≠none→(2:Int)=0):=Lib.hid (fun h=>absurd (hs.out (HZS.out h)) hc5)
    clear hk hs
    go_wp2_with fail
    refine bodyPost_ret (v:=.tuple #[.int .i64 0,.int .i64 2]) (by simp [results,Tryz.results17,go_sem]) rfl ?_
    exact ⟨0,2,rfl,Lib.hid (fun h=>absurd h (by decide)),HND,hb5⟩
  ·have HND:Hid (D≠none→c2=0):=Lib.hid hd2.out
   clear hr hd2 HI HDZ HN HCE
   go_wp2_with fail
   have hb3:Below w.heap.size w (w2.alloc (.cells #[.string lo,.string hi] 54)):=bw4 hb2 _
   refine bodyPost_ret (v:=.tuple #[.int .i64 0,.int .i64 c2]) (by simp [results,Tryz.results17,go_sem]) rfl ?_
   exact ⟨0,c2,rfl,Lib.hid (fun h=>absurd h hc2),HND,hb3⟩
 ·have HND:Hid (D≠none→c=0):=Lib.hid (fun h=>by
   cases hD:D with
   | none=>exact absurd hD h
   | some d=>exact hd.out d hD)
  obtain ⟨a3,c3,rfl,_⟩:=hx
  clear hT hd HDD
  go_wp2_with fail
  refine bodyPost_ret (v:=.tuple #[.int .i64 0,.int .i64 c]) (by simp [results,Tryz.results17,go_sem]) rfl ?_
  exact ⟨0,c,rfl,Lib.hid (fun h=>absurd h hc),HND,hB1⟩
end Go.Proofs.YthihcjgmlbnapaaGreatDoor
namespace Go.Proofs.YthihcjgmlbnapaaGreatDoor
open Go
def NonF (f:Nat→Rat):Prop:=∃ C:Rat,0≤C∧∀ P,-(C * uP P)≤f P
theorem PosF.non {f:Nat→Rat} (h:PosF f):NonF f:=by
 obtain ⟨e,C,e0,c0,hC⟩:=h
 exact ⟨C,c0,fun P=>by have:=hC P;grind⟩
theorem Near0.non {f:Nat→Rat} (h:Near0 f):NonF f:=by
 obtain ⟨C,c0,hC⟩:=h
 exact ⟨C,c0,fun P=>(hC P).1⟩
theorem NonF.const {f:Nat→Rat} {c:Rat} (hc:0≤c) (e:∀ P,f P=c):NonF f:=⟨0,Rat.le_refl,fun P=>by rw [e P];grind⟩
theorem NonF.add {f g h:Nat→Rat} (hf:NonF f) (hg:NonF g) (e:∀ P,h P=f P+g P):NonF h:=by
 obtain ⟨C,c0,hC⟩:=hf
 obtain ⟨D,d0,hD⟩:=hg
 exact ⟨C+D,by grind,fun P=>by have:=hC P;have:=hD P;rw [e P];grind⟩
theorem NonF.mul {f h:Nat→Rat} {k:Rat} (hf:NonF f) (hk:0≤k) (e:∀ P,h P=k * f P):NonF h:=by
 obtain ⟨C,c0,hC⟩:=hf
 refine ⟨k * C,Rat.mul_nonneg hk c0,fun P=>?_⟩
 have:=Rat.mul_le_mul_of_nonneg_left (hC P) hk
 rw [e P]
 grind
theorem PosF.addN {f g h:Nat→Rat} (hf:PosF f) (hg:NonF g) (e:∀ P,h P=f P+g P):PosF h:=by
 obtain ⟨a,C,a0,c0,hC⟩:=hf
 obtain ⟨D,d0,hD⟩:=hg
 exact ⟨a,C+D,a0,by grind,fun P=>by have:=hC P;have:=hD P;rw [e P];grind⟩
theorem CeilZ.lower {f:Nat→Rat} {z:Int} (h:CeilZ f z):PosF (fun P=>f P - ((z - 1:Int):Rat)):=by
 rcases h with h|⟨_,h⟩
 ·refine (PosF.const (f:=fun _=>1) (c:=1) (by decide) fun _=>rfl).near h fun P=>?_
  rw [Rat.intCast_sub]
  show _=1+(f P - (z:Rat))
  have e:((1:Int):Rat)=1:=rfl
  rw [e];grind
 ·exact h
theorem CeilZ.upper {f:Nat→Rat} {z:Int} (h:CeilZ f z):NonF (fun P=>(z:Rat) - f P):=by
 rcases h with h|⟨h,_⟩
 ·exact (h.mul (k:=-1) (h:=fun P=>(z:Rat) - f P) fun P=>by grind).non
 ·exact h.non
theorem inv_pos' {u:Int} (h:1≤u):(0:Rat) < 1 / (u:Rat)∧(1 / (u:Rat)) * (u:Rat)=1∧(0:Rat) < (u:Rat):=by
 have h1:((0:Int):Rat) < (u:Rat):=Rat.intCast_lt_intCast.2 (by omega)
 have h1':(0:Rat) < (u:Rat):=h1
 refine ⟨by rw [Rat.div_def,Rat.one_mul];exact Rat.inv_pos.2 h1',?_,h1'⟩
 exact Rat.div_mul_cancel (fun h=>by rw [h] at h1';exact Rat.lt_irrefl h1')
end Go.Proofs.YthihcjgmlbnapaaGreatDoor
namespace Go.Proofs.YthihcjgmlbnapaaGreatDoor
open Go
def Tot (k:Rat):List Terms→Int→Prop
 | [],Z=>Z=0
 | T::L,Z=>∃ n R:Int,0≤n∧CeilZ (fun P=>(1 / k) * valT T P) n∧Tot k L R∧Z=n+R
theorem Tot.snoc {k:Rat} {T:Terms} {n:Int} (h0:0≤n) (hn:CeilZ (fun P=>(1 / k) * valT T P) n):∀ {L:List Terms} {Z:Int},Tot k L Z→Tot k (L++[T]) (Z+n)
 | [],Z,h=>⟨n,0,h0,hn,rfl,by have:Z=0:=h;omega⟩
 | S::L,Z,⟨m,R,m0,hm,hR,e⟩=>⟨m,R+n,m0,hm,hR.snoc h0 hn,by omega⟩
theorem Tot.nn {k:Rat}:∀ {L:List Terms} {Z:Int},Tot k L Z→0≤Z
 | [],Z,h=>by have:Z=0:=h;omega
 | _::_,_,⟨_,_,m0,_,hR,e⟩=>by have:=hR.nn;omega
def sumV:List Terms→Nat→Rat
 | [],_=>0
 | T::L,P=>valT T P+sumV L P
theorem sumV_snoc (T:Terms) (P:Nat):∀ L,sumV (L++[T]) P=sumV L P+valT T P
 | []=>by show valT T P+0=0+valT T P;grind
 | S::L=>by show valT S P+sumV (L++[T]) P=valT S P+sumV L P+valT T P;rw [sumV_snoc T P L];grind
theorem Tot.up {k:Rat} (hk:0 < k):∀ {L:List Terms} {Z:Int},Tot k L Z→NonF (fun P=>(Z:Rat) * k - sumV L P)
 | [],Z,h=>by
  have e:Z=0:=h
  subst e
  exact NonF.const (c:=0) Rat.le_refl fun P=>by show ((0:Int):Rat) * k - 0=0;rw [show ((0:Int):Rat)=0 from rfl];grind
 | T::L,Z,⟨n,R,n0,hn,hR,e⟩=>by
  subst e
  have hi:k * (1 / k)=1:=by rw [Rat.div_def,Rat.one_mul];exact Rat.mul_inv_cancel k (fun h=>by rw [h] at hk;exact Rat.lt_irrefl hk)
  have h1:=hn.upper.mul (k:=k) (Rat.le_of_lt hk) fun P=>rfl
  refine h1.add (hR.up hk) fun P=>?_
  rw [Rat.intCast_add]
  show ((n:Rat)+(R:Rat)) * k - (valT T P+sumV L P)=k * ((n:Rat) - 1 / k * valT T P)+((R:Rat) * k - sumV L P)
  have h2:k * (1 / k * valT T P)=valT T P:=by rw [← Rat.mul_assoc,hi,Rat.one_mul]
  grind
theorem Tot.low {k:Rat} (hk:0 < k):∀ {L:List Terms} {Z:Int},Tot k L Z→NonF (fun P=>sumV L P - ((Z - (L.length:Int):Int):Rat) * k)∧(L≠[]→PosF (fun P=>sumV L P - ((Z - (L.length:Int):Int):Rat) * k))
 | [],Z,h=>by
  have e:Z=0:=h
  subst e
  exact ⟨NonF.const (c:=0) Rat.le_refl fun P=>by show (0:Rat) - ((0:Int):Rat) * k=0;rw [show ((0:Int):Rat)=0 from rfl];grind,fun h=>absurd rfl h⟩
 | T::L,Z,⟨n,R,n0,hn,hR,e⟩=>by
  subst e
  have hi:k * (1 / k)=1:=by rw [Rat.div_def,Rat.one_mul];exact Rat.mul_inv_cancel k (fun h=>by rw [h] at hk;exact Rat.lt_irrefl hk)
  have h1:=hn.lower.mul (k:=k) hk fun P=>rfl
  have key:PosF (fun P=>sumV (T::L) P - ((n+R - ((T::L).length:Int):Int):Rat) * k):=by
   refine h1.addN (hR.low hk).1 fun P=>?_
   have e1:n+R - ((T::L).length:Int)=(n - 1)+(R - (L.length:Int)):=by simp;omega
   rw [e1,Rat.intCast_add]
   show valT T P+sumV L P - (((n - 1:Int):Rat)+((R - (L.length:Int):Int):Rat)) * k=k * (1 / k * valT T P - ((n - 1:Int):Rat))+(sumV L P - ((R - (L.length:Int):Int):Rat) * k)
   have h2:k * (1 / k * valT T P)=valT T P:=by rw [← Rat.mul_assoc,hi,Rat.one_mul]
   grind
  exact ⟨key.non,fun _=>key⟩
theorem Tot.signs {k:Rat} (hk:0 < k) {L:List Terms} {Z:Int} (h:Tot k L Z) {S:Terms} (hS:Near0 (fun P=>valT S P - sumV L P)) {m l:Rat} (hm:m=(Z:Rat) * k) (hl:l=((Z - (L.length:Int):Int):Rat) * k) {c d:Int}
  (hc:SgnIs (fun P=>valT (oneT m 1) P - valT S P) c) (hd:SgnIs (fun P=>valT (oneT l 1) P - valT S P) d):0≤c∧(L≠[]→d < 0):=by
 have em:∀ P,valT (oneT m 1) P=m:=fun P=>valT_oneT _ _
 have el:∀ P,valT (oneT l 1) P=l:=fun P=>valT_oneT _ _
 refine ⟨?_,fun hL=>?_⟩
 ·have h1:NonF (fun P=>valT (oneT m 1) P - valT S P):=(h.up hk).add (hS.mul (k:=-1) fun P=>rfl).non fun P=>by rw [em,hm];grind
  rcases hc with ⟨rfl,_⟩|⟨rfl,hp⟩|⟨rfl,_⟩
  ·decide
  ·exact (not_pos_zero (f:=fun _=>0) (hp.addN h1 fun P=>by grind) fun _=>rfl).elim
  ·decide
 ·have h1:PosF (fun P=>- (valT (oneT l 1) P - valT S P)):=((h.low hk).2 hL).near hS fun P=>by rw [el,hl];grind
  have:=hd.of_neg h1
  omega
end Go.Proofs.YthihcjgmlbnapaaGreatDoor
namespace Go.Proofs.YthihcjgmlbnapaaGreatDoor
open Go
def ownL (L:List LineD):List LineD:=L.filter fun x=>decide (x.k=1∨x.k=2)
theorem ownL_yes {L:List LineD} {k:Nat} (h:k < L.length) (hk:(L[k]).k=1∨(L[k]).k=2):ownL (L.take (k+1))=ownL (L.take k)++[L[k]]:=by
 unfold ownL
 rw [List.take_succ_eq_append_getElem h,List.filter_append]
 simp [List.filter,hk]
theorem ownL_no {L:List LineD} {k:Nat} (h:k < L.length) (hk:¬ ((L[k]).k=1∨(L[k]).k=2)):ownL (L.take (k+1))=ownL (L.take k):=by
 unfold ownL
 rw [List.take_succ_eq_append_getElem h,List.filter_append]
 simp [List.filter,hk]
theorem ownL_mem {L:List LineD} {x:LineD} (h:x ∈ ownL L):x ∈ L∧(x.k=1∨x.k=2):=by
 unfold ownL at h
 obtain ⟨h1,h2⟩:=List.mem_filter.1 h
 exact ⟨h1,by simpa using h2⟩
theorem ownL_len (L:List LineD):(ownL L).length≤L.length:=List.length_filter_le _ _
theorem sqs_nn (x y z:Rat):0≤x * x+y * y+z * z:=by
 have h:∀ x:Rat,0≤x * x:=fun x=>by
  rcases Rat.le_total (a:=0) (b:=x) with h|h
  ·exact Rat.mul_nonneg h h
  ·have h1:0≤-x:=by grind
   have:=Rat.mul_nonneg h1 h1
   grind
 have h1:=h x
 have h2:=h y
 have h3:=h z
 grind
theorem normQ_nn {q:Rat} (h:0≤q):0≤(normQ q).1:=by
 by_cases h0:q=0
 ·rw [h0,normQ_zero];exact Rat.le_refl
 ·have h1:=Rat.num_nonneg.2 h
  have h2:q.num≠0:=fun e=>h0 (Rat.num_eq_zero.1 e)
  exact Rat.le_of_lt (normQ_val (show 0 < q.num by omega)).2.1
theorem valT_nn {c:Rat} (h:0≤c) (n:Nat):NonF (valT (oneT c n)):=by
 refine ⟨0,Rat.le_refl,fun P=>?_⟩
 unfold oneT
 split
 ·show -(0 * uP P)≤0
  grind
 ·show -(0 * uP P)≤c * xr P n+0
  have:=Rat.mul_nonneg h (xr_nonneg P n)
  grind
theorem lineT_nn (x:LineD):NonF (valT (lineT x)):=valT_nn (normQ_nn (sqs_nn _ _ _)) _
theorem CeilZ.ge0 {f:Nat→Rat} {z:Int} (h:CeilZ f z) (hf:NonF f):0≤z:=by
 refine Int.not_lt.1 fun hz=>?_
 have h1:(z:Rat) < ((0:Int):Rat):=Rat.intCast_lt_intCast.2 hz
 have h1':(z:Rat) < 0:=h1
 have hp:PosF (fun P=>f P - (z:Rat)):=(PosF.const (f:=fun _=>-(z:Rat)) (c:=-(z:Rat)) (by grind) fun _=>rfl).addN hf fun P=>by grind
 rcases h with h|⟨h2,_⟩
 ·exact hp.notNear h
 ·exact hp.notNeg h2 fun P=>by grind
theorem unit_nn {f:Nat→Rat} {k:Int} (hf:NonF f) (hk:1≤k):NonF (fun P=>(1 / (k:Rat)) * f P):=hf.mul (Rat.le_of_lt (inv_pos' hk).1) fun P=>rfl
theorem Tot.line {k:Int} {L:List LineD} {Z n:Int} {x:LineD} (hk:1≤k) (h:Tot (k:Rat) (L.map lineT) Z) (hn:CeilZ (fun P=>(1 / (k:Rat)) * valT (lineT x) P) n):Tot (k:Rat) ((L++[x]).map lineT) (Z+n):=by
 rw [List.map_append]
 exact h.snoc (hn.ge0 (unit_nn (lineT_nn x) hk)) hn
theorem lineL_one (x:LineD):(lineL x).length≤1:=by
 unfold lineL oneL
 split<;>simp
theorem lineP.res {x:LineD} (h:lineP x):ResT (lineL x) (lineT x):=h.is.res (by have:=lineL_one x;omega)
theorem lineP.ok {x:LineD} (h:lineP x):SurdOk (lineL x):=⟨_,h.is⟩
end Go.Proofs.YthihcjgmlbnapaaGreatDoor
namespace Go.Proofs.YthihcjgmlbnapaaGreatDoor
open Go.RowKit Go.Shelf
def RetRg (u:Rat) (L:List LineD) (w:World) (e:Ending) (w':World):Prop:=∃ n c:Int,e=.returned (.tuple #[.int .i64 n,.int .i64 c])∧Hid (c≠0→n=0)∧Hid (c=0→(∀ x ∈ ownL L,lineP x)∧Tot u ((ownL L).map lineT) n∧n≤1073741824)∧Below w.heap.size w w'
def lineZ:LineD:=⟨0,⟨#[]⟩,⟨#[]⟩,⟨#[]⟩,⟨#[]⟩,⟨#[]⟩,⟨#[]⟩,0,0⟩
theorem roof_cell (w:World) (v:Value) (t:TypeId) (hv:v.oneCell'=true):(w.alloc (.cells #[.slice none 0 0,.slice none 0 0,.slice none 0 0,v] t)).cell? ⟨w.heap.size,3,none⟩=some v:=by
 simp only [World.cell?,show (w.alloc (.cells #[.slice none 0 0,.slice none 0 0,.slice none 0 0,v] t)).heap[w.heap.size]?=_ from World.alloc_heap_new _ _]
 rfl
theorem ridges_ok (L:List LineD) (k:Int) (v:Value) (w:World) (hW:Wor w) (hS:SidesOk w) (hv:IsLines w v L) (hl:L.length≤60) (hs:∀ x ∈ L,LineS x) (hk1:1≤k) (hk2:k≤2000) :
  Calls Tryz.prog 6 #[.agg #[.slice none 0 0,.slice none 0 0,.slice none 0 0,v],.int .i64 k] w (RetRg (k:Rat) L w):=by
 have HLEN:=Lib.hid (fun (x:LineD) (hx:x ∈ L) (hk:x.k=1∨x.k=2) W (hB:Below w.heap.size w W)=>(show Calls Tryz.prog 7 #[.agg #[.int .i64 x.k,.string x.a,.string x.b,.string x.c,.string x.d,.string x.e,.string x.f,.int .i64 x.l,.int .i64 x.r]] W (RetLe (lineP x) (lineL x) W) from rLength_ok x.k x.l x.r x.a x.b x.c x.d x.e x.f W (hW.glo.below hB) (hW.pri.below hB) (hS.below hB) (hs x hx) hk))
 have HWH:=Lib.hid (fun W (hB:Below w.heap.size w W)=>twhole_any k W (hW.glo.below hB) (by omega) (by omega))
 have HST:=Lib.hid (fun (x:LineD) (hP:lineP x) (y:Value) W (hB:Below w.heap.size w W) (hy:IsTerms W y (lineL x))=>Steps_ok (lineT x) none (lineL x) k y W (hW.below hB) hy hP.res (by have:=lineL_one x;omega) ⟨hk1,by omega⟩ (fun d h=>by cases h))
 have hkk:¬ k < 1:=by omega
 have hkm:¬ (2000:Int) < k:=by omega
 obtain ⟨a,cap,rfl,hcap,h⟩:=hv
 have HV:=Lib.hid h
 have HK:=Lib.hid hk1
 have hR0:=roof_cell w (.slice a L.length cap) 35 rfl
 have hBR:Below w.heap.size w (w.alloc (.cells #[.slice none 0 0,.slice none 0 0,.slice none 0 0,.slice a L.length cap] 35)):=bw4 (bw0 _ _) _
 clear hW hS hs h hk1 hk2
 go_enter Tryz.func6,Tryz.ntmps6
 go_wp2_with fail
 go_loopw [6,21] (fun s i wr=>∃ (j:Nat) (S Z:Int),j≤L.length∧i=.int .i64 j∧s=.int .i64 S∧0≤S∧S≤1073741825∧Hid ((Z≤1073741825→S=Z)∧(1073741825 < Z→S=1073741825))∧Hid (∀ x ∈ ownL (L.take j),lineP x)∧Hid (Tot (k:Rat) ((ownL (L.take j)).map lineT) Z)∧Below w.heap.size w wr) (fun _ i _=>L.length - (intOf i).toNat)
 case atStart=>exact ⟨0,0,0,by omega,rfl,rfl,by omega,by omega,Lib.hid ⟨fun _=>rfl,fun h=>by omega⟩,Lib.hid (fun x h=>by simp [ownL] at h),Lib.hid rfl,hBR⟩
 case round =>
  obtain ⟨j,S,Z,hj,rfl,rfl,hS0,hS1,HSZ,HPJ,HTJ,hB⟩:=hrel
  clear hR0 hBR
  by_cases hlt:j < L.length
  ·obtain ⟨b,off,rfl,hcell⟩:=HV.out (fun h0=>by rw [h0] at hlt;simp at hlt)
   have hc:=(hcell j hlt).below hB
   have hmem:=Lib.hid (List.getElem_mem hlt)
   have HY:=Lib.hid (ownL_yes (L:=L) hlt)
   have HN:=Lib.hid (ownL_no (L:=L) hlt)
   generalize L[j]=x at *
   obtain ⟨c0,c1,c2,c3,c4,c5,c6,c7,c8⟩:=hc.cs
   have hltI:(j:Int) < (L.length:Int):=by omega
   have hj1:IntKind.i64.wrap ((j:Int)+1)=((j+1:Nat):Int):=IntWalk.i64_in _ (by omega)
   have y0:BoxL (wr.alloc (.cells #[.int .i64 lineZ.k,.string lineZ.a,.string lineZ.b,.string lineZ.c,.string lineZ.d,.string lineZ.e,.string lineZ.f,.int .i64 lineZ.l,.int .i64 lineZ.r] 40)) wr.heap.size lineZ:=BoxL.new rfl
   have hb1:Below w.heap.size w (wr.alloc (.cells #[.int .i64 lineZ.k,.string lineZ.a,.string lineZ.b,.string lineZ.c,.string lineZ.d,.string lineZ.e,.string lineZ.f,.int .i64 lineZ.l,.int .i64 lineZ.r] 40)):=bw4 hB _
   have hz1:=hB.size
   clear hcell hc
   by_cases hkind:x.k=1∨x.k=2
   ·have HTN:=Lib.hid HTJ.out.nn
    have HNX:Hid (lineP x→∀ n:Int,CeilZ (fun P=>(1 / (k:Rat)) * valT (lineT x) P) n→0≤n∧(∀ y ∈ ownL (L.take (j+1)),lineP y)∧Tot (k:Rat) ((ownL (L.take (j+1))).map lineT) (Z+n)):=Lib.hid (fun hP n hn=>by
     rw [HY.out hkind]
     refine ⟨hn.ge0 (unit_nn (lineT_nn x) HK.out),fun y hy=>?_,HTJ.out.line HK.out hn⟩
     rcases List.mem_append.1 hy with h1|h1
     ·exact HPJ.out y h1
     ·rw [List.mem_singleton.1 h1];exact hP)
    have HL:=Lib.hid (HLEN.out x hmem.out hkind)
    have HSX:=Lib.hid (fun hP=>HST.out x hP)
    clear HLEN HST HY HN hmem HPJ HTJ
    generalize (fun P=>(1 / (k:Rat)) * valT (lineT x) P)=fX at *
    generalize lineP x=PX at *
    generalize lineL x=LX at *
    obtain ⟨kx,ax,bx,cx,dx,ex,fx,lx,rx⟩:=x
    dsimp only at *
    rcases hkind with rfl|rfl
    all_goals
     go_wp2_with (refine wpList_storeL (Y:=⟨_,ax,bx,cx,dx,ex,fx,lx,rx⟩) rfl _ _ rfl y0 Tryz.infoLine1 rfl rfl ?_;intro Wz hS hx;have hbz:Below w.heap.size w Wz:=hS.below hb1 (by omega);obtain ⟨g0,g1,g2,g3,g4,g5,g6,g7,g8⟩:=hx.cs;dsimp only at g0 g1 g2 g3 g4 g5 g6 g7 g8;clear hS y0 hb1 c0 c1 c2 c3 c4 c5 c6 c7 c8)
     refine (HL.out _ hbz).mono ?_
     rintro e w2 ⟨u,c,L',rfl,hu,hc,hB2⟩
     have hb2:=below_trans' hbz hB2
     clear hB2 hbz g0 g1 g2 g3 g4 g5 g6 g7 g8 hx HL
     by_cases h0:c=0
     ·have HPX:=Lib.hid (hc.out.1.1 h0)
      have e:=hc.out.2 h0
      subst e
      subst h0
      have HNY:=Lib.hid (HNX.out HPX.out)
      have HSY:=Lib.hid (fun (y:Value) W hB hy=>HSX.out HPX.out y W hB hy)
      have HU:=Lib.hid hu
      obtain ⟨ua,uc,rfl,_⟩:=hu
      clear hc HNX HSX
      go_wp2_with fail
      refine (HWH.out _ hb2).mono ?_
      rintro e w3 ⟨r,hr,rfl,hB3⟩
      have hb3:=below_trans' hb2 hB3
      have hu3:=Lib.hid (HU.out.below hB3)
      obtain rfl:=numS_of hr.out
      clear hr hB3 hb2 HU
      go_wp2_with fail
      refine (HSY.out _ _ hb3 hu3.out).mono ?_
      rintro e w4 ⟨n,c,rfl,hn,hn2,hB4⟩
      have hb4:=below_trans' hb3 hB4
      clear hn2 hB4 hb3 hu3 HSY
      by_cases h0:c=0
      ·obtain ⟨hn3,hn4,hn5⟩:=hn.out h0
       obtain ⟨hn6,HP2,HT2⟩:=HNY.out n hn3
       replace HP2:=Lib.hid HP2
       replace HT2:=Lib.hid HT2
       subst h0
       obtain ⟨m1,q1,q2,q3,hm1⟩:=@min2_any Tryz.prog .i64 n 1073741825
       have hwr:IntKind.i64.wrap (S+m1)=S+m1:=IntWalk.i64_in _ (by omega)
       obtain ⟨m2,r1,r2,r3,hm2⟩:=@min2_any Tryz.prog .i64 (S+m1) 1073741825
       have HNZ:Hid (0≤m2∧m2≤1073741825∧(Z+n≤1073741825→m2=Z+n)∧(1073741825 < Z+n→m2=1073741825)):=Lib.hid (by
        obtain ⟨z1,z2⟩:=HSZ.out
        have:=HTN.out
        omega)
       clear hn hn3 HNY q1 q2 q3 r1 r2 r3 HSZ
       go_wp2_with fail
       go_roundw
       case rel=>exact ⟨j+1,m2,Z+n,by omega,by go_num,rfl,HNZ.out.1,HNZ.out.2.1,Lib.hid HNZ.out.2.2,HP2,HT2,hb4⟩
       case measure=>simp [intOf];omega
      ·clear hn HNY
       go_wp2_with fail
       refine bodyPost_ret (v:=.tuple #[.int .i64 0,.int .i64 c]) (by simp [results,Tryz.results6,go_sem]) rfl ?_
       exact ⟨0,c,rfl,Lib.hid (fun _=>rfl),Lib.hid (fun h=>absurd h h0),hb4⟩
     ·obtain ⟨ua,uc,rfl,_⟩:=hu
      clear hc HNX HSX
      go_wp2_with fail
      refine bodyPost_ret (v:=.tuple #[.int .i64 0,.int .i64 c]) (by simp [results,Tryz.results6,go_sem]) rfl ?_
      exact ⟨0,c,rfl,Lib.hid (fun _=>rfl),Lib.hid (fun h=>absurd h h0),hb2⟩
   ·have n1:¬ x.k=1:=fun h=>hkind (.inl h)
    have n2:¬ x.k=2:=fun h=>hkind (.inr h)
    have m1:(x.k != 1)=true:=by simp [n1]
    have m2:(x.k != 2)=true:=by simp [n2]
    have e:=HN.out hkind
    rw [← e] at HPJ HTJ
    clear HY HN HLEN HWH HST
    go_wp2_with (refine wpList_storeL rfl _ _ rfl y0 Tryz.infoLine1 rfl rfl ?_;intro Wz hS hx;have hbz:Below w.heap.size w Wz:=hS.below hb1 (by omega);obtain ⟨g0,g1,g2,g3,g4,g5,g6,g7,g8⟩:=hx.cs;clear hS y0 hb1 c0 c1 c2 c3 c4 c5 c6 c7 c8)
    go_roundw
    case rel=>exact ⟨j+1,S,Z,by omega,by go_num,rfl,hS0,hS1,HSZ,HPJ,HTJ,hbz⟩
    case measure=>simp [intOf];omega
  ·have e:j=L.length:=by omega
   subst e
   rw [List.take_length] at HPJ HTJ
   have hltI:¬ (L.length:Int) < (L.length:Int):=by omega
   clear HLEN HWH HST HV
   by_cases hs:1073741824 < S
   ·go_wp2_with fail
    refine bodyPost_ret (v:=.tuple #[.int .i64 0,.int .i64 4]) (by simp [results,Tryz.results6,go_sem]) rfl ?_
    exact ⟨0,4,rfl,Lib.hid (fun _=>rfl),Lib.hid (fun h=>absurd h (by decide)),hB⟩
   ·have e:S=Z:=by obtain ⟨z1,z2⟩:=HSZ.out;omega
    subst e
    go_wp2_with fail
    refine bodyPost_ret (v:=.tuple #[.int .i64 S,.int .i64 0]) (by simp [results,Tryz.results6,go_sem]) rfl ?_
    exact ⟨S,0,rfl,Lib.hid (fun h=>absurd rfl h),Lib.hid (fun _=>⟨HPJ.out,HTJ.out,by omega⟩),hB⟩
end Go.Proofs.YthihcjgmlbnapaaGreatDoor
namespace Go.Proofs.YthihcjgmlbnapaaGreatDoor
open Go.RowKit Go.Shelf
theorem sgnL_code (T:Terms):∀ ps,(sgnL ps T).2=0∨(sgnL ps T).2=4
 | []=>.inr rfl
 | p::ps=>by
  unfold sgnL
  split
  ·exact .inl rfl
  ·split
   ·exact .inl rfl
   ·exact sgnL_code T ps
theorem sgnF_code (T:Terms):(sgnF T).2=0∨(sgnF T).2=4:=by
 unfold sgnF
 split
 ·exact .inl rfl
 ·exact sgnL_code T _
def RetCG (f:Nat→Rat) (w:World) (e:Ending) (w':World):Prop:=∃ s c:Int,e=.returned (.tuple #[.int .i64 s,.int .i64 c])∧SgnR s∧(c=0∨c=4)∧Hid (c=0→SgnIs f s)∧Below w.heap.size w w'
theorem CompareG_ok (T S:Terms) (L M:TTexts) (u v:Value) (w:World) (hG:Glo w) (hP:Pri w) (hPl:SPl w) (hu:IsTerms w u L) (hv:IsTerms w v M) (hT:ResT L T) (hS:ResT M S) (h12:L.length+M.length≤12) (hC:SurdOk L∧SurdOk M) :
  Calls Tryz.prog 11 #[u,v] w (RetCG (fun P=>valT T P - valT S P) w):=by
 have H1:=Lib.hid (SubG_ok T S L M u v w hG hP hu hv hT hS h12)
 have H2:=Lib.hid (fun (T':Terms) (L':TTexts) (x:Value) (W:World) hG hPl (hx:IsTerms W x L') (h:ResT L' T')=>(by rw [h.cls] at hx;exact sign_ok T' x W hG hPl hx h.mid (by rw [h.same];exact h.len):Calls Tryz.prog 33 #[x] W (RetB (.tuple #[.int .i64 (sgnF T').1,.int .i64 (sgnF T').2]) W)))
 have HC:=Lib.hid hC
 have HG:=Lib.hid hG
 have HPL:=Lib.hid hPl
 generalize (fun P=>valT T P - valT S P)=f at *
 obtain ⟨a1,c1,rfl,_⟩:=hu
 obtain ⟨a2,c2,rfl,_⟩:=hv
 clear hG hP hPl hT hS h12 hC
 go_enter Tryz.func11,Tryz.ntmps11
 go_wp2_with fail
 refine H1.out.mono ?_
 rintro e w1 ⟨x,c,L',rfl,hx,hT,hD2,hB1⟩
 have hcc:=hD2.out.1 HC.out
 clear H1
 by_cases hc:c=0
 ·obtain ⟨_,T',hR,hN⟩:=hT.out hc
  have H3:=Lib.hid (H2.out T' L' x w1 (HG.out.below hB1) (HPL.out.below hB1) hx hR)
  have HR:=Lib.hid hR
  have HN:=Lib.hid hN
  have hrg:=sgnF_range T'
  have hcd:=sgnF_code T'
  have HSI:Hid ((sgnF T').2=0→SgnIs (valT T') (sgnF T').1):=Lib.hid (fun h=>sgnF_is HR.out.terms (by rw [← h]))
  obtain ⟨a3,c3,rfl,_⟩:=hx
  generalize (sgnF T').1=rs at *
  generalize (sgnF T').2=rc at *
  subst hc
  clear hT hD2 H2 hR hN hcc
  go_wp2_with fail
  refine H3.out.mono ?_
  rintro e w2 ⟨rfl,hB2⟩
  have hb2:=below_trans' hB1 hB2
  clear hB2
  go_wp2_with fail
  refine bodyPost_ret (v:=.tuple #[.int .i64 rs,.int .i64 rc]) (by simp [results,Tryz.results11,go_sem]) rfl ?_
  exact ⟨rs,rc,rfl,hrg,hcd,Lib.hid (fun h=>(HSI.out h).near HN.out),hb2⟩
 ·obtain ⟨a3,c3,rfl,_⟩:=hx
  clear hT hD2 H2
  go_wp2_with fail
  refine bodyPost_ret (v:=.tuple #[.int .i64 0,.int .i64 c]) (by simp [results,Tryz.results11,go_sem]) rfl ?_
  exact ⟨0,c,rfl,.inr (.inr rfl),hcc,Lib.hid (fun h=>absurd h hc),hB1⟩
end Go.Proofs.YthihcjgmlbnapaaGreatDoor
namespace Go.Proofs.YthihcjgmlbnapaaGreatDoor
open Go.RowKit Go.Shelf
theorem awake_good:GoodCourse 0 1 [(0,1000)] where
 slo:=by decide +kernel
 shi:=by decide +kernel
 lt:=by decide +kernel
 right:=by
  refine ⟨fun k h=>?_,fun k h=>?_⟩
  ·obtain rfl:k=0:=by simp at h;omega
   exact ⟨show Small (0:Rat) from by decide +kernel,show Small (1000:Rat) from by decide +kernel,show (0:Rat) < 1000 from by decide +kernel⟩
  ·simp at h
 len:=by decide
 sum:=by decide +kernel
 dif:=fun k h=>by
  obtain rfl:k=0:=by simp at h;omega
  exact show Small (1000 - 0:Rat) from by decide +kernel
 d:=by decide +kernel
 p:=by decide +kernel
theorem awake_steps:GoodSteps [(0,1000)] 300:=fun k h=>by
 obtain rfl:k=0:=by simp at h;omega
 exact ⟨show (0:Rat) < 1000 - 0 from by decide +kernel,show Small ((1000 - 0:Rat) / ((300:Int):Rat)) from by decide +kernel⟩
theorem awake_full:fullTo [(0,1000)] 300 1=3:=by decide +kernel
theorem awake_cut:cutTo [(0,1000)] 300 1=1:=by decide +kernel
theorem awake_to0:StepsTo 0 1000 ((300:Int):Rat) 4:=⟨by decide +kernel,by decide +kernel,by decide +kernel,by decide +kernel,by decide +kernel⟩
theorem awake_to1:StepsTo (0 - ((300:Int):Rat) / 2) 1000 ((300:Int):Rat) 4:=⟨by decide +kernel,by decide +kernel,by decide +kernel,by decide +kernel,by decide +kernel⟩
theorem awake_max (odd:Bool):∀ k,k≤[((0:Rat),(1000:Rat))].length→(offTo [(0,1000)] 300 odd (fun _=>4) k).length≤4000:=by
 intro k hk
 have:k=0∨k=1:=by simp at hk;omega
 rcases this with rfl|rfl<;>cases odd<;>decide +kernel
theorem awake_to (odd:Bool):∀ k (h:k < [((0:Rat),(1000:Rat))].length),StepsTo (firstAt [((0:Rat),(1000:Rat))][k] 300 odd) [((0:Rat),(1000:Rat))][k].2 ((300:Int):Rat) ((fun _=>4) k):=fun k h=>by
 obtain rfl:k=0:=by simp at h;omega
 cases odd
 ·exact awake_to0
 ·exact awake_to1
theorem awake_even:(offTo [(0,1000)] 300 false (fun _=>4) 1).map numS=[⟨#[48]⟩,⟨#[51,48,48]⟩,⟨#[54,48,48]⟩,⟨#[57,48,48]⟩]:=by decide +kernel
theorem awake_odd:(offTo [(0,1000)] 300 true (fun _=>4) 1).map numS=[⟨#[45,49,53,48]⟩,⟨#[49,53,48]⟩,⟨#[52,53,48]⟩,⟨#[55,53,48]⟩]:=by decide +kernel
theorem text_0:ratText 0=[48]:=by decide +kernel
theorem text_1:ratText 1=[49]:=by decide +kernel
theorem text_1000:ratText 1000=[49,48,48,48]:=by decide +kernel
theorem run_max_ok4 {P:Program} (ts:Array TypeId) (t:TypeId) (w:World):(Builtin.max_ ts t #[.int .i64 0,.int .i64 0,.int .i64 0,.int .i64 0]).run P w=.ok (.int .i64 0) w:=by
 simp [Builtin.max_,Builtin.max2]
theorem isStrs_lit4 (w:World) (a b c d:ByteArray) (t:TypeId):IsStrs (w.alloc (.cells #[.string a,.string b,.string c,.string d] t)) (.slice (some ⟨w.heap.size,0,none⟩) 4 4) [a,b,c,d]:=by
 refine ⟨some ⟨w.heap.size,0,none⟩,4,rfl,fun _=>⟨w.heap.size,0,rfl,fun k hk=>?_⟩⟩
 have:k=0∨k=1∨k=2∨k=3:=by simp at hk;omega
 rcases this with rfl|rfl|rfl|rfl<;>simp [go_sem]
theorem awake_ok (w:World) (hG:Glo w):Calls Tryz.prog 5 #[] w (RetB (.bool true) w):=by
 have HG:=Lib.hid hG
 clear hG
 go_enter Tryz.func5,Tryz.ntmps5
 go_wp2_with fail
 have hco:IsCourse ((w.alloc (.cells #[.string ⟨#[48]⟩,.string ⟨#[49,48,48,48]⟩] 54)).alloc (.cells #[.string ⟨#[48]⟩,.string ⟨#[49]⟩,.slice (some ⟨w.heap.size,0,none⟩) 1 1] 57)) (.agg #[.string ⟨#[48]⟩,.string ⟨#[49]⟩,.slice (some ⟨w.heap.size,0,none⟩) 1 1]) 0 1 [(0,1000)]:=by
  refine ⟨_,_,_,rfl,text_0.symm,text_1.symm,_,_,rfl,by decide,fun _=>⟨_,_,rfl,by simp;omega,fun k hk=>?_⟩⟩
  obtain rfl:k=0:=by simp at hk;omega
  exact ⟨⟨#[48]⟩,⟨#[49,48,48,48]⟩,by simp [go_sem],by simp [go_sem],text_0.symm,text_1000.symm⟩
 have HCO:=Lib.hid hco
 clear hco
 refine (Course_ok _ 300 _ (HG.out.below qbl) HCO.out awake_good awake_steps (by omega) (by omega)).mono ?_
 rintro e w1 ⟨rfl,hB1⟩
 have hb1:Below w.heap.size w w1:=qbl
 have c0:w1.cell? ⟨w.heap.size+1,0,none⟩=some (.string ⟨#[48]⟩):=keep hB1 (by simp [go_sem])
 have c1:w1.cell? ⟨w.heap.size+1,1,none⟩=some (.string ⟨#[49]⟩):=keep hB1 (by simp [go_sem])
 have c2:w1.cell? ⟨w.heap.size+1,2,none⟩=some (.slice (some ⟨w.heap.size,0,none⟩) 1 1):=keep hB1 (by simp [go_sem])
 have z1:=lt_of_cell c0
 have HC1:=Lib.hid (HCO.out.below hB1)
 rw [show [((0:Rat),(1000:Rat))].length=1 from rfl,awake_full,awake_cut]
 clear HCO hB1
 go_wp2_with fail
 refine (Offsets_ok _ 300 false _ (HG.out.below hb1) HC1.out awake_good (by omega) (by omega) (fun _=>4) (awake_to false) (awake_max false)).mono ?_
 rintro e w2 ⟨v2,rfl,hr2,hn2,hB2⟩
 have hb2:Below w.heap.size w w2:=qbl
 have d0:=keep hB2 c0
 have d1:=keep hB2 c1
 have d2:=keep hB2 c2
 have z2:=lt_of_cell d0
 have HC2:=Lib.hid (HC1.out.below hB2)
 have S2:=isStrs_row hr2
 rw [show [((0:Rat),(1000:Rat))].length=1 from rfl,awake_even] at S2
 have HS2:=Lib.hid S2
 clear HC1 hB2 hr2 hn2 c0 c1 c2 S2
 go_wp2_with fail
 refine (Offsets_ok _ 300 true _ (HG.out.below hb2) HC2.out awake_good (by omega) (by omega) (fun _=>4) (awake_to true) (awake_max true)).mono ?_
 rintro e w3 ⟨v3,rfl,hr3,hn3,hB3⟩
 have hb3:Below w.heap.size w w3:=qbl
 have S3:=isStrs_row hr3
 rw [show [((0:Rat),(1000:Rat))].length=1 from rfl,awake_odd] at S3
 have HS3:=Lib.hid S3
 have HS2':=Lib.hid (HS2.out.below hB3)
 clear HC2 hr3 hn3 d0 d1 d2 S3 HS2 hB3
 go_wp2_with fail
 refine (Spare_ok 101 10 _ (by omega) (by omega) (by omega) (by omega)).mono ?_
 rintro e w4 ⟨rfl,hB4⟩
 have hb4:Below w.heap.size w w4:=qbl
 have HS3':=Lib.hid (HS3.out.below hB4)
 have HS2'':=Lib.hid (HS2'.out.below hB4)
 have hmx:=@run_max_ok4 Tryz.prog
 clear HS3 HS2' hB4
 go_wp2_with fail
 refine (Equal_any _ _ _ _ _ (HS2''.out.below (bw4 (bw0 _ _) _)) (isStrs_lit4 w4 _ _ _ _ _) (by decide)).mono ?_
 rintro e w5 ⟨rfl,hB5⟩
 have hb5:Below w.heap.size w w5:=qbl
 have HS3'':=Lib.hid ((HS3'.out.below (bw4 (bw0 _ _) _)).below hB5)
 rw [decide_eq_true (by rfl)]
 clear HS3' HS2'' hB5
 go_wp2_with fail
 refine (Equal_any _ _ _ _ _ (HS3''.out.below (bw4 (bw0 _ _) _)) (isStrs_lit4 w5 _ _ _ _ _) (by decide)).mono ?_
 rintro e w6 ⟨rfl,hB6⟩
 have hb6:Below w.heap.size w w6:=qbl
 rw [decide_eq_true (by rfl)]
 clear hB6
 go_wp2_with fail
 go_ret
 exact ⟨rfl,hb6⟩
end Go.Proofs.YthihcjgmlbnapaaGreatDoor
namespace Go.Proofs.YthihcjgmlbnapaaGreatDoor
open Go.RowKit Go.Shelf
theorem num48_any (n:Int) (w:World) (hG:Glo w) (h0 : -9223372036854775808≤n) (h1:n≤9223372036854775807) :
  Calls Tryz.prog 10 #[.int .i64 n,.int .i64 1] w (RetB (.string (numS (n:Rat))) w):=by
 have HO:=Lib.hid (Of_one n w hG h0 h1)
 clear hG h0 h1
 go_enter Tryz.func10,Tryz.ntmps10
 go_wp2_with fail
 refine HO.out.mono ?_
 rintro e w1 ⟨r,hr,rfl,hB1⟩
 obtain rfl:=numS_of hr
 clear hr
 go_wp2_with fail
 go_ret
 exact ⟨rfl,hB1⟩
theorem width2000 {x:Int} (x1:0≤x) (x2:x≤65535):∃ m wd:Int,x.tmod 2000=m∧IntKind.i64.wrap (m+1)=wd∧1≤wd∧wd≤2000∧IntKind.i64.wrap m=m∧IntKind.i64.wrap x=x:=by
 have h:x.tmod 2000=x % 2000:=Int.tmod_eq_emod_of_nonneg x1
 refine ⟨_,x.tmod 2000+1,rfl,IntWalk.i64_in _ (by omega),by omega,by omega,IntWalk.i64_in _ (by omega),IntWalk.i64_in _ (by omega)⟩
theorem max4_zero {P:Program} (ts:Array TypeId) (t:TypeId) (w:World):(Builtin.max_ ts t #[.int .i64 0,.int .i64 0,.int .i64 0,.int .i64 0]).run P w=.ok (.int .i64 0) w:=by
 simp [Builtin.max_,Builtin.max2]
theorem min_six {P:Program} {L M:List LineD} (h:L.take 6=M) (ts:Array TypeId) (t:TypeId) (w:World):(Builtin.min_ ts t #[.int .i64 (L.length:Int),.int .i64 6]).run P w=.ok (.int .i64 (M.length:Int)) w:=by
 subst h
 have e:(if (6:Int) < (L.length:Int) then (6:Int) else (L.length:Int))=((L.take 6).length:Int):=by
  rw [List.length_take]
  split<;>omega
 rw [← e]
 simp [Builtin.min_,Builtin.min2]
theorem slice_six {L M:List LineD} {a:Option Addr} {cap:Nat} (h:L.take 6=M) (hcap:L.length≤cap) (W:World) :
  (Instr.slice 22 (.slice a L.length cap) none (some (.int .i64 (M.length:Int))) none).run Tryz.prog W=.ok (.slice a M.length cap) W:=by
 have hl:M.length≤cap:=by rw [← h,List.length_take];omega
 rw [run_slice_h (P:=Tryz.prog) W 22 a L.length cap (show Tryz.prog.underlying 22=some (.slice (Tryz.prog.elem 22)) by kernel_rfl) .i64 (M.length:Int) (by omega) (by omega)]
 have hs:(sizeOf (Tryz.prog.elem 22)).run Tryz.prog W=.ok 9 W:=by kernel_rfl
 rw [hs]
 show Result.ok (sliced a 0 (M.length:Int).toNat cap 9) W=_
 have e:(if cap=0 then a else a.map (·.add (0 * 9)))=a:=by
  cases a with
  | none=>simp
  | some x=>simp [Addr.add]
 simp [sliced,e]
theorem IsLines.cs {w:World} {a:Option Addr} {n cap:Nat} {L:List LineD} (hv:IsLines w (.slice a n cap) L) (h:L≠[]):∃ b off,a=some ⟨b,off,none⟩∧∀ k (h:k < L.length),LineAt w b (off+k * 9) L[k]:=by
 obtain ⟨a',cap',e,hc,hk⟩:=hv
 cases e
 exact hk h
theorem ownL_ne {L:List LineD} {k:Nat} (h:k < L.length):L≠[]:=fun e=>by rw [e] at h;simp at h
def SumIs (A:TTexts) (T:Terms) (l:List Terms):Prop:=ResT A T∧SurdOk A∧Near0 (fun P=>valT T P - sumV l P)
theorem SumIs.nil:SumIs [] [] []:=⟨SurdIs.nil.res (by simp),⟨_,SurdIs.nil⟩,Near0.zero fun P=>by show (0:Rat) - 0=0;grind⟩
theorem SumIs.snoc {A B:TTexts} {T S:Terms} {l:List Terms} {U:Terms} (h:SumIs A T l) (hR:ResT B S) (hB:SurdOk B) (hN:Near0 (fun P=>valT S P - (valT T P+valT U P))):SumIs B S (l++[U]) :=
 ⟨hR,hB,hN.add h.2.2 fun P=>by rw [sumV_snoc];grind⟩
def RetSm (l:List Terms) (N:Nat) (w:World) (e:Ending) (w':World):Prop:=∃ (u:Value) (c:Int) (L':TTexts),e=.returned (.tuple #[u,.int .i64 c])∧IsTerms w' u L'∧(c=0∨c=4)∧Hid (c=0→L'.length≤N∧∃ T,SumIs L' T l)∧Below w.heap.size w w'
theorem addLine_ok (x:LineD) (A:TTexts) (T:Terms) (l:List Terms) (u y:Value) (w:World) (hG:Glo w) (hP:Pri w) (hu:IsTerms w u A) (hy:IsTerms w y (lineL x)) (hS:SumIs A T l) (hx:lineP x) (hl:A.length≤11) :
  Calls Tryz.prog 8 #[u,y] w (RetSm (l++[lineT x]) (A.length+1) w):=by
 have h1:=lineL_one x
 refine (AddG_ok T (lineT x) A (lineL x) u y w hG hP hu hy hS.1 hx.res (by omega)).mono ?_
 rintro e w' ⟨u,c,L',he,hu,hT,hC,hB⟩
 refine ⟨u,c,L',he,hu,hC.out.1 ⟨hS.2.1,hx.ok⟩,Lib.hid fun h0=>?_,hB⟩
 obtain ⟨h2,T',h3,h4⟩:=hT.out h0
 exact ⟨by omega,T',hS.snoc h3 (hC.out.2 h0) h4⟩
theorem rLen_def (x:LineD) (w:World) (hG:Glo w) (hP:Pri w) (hS:SidesOk w) (h:lineP x∧LineS x∧(x.k=1∨x.k=2)) :
  Calls Tryz.prog 7 #[.agg #[.int .i64 x.k,.string x.a,.string x.b,.string x.c,.string x.d,.string x.e,.string x.f,.int .i64 x.l,.int .i64 x.r]] w (RetSd (lineL x) w):=by
 refine (show Calls Tryz.prog 7 #[.agg #[.int .i64 x.k,.string x.a,.string x.b,.string x.c,.string x.d,.string x.e,.string x.f,.int .i64 x.l,.int .i64 x.r]] w (RetLe (lineP x) (lineL x) w) from rLength_ok x.k x.l x.r x.a x.b x.c x.d x.e x.f w hG hP hS h.2.1 h.2.2).mono ?_
 rintro e w' ⟨u,c,L',he,hu,hc,hB⟩
 have h0:=hc.out.1.2 h.1
 have h1:=hc.out.2 h0
 subst h1
 subst h0
 exact ⟨u,he,hu,hB⟩
theorem take_map_snoc {L:List LineD} {k:Nat} (h:k < L.length):(L.take (k+1)).map lineT=(L.take k).map lineT++[lineT L[k]]:=by
 rw [List.take_succ_eq_append_getElem h,List.map_append];rfl
structure Fin (n K:Int) (O:List LineD):Prop where
 tot:Tot (K:Rat) (O.map lineT) n
 le:n≤1073741824
 len:O.length≤6
 k1:1≤K
 k2:K≤2000
theorem Fin.nn {n K:Int} {O:List LineD} (h:Fin n K O):0≤n:=h.tot.nn
theorem Fin.signs {n K:Int} {O:List LineD} (h:Fin n K O) {A:TTexts} {T:Terms} (hS:SumIs A T (O.map lineT)) {c d:Int}
  (hc:SgnIs (fun P=>valT (oneT ((n * K:Int):Rat) 1) P - valT T P) c) (hd:SgnIs (fun P=>valT (oneT (((n - (O.length:Int)) * K:Int):Rat) 1) P - valT T P) d):0≤c∧(O≠[]→d < 0):=by
 have h1:=Tot.signs (inv_pos' h.k1).2.2 h.tot hS.2.2 (m:=((n * K:Int):Rat)) (l:=(((n - (O.length:Int)) * K:Int):Rat)) (by rw [Rat.intCast_mul]) (by rw [Rat.intCast_mul,List.length_map]) hc hd
 exact ⟨h1.1,fun hO=>h1.2 (fun e=>hO (by simpa using e))⟩
theorem Fin.bounds {n K:Int} {O:List LineD} (h:Fin n K O):∃ m d l:Int,n * K=m∧n - (O.length:Int)=d∧d * K=l∧IntKind.i64.wrap m=m∧IntKind.i64.wrap d=d∧IntKind.i64.wrap l=l∧m.natAbs < 10 ^ 18∧l.natAbs < 10 ^ 18:=by
 have h0:=h.nn
 have h1:=h.le
 have h2:=h.len
 have h3:=h.k1
 have h4:=h.k2
 have a1:n * K≤1073741824 * 2000:=Int.mul_le_mul h1 h4 (by omega) (by omega)
 have a0:0≤n * K:=Int.mul_nonneg h0 (by omega)
 have b1:(O.length:Int) * K≤6 * 2000:=Int.mul_le_mul (by omega) h4 (by omega) (by omega)
 have b0:0≤(O.length:Int) * K:=Int.mul_nonneg (by omega) (by omega)
 have e:(n - (O.length:Int)) * K=n * K - (O.length:Int) * K:=Int.sub_mul _ _ _
 have e18:(10:Nat) ^ 18=1000000000000000000:=by decide +kernel
 refine ⟨n * K,n - (O.length:Int),(n - (O.length:Int)) * K,rfl,rfl,rfl,IntWalk.i64_in _ (by omega),IntWalk.i64_in _ (by omega),IntWalk.i64_in _ (by omega),by omega,by omega⟩
theorem IsLines.six {w:World} {a:Option Addr} {cap:Nat} {L M:List LineD} (hv:IsLines w (.slice a L.length cap) L) (h:L.take 6=M):IsLines w (.slice a M.length cap) M:=by
 subst h
 obtain ⟨a',cap',e,hc,hk⟩:=hv
 cases e
 refine ⟨a,cap,rfl,by rw [List.length_take];omega,fun hn=>?_⟩
 obtain ⟨b,off,e2,h2⟩:=hk (fun h=>hn (by rw [h];rfl))
 refine ⟨b,off,e2,fun k hk=>?_⟩
 have:=h2 k (by rw [List.length_take] at hk;omega)
 rw [List.getElem_take]
 exact this
theorem ridgesLaw (L:List LineD) (v:Value) (a1:Int) (w:World) (hW:Wor w) (hS:SidesOk w) (hv:IsLines w v L) (hm:L.length≤maxLen) (h0:0≤a1) (h1:a1≤65535) :
  Calls Tryz.prog 3 #[v,.int .u16 a1] w (RetB (.bool true) w):=by
 have HGL:=Lib.hid (gLines_ok L v w hv hm)
 have HAW:=Lib.hid (fun W (hB:Below w.heap.size w W)=>awake_ok W (hW.glo.below hB))
 obtain ⟨a,cap,rfl,hcap,_⟩:=id hv
 obtain ⟨M,hM⟩:∃ M,L.take 6=M:=⟨_,rfl⟩
 have hmn:=fun ts t (W:World)=>min_six (P:=Tryz.prog) hM ts t W
 have hsl:=fun W=>slice_six (a:=a) hM hcap W
 have HVM:=Lib.hid (hv.six hM)
 have hM6:M.length≤6:=by rw [← hM,List.length_take];omega
 have HSM:Hid ((∀ x ∈ L,LineS x)→∀ x ∈ M,LineS x):=Lib.hid (fun h x hx=>h x (List.mem_of_mem_take (by rw [hM];exact hx)))
 obtain ⟨q1,K,hq1,hqK,hK1,hK2,hwq,hwa⟩:=width2000 h0 h1
 have HRG:=Lib.hid (fun (hs:∀ x ∈ M,LineS x) W (hB:Below w.heap.size w W)=>ridges_ok M K _ W (hW.below hB) (hS.below hB) (HVM.out.below hB) (by omega) hs hK1 hK2)
 have HW:=Lib.hid hW
 have HS:=Lib.hid hS
 have HK:=Lib.hid (⟨hK1,hK2⟩:1≤K∧K≤2000)
 clear hW hS hv hm hM hcap
 go_enter Tryz.func3,Tryz.ntmps3
 go_wp2_with fail
 refine HGL.out.mono ?_
 rintro e w1 ⟨g,rfl,hg,hB1⟩
 cases g
 rotate_left
 ·clear HRG HSM HVM hmn hsl
  go_wp2_with fail
  refine (HAW.out _ hB1).mono ?_
  rintro e w2 ⟨rfl,hB2⟩
  have hb2:=below_trans' hB1 hB2
  clear hB1 hB2
  go_wp2_with fail
  go_ret
  exact ⟨rfl,hb2⟩
 ·have HSS:=Lib.hid (HSM.out (hg.out rfl).2)
  have HRG2:=Lib.hid (HRG.out HSS.out w1 hB1)
  clear hg HRG HSM HGL
  go_wp2_with fail
  refine HRG2.out.mono ?_
  rintro e w2 ⟨n,c,rfl,hn0,hn,hB2⟩
  have hb2:=below_trans' hB1 hB2
  clear hB1 hB2 HRG2 hmn hsl
  by_cases hc:c=0
  rotate_left
  ·have e:=hn0.out hc
   subst e
   clear hn0 hn HVM HSS
   go_wp2_with fail
   refine (HAW.out _ hb2).mono ?_
   rintro e w3 ⟨rfl,hB3⟩
   have hb3:=below_trans' hb2 hB3
   clear hb2 hB3
   go_wp2_with fail
   go_ret
   exact ⟨rfl,hb3⟩
  ·have HFN:=Lib.hid (hn.out hc)
   subst hc
   obtain ⟨i0,hi0,hz0,hz1,hz2⟩:=info_parts Tryz.infoLine
   clear hn0 hn hq1 hqK hwq hwa hK1 hK2
   go_wp2_with fail
   go_loopw [8,51] (fun o i wr=>∃ (j m:Nat) (sa:Option Addr) (sc:Nat),j≤M.length∧i=.int .i64 j∧o=.slice sa m sc∧Hid ((ownL (M.take j)).length=m)∧m≤j∧Hid (wr.ownsRow w2.heap.size 40 9 (.slice sa m sc) m (lineCells (ownL (M.take j))))∧Below w2.heap.size w2 wr) (fun _ i _=>M.length - (intOf i).toNat)
   case atStart=>exact ⟨0,0,none,0,by omega,rfl,rfl,Lib.hid rfl,by omega,Lib.hid (World.ownsRow_nil _ _ _ _),bw0 _ _⟩
   case round =>
    obtain ⟨j,m,sa,sc,hj,rfl,rfl,HML,hmj,HROW,hB⟩:=hrel
    have hb3:=below_trans' hb2 hB
    by_cases hlt:j < M.length
    ·obtain ⟨b,off,rfl,hcell⟩:=HVM.out.cs (ownL_ne hlt)
     have hc:=(hcell j hlt).below hb3
     have HY:=Lib.hid (ownL_yes (L:=M) hlt)
     have HN:=Lib.hid (ownL_no (L:=M) hlt)
     generalize M[j]=x at *
     obtain ⟨c0,c1,c2,c3,c4,c5,c6,c7,c8⟩:=hc.cs
     have hltI:(j:Int) < (M.length:Int):=by omega
     have hj1:IntKind.i64.wrap ((j:Int)+1)=((j+1:Nat):Int):=IntWalk.i64_in _ (by omega)
     have y0:BoxL (wr.alloc (.cells #[.int .i64 lineZ.k,.string lineZ.a,.string lineZ.b,.string lineZ.c,.string lineZ.d,.string lineZ.e,.string lineZ.f,.int .i64 lineZ.l,.int .i64 lineZ.r] 40)) wr.heap.size lineZ:=BoxL.new rfl
     have hb4:Below wr.heap.size wr (wr.alloc (.cells #[.int .i64 lineZ.k,.string lineZ.a,.string lineZ.b,.string lineZ.c,.string lineZ.d,.string lineZ.e,.string lineZ.f,.int .i64 lineZ.l,.int .i64 lineZ.r] 40)):=bw4 (bw0 _ _) _
     clear hcell hc HVM HSS HFN
     by_cases hkind:x.k=1∨x.k=2
     ·have HE:Hid (ownL (M.take (j+1))=ownL (M.take j)++[x]):=Lib.hid (HY.out hkind)
      clear HY HN
      obtain ⟨kx,ax,bx,cx,dx,ex,fx,lx,rx⟩:=x
      dsimp only at c0 c1 c2 c3 c4 c5 c6 c7 c8 hkind
      have HOB:=Lib.hid (fun q (hk:(Value.slice sa m sc).ownBlock=some q)=>(by obtain ⟨x,y,e,h⟩:=rowT_shape HROW.out;cases e;exact h q hk:w2.heap.size≤q))
      have M1:m+1≤maxLen:=by unfold maxLen;omega
      rcases hkind with rfl|rfl
      all_goals
       go_wp2_with (first|(refine wpList_storeL (Y:=⟨_,ax,bx,cx,dx,ex,fx,lx,rx⟩) rfl _ _ rfl y0 Tryz.infoLine1 rfl rfl ?_;intro Wz hS hx;have hbz:Below wr.heap.size wr Wz:=hS.below hb4 (Nat.le_refl _);have hbz2:=below_trans' hB hbz;have HROW2:=Lib.hid (rowKpB HROW.out hbz);have hszz:=Lib.hid hbz2.size;obtain ⟨g0,g1,g2,g3,g4,g5,g6,g7,g8⟩:=hx.cs;dsimp only at g0 g1 g2 g3 g4 g5 g6 g7 g8;clear hS y0 hb4 hB hb3 c0 c1 c2 c3 c4 c5 c6 c7 c8 hbz)|(at_builtin;refine wpList_append_own _ rfl _ _ 22 rfl w2.heap.size 40 i0 (.agg #[.int .i64 0,.string ⟨#[]⟩,.string ⟨#[]⟩,.string ⟨#[]⟩,.string ⟨#[]⟩,.string ⟨#[]⟩,.string ⟨#[]⟩,.int .i64 0,.int .i64 0]) 9 120 Tryz.underlying22 hi0 hz0 hz1 hz2 rfl (by decide) _ m _ rfl (HROW2.out.alloc _) ⟨Wz.heap.size,0,none⟩ 1 1 (LineD.cells ⟨_,ax,bx,cx,dx,ex,fx,lx,rx⟩) rfl rfl (line_cells_new Wz ⟨_,ax,bx,cx,dx,ex,fx,lx,rx⟩ _ rfl) (LineD.one _) M1 (by omega) (by have:=hszz.out;simp;omega) ?_;intro v' w3 hown' hgrow3 hnil3;have HROW3:=Lib.hid hown';have hB5:=Lib.hid (Below.grown (bw4 hbz2 _) hgrow3 (by have:=hszz.out;simp;omega) HOB.out);clear hown' hgrow3 hnil3;obtain ⟨sa2,sc2,rfl,_⟩:=rowT_shape HROW3.out))
       go_roundw
       case rel=>exact ⟨j+1,m+1,sa2,sc2,by omega,by go_num,rfl,Lib.hid (by rw [HE.out,List.length_append,HML.out];rfl),by omega,Lib.hid (by rw [HE.out,lineCells_append];exact HROW3.out),hB5.out⟩
       case measure=>simp [intOf];omega
     ·have n1:¬ x.k=1:=fun h=>hkind (.inl h)
      have n2:¬ x.k=2:=fun h=>hkind (.inr h)
      have p1:(x.k == 1)=false:=by simp [n1]
      have p2:(x.k == 2)=false:=by simp [n2]
      have e:=HN.out hkind
      rw [← e] at HML HROW
      clear HY HN e
      go_wp2_with (refine wpList_storeL rfl _ _ rfl y0 Tryz.infoLine1 rfl rfl ?_;intro Wz hS hx;have hbz:Below wr.heap.size wr Wz:=hS.below hb4 (Nat.le_refl _);have hbz2:=below_trans' hB hbz;have HROW2:=Lib.hid (rowKpB HROW.out hbz);obtain ⟨g0,g1,g2,g3,g4,g5,g6,g7,g8⟩:=hx.cs;clear hS y0 hb4 c0 c1 c2 c3 c4 c5 c6 c7 c8)
      go_roundw
      case rel=>exact ⟨j+1,m,sa,sc,by omega,by go_num,rfl,HML,by omega,HROW2,hbz2⟩
      case measure=>simp [intOf];omega
    ·have e:j=M.length:=by omega
     subst e
     rw [List.take_length] at HML HROW
     have hltI:¬ (M.length:Int) < (M.length:Int):=by omega
     have HOX:Hid (∀ x ∈ ownL M,lineP x∧LineS x∧(x.k=1∨x.k=2)):=Lib.hid (fun x hx=>⟨HFN.out.1 x hx,HSS.out x (ownL_mem hx).1,(ownL_mem hx).2⟩)
     have HFI:Hid (Fin n K (ownL M)):=Lib.hid ⟨HFN.out.2.1,HFN.out.2.2,by have:=ownL_len M;omega,HK.out.1,HK.out.2⟩
     clear HFN HSS HVM
     generalize ownL M=O at *
     obtain rfl:O.length=m:=HML.out
     have HOL:=Lib.hid (isLines_row HROW.out)
     have hO6:=HFI.out.len
     clear HROW HML hB hb2
     generalize wr=w3 at *
     have HCS:=Lib.hid (fun (h:O≠[])=>HOL.out.cs h)
     clear hi0 hz0 hz1 hz2
     go_wp2_with fail
     go_loopw [11,70] (fun s i wr=>∃ (j:Nat) (A:TTexts) (T:Terms) (ua:Option Addr) (uc:Nat),j≤O.length∧i=.int .i64 j∧s=.slice ua A.length uc∧Hid (IsTerms wr (.slice ua A.length uc) A)∧A.length≤j∧Hid (SumIs A T ((O.take j).map lineT))∧Below w3.heap.size w3 wr) (fun _ i _=>O.length - (intOf i).toNat)
     case atStart=>exact ⟨0,[],[],none,0,by omega,rfl,rfl,Lib.hid isTerms_nil,by simp,Lib.hid SumIs.nil,bw0 _ _⟩
     case round =>
      obtain ⟨j,A,T,ua,uc,hj,rfl,rfl,HU,hAj,HSU,hB⟩:=hrel
      have hb4:=below_trans' hb3 hB
      by_cases hlt:j < O.length
      ·obtain ⟨b,off,rfl,hcell⟩:=HCS.out (ownL_ne hlt)
       have hc:=(hcell j hlt).below hB
       have HTK:=Lib.hid (take_map_snoc hlt)
       have HX:=Lib.hid (HOX.out O[j] (List.getElem_mem hlt))
       generalize O[j]=x at *
       obtain ⟨c0,c1,c2,c3,c4,c5,c6,c7,c8⟩:=hc.cs
       have hltI:(j:Int) < (O.length:Int):=by omega
       have hj1:IntKind.i64.wrap ((j:Int)+1)=((j+1:Nat):Int):=IntWalk.i64_in _ (by omega)
       have HL:=Lib.hid (fun W (hB:Below w.heap.size w W)=>rLen_def x W (HW.out.glo.below hB) (HW.out.pri.below hB) (HS.out.below hB) HX.out)
       have HAD:=Lib.hid (fun (y:Value) W (hB0:Below w.heap.size w W) (hB1:Below wr.heap.size wr W) (hy:IsTerms W y (lineL x))=>(by rw [HTK.out];exact addLine_ok x A T _ _ y W (HW.out.glo.below hB0) (HW.out.pri.below hB0) (HU.out.below hB1) hy HSU.out HX.out.1 (by omega):Calls Tryz.prog 8 #[.slice ua A.length uc,y] W (RetSm ((O.take (j+1)).map lineT) (A.length+1) W)))
       have y0:BoxL (wr.alloc (.cells #[.int .i64 lineZ.k,.string lineZ.a,.string lineZ.b,.string lineZ.c,.string lineZ.d,.string lineZ.e,.string lineZ.f,.int .i64 lineZ.l,.int .i64 lineZ.r] 40)) wr.heap.size lineZ:=BoxL.new rfl
       have hb5:Below wr.heap.size wr (wr.alloc (.cells #[.int .i64 lineZ.k,.string lineZ.a,.string lineZ.b,.string lineZ.c,.string lineZ.d,.string lineZ.e,.string lineZ.f,.int .i64 lineZ.l,.int .i64 lineZ.r] 40)):=bw4 (bw0 _ _) _
       clear hcell hc HCS HOL HOX HTK HX HSU HU HFI
       generalize lineL x=LX at *
       obtain ⟨kx,ax,bx,cx,dx,ex,fx,lx,rx⟩:=x
       dsimp only at c0 c1 c2 c3 c4 c5 c6 c7 c8
       go_wp2_with (refine wpList_storeL (Y:=⟨kx,ax,bx,cx,dx,ex,fx,lx,rx⟩) rfl _ _ rfl y0 Tryz.infoLine1 rfl rfl ?_;intro Wz hS hx;have hbz:Below wr.heap.size wr Wz:=hS.below hb5 (Nat.le_refl _);have hbw:=below_trans' hb4 hbz;obtain ⟨g0,g1,g2,g3,g4,g5,g6,g7,g8⟩:=hx.cs;dsimp only at g0 g1 g2 g3 g4 g5 g6 g7 g8;clear hS y0 hb5 c0 c1 c2 c3 c4 c5 c6 c7 c8)
       refine (HL.out _ hbw).mono ?_
       rintro e w5 ⟨y,rfl,hy,hB5⟩
       have hb6:=below_trans' hbw hB5
       have hc6:=below_trans' hbz hB5
       have HY:=Lib.hid hy
       obtain ⟨ya,yc,rfl,_⟩:=hy
       clear hB5 hbw hbz g0 g1 g2 g3 g4 g5 g6 g7 g8 hx HL
       go_wp2_with fail
       refine (HAD.out _ _ hb6 hc6 HY.out).mono ?_
       rintro e w6 ⟨z,c,B,rfl,hz,hcc,hz2,hB6⟩
       have hb7:=below_trans' hb6 hB6
       have hc7:=below_trans' hB (below_trans' hc6 hB6)
       have HZ:=Lib.hid hz
       obtain ⟨za,zc,rfl,_⟩:=hz
       clear hB6 hb6 hc6 HY HAD hb4 hB
       rcases hcc with rfl|rfl
       ·obtain ⟨hl,T2,hS2⟩:=hz2.out rfl
        have HS2:=Lib.hid hS2
        clear hS2 hz2
        go_wp2_with fail
        go_roundw
        case rel=>exact ⟨j+1,B,T2,za,zc,by omega,by go_num,rfl,HZ,by omega,HS2,hc7⟩
        case measure=>simp [intOf];omega
       ·clear hz2
        go_wp2_with fail
        refine (HAW.out _ hb7).mono ?_
        rintro e w7 ⟨rfl,hB7⟩
        have hb8:=below_trans' hb7 hB7
        clear hB7 hb7 hc7
        go_wp2_with fail
        go_ret
        exact ⟨rfl,hb8⟩
      ·have e:j=O.length:=by omega
       subst e
       rw [List.take_length] at HSU
       have hltI:¬ (O.length:Int) < (O.length:Int):=by omega
       obtain ⟨m,d,l,hm,hd,hl,wm,wd,wl,sm,sl⟩:=HFI.out.bounds
       have HSG:=Lib.hid (fun (r1 r2:Int) (h1:SgnIs (fun P=>valT (oneT (m:Rat) 1) P - valT T P) r1) (h2:SgnIs (fun P=>valT (oneT (l:Rat) 1) P - valT T P) r2)=>(by
        have h:=HFI.out.signs HSU.out (c:=r1) (d:=r2)
        rw [hd,hl,hm] at h
        exact h h1 h2:0≤r1∧(O≠[]→r2 < 0)))
       have HZO:Hid (O=[]→n=0):=Lib.hid (fun e=>by have h:=HFI.out.tot;rw [e] at h;exact h)
       have HN:=Lib.hid (fun (z:Int) (hz:z.natAbs < 10 ^ 18) W (hB:Below w.heap.size w W)=>num48_any z W (HW.out.glo.below hB) (by have e18:(10:Nat) ^ 18=1000000000000000000:=(by decide +kernel);omega) (by have e18:(10:Nat) ^ 18=1000000000000000000:=(by decide +kernel);omega))
       have HZS:=Lib.hid (fun (z:Int) (hz:z.natAbs < 10 ^ 18)=>(sz_int (Nat.lt_of_lt_of_le hz (pow10_le (a:=18) (b:=60) (by decide))) (by decide):Sz 60 (z:Rat)))
       have HMK:=Lib.hid (fun (z:Int) (hz:z.natAbs < 10 ^ 18) (x:Value) W (hB:Below w.heap.size w W) (hx:IsTerms W x [(numS (z:Rat),⟨#[49]⟩)])=>MakeN_ok (z:Rat) (numS (z:Rat)) x W (HW.out.glo.below hB) (HW.out.pri.below hB) (numS_list _) (HZS.out z hz) hx)
       have HCM:=Lib.hid (fun (z:Int) (hz:z.natAbs < 10 ^ 18) (x:Value) W (hB:Below w.heap.size w W) (hB1:Below wr.heap.size wr W) (hx:IsTerms W x (oneL (z:Rat) 1))=>CompareG_ok (oneT (z:Rat) 1) T (oneL (z:Rat) 1) A x (.slice ua A.length uc) W (HW.out.glo.below hB) (HW.out.pri.below hB) (HW.out.spl.below hB) hx (HU.out.below hB1) ((oneSurd (HZS.out z hz)).res (Nat.le_trans (oneL_len _ 1) (by decide))) HSU.out.1 (by have:=oneL_len (z:Rat) 1;omega) ⟨⟨_,oneSurd (HZS.out z hz)⟩,HSU.out.2.1⟩)
       have HN1:=Lib.hid (HN.out m sm)
       have HN2:=Lib.hid (HN.out l sl)
       have HM1:=Lib.hid (HMK.out m sm)
       have HM2:=Lib.hid (HMK.out l sl)
       have HC1:=Lib.hid (HCM.out m sm)
       have HC2:=Lib.hid (HCM.out l sl)
       clear HN HZS HMK HCM sm sl HFI HSU HCS HOL HOX
       generalize (fun P=>valT (oneT (m:Rat) 1) P - valT T P)=f1 at *
       generalize (fun P=>valT (oneT (l:Rat) 1) P - valT T P)=f2 at *
       generalize numS (m:Rat)=s1 at *
       generalize numS (l:Rat)=s2 at *
       generalize oneL (m:Rat) 1=L1 at *
       generalize oneL (l:Rat) 1=L2 at *
       go_wp2_with fail
       refine (HN1.out _ hb4).mono ?_
       rintro e w5 ⟨rfl,hB5⟩
       have hb5:=below_trans' hb4 hB5
       go_wp2_with fail
       have hb6:Below w.heap.size w (w5.alloc (.cells #[.string s1,.string ⟨#[49]⟩] 49)):=bw4 hb5 _
       have hc6:Below wr.heap.size wr (w5.alloc (.cells #[.string s1,.string ⟨#[49]⟩] 49)):=bw4 hB5 _
       have hx6:IsTerms (w5.alloc (.cells #[.string s1,.string ⟨#[49]⟩] 49)) (.slice (some ⟨w5.heap.size,0,none⟩) 1 1) [(s1,⟨#[49]⟩)]:=isTerms_box (t:=49) (BoxT2.new rfl)
       refine (HM1.out _ _ hb6 hx6).mono ?_
       rintro e w7 ⟨x,rfl,hx,hB7⟩
       have hb7:=below_trans' hb6 hB7
       have hc7:=below_trans' hc6 hB7
       have HX:=Lib.hid hx
       obtain ⟨xa,xc,rfl,_⟩:=hx
       clear hB7 hb6 hc6 hx6 hb5 hB5 HN1 HM1 hb4 hB
       go_wp2_with fail
       refine (HN2.out _ hb7).mono ?_
       rintro e w8 ⟨rfl,hB8⟩
       have hb8:=below_trans' hb7 hB8
       go_wp2_with fail
       have hb9:Below w.heap.size w (w8.alloc (.cells #[.string s2,.string ⟨#[49]⟩] 49)):=bw4 hb8 _
       have hc9:Below w7.heap.size w7 (w8.alloc (.cells #[.string s2,.string ⟨#[49]⟩] 49)):=bw4 hB8 _
       have hx9:IsTerms (w8.alloc (.cells #[.string s2,.string ⟨#[49]⟩] 49)) (.slice (some ⟨w8.heap.size,0,none⟩) 1 1) [(s2,⟨#[49]⟩)]:=isTerms_box (t:=49) (BoxT2.new rfl)
       refine (HM2.out _ _ hb9 hx9).mono ?_
       rintro e w10 ⟨y,rfl,hy,hB10⟩
       have hb10:=below_trans' hb9 hB10
       have hd10:=below_trans' hc9 hB10
       have hc10:=below_trans' hc7 hd10
       have HX2:=Lib.hid (HX.out.below hd10)
       have HY:=Lib.hid hy
       obtain ⟨ya,yc,rfl,_⟩:=hy
       clear hB10 hb9 hc9 hx9 hb8 hB8 HN2 HM2 hb7 hc7 hd10 HX
       go_wp2_with fail
       refine (HC1.out _ _ hb10 hc10 HX2.out).mono ?_
       rintro e w11 ⟨r1,k1,rfl,_,hk1,hs1,hB11⟩
       have hb11:=below_trans' hb10 hB11
       have hc11:=below_trans' hc10 hB11
       have HY2:=Lib.hid (HY.out.below hB11)
       clear hB11 hb10 hc10 HX2 HY HC1
       go_wp2_with fail
       refine (HC2.out _ _ hb11 hc11 HY2.out).mono ?_
       rintro e w12 ⟨r2,k2,rfl,_,hk2,hs2,hB12⟩
       have hb12:=below_trans' hb11 hB12
       clear hB12 hb11 hc11 HY2 HC2
       rcases hk1 with rfl|rfl
       ·rcases hk2 with rfl|rfl
        ·obtain ⟨hp,hq⟩:=HSG.out r1 r2 (hs1.out rfl) (hs2.out rfl)
         have hmx:=fun ts t W=>max4_zero (P:=Tryz.prog) ts t W
         clear HSG hs1 hs2 hm hd hl wm wd wl
         by_cases hO:O.length=0
         ·have hn0:n=0:=HZO.out (List.length_eq_zero_iff.1 hO)
          have hOI:(O.length:Int)=0:=by omega
          clear HZO hq
          go_wp2_with fail
          refine (HAW.out _ hb12).mono ?_
          rintro e w13 ⟨rfl,hB13⟩
          have hb13:=below_trans' hb12 hB13
          clear hB13 hb12
          go_wp2_with fail
          go_ret
          exact ⟨rfl,hb13⟩
         ·have hr2:r2 < 0:=hq (fun e=>hO (by rw [e];rfl))
          have hOI:¬ (O.length:Int)=0:=by omega
          have hOJ:(0:Int) < (O.length:Int):=by omega
          clear HZO hq
          go_wp2_with fail
          refine (HAW.out _ hb12).mono ?_
          rintro e w13 ⟨rfl,hB13⟩
          have hb13:=below_trans' hb12 hB13
          clear hB13 hb12
          go_wp2_with fail
          go_ret
          exact ⟨rfl,hb13⟩
        ·clear HSG hs1 hs2 hm hd hl wm wd wl HZO
         go_wp2_with fail
         refine (HAW.out _ hb12).mono ?_
         rintro e w13 ⟨rfl,hB13⟩
         have hb13:=below_trans' hb12 hB13
         clear hB13 hb12
         go_wp2_with fail
         go_ret
         exact ⟨rfl,hb13⟩
       ·clear HSG hs1 hs2 hm hd hl wm wd wl HZO
        go_wp2_with fail
        refine (HAW.out _ hb12).mono ?_
        rintro e w13 ⟨rfl,hB13⟩
        have hb13:=below_trans' hb12 hB13
        clear hB13 hb12
        go_wp2_with fail
        go_ret
        exact ⟨rfl,hb13⟩
end Go.Proofs.YthihcjgmlbnapaaGreatDoor
