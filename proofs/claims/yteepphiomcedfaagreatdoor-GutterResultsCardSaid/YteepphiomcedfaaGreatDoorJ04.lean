/- Joined texts: WSmallInt, WGcd, WCourse1, WMid, WCmpMid, WFlow. -/
import Derived.Test.YteepphiomcedfaaGreatDoorJ03
import Derived.Test.YteepphiomcedfaaGreatDoorJ01
set_option maxRecDepth 100000
set_option linter.unusedVariables false
set_option linter.unusedSimpArgs false
set_option maxHeartbeats 6400000
namespace Go.Proofs.YteepphiomcedfaaGreatDoor
open Go.RowKit
def RetI (n:Int) (w:World) (e:Ending) (w':World):Prop:=∃ r:ByteArray,r.data.toList=Lib.itoa n∧e=.returned (.tuple #[.string r,.int .i64 0])∧Below w.heap.size w w'
theorem ICheck_ok (n:Int) (s:ByteArray) (w:World) (hs:s.data.toList=Lib.itoa n) (hl:(Lib.decDigits n.natAbs).length≤300) :
  Calls Tryz.prog 185 #[.string s] w (RetB (.int .i64 0) w):=by
 have hx:=(trim_itoa n).1
 rw [← hs] at hx
 have HX:=Lib.hid hx
 have HL:=Lib.hid hl
 by_cases h0:n=0
 ·have hz2:(s.toList == [48])=true:=by rw [Lib.toList_data,hs,h0,itoa_zero];rfl
  have HZ:Hid (Lib.decDigits n.natAbs=[48]):=Lib.hid (by rw [h0];exact Lib.decDigits_one (by omega))
  clear h0 hs hx hl
  go_enter Tryz.func185,Tryz.ntmps185
  go_wp2_with fail
  refine (trimPrefix_any s _ _ HX.out).mono ?_
  rintro e w1 ⟨o,ho,rfl,rfl⟩
  have hol:(o.size:Int)≤300:=by have h1:=HL.out;rw [← ho.out] at h1;have e:o.data.toList.length=o.size:=rfl;omega
  have ho0:¬ o.size=0:=fun h=>by have h1:=HZ.out;rw [← ho.out,data_nil h] at h1;cases h1
  have e1:=toList_ne ho0
  have e2:=toList_isEmpty ho0
  have e3:0 < o.size:=by omega
  have e4:((o[0].toNat:Int) == 48)=true:=headqc' (c:=48) e3 (by rw [ho.out,HZ.out];rfl)
  clear ho0
  go_wp2_with fail
  refine (trimDigits_any o _ (by omega) (trimS_digits _ (by rw [ho.out];exact decDigits_isDig _))).mono ?_
  rintro e w2 ⟨a,ha,rfl,hB⟩
  have e5:=toList_nil (s:=a) (congrArg List.length ha.out)
  go_wp2_with fail
  go_ret
  exact ⟨rfl,qbl⟩
 ·have hz2:Hid ((Lib.decDigits n.natAbs).head?≠some 48):=Lib.hid (decDigits_head' (by omega))
  clear h0 hs hx hl
  go_enter Tryz.func185,Tryz.ntmps185
  go_wp2_with fail
  refine (trimPrefix_any s _ _ HX.out).mono ?_
  rintro e w1 ⟨o,ho,rfl,rfl⟩
  have hol:(o.size:Int)≤300:=by have h1:=HL.out;rw [← ho.out] at h1;have e:o.data.toList.length=o.size:=rfl;omega
  have ho0:¬ o.size=0:=fun h=>decDigits_ne n.natAbs (by rw [← ho.out,data_nil h])
  have e1:=toList_ne ho0
  have e2:=toList_isEmpty ho0
  have e3:0 < o.size:=by omega
  have e4:((o[0].toNat:Int) == 48)=false:=by
   refine Bool.eq_false_iff.2 fun h=>hz2.out ?_
   rw [← ho.out];exact headq e3 h
  clear ho0
  go_wp2_with fail
  refine (trimDigits_any o _ (by omega) (trimS_digits _ (by rw [ho.out];exact decDigits_isDig _))).mono ?_
  rintro e w2 ⟨a,ha,rfl,hB⟩
  have e5:=toList_nil (s:=a) (congrArg List.length ha.out)
  go_wp2_with fail
  go_ret
  exact ⟨rfl,qbl⟩
theorem Iboth_ok (x y:Int) (s t:ByteArray) (w:World) (hs:s.data.toList=Lib.itoa x) (hx:(Lib.decDigits x.natAbs).length≤300) (ht:t.data.toList=Lib.itoa y) (hy:(Lib.decDigits y.natAbs).length≤300) :
  Calls Tryz.prog 126 #[.string s,.string t] w (RetB (.int .i64 0) w):=by
 have HS:=Lib.hid hs
 have HT:=Lib.hid ht
 clear hs ht
 go_enter Tryz.func126,Tryz.ntmps126
 go_wp2_with fail
 refine (ICheck_ok x s _ HS.out hx).mono ?_
 rintro e w1 ⟨rfl,hB1⟩
 go_wp2_with fail
 refine (ICheck_ok y t _ HT.out hy).mono ?_
 rintro e w2 ⟨rfl,hB2⟩
 go_wp2_with fail
 go_ret
 exact ⟨rfl,qbl⟩
theorem Ismall_ok (x y:Int) (s t:ByteArray) (w:World) (hs:s.data.toList=Lib.itoa x) (hx:s.size≤18) (ht:t.data.toList=Lib.itoa y) (hy:t.size≤18) :
  Calls Tryz.prog 127 #[.string s,.string t,.int .i64 18] w (RetB (.tuple #[.int .i64 x,.int .i64 y,.bool true]) w):=by
 have bx:x.natAbs < 10 ^ 18:=itoa_lt (by rw [← hs];exact hx)
 have by':y.natAbs < 10 ^ 18:=itoa_lt (by rw [← ht];exact hy)
 have hax:Lib.atoiAll s.data.toList=.ok x:=by rw [hs];exact atoi_itoa (by omega) (by omega)
 have hay:Lib.atoiAll t.data.toList=.ok y:=by rw [ht];exact atoi_itoa (by omega) (by omega)
 have HAX:=Lib.hid hax
 have HAY:=Lib.hid hay
 clear hs ht hax hay bx by'
 go_enter Tryz.func127,Tryz.ntmps127
 go_wp2_with fail
 refine (atoi_any s _ (by omega) HAX.out).mono ?_
 rintro e w1 ⟨rfl,hB1⟩
 go_wp2_with fail
 refine (atoi_any t _ (by omega) HAY.out).mono ?_
 rintro e w2 ⟨rfl,hB2⟩
 go_wp2_with fail
 go_quiet (fail)
 go_wp2_with fail
 go_ret3
 exact ⟨rfl,qbl⟩
end Go.Proofs.YteepphiomcedfaaGreatDoor
namespace Go.Proofs.YteepphiomcedfaaGreatDoor
open Go.RowKit
theorem dec_le_of_size {s:ByteArray} {x:Int} {k:Nat} (hs:s.data.toList=Lib.itoa x) (h:s.size≤k):(Lib.decDigits x.natAbs).length≤k:=by
 have e:s.size=s.data.toList.length:=rfl
 rw [e,hs] at h
 exact Nat.le_trans (trim_len x) h
theorem Gcd_small (x y:Int) (s t:ByteArray) (w:World) (hG:Glo w) (hs:s.data.toList=Lib.itoa x) (hx:s.size≤18) (ht:t.data.toList=Lib.itoa y) (hy:t.size≤18) :
  Calls Tryz.prog 138 #[.string s,.string t] w (RetI (Int.gcd x y:Nat) w):=by
 have hxl:=dec_le_of_size hs hx
 have hyl:=dec_le_of_size ht hy
 have bx:x.natAbs < 10 ^ 18:=itoa_lt (by rw [← hs];exact hx)
 have by':y.natAbs < 10 ^ 18:=itoa_lt (by rw [← ht];exact hy)
 have HS:=Lib.hid hs
 have HT:=Lib.hid ht
 have HG:=Lib.hid hG
 clear hs ht hG
 go_enter Tryz.func138,Tryz.ntmps138
 go_wp2_with fail
 refine (Iboth_ok x y s t _ HS.out (by omega) HT.out (by omega)).mono ?_
 rintro e w1 ⟨rfl,hB1⟩
 go_wp2_with fail
 refine (Ismall_ok x y s t _ HS.out hx HT.out hy).mono ?_
 rintro e w2 ⟨rfl,hB2⟩
 have hB:Below w.heap.size w w2:=qbl
 clear hB1 hB2
 go_wp2_with fail
 go_loopw [7,8] (fun a b wr=>∃ m n:Int,a=.int .i64 m∧b=.int .i64 n∧m.natAbs < 10 ^ 18∧n.natAbs < 10 ^ 18∧Int.gcd m n=Int.gcd x y∧Below w.heap.size w wr) (fun _ b _=>(intOf b).natAbs)
 case atStart=>exact ⟨x,y,rfl,rfl,bx,by',rfl,hB⟩
 case round =>
  obtain ⟨m,n,rfl,rfl,hm,hn,hg,hBr⟩:=hrel
  have HGG:=Lib.hid hg
  clear hg hB
  by_cases h0:n=0
  ·subst h0
   have hgm:Hid (Int.gcd x y=m.natAbs):=Lib.hid (by rw [← HGG.out,Int.gcd_zero_right])
   go_wp2_with fail
   refine (itoa_any (max m (-m)) (by omega) (by omega) _ (HG.out.below hBr)).mono ?_
   rintro e w3 ⟨r,hr,rfl,hB3⟩
   have HR:=Lib.hid hr
   clear hr
   go_wp2_with fail
   go_ret2
   exact ⟨r,by rw [HR.out,hgm.out];congr 1;omega,rfl,hBr.trans (hB3.mono hBr.size)⟩
  ·have hne:((n:Int) != 0)=true:=by simp [h0]
   have hnz:¬ n=0:=h0
   obtain ⟨q,hq⟩:∃ q,m.tmod n=q:=⟨_,rfl⟩
   have hqa:q.natAbs=m.natAbs % n.natAbs:=by rw [← hq,Int.natAbs_tmod]
   have hqn:q.natAbs < n.natAbs:=by rw [hqa];exact Nat.mod_lt _ (by omega)
   have hqg:Int.gcd n q=Int.gcd x y:=by
    rw [← HGG.out,Int.gcd,Int.gcd,hqa,Nat.gcd_comm m.natAbs,Nat.gcd_comm n.natAbs]
    exact (Nat.gcd_rec n.natAbs m.natAbs).symm
   have hw:IntKind.i64.wrap q=q:=IntWalk.i64_in _ (by omega)
   have HQ:=Lib.hid hqg
   clear hqa hqg
   go_wp2_with fail
   go_quiet (fail)
   go_wp2_with fail
   go_roundw
   case rel=>exact ⟨n,q,rfl,rfl,hn,by omega,HQ.out,bw2 hBr _⟩
   case measure=>simp [intOf];omega
theorem eq_of_list {s:ByteArray} {m:List UInt8} (h:s.data.toList=m):(s.toList == m)=true:=by
 rw [Lib.toList_data,h];simp
theorem itoa_one:Lib.itoa 1=[49]:=by rw [Lib.itoa,if_neg (by omega)];exact one_digits
theorem itoa_ne1 {n:Int} (h:n≠1):Lib.itoa n≠[49]:=by
 rcases itoa_cases n with ⟨h1,e⟩|⟨h1,e⟩
 ·rw [e];intro h2;injection h2 with h3 h4;exact absurd h3 (by decide)
 ·rw [e];exact dec_ne_one (by omega)
theorem tmod_floor (n d:Int) (hd:0 < d):(n.tmod d < 0→n % d=n.tmod d+d)∧(¬ n.tmod d < 0→n % d=n.tmod d):=by
 have h1:=Int.mul_tdiv_add_tmod n d
 have h2:=Int.mul_ediv_add_emod n d
 have h3:=tdiv_floor n d hd
 constructor
 ·intro h
  have:=h3.1 h
  rw [this,Int.mul_sub] at h2;omega
 ·intro h
  have:=h3.2 h
  rw [this] at h2;omega
theorem Divide_small (x y:Int) (s t:ByteArray) (w:World) (hG:Glo w) (hs:s.data.toList=Lib.itoa x) (hx:s.size≤18) (ht:t.data.toList=Lib.itoa y) (hy:t.size≤18) (hy0:0 < y) :
  Calls Tryz.prog 103 #[.string s,.string t] w fun e w'=>∃ q r:ByteArray,q.data.toList=Lib.itoa (x / y)∧r.data.toList=Lib.itoa (x % y)∧e=.returned (.tuple #[.string q,.string r,.int .i64 0])∧Below w.heap.size w w':=by
 have hxl:=dec_le_of_size hs hx
 have hyl:=dec_le_of_size ht hy
 have bx:x.natAbs < 10 ^ 18:=itoa_lt (by rw [← hs];exact hx)
 have by':y.natAbs < 10 ^ 18:=itoa_lt (by rw [← ht];exact hy)
 have hne:(t.toList == [48])=false:=ne_of_list ht (itoa_ne0 (by omega))
 have HS:=Lib.hid hs
 have HT:=Lib.hid ht
 have HG:=Lib.hid hG
 have t1:=tdiv_floor x y hy0
 have t2:=tmod_floor x y hy0
 obtain ⟨q,hq⟩:∃ q,x.tdiv y=q:=⟨_,rfl⟩
 obtain ⟨r,hr⟩:∃ r,x.tmod y=r:=⟨_,rfl⟩
 rw [hq,hr] at t1
 rw [hr] at t2
 have hqa:q.natAbs≤x.natAbs:=by rw [← hq,Int.natAbs_tdiv];exact Nat.div_le_self _ _
 have hra:r < y∧-y < r:=by
  have:=Int.tmod_lt_of_pos x hy0;have:=Int.lt_tmod_of_pos x hy0;omega
 obtain ⟨r1,r2⟩:=hra
 have hw1:IntKind.i64.wrap q=q:=IntWalk.i64_in _ (by omega)
 have hw2:IntKind.i64.wrap r=r:=IntWalk.i64_in _ (by omega)
 have hyz:¬ y=0:=by omega
 have hyn:¬ y < 0:=by omega
 have hyd:decide (y < 0)=false:=by simpa using hyn
 by_cases h:r < 0
 ·have hrn:(r != 0)=true:=by simp;omega
  have hrd:decide (r < 0)=true:=by simpa using h
  have hw3:IntKind.i64.wrap (q - 1)=q - 1:=IntWalk.i64_in _ (by omega)
  have hw4:IntKind.i64.wrap (r+y)=r+y:=IntWalk.i64_in _ (by omega)
  have E1:Hid (x / y=q - 1):=Lib.hid (t1.1 h)
  have E2:Hid (x % y=r+y):=Lib.hid (t2.1 h)
  clear hs ht hG t1 t2
  go_enter Tryz.func103,Tryz.ntmps103
  go_wp2_with fail
  refine (Iboth_ok x y s t _ HS.out (by omega) HT.out (by omega)).mono ?_
  rintro e w1 ⟨rfl,hB1⟩
  go_wp2_with fail
  refine (Ismall_ok x y s t _ HS.out hx HT.out hy).mono ?_
  rintro e w2 ⟨rfl,hB2⟩
  go_wp2_with fail
  go_quiet (fail)
  go_wp2_with fail
  refine (itoa_any (q - 1) (by omega) (by omega) _ (HG.out.below qbl)).mono ?_
  rintro e w3 ⟨u,hu,rfl,hB3⟩
  have HU:=Lib.hid hu
  clear hu
  go_wp2_with fail
  refine (itoa_any (r+y) (by omega) (by omega) _ (HG.out.below qbl)).mono ?_
  rintro e w4 ⟨v,hv,rfl,hB4⟩
  have HV:=Lib.hid hv
  clear hv
  go_wp2_with fail
  go_ret3
  exact ⟨u,v,by rw [HU.out,E1.out],by rw [HV.out,E2.out],rfl,qbl⟩
 ·have hrd:decide (r < 0)=false:=by simpa using h
  have E1:Hid (x / y=q):=Lib.hid (t1.2 h)
  have E2:Hid (x % y=r):=Lib.hid (t2.2 h)
  have hr0:(0:Int)≤r:=by omega
  clear hs ht hG t1 t2 h
  by_cases hz:r=0
  ·have hrn:(r != 0)=false:=by simp [hz]
   clear hz
   go_enter Tryz.func103,Tryz.ntmps103
   go_wp2_with fail
   refine (Iboth_ok x y s t _ HS.out (by omega) HT.out (by omega)).mono ?_
   rintro e w1 ⟨rfl,hB1⟩
   go_wp2_with fail
   refine (Ismall_ok x y s t _ HS.out hx HT.out hy).mono ?_
   rintro e w2 ⟨rfl,hB2⟩
   go_wp2_with fail
   go_quiet (fail)
   go_wp2_with fail
   refine (itoa_any (q) (by omega) (by omega) _ (HG.out.below qbl)).mono ?_
   rintro e w3 ⟨u,hu,rfl,hB3⟩
   have HU:=Lib.hid hu
   clear hu
   go_wp2_with fail
   refine (itoa_any (r) (by omega) (by omega) _ (HG.out.below qbl)).mono ?_
   rintro e w4 ⟨v,hv,rfl,hB4⟩
   have HV:=Lib.hid hv
   clear hv
   go_wp2_with fail
   go_ret3
   exact ⟨u,v,by rw [HU.out,E1.out],by rw [HV.out,E2.out],rfl,qbl⟩
  ·have hrn:(r != 0)=true:=by simp [hz]
   clear hz
   go_enter Tryz.func103,Tryz.ntmps103
   go_wp2_with fail
   refine (Iboth_ok x y s t _ HS.out (by omega) HT.out (by omega)).mono ?_
   rintro e w1 ⟨rfl,hB1⟩
   go_wp2_with fail
   refine (Ismall_ok x y s t _ HS.out hx HT.out hy).mono ?_
   rintro e w2 ⟨rfl,hB2⟩
   go_wp2_with fail
   go_quiet (fail)
   go_wp2_with fail
   refine (itoa_any (q) (by omega) (by omega) _ (HG.out.below qbl)).mono ?_
   rintro e w3 ⟨u,hu,rfl,hB3⟩
   have HU:=Lib.hid hu
   clear hu
   go_wp2_with fail
   refine (itoa_any (r) (by omega) (by omega) _ (HG.out.below qbl)).mono ?_
   rintro e w4 ⟨v,hv,rfl,hB4⟩
   have HV:=Lib.hid hv
   clear hv
   go_wp2_with fail
   go_ret3
   exact ⟨u,v,by rw [HU.out,E1.out],by rw [HV.out,E2.out],rfl,qbl⟩
theorem Qnumber_small (n d:Int) (s t:ByteArray) (w:World) (hG:Glo w) (hs:s.data.toList=Lib.itoa n) (hx:s.size≤18) (ht:t.data.toList=Lib.itoa d) (hy:t.size≤18) (hd:0 < d) :
  Calls Tryz.prog 82 #[.string s,.string t] w (RetN (Rat.divInt n d) w):=by
 have HS:=Lib.hid hs
 have HT:=Lib.hid ht
 have HG:=Lib.hid hG
 have hp:Lib.hasPrefix t.data.toList [45]=false:=by
  rw [ht]
  rcases itoa_cases d with ⟨h,_⟩|⟨_,e⟩
  ·omega
  ·rw [e]
   have h1:=decDigits_no45 d.natAbs []
   rw [List.append_nil] at h1
   cases hd':Lib.decDigits d.natAbs with
   | nil=>rfl
   | cons a l =>
    rw [hd'] at h1
    simp only [Lib.hasPrefix,List.isPrefixOf,Bool.and_true]
    simpa using fun e=>h1 (by simp [← e])
 have HP:=Lib.hid hp
 have bd:d.natAbs < 10 ^ 18:=itoa_lt (by rw [← ht];exact hy)
 have bn:n.natAbs < 10 ^ 18:=itoa_lt (by rw [← hs];exact hx)
 obtain ⟨a,b,g,hg,g0,ha,hb,hb0,hnum,hden,q1,q2⟩:=divInt_parts n d hd
 have hg':Int.gcd n d=g:=by rw [hg];simp only [Int.gcd];congr 1;omega
 have e1:n / (g:Int)=a:=by rw [ha];exact Int.mul_ediv_cancel _ (by omega)
 have e2:d / (g:Int)=b:=by rw [hb];exact Int.mul_ediv_cancel _ (by omega)
 have gd:g≤d.natAbs:=by
  have:(g:Int) ∣ d:=⟨b,by rw [Int.mul_comm];exact hb⟩
  have:=Int.le_of_dvd hd this
  omega
 have han:a.natAbs≤n.natAbs:=by rw [← q1,Int.natAbs_tdiv];exact Nat.div_le_self _ _
 have hbn:b.natAbs≤d.natAbs:=by rw [← q2,Int.natAbs_tdiv];exact Nat.div_le_self _ _
 have gl:(Lib.itoa (g:Int)).length≤18:=by
  rw [Lib.itoa_nonneg,Lib.decDigits_length]
  exact nDigits_le_of_lt (by omega) (by omega)
 have al:(Lib.itoa a).length≤19:=itoa_len_le (k:=18) (by omega) (by omega)
 have bl:(Lib.itoa b).length≤19:=itoa_len_le (k:=18) (by omega) (by omega)
 have GL:=Lib.hid gl
 have AL:=Lib.hid al
 have BL:=Lib.hid bl
 have E1:=Lib.hid e1
 have E2:=Lib.hid e2
 have HGG:=Lib.hid hg'
 have HN:=Lib.hid hnum
 have HD:=Lib.hid hden
 have HB0:=Lib.hid hb0
 have G0:=Lib.hid g0
 clear hs ht hG hp bd bn hg g0 ha hb hb0 hnum hden q1 q2 hg' e1 e2 gd han hbn gl al bl
 go_enter Tryz.func82,Tryz.ntmps82
 go_wp2_with fail
 refine (Tryz.strings_HasPrefix _ _ _).mono ?_
 rintro e w1 ⟨rfl,hw1⟩
 rw [hw1,show Lib.hasPrefix t.data.toList (ByteArray.mk #[45]).data.toList=false from HP.out]
 clear hw1
 go_wp2_with fail
 refine (Gcd_small n d s t _ HG.out HS.out hx HT.out hy).mono ?_
 rintro e w2 ⟨c,hc,rfl,hB2⟩
 rw [HGG.out] at hc
 have HC:=Lib.hid hc
 clear hc
 by_cases hg1:g=1
 ·have hz1:=eq_of_list (s:=c) (m:=[49]) (by rw [HC.out,hg1];exact itoa_one)
  have NH:Hid (s.data.toList=Lib.itoa a):=Lib.hid (by rw [HS.out,← E1.out,hg1];congr 1;omega)
  have DH:Hid (t.data.toList=Lib.itoa b):=Lib.hid (by rw [HT.out,← E2.out,hg1];congr 1;omega)
  clear hg1
  by_cases hb1:b=1
  ·have hz:=eq_of_list (s:=t) (m:=[49]) (by rw [DH.out,hb1];exact itoa_one)
   have HT2:Hid (ratText (Rat.divInt n d)=Lib.itoa a):=Lib.hid (by
    have h2:=HD.out
    rw [ratText,if_pos (by omega),HN.out])
   clear hb1
   go_wp2_with fail
   go_ret2
   exact ⟨s,by rw [NH.out,HT2.out],rfl,qbl⟩
  ·have hz:=ne_of_list (s:=t) (m:=[49]) DH.out (itoa_ne1 hb1)
   have HT2:Hid (ratText (Rat.divInt n d)=Lib.itoa a++47::Lib.itoa b):=Lib.hid (by
    have h2:=HD.out
    rw [ratText,if_neg (by omega),HN.out,← h2,Lib.itoa_nonneg])
   have l1:s.size≤19:=by have:=AL.out;rw [← NH.out] at this;exact this
   have l2:t.size≤19:=by have:=BL.out;rw [← DH.out] at this;exact this
   clear hb1
   go_wp2_with fail
   go_ret2
   refine ⟨_,?_,rfl,qbl⟩
   rw [HT2.out,← NH.out,← DH.out]
   simp
 ·have hz1:=ne_of_list (s:=c) (m:=[49]) HC.out (itoa_ne1 (by omega))
  have hcl:c.size≤18:=by have:=GL.out;rw [← HC.out] at this;exact this
  clear hg1
  go_wp2_with fail
  refine (Divide_small n g s c _ (HG.out.below qbl) HS.out hx HC.out hcl (by have:=G0.out;omega)).mono ?_
  rintro e w3 ⟨s',r',hs',hr',rfl,hB3⟩
  have NH:Hid (s'.data.toList=Lib.itoa a):=Lib.hid (by rw [hs',E1.out])
  clear hs' hr'
  go_wp2_with fail
  refine (Divide_small d g t c _ (HG.out.below qbl) HT.out hy HC.out hcl (by have:=G0.out;omega)).mono ?_
  rintro e w4 ⟨t',r'',ht',hr'',rfl,hB4⟩
  have DH:Hid (t'.data.toList=Lib.itoa b):=Lib.hid (by rw [ht',E2.out])
  clear ht' hr''
  by_cases hb1:b=1
  ·have hz:=eq_of_list (s:=t') (m:=[49]) (by rw [DH.out,hb1];exact itoa_one)
   have HT2:Hid (ratText (Rat.divInt n d)=Lib.itoa a):=Lib.hid (by
    have h2:=HD.out
    rw [ratText,if_pos (by omega),HN.out])
   clear hb1
   go_wp2_with fail
   go_ret2
   exact ⟨s',by rw [NH.out,HT2.out],rfl,qbl⟩
  ·have hz:=ne_of_list (s:=t') (m:=[49]) DH.out (itoa_ne1 hb1)
   have HT2:Hid (ratText (Rat.divInt n d)=Lib.itoa a++47::Lib.itoa b):=Lib.hid (by
    have h2:=HD.out
    rw [ratText,if_neg (by omega),HN.out,← h2,Lib.itoa_nonneg])
   have l1:s'.size≤19:=by have:=AL.out;rw [← NH.out] at this;exact this
   have l2:t'.size≤19:=by have:=BL.out;rw [← DH.out] at this;exact this
   clear hb1
   go_wp2_with fail
   go_ret2
   refine ⟨_,?_,rfl,qbl⟩
   rw [HT2.out,← NH.out,← DH.out]
   simp
theorem Of_small (n d:Int) (w:World) (hG:Glo w) (h0:n.natAbs < 10 ^ 17) (h1:1 < d) (h2:d < 10 ^ 17) :
  Calls Tryz.prog 29 #[.int .i64 n,.int .i64 d] w (RetN (Rat.divInt n d) w):=by
 have HG:=Lib.hid hG
 have l1:(Lib.itoa n).length≤18:=itoa_len_le (k:=17) h0 (by omega)
 have l2:(Lib.itoa d).length≤18:=itoa_len_le (k:=17) (by omega) (by omega)
 have L1:=Lib.hid l1
 have L2:=Lib.hid l2
 have z0:(d == 0)=false:=by simp;omega
 have z1:(d == 1)=false:=by simp;omega
 clear hG l1 l2
 go_enter Tryz.func29,Tryz.ntmps29
 go_wp2_with fail
 refine (itoa_any n (by omega) (by omega) _ HG.out).mono ?_
 rintro e w1 ⟨r,hr,rfl,hB1⟩
 have HR:=Lib.hid hr
 clear hr
 go_wp2_with fail
 refine (itoa_any d (by omega) (by omega) _ (HG.out.below qbl)).mono ?_
 rintro e w2 ⟨s,hs,rfl,hB2⟩
 have HS:=Lib.hid hs
 clear hs
 go_wp2_with fail
 refine (Qnumber_small n d r s _ (HG.out.below qbl) HR.out (by have:=L1.out;rw [← HR.out] at this;exact this) HS.out (by have:=L2.out;rw [← HS.out] at this;exact this) (by omega)).mono ?_
 rintro e w3 ⟨u,hu,rfl,hB3⟩
 have HU:=Lib.hid hu
 clear hu
 go_wp2_with fail
 go_ret2
 exact ⟨u,HU.out,rfl,qbl⟩
end Go.Proofs.YteepphiomcedfaaGreatDoor
namespace Go.Proofs.YteepphiomcedfaaGreatDoor
open Go.RowKit
end Go.Proofs.YteepphiomcedfaaGreatDoor
namespace Go.Proofs.YteepphiomcedfaaGreatDoor
open Go.RowKit
theorem Imul_small (x y:Int) (s t:ByteArray) (w:World) (hG:Glo w) (hs:s.data.toList=Lib.itoa x) (ht:t.data.toList=Lib.itoa y) (hl:s.size+t.size≤18) :
  Calls Tryz.prog 125 #[.string s,.string t] w (RetI (x * y) w):=by
 have hxl:=dec_le_of_size hs (show s.size≤18 by omega)
 have hyl:=dec_le_of_size ht (show t.size≤18 by omega)
 have hp:(x * y).natAbs < 10 ^ 18:=by
  have b1:x.natAbs < 10 ^ s.size:=itoa_lt (by rw [← hs];exact Nat.le_refl _)
  have b2:y.natAbs < 10 ^ t.size:=itoa_lt (by rw [← ht];exact Nat.le_refl _)
  rw [Int.natAbs_mul]
  calc x.natAbs * y.natAbs < 10 ^ s.size * 10 ^ t.size:=Nat.mul_lt_mul'' b1 b2
   _=10 ^ (s.size+t.size):=(Nat.pow_add _ _ _).symm
   _≤10 ^ 18:=Nat.pow_le_pow_right (by omega) hl
 have HS:=Lib.hid hs
 have HT:=Lib.hid ht
 have HG:=Lib.hid hG
 have hlz:((s.size:Int)+(t.size:Int))≤18:=by omega
 clear hs ht hG
 go_enter Tryz.func125,Tryz.ntmps125
 go_wp2_with fail
 refine (Iboth_ok x y s t _ HS.out (by omega) HT.out (by omega)).mono ?_
 rintro e w1 ⟨rfl,hB1⟩
 go_wp2_with fail
 refine (Ismall_ok x y s t _ HS.out (by omega) HT.out (by omega)).mono ?_
 rintro e w2 ⟨rfl,hB2⟩
 have hp1 : -1000000000000000000 < x * y:=by omega
 have hp2:x * y < 1000000000000000000:=by omega
 clear hp
 go_wp2_with fail
 refine (itoa_any (x * y) (by omega) (by omega) _ (HG.out.below qbl)).mono ?_
 rintro e w3 ⟨r,hr,rfl,hB3⟩
 have HR:=Lib.hid hr
 clear hr
 go_wp2_with fail
 go_ret2
 exact ⟨r,HR.out,rfl,qbl⟩
theorem ICompare_small (x y:Int) (s t:ByteArray) (w:World) (hs:s.data.toList=Lib.itoa x) (hx:s.size≤18) (ht:t.data.toList=Lib.itoa y) (hy:t.size≤18) :
  Calls Tryz.prog 74 #[.string s,.string t] w (RetB (.tuple #[.int .i64 (Lib.compareInt x y),.int .i64 0]) w):=by
 have hxl:=dec_le_of_size hs hx
 have hyl:=dec_le_of_size ht hy
 have HS:=Lib.hid hs
 have HT:=Lib.hid ht
 clear hs ht
 go_enter Tryz.func74,Tryz.ntmps74
 go_wp2_with fail
 refine (Iboth_ok x y s t _ HS.out (by omega) HT.out (by omega)).mono ?_
 rintro e w1 ⟨rfl,hB1⟩
 go_wp2_with fail
 refine (Ismall_ok x y s t _ HS.out hx HT.out hy).mono ?_
 rintro e w2 ⟨rfl,hB2⟩
 go_wp2_with fail
 refine (Tryz.cmp_Compare_int _ _ _).mono ?_
 rintro e w3 ⟨rfl,rfl⟩
 go_wp2_with fail
 go_ret2
 exact ⟨rfl,qbl⟩
def Mid (n:Int):Prop:=natOf (Lib.itoa n)=none∧n.natAbs < 10 ^ 10
theorem nativeOf_none (s:ByteArray) (w:World) (hs:s.size≤1000) (h:natOf s.data.toList=none) :
  Calls Tryz.prog 70 #[.string s] w (RetB (.tuple #[.agg #[.int .i64 0,.int .i64 0],.bool false]) w):=by
 have:=nativeOf_any s w (by unfold maxLen;omega)
 rw [natOfV,h] at this
 exact this
theorem read_mid {n:Int} (s:ByteArray) (w:World) (hG:Glo w) (hs:s.data.toList=Lib.itoa n) (hn:Mid n) :
  Calls Tryz.prog 72 #[.string s] w (RetP (n:Rat) (.int .i64 0) w):=by
 have hsz:s.size≤11:=by
  have h1:=itoa_len_le (n:=n) (k:=10) hn.2 (by omega)
  have h2:s.size=s.data.toList.length:=rfl
  rw [h2,hs];exact h1
 have hno:natOf s.data.toList=none:=by rw [hs];exact hn.1
 have hrt:s.data.toList=ratText (n:Rat):=by rw [hs,ratText_int]
 have HS:=Lib.hid hrt
 have HN:=Lib.hid hno
 have HG:=Lib.hid hG
 have HM:=Lib.hid hn
 clear hs hG hno hrt hn
 go_enter Tryz.func72,Tryz.ntmps72
 go_wp2_with fail
 refine (cut_valid s _ (HG.out.below qbl) HS.out (by omega)).mono ?_
 rintro e w1 ⟨a,b,ha,hb,rfl,hB1⟩
 have c0:w1.cell? ⟨w.heap.size,0,none⟩=some (.string ⟨#[]⟩):=keep hB1 (by simp [go_sem])
 have c1:w1.cell? ⟨w.heap.size,1,none⟩=some (.string ⟨#[]⟩):=keep hB1 (by simp [go_sem])
 have g0:w1.frozen? ⟨w.heap.size,0,none⟩=false:=keepf hB1 (v:=.string ⟨#[]⟩) (by simp [go_sem]) (by simp [go_sem])
 have g1:w1.frozen? ⟨w.heap.size,1,none⟩=false:=keepf hB1 (v:=.string ⟨#[]⟩) (by simp [go_sem]) (by simp [go_sem])
 have z1:=lt_of_cell c0
 go_wp2_with fail
 refine (nativeOf_none s _ (by omega) HN.out).mono ?_
 rintro e w2 ⟨rfl,hB2⟩
 have c0':w2.cell? ⟨w.heap.size,0,none⟩=some (.string ⟨#[]⟩):=keep hB2 (keep (bw4 (bw0 _ _) _) c0)
 have c1':w2.cell? ⟨w.heap.size,1,none⟩=some (.string ⟨#[]⟩):=keep hB2 (keep (bw4 (bw0 _ _) _) c1)
 have g0':w2.frozen? ⟨w.heap.size,0,none⟩=false:=keepf hB2 (keep (bw4 (bw0 _ _) _) c0) (keepf (bw4 (bw0 _ _) _) c0 g0)
 have g1':w2.frozen? ⟨w.heap.size,1,none⟩=false:=keepf hB2 (keep (bw4 (bw0 _ _) _) c1) (keepf (bw4 (bw0 _ _) _) c1 g1)
 have c2:w2.cell? ⟨w1.heap.size,0,none⟩=some (.string a):=keep hB2 (by simp [go_sem])
 have c3:w2.cell? ⟨w1.heap.size,1,none⟩=some (.string b):=keep hB2 (by simp [go_sem])
 have z2:=lt_of_cell c0'
 have z3:=lt_of_cell c2
 have hx:=(trim_itoa n).1
 have ha':a.data.toList=Lib.itoa n:=ha.out
 rw [← ha'] at hx
 have HX:=Lib.hid hx
 have hb1:(b.toList == [49])=true:=eq_of_list (by rw [hb.out];exact one_digits)
 have hbl:(b.size:Int)≤300:=by
  have h2:b.size=b.data.toList.length:=rfl
  rw [h2,hb.out]
  rw [show (n:Rat).den=1 from rfl,one_digits];decide
 clear hx ha' c0 c1 g0 g1
 go_wp2_with fail
 refine (trimPrefix_any a _ _ HX.out).mono ?_
 rintro e w3 ⟨o,ho,rfl,rfl⟩
 have hol:(o.size:Int)≤300:=by
  have h2:o.size=o.data.toList.length:=rfl
  have h3:=nDigits_le_of_lt HM.out.2 (by omega)
  rw [h2,ho.out,Lib.decDigits_length];omega
 go_wp2_with fail
 refine bodyPost_ret (v:=.tuple #[.agg #[.string a,.string b],.int .i64 0]) (by simp [results,Tryz.results72,go_sem,c0',c1',c2,c3,z2,z3]) rfl ⟨a,b,ha,hb,rfl,qbl⟩
end Go.Proofs.YteepphiomcedfaaGreatDoor
namespace Go.Proofs.YteepphiomcedfaaGreatDoor
open Go.RowKit
theorem itoa_natCast (n:Nat):Lib.itoa (n:Int)=Lib.decDigits n:=by
 rcases itoa_cases n with ⟨h,_⟩|⟨_,e⟩
 ·omega
 ·rw [e];rfl
def RetC (u v:Int) (w:World) (e:Ending) (w':World):Prop:=∃ r s:ByteArray,Hid (r.data.toList=Lib.itoa u)∧Hid (s.data.toList=Lib.itoa v)∧e=.returned (.tuple #[.string r,.string s,.int .i64 0])∧Below w.heap.size w w'
theorem crossed_ok (xn yn:Int) (xd yd:Nat) (a b c d:ByteArray) (w:World) (hG:Glo w) (ha:a.data.toList=Lib.itoa xn) (hb:b.data.toList=Lib.decDigits xd) (hc:c.data.toList=Lib.itoa yn) (hd:d.data.toList=Lib.decDigits yd) (h1:a.size+d.size≤18) (h2:c.size+b.size≤18) :
  Calls Tryz.prog 73 #[.agg #[.string a,.string b],.agg #[.string c,.string d]] w (RetC (xn * yd) (yn * xd) w):=by
 rw [← itoa_natCast] at hb hd
 have HA:=Lib.hid ha
 have HB:=Lib.hid hb
 have HC:=Lib.hid hc
 have HD:=Lib.hid hd
 have HG:=Lib.hid hG
 clear hG ha hb hc hd
 go_enter Tryz.func73,Tryz.ntmps73
 go_wp2_with fail
 refine (Imul_small xn yd a d _ (HG.out.below qbl) HA.out HD.out h1).mono ?_
 rintro e w1 ⟨r,hr,rfl,hB1⟩
 have HR:=Lib.hid hr
 clear hr
 have c1:w1.cell? ⟨w.heap.size,1,none⟩=some (.string b):=keep hB1 (by simp [go_sem])
 have c2:w1.cell? ⟨w.heap.size+1,0,none⟩=some (.string c):=keep hB1 (by simp [go_sem])
 have z1:=lt_of_cell c1
 have z2:=lt_of_cell c2
 have hB1':Below w.heap.size w w1:=qbl
 go_wp2_with fail
 refine (Imul_small yn xd c b _ (HG.out.below qbl) HC.out HB.out h2).mono ?_
 rintro e w2 ⟨s,hs,rfl,hB2⟩
 have HS:=Lib.hid hs
 clear hs
 have hB2':Below w.heap.size w w2:=qbl
 go_wp2_with fail
 go_ret3
 exact ⟨r,s,HR,HS,rfl,qbl⟩
end Go.Proofs.YteepphiomcedfaaGreatDoor
namespace Go.Proofs.YteepphiomcedfaaGreatDoor
open Go.RowKit
theorem quick_none (F:Nat) (s t:ByteArray) (w:World) (hs:s.size≤1000) (h:natOf s.data.toList=none) :
  Calls Tryz.prog 61 #[.string s,.string t,.func (.func F) #[] #[]] w (RetB (.tuple #[.string ⟨#[]⟩,.bool false]) w):=by
 have HN:=Lib.hid h
 clear h
 go_enter Tryz.func61,Tryz.ntmps61
 go_wp2_with fail
 refine (nativeOf_none s _ hs HN.out).mono ?_
 rintro e w1 ⟨rfl,hB1⟩
 go_wp2_with fail
 go_ret2
 exact ⟨rfl,qbl⟩
theorem both_gen {p q r:Rat} (F:Nat) (s t:ByteArray) (w:World) (hG:Glo w)
  (hs:∀ W,Glo W→Calls Tryz.prog 72 #[.string s] W (RetP p (.int .i64 0) W)) (ht:∀ W,Glo W→Calls Tryz.prog 72 #[.string t] W (RetP q (.int .i64 0) W))
  (hE:∀ args w,(callFunc F args).run Tryz.prog w=.ok (.enter F args) w)
  (hF:∀ (a b c d:ByteArray) W,Glo W→a.data.toList=Lib.itoa p.num→b.data.toList=Lib.decDigits p.den→c.data.toList=Lib.itoa q.num→d.data.toList=Lib.decDigits q.den→Calls Tryz.prog F #[.agg #[.string a,.string b],.agg #[.string c,.string d]] W (RetN r W)) :
  Calls Tryz.prog 63 #[.string s,.string t,.func (.func F) #[] #[]] w (RetN r w):=by
 have HS:=Lib.hid hs
 have HT:=Lib.hid ht
 have HG:=Lib.hid hG
 have HF:=Lib.hid hF
 clear hs ht hG hF
 go_enter Tryz.func63,Tryz.ntmps63
 go_wp2_with fail
 refine (HS.out _ (HG.out.below qbl)).mono ?_
 rintro e w1 ⟨a,b,ha,hb,rfl,hB1⟩
 have hb1:Below w.heap.size w w1:=qbl
 clear hB1
 go_wp2_with fail
 refine (HT.out _ (HG.out.below qbl)).mono ?_
 rintro e w2 ⟨c,d,hc,hd,rfl,hB2⟩
 have hb2:Below w.heap.size w w2:=qbl
 have c1:w2.cell? ⟨w1.heap.size,0,none⟩=some (.string a):=keep hB2 (by simp [go_sem])
 have c2:w2.cell? ⟨w1.heap.size,1,none⟩=some (.string b):=keep hB2 (by simp [go_sem])
 have z1:=lt_of_cell c1
 clear hB2
 go_wp2_with fail
 refine (HF.out a b c d _ (HG.out.below qbl) ha.out hb.out hc.out hd.out).mono ?_
 rintro e w3 ⟨v,hv,rfl,hB3⟩
 have HV:=Lib.hid hv
 have hb3:Below w.heap.size w w3:=qbl
 clear hv hB3
 go_wp2_with fail
 go_ret2
 exact ⟨v,HV.out,rfl,hb3⟩
theorem size_of {s:ByteArray} {l:List UInt8} (h:s.data.toList=l):s.size=l.length:=by rw [← h];rfl
theorem mul2_ok {xn yn:Int} {xd yd:Nat} (a b c d:ByteArray) (w:World) (hG:Glo w) (ha:a.data.toList=Lib.itoa xn) (hb:b.data.toList=Lib.decDigits xd) (hc:c.data.toList=Lib.itoa yn) (hd:d.data.toList=Lib.decDigits yd)
  (h1:a.size+c.size≤18) (h2:b.size+d.size≤18) (hx:0 < xd) (hy:0 < yd) (hn:(Lib.itoa (xn * yn)).length≤18) (hdd:(Lib.itoa ((xd:Int) * yd)).length≤18) :
  Calls Tryz.prog 132 #[.agg #[.string a,.string b],.agg #[.string c,.string d]] w (RetN (Rat.divInt (xn * yn) ((xd:Int) * yd)) w):=by
 rw [← itoa_natCast] at hb hd
 have HA:=Lib.hid ha
 have HB:=Lib.hid hb
 have HC:=Lib.hid hc
 have HD:=Lib.hid hd
 have HG:=Lib.hid hG
 have HN:=Lib.hid hn
 have HDD:=Lib.hid hdd
 have hp:0 < (xd:Int) * yd:=Int.mul_pos (by omega) (by omega)
 clear hG ha hb hc hd hn hdd
 go_enter Tryz.func132,Tryz.ntmps132
 go_wp2_with fail
 refine (Imul_small xn yn a c _ (HG.out.below qbl) HA.out HC.out h1).mono ?_
 rintro e w1 ⟨r,hr,rfl,hB1⟩
 have HR:=Lib.hid hr
 have c1:w1.cell? ⟨w.heap.size,1,none⟩=some (.string b):=keep hB1 (by simp [go_sem])
 have c2:w1.cell? ⟨w.heap.size+1,1,none⟩=some (.string d):=keep hB1 (by simp [go_sem])
 have z1:=lt_of_cell c1
 have z2:=lt_of_cell c2
 have hb1:Below w.heap.size w w1:=qbl
 clear hr hB1
 go_wp2_with fail
 refine (Imul_small xd yd b d _ (HG.out.below qbl) HB.out HD.out h2).mono ?_
 rintro e w2 ⟨s,hs,rfl,hB2⟩
 have HS:=Lib.hid hs
 have hb2:Below w.heap.size w w2:=qbl
 clear hs hB2
 go_wp2_with fail
 refine (Qnumber_small (xn * yn) ((xd:Int) * yd) r s _ (HG.out.below qbl) HR.out (by rw [size_of HR.out];exact HN.out) HS.out (by rw [size_of HS.out];exact HDD.out) hp).mono ?_
 rintro e w3 ⟨v,hv,rfl,hB3⟩
 have HV:=Lib.hid hv
 have hb3:Below w.heap.size w w3:=qbl
 clear hv hB3
 go_wp2_with fail
 go_ret2
 exact ⟨v,HV.out,rfl,hb3⟩
theorem div2_ok {xn yn:Int} {xd yd:Nat} (a b c d:ByteArray) (w:World) (hG:Glo w) (ha:a.data.toList=Lib.itoa xn) (hb:b.data.toList=Lib.decDigits xd) (hc:c.data.toList=Lib.itoa yn) (hd:d.data.toList=Lib.decDigits yd)
  (h1:a.size+d.size≤18) (h2:c.size+b.size≤18) (hp:0 < yn * xd) (hn:(Lib.itoa (xn * yd)).length≤18) (hdd:(Lib.itoa (yn * xd)).length≤18) :
  Calls Tryz.prog 102 #[.agg #[.string a,.string b],.agg #[.string c,.string d]] w (RetN (Rat.divInt (xn * yd) (yn * xd)) w):=by
 have hy0:yn≠0:=by intro h;rw [h] at hp;simp at hp
 have hne:(c.toList == [48])=false:=by
  rw [Lib.toList_data,hc];simpa using itoa_ne0 hy0
 have HA:=Lib.hid ha
 have HB:=Lib.hid hb
 have HC:=Lib.hid hc
 have HD:=Lib.hid hd
 have HG:=Lib.hid hG
 have HN:=Lib.hid hn
 have HDD:=Lib.hid hdd
 clear hG ha hb hc hd hn hdd hy0
 go_enter Tryz.func102,Tryz.ntmps102
 go_wp2_with fail
 refine (crossed_ok xn yn xd yd a b c d _ (HG.out.below qbl) HA.out HB.out HC.out HD.out h1 h2).mono ?_
 rintro e w1 ⟨r,s,hr,hs,rfl,hB1⟩
 have hb1:Below w.heap.size w w1:=qbl
 clear hB1
 go_wp2_with fail
 refine (Qnumber_small (xn * yd) (yn * xd) r s _ (HG.out.below qbl) hr.out (by rw [size_of hr.out];exact HN.out) hs.out (by rw [size_of hs.out];exact HDD.out) hp).mono ?_
 rintro e w3 ⟨v,hv,rfl,hB3⟩
 have HV:=Lib.hid hv
 have hb3:Below w.heap.size w w3:=qbl
 clear hv hB3
 go_wp2_with fail
 go_ret2
 exact ⟨v,HV.out,rfl,hb3⟩
theorem mid_a:Mid 100000000:=⟨by decide +kernel,by decide⟩
theorem mid_c:Mid 7500000000:=⟨by decide +kernel,by decide⟩
theorem size_le_of {s:ByteArray} {l:List UInt8} {k:Nat} (h:s.data.toList=l) (hl:l.length≤k):s.size≤k:=by rw [size_of h];exact hl
theorem flow_mul (s t:ByteArray) (w:World) (hG:Glo w) (hs:s.data.toList=ratText (100000000:Int)) (ht:t.data.toList=ratText (75:Int)) :
  Calls Tryz.prog 68 #[.string s,.string t] w (RetN ((7500000000:Int):Rat) w):=by
 have hs':s.data.toList=Lib.itoa 100000000:=by rw [hs,ratText_int]
 have hno:natOf s.data.toList=none:=by rw [hs'];exact mid_a.1
 have hsz:s.size≤1000:=size_le_of hs' (by decide +kernel)
 have HS:=Lib.hid hs'
 have HT:=Lib.hid ht
 have HG:=Lib.hid hG
 have HN:=Lib.hid hno
 clear hs ht hs' hno hG
 go_enter Tryz.func68,Tryz.ntmps68
 go_wp2_with fail
 refine (quick_none _ s t _ hsz HN.out).mono ?_
 rintro e w1 ⟨rfl,hB1⟩
 have hb1:Below w.heap.size w w1:=qbl
 clear hB1
 go_wp2_with fail
 refine (both_gen (p:=((100000000:Int):Rat)) (q:=((75:Int):Rat)) (r:=((7500000000:Int):Rat)) 132 s t _ (HG.out.below hb1) (fun W hW=>read_mid s W hW HS.out mid_a) (fun W hW=>read_small t W hW HT.out ⟨by decide +kernel,by decide +kernel⟩) (enters_of Tryz.func132 (by kernel_rfl) rfl) (fun a b c d W hW ha hb hc hd=>?_)).mono ?_
 ·have h:=mul2_ok a b c d W hW ha hb hc hd (by rw [size_of ha,size_of hc];decide +kernel) (by rw [size_of hb,size_of hd];decide +kernel) (by decide +kernel) (by decide +kernel) (by decide +kernel) (by decide +kernel)
  rwa [show Rat.divInt (((100000000:Int):Rat).num * ((75:Int):Rat).num) ((((100000000:Int):Rat).den:Int) * (((75:Int):Rat).den:Int))=((7500000000:Int):Rat) by decide +kernel] at h
 rintro e w2 ⟨r,hr,rfl,hB2⟩
 have HR:=Lib.hid hr
 clear hr
 go_wp2_with fail
 go_ret2
 exact ⟨r,HR.out,rfl,qbl⟩
theorem flow_div (s t:ByteArray) (w:World) (hG:Glo w) (hs:s.data.toList=ratText (7500000000:Int)) (ht:t.data.toList=ratText (60000000:Int)) :
  Calls Tryz.prog 44 #[.string s,.string t] w (RetN ((125:Int):Rat) w):=by
 have hs':s.data.toList=Lib.itoa 7500000000:=by rw [hs,ratText_int]
 have hno:natOf s.data.toList=none:=by rw [hs'];exact mid_c.1
 have hsz:s.size≤1000:=size_le_of hs' (by decide +kernel)
 have hne:(t.toList == [48])=false:=by
  rw [Lib.toList_data,ht];decide +kernel
 have HS:=Lib.hid hs'
 have HT:=Lib.hid ht
 have HG:=Lib.hid hG
 have HN:=Lib.hid hno
 clear hs ht hs' hno hG
 go_enter Tryz.func44,Tryz.ntmps44
 go_wp2_with fail
 refine (quick_none _ s t _ hsz HN.out).mono ?_
 rintro e w1 ⟨rfl,hB1⟩
 have hb1:Below w.heap.size w w1:=qbl
 clear hB1
 go_wp2_with fail
 refine (both_gen (p:=((7500000000:Int):Rat)) (q:=((60000000:Int):Rat)) (r:=((125:Int):Rat)) 102 s t _ (HG.out.below hb1) (fun W hW=>read_mid s W hW HS.out mid_c) (fun W hW=>read_small t W hW HT.out ⟨by decide +kernel,by decide +kernel⟩) (enters_of Tryz.func102 (by kernel_rfl) rfl) (fun a b c d W hW ha hb hc hd=>?_)).mono ?_
 ·have h:=div2_ok a b c d W hW ha hb hc hd (by rw [size_of ha,size_of hd];decide +kernel) (by rw [size_of hc,size_of hb];decide +kernel) (by decide +kernel) (by decide +kernel) (by decide +kernel)
  rwa [show Rat.divInt (((7500000000:Int):Rat).num * (((60000000:Int):Rat).den:Int)) (((60000000:Int):Rat).num * (((7500000000:Int):Rat).den:Int))=((125:Int):Rat) by decide +kernel] at h
 rintro e w2 ⟨r,hr,rfl,hB2⟩
 have HR:=Lib.hid hr
 clear hr
 go_wp2_with fail
 go_ret2
 exact ⟨r,HR.out,rfl,qbl⟩
theorem RCheck_mid {n:Int} (s:ByteArray) (w:World) (hG:Glo w) (hs:s.data.toList=Lib.itoa n) (hn:Mid n) :
  Calls Tryz.prog 66 #[.string s] w (RetB (.int .i64 0) w):=by
 have HS:=Lib.hid hs
 have HG:=Lib.hid hG
 have HN:=Lib.hid hn
 clear hs hG hn
 go_enter Tryz.func66,Tryz.ntmps66
 go_wp2_with fail
 refine (read_mid s _ HG.out HS.out HN.out).mono ?_
 rintro e w1 ⟨a,b,ha,hb,rfl,hB1⟩
 go_wp2_with fail
 go_ret
 exact ⟨rfl,qbl⟩
abbrev areaS:ByteArray:=⟨#[49,48,48,48,48,48,48,48,48]⟩
theorem negative_area (w:World):Calls Tryz.prog 67 #[.string areaS] w fun e w'=>e=.returned (.bool false)∧w'=w:=by
 go_enter Tryz.func67,Tryz.ntmps67
 go_wp2_with fail
 go_ret
 exact ⟨rfl,rfl⟩
theorem gnumber_any (n:Int) (w:World) (hG:Glo w) (h0 : -9223372036854775808≤n) (h1:n≤9223372036854775807) :
  Calls Tryz.prog 69 #[.int .i64 n] w fun e w'=>∃ r:ByteArray,r.data.toList=ratText n∧e=.returned (.string r)∧Below w.heap.size w w':=by
 have HG:=Lib.hid hG
 clear hG
 go_enter Tryz.func69,Tryz.ntmps69
 go_wp2_with fail
 refine (itoa_any n h0 h1 _ HG.out).mono ?_
 rintro e w1 ⟨r,hr,rfl,hB⟩
 have HR:=Lib.hid hr
 clear hr
 go_wp2_with fail
 go_ret
 exact ⟨r,by rw [HR.out,ratText_int],rfl,hB⟩
theorem flow_ok (w:World) (hG:Glo w):Calls Tryz.prog 20 #[.string areaS,.int .i64 75] w (RetN ((125:Int):Rat) w):=by
 have HG:=Lib.hid hG
 have HA:Hid (areaS.data.toList=Lib.itoa 100000000):=Lib.hid (by decide +kernel)
 have HA':Hid (areaS.data.toList=ratText (100000000:Int)):=Lib.hid (by decide +kernel)
 have HD:Hid ((⟨#[54,48,48,48,48,48,48,48]⟩:ByteArray).data.toList=ratText (60000000:Int)):=Lib.hid (by decide +kernel)
 clear hG
 go_enter Tryz.func20,Tryz.ntmps20
 go_wp2_with fail
 refine (RCheck_mid _ _ (HG.out.below qbl) HA.out mid_a).mono ?_
 rintro e w1 ⟨rfl,hB1⟩
 have hb1:Below w.heap.size w w1:=qbl
 clear hB1
 go_wp2_with fail
 refine (negative_area _).mono ?_
 rintro e w2 ⟨rfl,rfl⟩
 go_wp2_with fail
 refine (gnumber_any 75 _ (HG.out.below qbl) (by omega) (by omega)).mono ?_
 rintro e w3 ⟨t,ht,rfl,hB3⟩
 have HT:=Lib.hid ht
 have hb3:Below w.heap.size w w3:=qbl
 clear hB3 ht hb1
 go_wp2_with fail
 refine (flow_mul _ t _ (HG.out.below hb3) HA'.out HT.out).mono ?_
 rintro e w4 ⟨u,hu,rfl,hB4⟩
 have HU:=Lib.hid hu
 have hb4:Below w.heap.size w w4:=qbl
 clear hB4 hu hb3
 go_wp2_with fail
 refine (flow_div u _ _ (HG.out.below hb4) HU.out HD.out).mono ?_
 rintro e w5 ⟨v,hv,rfl,hB5⟩
 have HV:=Lib.hid hv
 have hb5:Below w.heap.size w w5:=qbl
 clear hB5 hv hb4
 go_wp2_with fail
 go_ret2
 exact ⟨v,HV.out,rfl,hb5⟩
end Go.Proofs.YteepphiomcedfaaGreatDoor
