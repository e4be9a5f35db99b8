/- Joined texts: WSmallInt, WGcd, WCourse1, WMid, WCmpMid, WFlow. -/
import Derived.Test.YteepphiomcedfaaGreatDoorJ03
import Derived.Test.YteepphiomcedfaaGreatDoorJ01
set_option maxRecDepth 100000
set_option linter.unusedVariables false
set_option linter.unusedSimpArgs false
set_option maxHeartbeats 6400000
namespace Go.Proofs.YteepphiomcedfaaGreatDoor
open Go.RowKit
def RetI (n:Int) (w:World) (e:Ending) (w':World):Prop:=∃ r:ByteArray,r.data.toList=Lib.itoa n∧e=.returned (.tuple #[.string r,.int .i64 0])∧Below w.heap.size w w'
theorem ICheck_ok (n:Int) (s:ByteArray) (w:World) (hs:s.data.toList=Lib.itoa n) (hl:(Lib.decDigits n.natAbs).length≤300) :
  Calls Tryz.prog 185 #[.string s] w (RetB (.int .i64 0) w):=by
 have hx:=(trim_itoa n).1
 rw [← hs] at hx
 have HX:=Lib.hid hx
 have HL:=Lib.hid hl
 by_cases h0:n=0
 ·have hz2:(s.toList == [48])=true:=by rw [Lib.toList_data,hs,h0,itoa_zero];rfl
  have HZ:Hid (Lib.decDigits n.natAbs=[48]):=Lib.hid (by rw [h0];exact Lib.decDigits_one (by omega))
  clear h0 hs hx hl
  go_enter Tryz.func185,Tryz.ntmps185
  go_wp2_with fail
  refine (trimPrefix_any s _ _ HX.out).mono ?_
  rintro e w1 ⟨o,ho,rfl,rfl⟩
  have hol:(o.size:Int)≤300:=by have h1:=HL.out;rw [← ho.out] at h1;have e:o.data.toList.length=o.size:=rfl;omega
  have ho0:¬ o.size=0:=fun h=>by have h1:=HZ.out;rw [← ho.out,data_nil h] at h1;cases h1
  have e1:=toList_ne ho0
  have e2:=toList_isEmpty ho0
  have e3:0 < o.size:=by omega
  have e4:((o[0].toNat:Int) == 48)=true:=headqc' (c:=48) e3 (by rw [ho.out,HZ.out];rfl)
  clear ho0
  go_wp2_with fail
  refine (trimDigits_any o _ (by omega) (trimS_digits _ (by rw [ho.out];exact decDigits_isDig _))).mono ?_
  rintro e w2 ⟨a,ha,rfl,hB⟩
  have e5:=toList_nil (s:=a) (congrArg List.length ha.out)
  go_wp2_with fail
  go_ret
  exact ⟨rfl,qbl⟩
 ·have hz2:Hid ((Lib.decDigits n.natAbs).head?≠some 48):=Lib.hid (decDigits_head' (by omega))
  clear h0 hs hx hl
  go_enter Tryz.func185,Tryz.ntmps185
  go_wp2_with fail
  refine (trimPrefix_any s _ _ HX.out).mono ?_
  rintro e w1 ⟨o,ho,rfl,rfl⟩
  have hol:(o.size:Int)≤300:=by have h1:=HL.out;rw [← ho.out] at h1;have e:o.data.toList.length=o.size:=rfl;omega
  have ho0:¬ o.size=0:=fun h=>decDigits_ne n.natAbs (by rw [← ho.out,data_nil h])
  have e1:=toList_ne ho0
  have e2:=toList_isEmpty ho0
  have e3:0 < o.size:=by omega
  have e4:((o[0].toNat:Int) == 48)=false:=by
   refine Bool.eq_false_iff.2 fun h=>hz2.out ?_
   rw [← ho.out];exact headq e3 h
  clear ho0
  go_wp2_with fail
  refine (trimDigits_any o _ (by omega) (trimS_digits _ (by rw [ho.out];exact decDigits_isDig _))).mono ?_
  rintro e w2 ⟨a,ha,rfl,hB⟩
  have e5:=toList_nil (s:=a) (congrArg List.length ha.out)
  go_wp2_with fail
  go_ret
  exact ⟨rfl,qbl⟩
theorem Iboth_ok (x y:Int) (s t:ByteArray) (w:World) (hs:s.data.toList=Lib.itoa x) (hx:(Lib.decDigits x.natAbs).length≤300) (ht:t.data.toList=Lib.itoa y) (hy:(Lib.decDigits y.natAbs).length≤300) :
  Calls Tryz.prog 126 #[.string s,.string t] w (RetB (.int .i64 0) w):=by
 have HS:=Lib.hid hs
 have HT:=Lib.hid ht
 clear hs ht
 go_enter Tryz.func126,Tryz.ntmps126
 go_wp2_with fail
 refine (ICheck_ok x s _ HS.out hx).mono ?_
 rintro e w1 ⟨rfl,hB1⟩
 go_wp2_with fail
 refine (ICheck_ok y t _ HT.out hy).mono ?_
 rintro e w2 ⟨rfl,hB2⟩
 go_wp2_with fail
 go_ret
 exact ⟨rfl,qbl⟩
theorem Ismall_ok (x y:Int) (s t:ByteArray) (w:World) (hs:s.data.toList=Lib.itoa x) (hx:s.size≤18) (ht:t.data.toList=Lib.itoa y) (hy:t.size≤18) :
  Calls Tryz.prog 127 #[.string s,.string t,.int .i64 18] w (RetB (.tuple #[.int .i64 x,.int .i64 y,.bool true]) w):=by
 have bx:x.natAbs < 10 ^ 18:=itoa_lt (by rw [← hs];exact hx)
 have by':y.natAbs < 10 ^ 18:=itoa_lt (by rw [← ht];exact hy)
 have hax:Lib.atoiAll s.data.toList=.ok x:=by rw [hs];exact atoi_itoa (by omega) (by omega)
 have hay:Lib.atoiAll t.data.toList=.ok y:=by rw [ht];exact atoi_itoa (by omega) (by omega)
 have HAX:=Lib.hid hax
 have HAY:=Lib.hid hay
 clear hs ht hax hay bx by'
 go_enter Tryz.func127,Tryz.ntmps127
 go_wp2_with fail
 refine (atoi_any s _ (by omega) HAX.out).mono ?_
 rintro e w1 ⟨rfl,hB1⟩
 go_wp2_with fail
 refine (atoi_any t _ (by omega) HAY.out).mono ?_
 rintro e w2 ⟨rfl,hB2⟩
 go_wp2_with fail
 go_quiet (fail)
 go_wp2_with fail
 go_ret3
 exact ⟨rfl,qbl⟩
end Go.Proofs.YteepphiomcedfaaGreatDoor
namespace Go.Proofs.YteepphiomcedfaaGreatDoor
open Go.RowKit
theorem dec_le_of_size {s:ByteArray} {x:Int} {k:Nat} (hs:s.data.toList=Lib.itoa x) (h:s.size≤k):(Lib.decDigits x.natAbs).length≤k:=by
 have e:s.size=s.data.toList.length:=rfl
 rw [e,hs] at h
 exact Nat.le_trans (trim_len x) h
theorem Gcd_small (x y:Int) (s t:ByteArray) (w:World) (hG:Glo w) (hs:s.data.toList=Lib.itoa x) (hx:s.size≤18) (ht:t.data.toList=Lib.itoa y) (hy:t.size≤18) :
  Calls Tryz.prog 138 #[.string s,.string t] w (RetI (Int.gcd x y:Nat) w):=by
 have hxl:=dec_le_of_size hs hx
 have hyl:=dec_le_of_size ht hy
 have bx:x.natAbs < 10 ^ 18:=itoa_lt (by rw [← hs];exact hx)
 have by':y.natAbs < 10 ^ 18:=itoa_lt (by rw [← ht];exact hy)
 have HS:=Lib.hid hs
 have HT:=Lib.hid ht
 have HG:=Lib.hid hG
 clear hs ht hG
 go_enter Tryz.func138,Tryz.ntmps138
 go_wp2_with fail
 refine (Iboth_ok x y s t _ HS.out (by omega) HT.out (by omega)).mono ?_
 rintro e w1 ⟨rfl,hB1⟩
 go_wp2_with fail
 refine (Ismall_ok x y s t _ HS.out hx HT.out hy).mono ?_
 rintro e w2 ⟨rfl,hB2⟩
 have hB:Below w.heap.size w w2:=qbl
 clear hB1 hB2
 go_wp2_with fail
 go_loopw [7,8] (fun a b wr=>∃ m n:Int,a=.int .i64 m∧b=.int .i64 n∧m.natAbs < 10 ^ 18∧n.natAbs < 10 ^ 18∧Int.gcd m n=Int.gcd x y∧Below w.heap.size w wr) (fun _ b _=>(intOf b).natAbs)
 case atStart=>exact ⟨x,y,rfl,rfl,bx,by',rfl,hB⟩
 case round =>
  obtain ⟨m,n,rfl,rfl,hm,hn,hg,hBr⟩:=hrel
  have HGG:=Lib.hid hg
  clear hg hB
  by_cases h0:n=0
  ·subst h0
   have hgm:Hid (Int.gcd x y=m.natAbs):=Lib.hid (by rw [← HGG.out,Int.gcd_zero_right])
   go_wp2_with fail
   refine (itoa_any (max m (-m)) (by omega) (by omega) _ (HG.out.below hBr)).mono ?_
   rintro e w3 ⟨r,hr,rfl,hB3⟩
   have HR:=Lib.hid hr
   clear hr
   go_wp2_with fail
   go_ret2
   exact ⟨r,by rw [HR.out,hgm.out];congr 1;omega,rfl,hBr.trans (hB3.mono hBr.size)⟩
  ·have hne:((n:Int) != 0)=true:=by simp [h0]
   have hnz:¬ n=0:=h0
   obtain ⟨q,hq⟩:∃ q,m.tmod n=q:=⟨_,rfl⟩
   have hqa:q.natAbs=m.natAbs % n.natAbs:=by rw [← hq,Int.natAbs_tmod]
   have hqn:q.natAbs < n.natAbs:=by rw [hqa];exact Nat.mod_lt _ (by omega)
   have hqg:Int.gcd n q=Int.gcd x y:=by
    rw [← HGG.out,Int.gcd,Int.gcd,hqa,Nat.gcd_comm m.natAbs,Nat.gcd_comm n.natAbs]
    exact (Nat.gcd_rec n.natAbs m.natAbs).symm
   have hw:IntKind.i64.wrap q=q:=IntWalk.i64_in _ (by omega)
   have HQ:=Lib.hid hqg
   clear hqa hqg
   go_wp2_with fail
   go_quiet (fail)
   go_wp2_with fail
   go_roundw
   case rel=>exact ⟨n,q,rfl,rfl,hn,by omega,HQ.out,bw2 hBr _⟩
   case measure=>simp [intOf];omega
theorem eq_of_list {s:ByteArray} {m:List UInt8} (h:s.data.toList=m):(s.toList == m)=true:=by
 rw [Lib.toList_data,h];simp
theorem itoa_one:Lib.itoa 1=[49]:=by rw [Lib.itoa,if_neg (by omega)];exact one_digits
theorem itoa_ne1 {n:Int} (h:n≠1):Lib.itoa n≠[49]:=by
 rcases itoa_cases n with ⟨h1,e⟩|⟨h1,e⟩
 ·rw [e];intro h2;injection h2 with h3 h4;exact absurd h3 (by decide)
 ·rw [e];exact dec_ne_one (by omega)
theorem tmod_floor (n d:Int) (hd:0 < d):(n.tmod d < 0→n % d=n.tmod d+d)∧(¬ n.tmod d < 0→n % d=n.tmod d):=by
 have h1:=Int.mul_tdiv_add_tmod n d
 have h2:=Int.mul_ediv_add_emod n d
 have h3:=tdiv_floor n d hd
 constructor
 ·intro h
  have:=h3.1 h
  rw [this,Int.mul_sub] at h2;omega
 ·intro h
  have:=h3.2 h
  rw [this] at h2;omega
theorem Divide_small (x y:Int) (s t:ByteArray) (w:World) (hG:Glo w) (hs:s.data.toList=Lib.itoa x) (hx:s.size≤18) (ht:t.data.toList=Lib.itoa y) (hy:t.size≤18) (hy0:0 < y) :
  Calls Tryz.prog 103 #[.string s,.string t] w fun e w'=>∃ q r:ByteArray,q.data.toList=Lib.itoa (x / y)∧r.data.toList=Lib.itoa (x % y)∧e=.returned (.tuple #[.string q,.string r,.int .i64 0])∧Below w.heap.size w w':=by
 have hxl:=dec_le_of_size hs hx
 have hyl:=dec_le_of_size ht hy
 have bx:x.natAbs < 10 ^ 18:=itoa_lt (by rw [← hs];exact hx)
 have by':y.natAbs < 10 ^ 18:=itoa_lt (by rw [← ht];exact hy)
 have hne:(t.toList == [48])=false:=ne_of_list ht (itoa_ne0 (by omega))
 have HS:=Lib.hid hs
 have HT:=Lib.hid ht
 have HG:=Lib.hid hG
 have t1:=tdiv_floor x y hy0
 have t2:=tmod_floor x y hy0
 obtain ⟨q,hq⟩:∃ q,x.tdiv y=q:=⟨_,rfl⟩
 obtain ⟨r,hr⟩:∃ r,x.tmod y=r:=⟨_,rfl⟩
 rw [hq,hr] at t1
 rw [hr] at t2
 have hqa:q.natAbs≤x.natAbs:=by rw [← hq,Int.natAbs_tdiv];exact Nat.div_le_self _ _
 have hra:r < y∧-y < r:=by
  have:=Int.tmod_lt_of_pos x hy0;have:=Int.lt_tmod_of_pos x hy0;omega
 obtain ⟨r1,r2⟩:=hra
 have hw1:IntKind.i64.wrap q=q:=IntWalk.i64_in _ (by omega)
 have hw2:IntKind.i64.wrap r=r:=IntWalk.i64_in _ (by omega)
 have hyz:¬ y=0:=by omega
 have hyn:¬ y < 0:=by omega
 have hyd:decide (y < 0)=false:=by simpa using hyn
 by_cases h:r < 0
 ·have hrn:(r != 0)=true:=by simp;omega
  have hrd:decide (r < 0)=true:=by simpa using h
  have hw3:IntKind.i64.wrap (q - 1)=q - 1:=IntWalk.i64_in _ (by omega)
  have hw4:IntKind.i64.wrap (r+y)=r+y:=IntWalk.i64_in _ (by omega)
  have E1:Hid (x / y=q - 1):=Lib.hid (t1.1 h)
  have E2:Hid (x % y=r+y):=Lib.hid (t2.1 h)
  clear hs ht hG t1 t2
  go_enter Tryz.func103,Tryz.ntmps103
  go_wp2_with fail
  refine (Iboth_ok x y s t _ HS.out (by omega) HT.out (by omega)).mono ?_
  rintro e w1 ⟨rfl,hB1⟩
  go_wp2_with fail
  refine (Ismall_ok x y s t _ HS.out hx HT.out hy).mono ?_
  rintro e w2 ⟨rfl,hB2⟩
  go_wp2_with fail
  go_quiet (fail)
  go_wp2_with fail
  refine (itoa_any (q - 1) (by omega) (by omega) _ (HG.out.below qbl)).mono ?_
  rintro e w3 ⟨u,hu,rfl,hB3⟩
  have HU:=Lib.hid hu
  clear hu
  go_wp2_with fail
  refine (itoa_any (r+y) (by omega) (by omega) _ (HG.out.below qbl)).mono ?_
  rintro e w4 ⟨v,hv,rfl,hB4⟩
  have HV:=Lib.hid hv
  clear hv
  go_wp2_with fail
  go_ret3
  exact ⟨u,v,by rw [HU.out,E1.out],by rw [HV.out,E2.out],rfl,qbl⟩
 ·have hrd:decide (r < 0)=false:=by simpa using h
  have E1:Hid (x / y=q):=Lib.hid (t1.2 h)
  have E2:Hid (x % y=r):=Lib.hid (t2.2 h)
  have hr0:(0:Int)≤r:=by omega
  clear hs ht hG t1 t2 h
  by_cases hz:r=0
  ·have hrn:(r != 0)=false:=by simp [hz]
   clear hz
   go_enter Tryz.func103,Tryz.ntmps103
   go_wp2_with fail
   refine (Iboth_ok x y s t _ HS.out (by omega) HT.out (by omega)).mono ?_
   rintro e w1 ⟨rfl,hB1⟩
   go_wp2_with fail
   refine (Ismall_ok x y s t _ HS.out hx HT.out hy).mono ?_
   rintro e w2 ⟨rfl,hB2⟩
   go_wp2_with fail
   go_quiet (fail)
   go_wp2_with fail
   refine (itoa_any (q) (by omega) (by omega) _ (HG.out.below qbl)).mono ?_
   rintro e w3 ⟨u,hu,rfl,hB3⟩
   have HU:=Lib.hid hu
   clear hu
   go_wp2_with fail
   refine (itoa_any (r) (by omega) (by omega) _ (HG.out.below qbl)).mono ?_
   rintro e w4 ⟨v,hv,rfl,hB4⟩
   have HV:=Lib.hid hv
   clear hv
   go_wp2_with fail
   go_ret3
   exact ⟨u,v,by rw [HU.out,E1.out],by rw [HV.out,E2.out],rfl,qbl⟩
  ·have hrn:(r != 0)=true:=by simp [hz]
   clear hz
   go_enter Tryz.func103,Tryz.ntmps103
   go_wp2_with fail
   refine (Iboth_ok x y s t _ HS.out (by omega) HT.out (by omega)).mono ?_
   rintro e w1 ⟨rfl,hB1⟩
   go_wp2_with fail
   refine (Ismall_ok x y s t _ HS.out hx HT.out hy).mono ?_
   rintro e w2 ⟨rfl,hB2⟩
   go_wp2_with fail
   go_quiet (fail)
   go_wp2_with fail
   refine (itoa_any (q) (by omega) (by omega) _ (HG.out.below qbl)).mono ?_
   rintro e w3 ⟨u,hu,rfl,hB3⟩
   have HU:=Lib.hid hu
   clear hu
   go_wp2_with fail
   refine (itoa_any (r) (by omega) (by omega) _ (HG.out.below qbl)).mono ?_
   rintro e w4 ⟨v,hv,rfl,hB4⟩
   have HV:=Lib.hid hv
   clear hv
   go_wp2_with fail
   go_ret3
   exact ⟨u,v,by rw [HU.out,E1.out],by rw [HV.out,E2.out],rfl,qbl⟩
theorem Of_one (n:Int) (w:World) (hG:Glo w) (h0 : -9223372036854775808≤n) (h1:n≤9223372036854775807) :
  Calls Tryz.prog 29 #[.int .i64 n,.int .i64 1] w (RetN n w):=by
 have HG:=Lib.hid hG
 clear hG
 go_enter Tryz.func29,Tryz.ntmps29
 go_wp2_with fail
 refine (itoa_any n h0 h1 _ HG.out).mono ?_
 rintro e w1 ⟨r,hr,rfl,hB1⟩
 have HR:=Lib.hid hr
 clear hr
 go_wp2_with fail
 go_ret2
 exact ⟨r,by rw [HR.out,ratText_int],rfl,hB1⟩
end Go.Proofs.YteepphiomcedfaaGreatDoor
namespace Go.Proofs.YteepphiomcedfaaGreatDoor
open Go.RowKit
def ordQ (p q:Rat):Int:=if p < q then -1 else if q < p then 1 else 0
theorem compareInt_rat (p q:Rat):Lib.compareInt (p.num * q.den) (q.num * p.den)=ordQ p q:=by
 unfold Lib.compareInt ordQ
 simp only [Rat.lt_iff]
theorem ratText_inj {p q:Rat} (hp:Small p) (hq:Small q) (h:ratText p=ratText q):p=q:=by
 have h1:=natOf_ratText hp
 rw [h,natOf_ratText hq] at h1
 simp only [Option.some.injEq,Prod.mk.injEq] at h1
 exact Rat.ext h1.1.symm h1.2.symm
theorem Parts_small {q:Rat} (s:ByteArray) (w:World) (hG:Glo w) (hs:s.data.toList=ratText q) (hq:Small q) :
  Calls Tryz.prog 279 #[.string s] w fun e w'=>∃ a b:ByteArray,Hid (a.data.toList=Lib.itoa q.num)∧Hid (b.data.toList=Lib.decDigits q.den)∧e=.returned (.tuple #[.string a,.string b,.int .i64 0])∧Below w.heap.size w w':=by
 have HS:=Lib.hid hs
 have HG:=Lib.hid hG
 clear hs hG
 go_enter Tryz.func279,Tryz.ntmps279
 go_wp2_with fail
 refine (read_small s _ HG.out HS.out hq).mono ?_
 rintro e w1 ⟨a,b,ha,hb,rfl,hB1⟩
 go_wp2_with fail
 go_quiet (fail)
 go_wp2_with fail
 go_ret3
 exact ⟨a,b,ha,hb,rfl,qbl⟩
theorem Int_small (n:Int) (s:ByteArray) (w:World) (hG:Glo w) (hs:s.data.toList=ratText n) (hq:Small (n:Rat)) :
  Calls Tryz.prog 47 #[.string s] w (RetB (.tuple #[.int .i64 n,.int .i64 0]) w):=by
 have HS:=Lib.hid hs
 have HG:=Lib.hid hG
 have hn:n.natAbs < 100000000:=hq.1
 clear hs hG
 go_enter Tryz.func47,Tryz.ntmps47
 go_wp2_with fail
 refine (read_small s _ HG.out HS.out hq).mono ?_
 rintro e w1 ⟨a,b,ha,hb,rfl,hB1⟩
 have hb1:=eq_of_list (s:=b) (m:=[49]) (by rw [hb.out];exact one_digits)
 have hat:Hid (Lib.atoiAll a.data.toList=.ok n):=Lib.hid (by rw [ha.out,Rat.num_intCast];exact atoi_itoa (by omega) (by omega))
 have hal:Hid (a.size≤1000):=Lib.hid (by
  have h1:=itoa_len_le (n:=n) (k:=8) (by omega) (by omega)
  have h2:a.size=a.data.toList.length:=rfl
  rw [h2,ha.out]
  exact Nat.le_trans h1 (by omega))
 go_wp2_with fail
 refine (atoi_any a _ hal.out hat.out).mono ?_
 rintro e w2 ⟨rfl,hB2⟩
 go_wp2_with fail
 go_ret2
 exact ⟨rfl,qbl⟩
theorem short_small {q:Rat} (s:ByteArray) (w:World) (hG:Glo w) (hs:s.data.toList=ratText q) (hq:Small q) :
  Calls Tryz.prog 256 #[.string s] w (RetB (.bool true) w):=by
 have HS:=Lib.hid hs
 have HG:=Lib.hid hG
 clear hs hG
 go_enter Tryz.func256,Tryz.ntmps256
 go_wp2_with fail
 refine (Parts_small s _ HG.out HS.out hq).mono ?_
 rintro e w1 ⟨a,b,ha,hb,rfl,hB1⟩
 have hx:=(trim_itoa q.num).1
 rw [← ha.out] at hx
 have HX:=Lib.hid hx
 clear hx
 have hbl:(b.size:Int)≤8:=by
  have h1:=nDigits_le8 hq.2
  have h2:b.size=b.data.toList.length:=rfl
  rw [h2,hb.out,Lib.decDigits_length];omega
 go_wp2_with fail
 refine (trimPrefix_any a _ _ HX.out).mono ?_
 rintro e w2 ⟨o,ho,rfl,rfl⟩
 have hol:(o.size:Int)≤8:=by
  have h1:=nDigits_le8 hq.1
  have h2:o.size=o.data.toList.length:=rfl
  rw [h2,ho.out,Lib.decDigits_length];omega
 have hmx:max (o.size:Int) (b.size:Int)≤36:=by omega
 go_wp2_with fail
 go_ret
 exact ⟨rfl,qbl⟩
theorem order_small {p q:Rat} (s t:ByteArray) (w:World) (hs:s.data.toList=ratText p) (hp:Small p) (ht:t.data.toList=ratText q) (hq:Small q) :
  Calls Tryz.prog 257 #[.string s,.string t] w (RetB (.int .i64 (ordQ p q)) w):=by
 have HS:=Lib.hid hs
 have HT:=Lib.hid ht
 by_cases he:s.toList=t.toList
 ·have hpq:p=q:=by
   rw [Lib.toList_data,Lib.toList_data,hs,ht] at he
   exact ratText_inj hp hq he
  subst hpq
  have ho:Hid (ordQ p p=0):=Lib.hid (by unfold ordQ;rw [if_neg Rat.lt_irrefl,if_neg Rat.lt_irrefl])
  have hE:(s.toList == t.toList)=true:=by simpa using he
  clear hs ht he
  go_enter Tryz.func257,Tryz.ntmps257
  go_wp2_with fail
  go_ret
  exact ⟨by rw [ho.out];rfl,qbl⟩
 ·have hE:(s.toList == t.toList)=false:=by simpa using he
  clear hs ht he
  go_enter Tryz.func257,Tryz.ntmps257
  go_wp2_with fail
  refine (Compare_small s t _ HS.out hp HT.out hq).mono ?_
  rintro e w1 ⟨rfl,hB1⟩
  go_wp2_with fail
  go_ret
  exact ⟨by rw [← compareInt_rat];rfl,qbl⟩
end Go.Proofs.YteepphiomcedfaaGreatDoor
namespace Go.Proofs.YteepphiomcedfaaGreatDoor
open Go.RowKit
theorem Imul_small (x y:Int) (s t:ByteArray) (w:World) (hG:Glo w) (hs:s.data.toList=Lib.itoa x) (ht:t.data.toList=Lib.itoa y) (hl:s.size+t.size≤18) :
  Calls Tryz.prog 125 #[.string s,.string t] w (RetI (x * y) w):=by
 have hxl:=dec_le_of_size hs (show s.size≤18 by omega)
 have hyl:=dec_le_of_size ht (show t.size≤18 by omega)
 have hp:(x * y).natAbs < 10 ^ 18:=by
  have b1:x.natAbs < 10 ^ s.size:=itoa_lt (by rw [← hs];exact Nat.le_refl _)
  have b2:y.natAbs < 10 ^ t.size:=itoa_lt (by rw [← ht];exact Nat.le_refl _)
  rw [Int.natAbs_mul]
  calc x.natAbs * y.natAbs < 10 ^ s.size * 10 ^ t.size:=Nat.mul_lt_mul'' b1 b2
   _=10 ^ (s.size+t.size):=(Nat.pow_add _ _ _).symm
   _≤10 ^ 18:=Nat.pow_le_pow_right (by omega) hl
 have HS:=Lib.hid hs
 have HT:=Lib.hid ht
 have HG:=Lib.hid hG
 have hlz:((s.size:Int)+(t.size:Int))≤18:=by omega
 clear hs ht hG
 go_enter Tryz.func125,Tryz.ntmps125
 go_wp2_with fail
 refine (Iboth_ok x y s t _ HS.out (by omega) HT.out (by omega)).mono ?_
 rintro e w1 ⟨rfl,hB1⟩
 go_wp2_with fail
 refine (Ismall_ok x y s t _ HS.out (by omega) HT.out (by omega)).mono ?_
 rintro e w2 ⟨rfl,hB2⟩
 have hp1 : -1000000000000000000 < x * y:=by omega
 have hp2:x * y < 1000000000000000000:=by omega
 clear hp
 go_wp2_with fail
 refine (itoa_any (x * y) (by omega) (by omega) _ (HG.out.below qbl)).mono ?_
 rintro e w3 ⟨r,hr,rfl,hB3⟩
 have HR:=Lib.hid hr
 clear hr
 go_wp2_with fail
 go_ret2
 exact ⟨r,HR.out,rfl,qbl⟩
theorem ICompare_small (x y:Int) (s t:ByteArray) (w:World) (hs:s.data.toList=Lib.itoa x) (hx:s.size≤18) (ht:t.data.toList=Lib.itoa y) (hy:t.size≤18) :
  Calls Tryz.prog 74 #[.string s,.string t] w (RetB (.tuple #[.int .i64 (Lib.compareInt x y),.int .i64 0]) w):=by
 have hxl:=dec_le_of_size hs hx
 have hyl:=dec_le_of_size ht hy
 have HS:=Lib.hid hs
 have HT:=Lib.hid ht
 clear hs ht
 go_enter Tryz.func74,Tryz.ntmps74
 go_wp2_with fail
 refine (Iboth_ok x y s t _ HS.out (by omega) HT.out (by omega)).mono ?_
 rintro e w1 ⟨rfl,hB1⟩
 go_wp2_with fail
 refine (Ismall_ok x y s t _ HS.out hx HT.out hy).mono ?_
 rintro e w2 ⟨rfl,hB2⟩
 go_wp2_with fail
 refine (Tryz.cmp_Compare_int _ _ _).mono ?_
 rintro e w3 ⟨rfl,rfl⟩
 go_wp2_with fail
 go_ret2
 exact ⟨rfl,qbl⟩
def Mid (n:Int):Prop:=natOf (Lib.itoa n)=none∧n.natAbs < 10 ^ 10
theorem nativeOf_none (s:ByteArray) (w:World) (hs:s.size≤1000) (h:natOf s.data.toList=none) :
  Calls Tryz.prog 70 #[.string s] w (RetB (.tuple #[.agg #[.int .i64 0,.int .i64 0],.bool false]) w):=by
 have:=nativeOf_any s w (by unfold maxLen;omega)
 rw [natOfV,h] at this
 exact this
theorem read_mid {n:Int} (s:ByteArray) (w:World) (hG:Glo w) (hs:s.data.toList=Lib.itoa n) (hn:Mid n) :
  Calls Tryz.prog 72 #[.string s] w (RetP (n:Rat) (.int .i64 0) w):=by
 have hsz:s.size≤11:=by
  have h1:=itoa_len_le (n:=n) (k:=10) hn.2 (by omega)
  have h2:s.size=s.data.toList.length:=rfl
  rw [h2,hs];exact h1
 have hno:natOf s.data.toList=none:=by rw [hs];exact hn.1
 have hrt:s.data.toList=ratText (n:Rat):=by rw [hs,ratText_int]
 have HS:=Lib.hid hrt
 have HN:=Lib.hid hno
 have HG:=Lib.hid hG
 have HM:=Lib.hid hn
 clear hs hG hno hrt hn
 go_enter Tryz.func72,Tryz.ntmps72
 go_wp2_with fail
 refine (cut_valid s _ (HG.out.below qbl) HS.out (by omega)).mono ?_
 rintro e w1 ⟨a,b,ha,hb,rfl,hB1⟩
 have c0:w1.cell? ⟨w.heap.size,0,none⟩=some (.string ⟨#[]⟩):=keep hB1 (by simp [go_sem])
 have c1:w1.cell? ⟨w.heap.size,1,none⟩=some (.string ⟨#[]⟩):=keep hB1 (by simp [go_sem])
 have g0:w1.frozen? ⟨w.heap.size,0,none⟩=false:=keepf hB1 (v:=.string ⟨#[]⟩) (by simp [go_sem]) (by simp [go_sem])
 have g1:w1.frozen? ⟨w.heap.size,1,none⟩=false:=keepf hB1 (v:=.string ⟨#[]⟩) (by simp [go_sem]) (by simp [go_sem])
 have z1:=lt_of_cell c0
 go_wp2_with fail
 refine (nativeOf_none s _ (by omega) HN.out).mono ?_
 rintro e w2 ⟨rfl,hB2⟩
 have c0':w2.cell? ⟨w.heap.size,0,none⟩=some (.string ⟨#[]⟩):=keep hB2 (keep (bw4 (bw0 _ _) _) c0)
 have c1':w2.cell? ⟨w.heap.size,1,none⟩=some (.string ⟨#[]⟩):=keep hB2 (keep (bw4 (bw0 _ _) _) c1)
 have g0':w2.frozen? ⟨w.heap.size,0,none⟩=false:=keepf hB2 (keep (bw4 (bw0 _ _) _) c0) (keepf (bw4 (bw0 _ _) _) c0 g0)
 have g1':w2.frozen? ⟨w.heap.size,1,none⟩=false:=keepf hB2 (keep (bw4 (bw0 _ _) _) c1) (keepf (bw4 (bw0 _ _) _) c1 g1)
 have c2:w2.cell? ⟨w1.heap.size,0,none⟩=some (.string a):=keep hB2 (by simp [go_sem])
 have c3:w2.cell? ⟨w1.heap.size,1,none⟩=some (.string b):=keep hB2 (by simp [go_sem])
 have z2:=lt_of_cell c0'
 have z3:=lt_of_cell c2
 have hx:=(trim_itoa n).1
 have ha':a.data.toList=Lib.itoa n:=ha.out
 rw [← ha'] at hx
 have HX:=Lib.hid hx
 have hb1:(b.toList == [49])=true:=eq_of_list (by rw [hb.out];exact one_digits)
 have hbl:(b.size:Int)≤300:=by
  have h2:b.size=b.data.toList.length:=rfl
  rw [h2,hb.out]
  rw [show (n:Rat).den=1 from rfl,one_digits];decide
 clear hx ha' c0 c1 g0 g1
 go_wp2_with fail
 refine (trimPrefix_any a _ _ HX.out).mono ?_
 rintro e w3 ⟨o,ho,rfl,rfl⟩
 have hol:(o.size:Int)≤300:=by
  have h2:o.size=o.data.toList.length:=rfl
  have h3:=nDigits_le_of_lt HM.out.2 (by omega)
  rw [h2,ho.out,Lib.decDigits_length];omega
 go_wp2_with fail
 refine bodyPost_ret (v:=.tuple #[.agg #[.string a,.string b],.int .i64 0]) (by simp [results,Tryz.results72,go_sem,c0',c1',c2,c3,z2,z3]) rfl ⟨a,b,ha,hb,rfl,qbl⟩
end Go.Proofs.YteepphiomcedfaaGreatDoor
namespace Go.Proofs.YteepphiomcedfaaGreatDoor
open Go.RowKit
theorem itoa_natCast (n:Nat):Lib.itoa (n:Int)=Lib.decDigits n:=by
 rcases itoa_cases n with ⟨h,_⟩|⟨_,e⟩
 ·omega
 ·rw [e];rfl
def RetC (u v:Int) (w:World) (e:Ending) (w':World):Prop:=∃ r s:ByteArray,Hid (r.data.toList=Lib.itoa u)∧Hid (s.data.toList=Lib.itoa v)∧e=.returned (.tuple #[.string r,.string s,.int .i64 0])∧Below w.heap.size w w'
theorem crossed_ok (xn yn:Int) (xd yd:Nat) (a b c d:ByteArray) (w:World) (hG:Glo w) (ha:a.data.toList=Lib.itoa xn) (hb:b.data.toList=Lib.decDigits xd) (hc:c.data.toList=Lib.itoa yn) (hd:d.data.toList=Lib.decDigits yd) (h1:a.size+d.size≤18) (h2:c.size+b.size≤18) :
  Calls Tryz.prog 73 #[.agg #[.string a,.string b],.agg #[.string c,.string d]] w (RetC (xn * yd) (yn * xd) w):=by
 rw [← itoa_natCast] at hb hd
 have HA:=Lib.hid ha
 have HB:=Lib.hid hb
 have HC:=Lib.hid hc
 have HD:=Lib.hid hd
 have HG:=Lib.hid hG
 clear hG ha hb hc hd
 go_enter Tryz.func73,Tryz.ntmps73
 go_wp2_with fail
 refine (Imul_small xn yd a d _ (HG.out.below qbl) HA.out HD.out h1).mono ?_
 rintro e w1 ⟨r,hr,rfl,hB1⟩
 have HR:=Lib.hid hr
 clear hr
 have c1:w1.cell? ⟨w.heap.size,1,none⟩=some (.string b):=keep hB1 (by simp [go_sem])
 have c2:w1.cell? ⟨w.heap.size+1,0,none⟩=some (.string c):=keep hB1 (by simp [go_sem])
 have z1:=lt_of_cell c1
 have z2:=lt_of_cell c2
 have hB1':Below w.heap.size w w1:=qbl
 go_wp2_with fail
 refine (Imul_small yn xd c b _ (HG.out.below qbl) HC.out HB.out h2).mono ?_
 rintro e w2 ⟨s,hs,rfl,hB2⟩
 have HS:=Lib.hid hs
 clear hs
 have hB2':Below w.heap.size w w2:=qbl
 go_wp2_with fail
 go_ret3
 exact ⟨r,s,HR,HS,rfl,qbl⟩
theorem Compare_mid {p:Rat} {n:Int} (s t:ByteArray) (w:World) (hG:Glo w) (hs:s.data.toList=ratText p) (hp:Small p) (ht:t.data.toList=Lib.itoa n) (hn:Mid n) (h0:0≤n) :
  Calls Tryz.prog 21 #[.string s,.string t] w (RetB (.tuple #[.int .i64 (Lib.compareInt p.num (n * p.den)),.int .i64 0]) w):=by
 have l1:(Lib.itoa p.num).length≤9:=itoa_len_le (k:=8) hp.1 (by omega)
 have l2:(Lib.decDigits p.den).length≤8:=by rw [Lib.decDigits_length];exact nDigits_le_of_lt (k:=8) hp.2 (by omega)
 have l3:(Lib.itoa n).length≤10:=by
  rcases itoa_cases n with ⟨h,_⟩|⟨_,e⟩
  ·omega
  ·rw [e,Lib.decDigits_length];exact nDigits_le_of_lt (k:=10) hn.2 (by omega)
 have hno:natOf t.data.toList=none:=by rw [ht];exact hn.1
 have tsz:t.size≤10:=by
  have h2:t.size=t.data.toList.length:=rfl
  rw [h2,ht];exact l3
 have bp:(n * (p.den:Int)).natAbs < 10 ^ 18:=by
  rw [Int.natAbs_mul]
  calc n.natAbs * (p.den:Int).natAbs < 10 ^ 10 * 10 ^ 8:=Nat.mul_lt_mul'' hn.2 (by have:=hp.2;omega)
   _=10 ^ 18:=by decide
 have l4:(Lib.itoa (n * (p.den:Int))).length≤18:=by
  rcases itoa_cases (n * (p.den:Int)) with ⟨h,_⟩|⟨_,e⟩
  ·have:=Int.mul_nonneg h0 (Int.natCast_nonneg p.den);omega
  ·rw [e,Lib.decDigits_length];exact nDigits_le_of_lt (k:=18) bp (by omega)
 have HS:=Lib.hid hs
 have HT:=Lib.hid ht
 have HN:=Lib.hid hno
 have HG:=Lib.hid hG
 clear hG hs ht hno bp
 go_enter Tryz.func21,Tryz.ntmps21
 go_wp2_with fail
 refine (nativeOf_small s _ HS.out hp).mono ?_
 rintro e w1 ⟨rfl,hB1⟩
 have hb1:Below w.heap.size w w1:=qbl
 go_wp2_with fail
 refine (nativeOf_none t _ (by omega) HN.out).mono ?_
 rintro e w2 ⟨rfl,hB2⟩
 have hb2:Below w.heap.size w w2:=qbl
 go_wp2_with fail
 refine (read_small s _ (HG.out.below qbl) HS.out hp).mono ?_
 rintro e w3 ⟨a,b,ha,hb,rfl,hB3⟩
 have hb3:Below w.heap.size w w3:=qbl
 go_wp2_with fail
 refine (read_mid t _ (HG.out.below qbl) HT.out hn).mono ?_
 rintro e w4 ⟨c,d,hc,hd,rfl,hB4⟩
 have hb4:Below w.heap.size w w4:=qbl
 have c1:w4.cell? ⟨w3.heap.size,0,none⟩=some (.string a):=keep hB4 (by simp [go_sem])
 have c2:w4.cell? ⟨w3.heap.size,1,none⟩=some (.string b):=keep hB4 (by simp [go_sem])
 have z1:=lt_of_cell c1
 have sa:a.size≤9:=by
  have h2:a.size=a.data.toList.length:=rfl
  rw [h2,ha.out];exact l1
 have sb:b.size≤8:=by
  have h2:b.size=b.data.toList.length:=rfl
  rw [h2,hb.out];exact l2
 have sc:c.size≤10:=by
  have h2:c.size=c.data.toList.length:=rfl
  rw [h2,hc.out];exact l3
 have sd:d.size≤1:=by
  have h2:d.size=d.data.toList.length:=rfl
  rw [h2,hd.out,show (n:Rat).den=1 from rfl,one_digits];decide
 go_wp2_with fail
 refine (crossed_ok p.num n p.den 1 a b c d _ (HG.out.below qbl) ha.out hb.out hc.out hd.out (by omega) (by omega)).mono ?_
 rintro e w5 ⟨u,v,hu,hv,rfl,hB5⟩
 have hb5:Below w.heap.size w w5:=qbl
 have hu':u.data.toList=Lib.itoa p.num:=by rw [hu.out];simp
 have su:u.size≤9:=by
  have h2:u.size=u.data.toList.length:=rfl
  rw [h2,hu'];exact l1
 have sv:v.size≤18:=by
  have h2:v.size=v.data.toList.length:=rfl
  rw [h2,hv.out];exact l4
 have HU:=Lib.hid hu'
 clear hu hu'
 go_wp2_with fail
 refine (ICompare_small p.num (n * p.den) u v _ HU.out (by omega) hv.out sv).mono ?_
 rintro e w6 ⟨rfl,hB6⟩
 have hb6:Below w.heap.size w w6:=qbl
 go_wp2_with fail
 go_ret2
 exact ⟨rfl,qbl⟩
theorem mid_most:Mid 1073741824:=by
 refine ⟨?_,by decide⟩
 decide +kernel
end Go.Proofs.YteepphiomcedfaaGreatDoor
namespace Go.Proofs.YteepphiomcedfaaGreatDoor
open Go.RowKit
theorem quick_none (F:Nat) (s t:ByteArray) (w:World) (hs:s.size≤1000) (h:natOf s.data.toList=none) :
  Calls Tryz.prog 61 #[.string s,.string t,.func (.func F) #[] #[]] w (RetB (.tuple #[.string ⟨#[]⟩,.bool false]) w):=by
 have HN:=Lib.hid h
 clear h
 go_enter Tryz.func61,Tryz.ntmps61
 go_wp2_with fail
 refine (nativeOf_none s _ hs HN.out).mono ?_
 rintro e w1 ⟨rfl,hB1⟩
 go_wp2_with fail
 go_ret2
 exact ⟨rfl,qbl⟩
theorem both_gen {p q r:Rat} (F:Nat) (s t:ByteArray) (w:World) (hG:Glo w)
  (hs:∀ W,Glo W→Calls Tryz.prog 72 #[.string s] W (RetP p (.int .i64 0) W)) (ht:∀ W,Glo W→Calls Tryz.prog 72 #[.string t] W (RetP q (.int .i64 0) W))
  (hE:∀ args w,(callFunc F args).run Tryz.prog w=.ok (.enter F args) w)
  (hF:∀ (a b c d:ByteArray) W,Glo W→a.data.toList=Lib.itoa p.num→b.data.toList=Lib.decDigits p.den→c.data.toList=Lib.itoa q.num→d.data.toList=Lib.decDigits q.den→Calls Tryz.prog F #[.agg #[.string a,.string b],.agg #[.string c,.string d]] W (RetN r W)) :
  Calls Tryz.prog 63 #[.string s,.string t,.func (.func F) #[] #[]] w (RetN r w):=by
 have HS:=Lib.hid hs
 have HT:=Lib.hid ht
 have HG:=Lib.hid hG
 have HF:=Lib.hid hF
 clear hs ht hG hF
 go_enter Tryz.func63,Tryz.ntmps63
 go_wp2_with fail
 refine (HS.out _ (HG.out.below qbl)).mono ?_
 rintro e w1 ⟨a,b,ha,hb,rfl,hB1⟩
 have hb1:Below w.heap.size w w1:=qbl
 clear hB1
 go_wp2_with fail
 refine (HT.out _ (HG.out.below qbl)).mono ?_
 rintro e w2 ⟨c,d,hc,hd,rfl,hB2⟩
 have hb2:Below w.heap.size w w2:=qbl
 have c1:w2.cell? ⟨w1.heap.size,0,none⟩=some (.string a):=keep hB2 (by simp [go_sem])
 have c2:w2.cell? ⟨w1.heap.size,1,none⟩=some (.string b):=keep hB2 (by simp [go_sem])
 have z1:=lt_of_cell c1
 clear hB2
 go_wp2_with fail
 refine (HF.out a b c d _ (HG.out.below qbl) ha.out hb.out hc.out hd.out).mono ?_
 rintro e w3 ⟨v,hv,rfl,hB3⟩
 have HV:=Lib.hid hv
 have hb3:Below w.heap.size w w3:=qbl
 clear hv hB3
 go_wp2_with fail
 go_ret2
 exact ⟨v,HV.out,rfl,hb3⟩
end Go.Proofs.YteepphiomcedfaaGreatDoor
