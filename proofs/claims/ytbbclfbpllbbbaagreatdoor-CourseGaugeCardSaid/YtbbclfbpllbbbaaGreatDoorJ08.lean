/- Joined texts: WRootP, WRootQ, WRootC, WRatio, WNormN, RangeBox, WSquares, WNormal. -/
import Derived.Test.YtbbclfbpllbbbaaGreatDoorJ07
import Derived.Test.YtbbclfbpllbbbaaGreatDoorJ01
import Derived.Test.YtbbclfbpllbbbaaGreatDoorJ02
import Derived.Test.YtbbclfbpllbbbaaGreatDoorJ04
set_option maxRecDepth 100000
set_option linter.unusedVariables false
set_option linter.unusedSimpArgs false
set_option maxHeartbeats 12800000
namespace Go.Proofs.YtbbclfbpllbbbaaGreatDoor
open Go.RowKit
def RetSS (l m:List UInt8) (w:World) (e:Ending) (w':World):Prop:=∃ a b:ByteArray,a.data.toList=l∧b.data.toList=m∧e=.returned (.tuple #[.string a,.string b])∧Below w.heap.size w w'
theorem hasPrefix_any (s p:ByteArray) (w:World) {c:Bool} (hc:Lib.hasPrefix s.data.toList p.data.toList=c) :
  Calls Tryz.prog 41 #[.string s,.string p] w fun e w'=>e=.returned (.bool c)∧w'=w:=by
 subst hc
 exact (Tryz.strings_HasPrefix s p w).mono fun e w' ⟨h1,h2⟩=>⟨h1,h2⟩
theorem rootMul_ok (x y:Int) (s t:ByteArray) (w:World) (hG:Glo w) (hs:s.data.toList=Lib.itoa x) (hx:Fit x) (ht:t.data.toList=Lib.itoa y) (hy:Fit y) (hxy:Fit (x * y)) :
  Calls Tryz.prog 137 #[.string s,.string t] w (RetS (Lib.itoa (x * y)) w):=by
 have H:=Lib.hid ((Imul_ok x y s t w hG hs hx ht hy).mono fun e w' h=>h.1 hxy)
 clear hs ht hG hx hy hxy
 go_enter Tryz.func137,Tryz.ntmps137
 go_wp2_with fail
 refine H.out.mono ?_
 rintro e w1 ⟨r,hr,rfl,hB⟩
 have HR:=Lib.hid hr
 clear hr
 go_wp2_with fail
 go_ret
 exact ⟨r,HR.out,rfl,hB⟩
theorem quotient_ok (x y:Int) (s t:ByteArray) (w:World) (hG:Glo w) (hs:s.data.toList=Lib.itoa x) (hx:Fit x) (ht:t.data.toList=Lib.itoa y) (hy:Fit y) (hy0:0 < y) (hx0:0≤x) :
  Calls Tryz.prog 192 #[.string s,.string t] w (RetSS (Lib.itoa (x / y)) (Lib.itoa (x % y)) w):=by
 have H:=Lib.hid (IDivide_ok x y s t w hG hs hx ht hy hy0 (.inr hx0))
 clear hs ht hG hx hy
 go_enter Tryz.func192,Tryz.ntmps192
 go_wp2_with fail
 refine H.out.mono ?_
 rintro e w1 ⟨a,b,ha,hb,rfl,hB⟩
 have HA:=Lib.hid ha
 have HBB:=Lib.hid hb
 clear ha hb
 go_wp2_with fail
 go_ret2
 exact ⟨a,b,HA.out,HBB.out,rfl,hB⟩
theorem hasMinus {q:Rat} {l:List UInt8} (h:l=ratText q):Lib.hasPrefix l [45]=decide (q.num < 0):=by
 rw [h,ratText_parts]
 by_cases hn:q.num < 0
 ·rw [if_pos hn,decide_eq_true hn];simp [Lib.hasPrefix,List.isPrefixOf]
 ·rw [if_neg hn,decide_eq_false hn,List.nil_append]
  cases hd:Lib.decDigits q.num.natAbs with
  | nil=>exact absurd hd (decDigits_ne _)
  | cons a t =>
   have h45:=decDigits_no45 q.num.natAbs []
   rw [List.append_nil,hd] at h45
   have ha:a≠45:=by simpa using h45
   simp [Lib.hasPrefix,List.isPrefixOf,Ne.symm ha]
theorem rootNeg_ok {q:Rat} (s:ByteArray) (w:World) (hs:s.data.toList=ratText q) :
  Calls Tryz.prog 149 #[.string s] w fun e w'=>e=.returned (.bool (decide (q.num < 0)))∧w'=w:=by
 have H:=Lib.hid (fun W=>hasPrefix_any s ⟨#[45]⟩ W (hasMinus hs))
 generalize decide (q.num < 0)=c at *
 clear hs
 go_enter Tryz.func149,Tryz.ntmps149
 go_wp2_with fail
 refine (H.out _).mono ?_
 rintro e w1 ⟨rfl,rfl⟩
 go_wp2_with fail
 go_ret
 exact ⟨rfl,rfl⟩
def RetPr (q:Rat) (w:World) (e:Ending) (w':World):Prop:=∃ a b:ByteArray,a.data.toList=Lib.itoa q.num∧b.data.toList=Lib.decDigits q.den∧e=.returned (.agg #[.string a,.string b])∧Below w.heap.size w w'
theorem fraction_ok {n:Int} {d:Nat} (s t:ByteArray) (w:World) (hG:Glo w) (hs:s.data.toList=Lib.itoa n) (hn:n.natAbs < 10 ^ 150) (ht:t.data.toList=Lib.decDigits d) (hd:d < 10 ^ 150) (hd0:0 < d) :
  Calls Tryz.prog 140 #[.string s,.string t] w (RetS (ratText ((n:Rat) / ((d:Int):Rat))) w):=by
 have h1:Sz 150 (n:Rat):=sz_int hn (by decide)
 have h2:Sz 150 ((d:Int):Rat):=sz_int (by simpa using hd) (by decide)
 have H:=Lib.hid (RDiv_ok s t w hG (by rw [hs,ratText_int]) h1 (by rw [ht,ratText_int,itoa_natCast]) h2 (by decide) (by show 0 < (d:Int);omega))
 generalize (n:Rat) / ((d:Int):Rat)=q at *
 clear hs ht hG hn hd h1 h2
 go_enter Tryz.func140,Tryz.ntmps140
 go_wp2_with fail
 refine H.out.mono ?_
 rintro e w1 ⟨r,hr,rfl,hB⟩
 have HR:=Lib.hid hr
 clear hr
 go_wp2_with fail
 go_ret
 exact ⟨r,HR.out,rfl,hB⟩
theorem native_ok (n:Nat) (s:ByteArray) (w:World) (hs:s.data.toList=Lib.decDigits n) (hl:s.size≤17) :
  Calls Tryz.prog 135 #[.string s] w (RetB (.tuple #[.int .i64 n,.bool true]) w):=by
 have hn:n < 10 ^ 17:=pow_le_of_lt (by rw [← hs];exact hl)
 have hn':n < 100000000000000000:=hn
 have hat:Lib.atoiAll s.data.toList=.ok (n:Int):=by rw [hs,← itoa_natCast];exact atoi_itoa (by omega) (by omega)
 have HAT:=Lib.hid hat
 have hl':¬ (17:Int) < (s.size:Int):=by omega
 have hsz:s.size≤1000:=by omega
 clear hs hat hn
 go_enter Tryz.func135,Tryz.ntmps135
 go_wp2_with fail
 refine (atoi_any s _ (by omega) HAT.out).mono ?_
 rintro e w1 ⟨rfl,hB1⟩
 go_wp2_with fail
 go_quiet (fail)
 go_wp2_with fail
 go_ret2
 exact ⟨rfl,qbl⟩
theorem native_long (s:ByteArray) (w:World) (hl:17 < s.size) :
  Calls Tryz.prog 135 #[.string s] w (RetB (.tuple #[.int .i64 0,.bool false]) w):=by
 have hl':(17:Int) < (s.size:Int):=by omega
 go_enter Tryz.func135,Tryz.ntmps135
 go_wp2_with fail
 go_ret2
 exact ⟨rfl,bw0 _ _⟩
theorem rootN_two {n L:Nat} (h:n < 2 ^ L):rootN n≤2 ^ ((L+1) / 2):=by
 refine rootN_le (Nat.lt_of_lt_of_le h ?_)
 refine Nat.le_trans (Nat.pow_le_pow_right (by decide) (show L≤(L+1) / 2+(L+1) / 2 by omega)) ?_
 rw [Nat.pow_add]
 exact Nat.mul_le_mul (by omega) (by omega)
theorem bitLen_bds {n:Nat} (h0:n≠0) (h:n < 100000000000000000):n < 2 ^ Lib.bitLen n∧Lib.bitLen n≤57:=by
 obtain ⟨h1,h2,h3⟩:=Lib.bitLenAux_bounds 64 n (by omega) h0
 refine ⟨h3,Nat.le_of_not_lt fun hc=>?_⟩
 have h4:2 ^ 57≤2 ^ (Lib.bitLenAux 64 n - 1):=Nat.pow_le_pow_right (by decide) (by
  have:Lib.bitLen n=Lib.bitLenAux 64 n:=rfl
  omega)
 have h5:(2:Nat) ^ 57=144115188075855872:=by decide
 omega
theorem bitsLen_any (x:Int) (w:World) (h0:0≤x) (h1:x≤18446744073709551615) :
  Calls Tryz.prog 99 #[.int .u64 x] w fun e w'=>e=.returned (.int .i64 (Lib.bitLen x.toNat))∧w'=w:=Tryz.bits_Len x w h0 h1
theorem nativeRoot_ok (n:Nat) (w:World) (hn:n < 100000000000000000) :
  Calls Tryz.prog 190 #[.int .i64 n] w (RetB (.int .i64 (rootN n:Nat)) w):=by
 by_cases h2:n < 2
 ·have e:rootN n=n:=by
   have:n=0∨n=1:=by omega
   rcases this with rfl|rfl<;>decide
  rw [e]
  have h2':(n:Int) < 2:=by omega
  go_enter Tryz.func190,Tryz.ntmps190
  go_wp2_with fail
  go_ret
  exact ⟨rfl,bw0 _ _⟩
 ·have h2':¬ (n:Int) < 2:=by omega
  obtain ⟨b1,b2⟩:=bitLen_bds (show n≠0 by omega) hn
  have hr0:=rootN_two b1
  have HL:=Lib.hid (fun W=>bitsLen_any (n:Int) W (by omega) (by omega))
  rw [Int.toNat_natCast] at HL
  generalize Lib.bitLen n=L at *
  have hw1:IntKind.i64.wrap ((L:Int)+1)=(L:Int)+1:=IntWalk.i64_in _ (by omega)
  obtain ⟨k,hk⟩:∃ k,(L+1) / 2=k:=⟨_,rfl⟩
  rw [hk] at hr0
  have hk29:k≤29:=by omega
  have hd:((L:Int)+1).tdiv 2=(k:Int):=by rw [Int.tdiv_eq_ediv_of_nonneg (by omega)];omega
  have hwk:IntKind.i64.wrap (k:Int)=(k:Int):=IntWalk.i64_in _ (by omega)
  have hp:2 ^ k≤2 ^ 29:=Nat.pow_le_pow_right (by decide) hk29
  have hp':2 ^ k≤536870912:=hp
  have HR0:=Lib.hid hr0
  have hcv:IntKind.u64.wrap (n:Int)=(n:Int):=by simp [IntKind.wrap,IntKind.bits,IntKind.signed];omega
  obtain ⟨P,hP⟩:∃ P,2 ^ k=P:=⟨_,rfl⟩
  have hPe:(2:Int) ^ k=(P:Int):=by rw [← hP];push_cast;rfl
  have hP1:1≤P:=by rw [← hP];exact Nat.pow_pos (by decide)
  rw [hP] at HR0 hp'
  have hsh:IntKind.i64.wrap ((2:Int) ^ k)=(P:Int):=by rw [hPe];exact IntWalk.i64_in _ (by omega)
  have hn2:2≤n:=by omega
  clear hr0 b1 hp hk h2 hP hPe
  go_enter Tryz.func190,Tryz.ntmps190
  go_wp2_with fail
  refine (HL.out _).mono ?_
  rintro e w1 ⟨rfl,hw1'⟩
  obtain rfl:w=w1:=hw1'.symm
  go_wp2_with fail
  go_loopw [3] (fun x wr=>∃ Y:Nat,x=.int .i64 Y∧1≤Y∧Y≤2000000000∧Hid (rootN n≤Y)∧Below w.heap.size w wr) (fun x _=>(intOf x).toNat)
  case atStart=>exact ⟨P,rfl,hP1,by omega,HR0,bw0 _ _⟩
  case round =>
   obtain ⟨Y,rfl,y1,y2,HY,hB⟩:=hrel
   have hq:=quo_nat n Y
   have hy0:¬ ((Y:Int)=0):=by omega
   have hQ2:n / Y≤n:=Nat.div_le_self _ _
   obtain ⟨Z,hZ⟩:∃ Z,(Y+n / Y) / 2=Z:=⟨_,rfl⟩
   have HN1:=Lib.hid (newton_ge n y1)
   have HN2:=Lib.hid (fun h=>newton_eq (n:=n) HY.out h)
   rw [hZ] at HN1 HN2
   obtain ⟨Q,hQ⟩:∃ Q,n / Y=Q:=⟨_,rfl⟩
   rw [hQ] at hq hQ2 hZ
   have hw1:IntKind.i64.wrap ((Y:Int)+(Q:Int))=(Y:Int)+(Q:Int):=IntWalk.i64_in _ (by omega)
   have hq2:((Y:Int)+(Q:Int)).tdiv 2=(Z:Int):=by rw [Int.tdiv_eq_ediv_of_nonneg (by omega)];omega
   have hwz:IntKind.i64.wrap (Z:Int)=(Z:Int):=IntWalk.i64_in _ (by omega)
   have hwq:IntKind.i64.wrap (Q:Int)=(Q:Int):=IntWalk.i64_in _ (by omega)
   clear hQ hQ2
   by_cases hge:Y≤Z
   ·have HR:=Lib.hid (HN2.out hge)
    have hgeI:(Y:Int)≤(Z:Int):=by omega
    clear hge HN1 HN2
    go_wp2_with fail
    go_ret
    exact ⟨by rw [HR.out];first|done|rfl,hB⟩
   ·have hgeI:¬ (Y:Int)≤(Z:Int):=by omega
    have hz1:1≤Z:=Nat.le_trans (le_rootN (by omega)) HN1.out
    clear HN2
    go_wp2_with fail
    go_roundw
    case rel=>exact ⟨Z,rfl,hz1,by omega,HN1,hB⟩
    case measure=>simp [intOf];omega
end Go.Proofs.YtbbclfbpllbbbaaGreatDoor
namespace Go.Proofs.YtbbclfbpllbbbaaGreatDoor
open Go.RowKit
theorem isSqN_iff (m:Nat):isSqN m=true↔rootN m * rootN m=m:=by simp [isSqN]
def RetEx (l:List UInt8) (b:Bool) (w:World) (e:Ending) (w':World):Prop:=∃ r:ByteArray,r.data.toList=l∧e=.returned (.tuple #[.string r,.bool b])∧Below w.heap.size w w'
theorem exact_ok (m:Nat) (s:ByteArray) (w:World) (hG:Glo w) (hs:s.data.toList=Lib.decDigits m) (hl:s.size≤300) :
  Calls Tryz.prog 139 #[.string s] w (RetEx (Lib.decDigits (rootN m)) (isSqN m) w):=by
 by_cases h17:s.size≤17
 ·have hm:m < 10 ^ 17:=pow_le_of_lt (by rw [← hs];exact h17)
  have hm':m < 100000000000000000:=hm
  have HN:=Lib.hid (fun W=>native_ok m s W hs h17)
  have HR:=Lib.hid (fun W=>nativeRoot_ok m W hm')
  have hr2:rootN m * rootN m≤m:=(rootN_spec m).1
  have hr3:rootN m≤m:=Nat.le_trans (Nat.le_mul_self _) hr2
  obtain ⟨b,hb⟩:∃ b,isSqN m=b:=⟨_,rfl⟩
  rw [hb]
  have HB:=Lib.hid hb
  have HQ:=Lib.hid (isSqN_iff m)
  have HT:=Lib.hid (itoa_natCast (rootN m))
  obtain ⟨R,hR⟩:∃ R,rootN m=R:=⟨_,rfl⟩
  rw [hR] at HR hr2 hr3 HQ HT
  have HRR:=Lib.hid hR
  have hwm:IntKind.i64.wrap ((R:Int) * (R:Int))=(R:Int) * (R:Int):=IntWalk.i64_in _ (by
   have e:(R:Int) * (R:Int)=((R * R:Nat):Int):=by push_cast;rfl
   rw [e];omega)
  have hbe:(((R:Int) * (R:Int)) == (m:Int))=b:=by
   have e:(R:Int) * (R:Int)=((R * R:Nat):Int):=by push_cast;rfl
   rw [e]
   cases b
   ·have h1:¬ R * R=m:=fun h=>by have:=HQ.out.2 h;rw [HB.out] at this;cases this
    rw [beq_eq_false_iff_ne];omega
   ·have h1:=HQ.out.1 HB.out
    rw [h1];simp
  have HG:=Lib.hid hG
  clear hs hG hm hb hR hr2
  go_enter Tryz.func139,Tryz.ntmps139
  go_wp2_with fail
  refine (HN.out _).mono ?_
  rintro e w1 ⟨rfl,hB1⟩
  go_wp2_with fail
  refine (HR.out _).mono ?_
  rintro e w2 ⟨rfl,hB2⟩
  have hb2:=below_trans' hB1 hB2
  clear hB1 hB2
  go_wp2_with fail
  refine (itoa_any (R:Int) (by omega) (by omega) _ (HG.out.below hb2)).mono ?_
  rintro e w3 ⟨r,hr,rfl,hB3⟩
  have hb3:=below_trans' hb2 hB3
  have HX:=Lib.hid hr
  clear hr hB3
  go_wp2_with fail
  go_ret2
  exact ⟨r,by rw [HRR.out,← HT.out];exact HX.out,rfl,hb3⟩
 ·have HN:=Lib.hid (fun W=>native_long s W (by omega))
  have HR:=Lib.hid (fun W hG=>Root_ok m s W hG hs hl)
  have hF:Fit (m:Int):=by unfold Fit;rw [Int.natAbs_natCast,← hs];exact hl
  have hFR:=fit_root hs hl
  obtain ⟨b,hb⟩:∃ b,isSqN m=b:=⟨_,rfl⟩
  rw [hb]
  have HB:=Lib.hid hb
  have HT:=Lib.hid (itoa_natCast (rootN m))
  have hq:=isSqN_iff m
  have HM:=Lib.hid (fun (r:ByteArray) W (hG:Glo W) (hr:r.data.toList=Lib.itoa ((rootN m:Nat):Int))=>rootMul_ok _ _ r r W hG hr hFR hr hFR (by
   have e:((rootN m:Nat):Int) * ((rootN m:Nat):Int)=((rootN m * rootN m:Nat):Int):=by push_cast;rfl
   rw [e];exact fit_lt (rootN_spec m).1 hF))
  have HE:=Lib.hid (fun (t:ByteArray) (ht:t.data.toList=Lib.itoa (((rootN m:Nat):Int) * ((rootN m:Nat):Int)))=>(by
   have e:((rootN m:Nat):Int) * ((rootN m:Nat):Int)=((rootN m * rootN m:Nat):Int):=by push_cast;rfl
   rw [e,itoa_natCast] at ht
   rw [Lib.toList_data,Lib.toList_data,ht,hs]
   cases b
   ·have h1:¬ rootN m * rootN m=m:=fun h=>by have:=hq.2 h;rw [hb] at this;cases this
    rw [beq_eq_false_iff_ne]
    exact fun h=>h1 (dec_inj h)
   ·rw [hq.1 hb];simp:(t.toList == s.toList)=b))
  have HG:=Lib.hid hG
  clear hs hG hb hF hFR hq
  go_enter Tryz.func139,Tryz.ntmps139
  go_wp2_with fail
  refine (HN.out _).mono ?_
  rintro e w1 ⟨rfl,hB1⟩
  go_wp2_with fail
  refine (HR.out _ (HG.out.below hB1)).mono ?_
  rintro e w2 ⟨r,hr,rfl,hB2⟩
  have hb2:=below_trans' hB1 hB2
  have HX:=Lib.hid hr
  clear hr hB1 hB2
  go_wp2_with fail
  refine (HM.out r _ (HG.out.below hb2) HX.out).mono ?_
  rintro e w3 ⟨t,ht,rfl,hB3⟩
  have hb3:=below_trans' hb2 hB3
  have hE:=HE.out t ht
  clear ht hB3 HM HE
  go_wp2_with fail
  go_ret2
  exact ⟨r,by rw [← HT.out];exact HX.out,rfl,hb3⟩
def RetRo (b:Bool) (q:Rat) (w:World) (e:Ending) (w':World):Prop:=∃ r:ByteArray,e=.returned (.tuple #[.string r,.bool b])∧Hid (b=true→r.data.toList=ratText q)∧Below w.heap.size w w'
theorem rootOf_ok (n d:Nat) (s t:ByteArray) (w:World) (hG:Glo w) (hs:s.data.toList=Lib.decDigits n) (ht:t.data.toList=Lib.decDigits d) (hd0:0 < d) (hn:n < 10 ^ 150) (hd:d < 10 ^ 150) :
  Calls Tryz.prog 92 #[.agg #[.string s,.string t]] w (RetRo (isSqN n && isSqN d) ((((rootN n:Nat):Int):Rat) / (((rootN d:Nat):Int):Rat)) w):=by
 have hsl:s.size≤300:=by
  have h1:s.size=s.data.toList.length:=rfl
  rw [h1,hs,Lib.decDigits_length]
  exact Nat.le_trans (nDigits_le_of_lt hn (by omega)) (by omega)
 have htl:t.size≤300:=by
  have h1:t.size=t.data.toList.length:=rfl
  rw [h1,ht,Lib.decDigits_length]
  exact Nat.le_trans (nDigits_le_of_lt hd (by omega)) (by omega)
 have H1:=Lib.hid (fun W hG=>exact_ok n s W hG hs hsl)
 have H2:=Lib.hid (fun W hG=>exact_ok d t W hG ht htl)
 have hrd:0 < rootN d:=le_rootN (by omega)
 have hrn:rootN n≤n:=Nat.le_trans (Nat.le_mul_self _) (rootN_spec n).1
 have hrdd:rootN d≤d:=Nat.le_trans (Nat.le_mul_self _) (rootN_spec d).1
 have HF:=Lib.hid (fun (a b:ByteArray) W (hG:Glo W) (ha:a.data.toList=Lib.decDigits (rootN n)) (hb:b.data.toList=Lib.decDigits (rootN d))=>fraction_ok (n:=((rootN n:Nat):Int)) (d:=rootN d) a b W hG (by rw [ha,itoa_natCast]) (by rw [Int.natAbs_natCast];exact Nat.lt_of_le_of_lt hrn hn) hb (Nat.lt_of_le_of_lt hrdd hd) hrd)
 have HG:=Lib.hid hG
 obtain ⟨q,hq⟩:∃ q:Rat,(((rootN n:Nat):Int):Rat) / (((rootN d:Nat):Int):Rat)=q:=⟨_,rfl⟩
 obtain ⟨x,hx⟩:∃ x,isSqN n=x:=⟨_,rfl⟩
 obtain ⟨y,hy⟩:∃ y,isSqN d=y:=⟨_,rfl⟩
 rw [hq] at HF
 rw [hq,hx,hy]
 rw [hx] at H1
 rw [hy] at H2
 clear hs ht hG hn hd hrn hrdd hq hrd hd0 hx hy
 go_enter Tryz.func92,Tryz.ntmps92
 go_wp2_with fail
 refine (H1.out _ (HG.out.below qbl)).mono ?_
 rintro e w1 ⟨a,ha,rfl,hB1⟩
 have hb1:Below w.heap.size w w1:=qbl
 have c1:w1.cell? ⟨w.heap.size,1,none⟩=some (.string t):=keep hB1 (by simp [go_sem])
 have HA:=Lib.hid ha
 clear ha hB1
 go_wp2_with fail
 refine (H2.out _ (HG.out.below hb1)).mono ?_
 rintro e w2 ⟨b,hb,rfl,hB2⟩
 have hb2:=below_trans' hb1 hB2
 have HBB:=Lib.hid hb
 clear hb hB2 hb1 c1
 cases x
 ·go_wp2_with fail
  go_ret2
  exact ⟨⟨#[]⟩,rfl,Lib.hid (fun h=>by cases h),hb2⟩
 ·cases y
  ·go_wp2_with fail
   go_ret2
   exact ⟨⟨#[]⟩,rfl,Lib.hid (fun h=>by cases h),hb2⟩
  ·go_wp2_with fail
   refine (HF.out a b _ (HG.out.below hb2) HA.out HBB.out).mono ?_
   rintro e w3 ⟨r,hr,rfl,hB3⟩
   have hb3:=below_trans' hb2 hB3
   have HR:=Lib.hid hr
   clear hr hB3
   go_wp2_with fail
   go_ret2
   exact ⟨r,rfl,Lib.hid (fun _=>HR.out),hb3⟩
end Go.Proofs.YtbbclfbpllbbbaaGreatDoor
namespace Go.Proofs.YtbbclfbpllbbbaaGreatDoor
open Go.RowKit
theorem rootOf1_ok {k:Nat} {q:Rat} (s:ByteArray) (w:World) (hG:Glo w) (hs:s.data.toList=ratText q) (hq:Sz k q) (hk:k≤300) :
  Calls Tryz.prog 93 #[.string s] w (RetPr q w):=by
 have H:=Lib.hid (PartsQ_ok s (w.alloc (.cells #[.string ⟨#[]⟩,.string ⟨#[]⟩] 167)) (hG.below (bw4 (bw0 _ _) _)) hs hq hk)
 clear hs hG
 go_enter Tryz.func93,Tryz.ntmps93
 go_wp2_with fail
 refine H.out.mono ?_
 rintro e w1 ⟨a,b,ha,hb,rfl,hB⟩
 have hb1:Below w.heap.size w w1:=qbl
 have c0:w1.cell? ⟨w.heap.size,0,none⟩=some (.string ⟨#[]⟩):=keep hB (by simp [go_sem])
 have c1:w1.cell? ⟨w.heap.size,1,none⟩=some (.string ⟨#[]⟩):=keep hB (by simp [go_sem])
 have g0:w1.frozen? ⟨w.heap.size,0,none⟩=false:=keepf hB (v:=.string ⟨#[]⟩) (by simp [go_sem]) (by simp [go_sem])
 have g1:w1.frozen? ⟨w.heap.size,1,none⟩=false:=keepf hB (v:=.string ⟨#[]⟩) (by simp [go_sem]) (by simp [go_sem])
 have z0:=lt_of_cell c0
 have HA:=Lib.hid ha
 have HBB:=Lib.hid hb
 clear hB ha hb
 go_wp2_with fail
 refine bodyPost_ret (v:=.agg #[.string a,.string b]) (by simp [results,Tryz.results93,go_sem, *]) rfl ?_
 exact ⟨a,b,HA.out,HBB.out,rfl,(hb1.setCell (Nat.le_refl _) _).setCell (Nat.le_refl _) _⟩
theorem IsStrs.cells {w:World} {a:Option Addr} {cap n:Nat} {l:List Rat} (h:IsStrs w (.slice a n cap) (l.map numS)):n=l.length∧(l≠[]→∃ b off,a=some ⟨b,off,none⟩∧∀ k (h:k < l.length),w.cell? ⟨b,off+k,none⟩=some (.string (numS l[k]))):=by
 obtain ⟨a',cap',e,h2⟩:=h
 cases e
 refine ⟨by simp,fun hne=>?_⟩
 obtain ⟨b,off,e,hc⟩:=h2 (by simpa using hne)
 exact ⟨b,off,e,fun k hk=>by have:=hc k (by simpa using hk);simpa using this⟩
theorem max2_any {P:Program} (k:IntKind) (x y:Int):∃ m,x≤m∧y≤m∧(m=x∨m=y)∧∀ (ts:Array TypeId) (t:TypeId) (w:World),(Builtin.max_ ts t #[.int k x,.int k y]).run P w=.ok (.int k m) w:=by
 refine ⟨if y > x then y else x,?_,?_,?_,fun ts t w=>by simp [Builtin.max_,Builtin.max2]⟩<;>split<;>omega
def PairAt (w:World) (b:Nat) (x y:ByteArray):Prop:=w.cell? ⟨b,0,none⟩=some (.string x)∧w.cell? ⟨b,1,none⟩=some (.string y)
theorem trimMinus {n:Int} {l:List UInt8} (h:l=Lib.itoa n):Lib.trimPrefix l [45]=Lib.decDigits n.natAbs:=by rw [h];exact (trim_itoa n).1
theorem rootCheck_ok (L R:List Rat) (u v:Value) (w:World) (hG:Glo w) (hu:IsStrs w u (L.map numS)) (hv:IsStrs w v (R.map numS)) (hL:∀ k (h:k < L.length),Sz 90 L[k]) (hR:∀ k (h:k < R.length),0≤R[k].num) (h1:L.length≤4) (h2:R.length≤4) :
  Calls Tryz.prog 90 #[u,v] w (RetB (.int .i64 0) w):=by
 obtain ⟨a,n,cap,rfl⟩:∃ a n cap,u=.slice a n cap:=by obtain ⟨a,cap,h,_⟩:=hu;exact ⟨_,_,_,h⟩
 obtain ⟨a',n',cap',rfl⟩:∃ a n cap,v=.slice a n cap:=by obtain ⟨a,cap,h,_⟩:=hv;exact ⟨_,_,_,h⟩
 have hu':=hu.cells
 have hv':=hv.cells
 obtain ⟨rfl,hcu⟩:=hu'
 obtain ⟨rfl,hcv⟩:=hv'
 have HU:=Lib.hid hcu
 have HV:=Lib.hid hcv
 have HL:=Lib.hid hL
 have HR:=Lib.hid hR
 have HG:=Lib.hid hG
 clear hu hv hcu hcv hL hR hG
 go_enter Tryz.func90,Tryz.ntmps90
 go_wp2_with fail
 go_loopw [13] (fun i wr=>∃ k:Nat,k≤L.length∧i=.int .i64 k∧Below w.heap.size w wr) (fun i _=>L.length - (intOf i).toNat)
 case atStart=>exact ⟨0,by omega,rfl,bw0 _ _⟩
 case round =>
  obtain ⟨k,hk,rfl,hB⟩:=hrel
  by_cases hlt:k < L.length
  ·obtain ⟨b,off,rfl,hcell⟩:=HU.out (fun h0=>by rw [h0] at hlt;simp at hlt)
   have ck:=keep hB (hcell k hlt)
   have hltI:(k:Int) < (L.length:Int):=by omega
   have hsz:=HL.out k hlt
   have HCK:=Lib.hid (fun W hG=>RCheck_ok (numS L[k]) W hG (numS_list _) hsz (by decide))
   have HOF:=Lib.hid (fun W hG=>rootOf1_ok (numS L[k]) W hG (numS_list _) hsz (by decide))
   have hd1:(Lib.decDigits L[k].num.natAbs).length≤90:=by rw [Lib.decDigits_length];exact nDigits_le_of_lt hsz.1 (by decide)
   have hd2:(Lib.decDigits L[k].den).length≤90:=by rw [Lib.decDigits_length];exact nDigits_le_of_lt hsz.2 (by decide)
   generalize L[k]=q at *
   generalize numS q=sq at *
   clear hcell hsz
   go_wp2_with fail
   refine (HCK.out _ (HG.out.below hB)).mono ?_
   rintro e w2 ⟨rfl,hB2⟩
   have hb2:=below_trans' hB hB2
   clear hB2
   go_wp2_with fail
   refine (HOF.out _ (HG.out.below hb2)).mono ?_
   rintro e w3 ⟨x,y,hx,hy,rfl,hB3⟩
   have hb3:=below_trans' hb2 hB3
   clear hB3 hb2 hB ck
   have hR:PairAt (w3.alloc (.cells #[.string x,.string y] 167)).drew w3.heap.size x y∧Below w.heap.size w (w3.alloc (.cells #[.string x,.string y] 167)).drew:=⟨⟨by simp [go_sem],by simp [go_sem]⟩,qbl⟩
   have HTR:=Lib.hid (fun W=>trimPrefix_any x ⟨#[45]⟩ W (trimMinus hx))
   obtain ⟨dx,hdx⟩:∃ d,(Lib.decDigits q.num.natAbs).length=d:=⟨_,rfl⟩
   have HZL:=Lib.hid (fun (z:ByteArray) (hz:Hid (z.data.toList=Lib.decDigits q.num.natAbs))=>(by
    have h1:z.size=z.data.toList.length:=rfl
    rw [h1,hz.out,hdx]:z.size=dx))
   have hyl:y.size≤90:=by
    have h1:y.size=y.data.toList.length:=rfl
    rw [h1,hy];exact hd2
   obtain ⟨M,m1,m2,m3,hM⟩:=@max2_any Tryz.prog .i64 (dx:Int) (y.size:Int)
   have HMX:=Lib.hid hM
   have hM90:M≤90:=by omega
   have hMb:¬ (90:Int) < M:=by omega
   clear hd1 hd2 hdx hx hy m1 m2 m3 hM hb3
   go_wp2_with fail
   refine region_S (F:=[]) (R:=(fun w'=>PairAt w' w3.heap.size x y∧Below w.heap.size w w')) 9 #[false,false,false,false,false,false,false,false,false] (by kernel_rfl) (by kernel_rfl) (by kernel_rfl) (fun _ _ _ _ _ h=>h) (fun Q' hQ' hN=>?_)
   generalize (w3.alloc (.cells #[.string x,.string y] 167)).drew=wd at *
   refine tS 24 0 (fw:=5) (hy:=by intro wq hRq;obtain ⟨⟨c0,c1⟩,_⟩:=hRq;have hmx:=HMX.out;go_simp;(try with_reducible rfl)) ?_
   refine tS 25 1 (fw:=5) (hy:=by intro wq hRq;obtain ⟨⟨c0,c1⟩,_⟩:=hRq;have hmx:=HMX.out;go_simp;(try with_reducible rfl)) ?_
   refine tS 28 4 (fw:=5) (hy:=by intro wq hRq;obtain ⟨⟨c0,c1⟩,_⟩:=hRq;have hmx:=HMX.out;go_simp;(try with_reducible rfl)) ?_
   refine tS 29 5 (fw:=5) (hy:=by intro wq hRq;obtain ⟨⟨c0,c1⟩,_⟩:=hRq;have hmx:=HMX.out;go_simp;(try with_reducible rfl)) ?_
   refine tS 30 6 (fw:=5) (hy:=by intro wq hRq;obtain ⟨⟨c0,c1⟩,_⟩:=hRq;have hmx:=HMX.out;go_simp;(try with_reducible rfl)) ?_
   refine wpAnyS_ready (rs:=[2]) (by kernel_rfl) (by simp) ?_
   refine stepR (i:=2) rfl (by kernel_rfl) (fun K hK=>?_) (AllReadyS.nil)
   go_simp
   refine (HTR.out _).mono ?_
   rintro e wn ⟨z,hz,rfl,rfl⟩
   have hzl:=HZL.out z hz
   have hzi:(z.size:Int)=(dx:Int):=by omega
   refine hK.out _ _ hR ?_
   clear hK K
   (try simp only [Act.put,bw7,bw8,bw9])
   refine tS 27 3 (fw:=5) (hy:=by intro wq hRq;obtain ⟨⟨c0,c1⟩,_⟩:=hRq;have hmx:=HMX.out;go_simp;(try with_reducible rfl)) ?_
   refine tS 31 7 (fw:=5) (hy:=by intro wq hRq;obtain ⟨⟨c0,c1⟩,_⟩:=hRq;have hmx:=HMX.out;go_simp;(try with_reducible rfl)) ?_
   refine tS 32 8 (fw:=5) (hy:=by intro wq hRq;obtain ⟨⟨c0,c1⟩,_⟩:=hRq;have hmx:=HMX.out;go_simp;(try with_reducible rfl)) ?_
   refine wpAnyS_done (by kernel_rfl) ?_ _
   refine hN.out _ _ ?_
   have hb4:=hR.2
   clear hR HTR HZL HMX hyl
   go_wp2_with fail
   go_roundw
   case rel=>exact ⟨k+1,by omega,by go_num,hb4⟩
   case measure=>simp [intOf];omega
  ·have e:k=L.length:=by omega
   subst e
   have hltI:¬ (L.length:Int) < (L.length:Int):=by omega
   go_wp2_with fail
   go_loopw [36] (fun i wr2=>∃ k:Nat,k≤R.length∧i=.int .i64 k∧Below w.heap.size w wr2) (fun i _=>R.length - (intOf i).toNat)
   case atStart=>exact ⟨0,by omega,rfl,hB⟩
   case round =>
    clear hB hltI
    obtain ⟨k,hk,rfl,hB⟩:=hrel
    by_cases hlt:k < R.length
    ·obtain ⟨b,off,rfl,hcell⟩:=HV.out (fun h0=>by rw [h0] at hlt;simp at hlt)
     have ck:=keep hB (hcell k hlt)
     have hltI:(k:Int) < (R.length:Int):=by omega
     have HNG:=Lib.hid (fun W=>rootNeg_ok (numS R[k]) W (numS_list _))
     have hnn:=HR.out k hlt
     rw [decide_eq_false (show ¬ R[k].num < 0 by omega)] at HNG
     generalize numS R[k]=sq at *
     clear hcell hnn
     go_wp2_with fail
     refine (HNG.out _).mono ?_
     rintro e w2 ⟨rfl,hw2⟩
     subst hw2
     go_wp2_with fail
     go_roundw
     case rel=>exact ⟨k+1,by omega,by go_num,hB⟩
     case measure=>simp [intOf];omega
    ·have e:k=R.length:=by omega
     subst e
     have hltI:¬ (R.length:Int) < (R.length:Int):=by omega
     go_wp2_with fail
     go_ret
     exact ⟨rfl,hB⟩
end Go.Proofs.YtbbclfbpllbbbaaGreatDoor
namespace Go.Proofs.YtbbclfbpllbbbaaGreatDoor
open Go.RowKit
theorem natdiv_parts (m k:Nat) (hk:0 < k):(((m:Int):Rat) / ((k:Int):Rat)).num=((m / Nat.gcd m k:Nat):Int)∧(((m:Int):Rat) / ((k:Int):Rat)).den=k / Nat.gcd m k:=by
 have h:(((m:Int):Rat) / ((k:Int):Rat))=Rat.divInt (m:Int) (k:Int):=by rw [Rat.divInt_eq_div]
 rw [h,Rat.divInt_ofNat,Rat.num_mkRat,Rat.den_mkRat,if_neg (by omega),if_neg (by omega),Int.natAbs_natCast,Nat.gcd_comm k m]
 exact ⟨(Int.natCast_ediv _ _).symm,rfl⟩
theorem text_natR (m:Nat):ratText ((m:Int):Rat)=Lib.decDigits m:=by rw [ratText_int,itoa_natCast]
theorem sz_natR {m k:Nat} (h:m < 10 ^ k) (hk:1≤k):Sz k ((m:Int):Rat):=sz_int (by simpa using h) hk
theorem isStrs_lit1 (w:World) (q:Rat) (t:TypeId):IsStrs (w.alloc (.cells #[.string (numS q)] t)) (.slice (some ⟨w.heap.size,0,none⟩) 1 1) ([q].map numS):=by
 refine ⟨some ⟨w.heap.size,0,none⟩,1,rfl,fun _=>⟨w.heap.size,0,rfl,fun k hk=>?_⟩⟩
 obtain rfl:k=0:=by simp at hk;omega
 simp [go_sem]
theorem isStrs_lit2 (w:World) (p q:Rat) (t:TypeId):IsStrs (w.alloc (.cells #[.string (numS p),.string (numS q)] t)) (.slice (some ⟨w.heap.size,0,none⟩) 2 2) ([p,q].map numS):=by
 refine ⟨some ⟨w.heap.size,0,none⟩,2,rfl,fun _=>⟨w.heap.size,0,rfl,fun k hk=>?_⟩⟩
 have:k=0∨k=1:=by simp at hk;omega
 rcases this with rfl|rfl<;>simp [go_sem]
def RetRat (b:Bool) (q:Rat) (w:World) (e:Ending) (w':World):Prop:=∃ r:ByteArray,e=.returned (.tuple #[.string r,.bool b,.int .i64 0])∧Hid (b=true→r.data.toList=ratText q)∧Below w.heap.size w w'
def ratioQ (m k:Nat):Rat:=(((rootN (m / Nat.gcd m k):Nat):Int):Rat) / (((rootN (k / Nat.gcd m k):Nat):Int):Rat)
theorem rootRatio_ok (m k:Nat) (a b:ByteArray) (w:World) (hm:m < 10 ^ 90) (hk:k < 10 ^ 90) (hk0:0 < k) (B:Bool) (Q:Rat) (hB:ratioB m k=B) (hQ:ratioQ m k=Q) (hG:Glo w)
  (ha:a.data.toList=Lib.itoa (((m:Int):Rat) / ((k:Int):Rat)).num) (hb:b.data.toList=Lib.decDigits (((m:Int):Rat) / ((k:Int):Rat)).den) :
  Calls Tryz.prog 92 #[.agg #[.string a,.string b]] w (RetRo B Q w):=by
 obtain ⟨p1,p2⟩:=natdiv_parts m k hk0
 have hg0:0 < Nat.gcd m k:=Nat.gcd_pos_of_pos_right _ hk0
 have hb1:m / Nat.gcd m k < 10 ^ 150:=Nat.lt_of_le_of_lt (Nat.div_le_self _ _) (Nat.lt_of_lt_of_le hm (Nat.pow_le_pow_right (by decide) (by decide)))
 have hb2:k / Nat.gcd m k < 10 ^ 150:=Nat.lt_of_le_of_lt (Nat.div_le_self _ _) (Nat.lt_of_lt_of_le hk (Nat.pow_le_pow_right (by decide) (by decide)))
 have hd0:0 < k / Nat.gcd m k:=Nat.div_pos (Nat.le_of_dvd hk0 (Nat.gcd_dvd_right _ _)) hg0
 subst hB hQ
 exact rootOf_ok (m / Nat.gcd m k) (k / Nat.gcd m k) a b w hG (by rw [ha,p1,itoa_natCast]) (by rw [hb,p2]) hd0 hb1 hb2
theorem Ratio_ok (m k:Nat) (s t:ByteArray) (w:World) (hG:Glo w) (hs:s.data.toList=Lib.decDigits m) (ht:t.data.toList=Lib.decDigits k) (hm:m < 10 ^ 90) (hk:k < 10 ^ 90) (hk0:0 < k) :
  Calls Tryz.prog 39 #[.string s,.string t] w (RetRat (ratioB m k) (ratioQ m k) w):=by
 have z1:Sz 90 ((m:Int):Rat):=sz_natR hm (by decide)
 have z2:Sz 90 ((k:Int):Rat):=sz_natR hk (by decide)
 have hs':s.data.toList=ratText ((m:Int):Rat):=by rw [text_natR];exact hs
 have ht':t.data.toList=ratText ((k:Int):Rat):=by rw [text_natR];exact ht
 have es:s=numS ((m:Int):Rat):=numS_of hs'
 have et:t=numS ((k:Int):Rat):=numS_of ht'
 have HCK:=Lib.hid (fun (W:World) (u v:Value) (hG:Glo W) hu hv=>rootCheck_ok [((m:Int):Rat),((k:Int):Rat)] [((m:Int):Rat),((k:Int):Rat)] u v W hG hu hv (fun j h=>by
   have:j=0∨j=1:=by simp at h;omega
   rcases this with rfl|rfl
   ·exact z1
   ·exact z2) (fun j h=>by
   have:j=0∨j=1:=by simp at h;omega
   rcases this with rfl|rfl
   ·show 0≤(m:Int);omega
   ·show 0≤(k:Int);omega) (by simp) (by simp))
 have hnz:(t.toList == [48])=false:=by
  rw [Lib.toList_data,ht]
  have:=dec_ne_zero hk0
  simpa using this
 have HDV:=Lib.hid (fun W hG=>RDiv_ok s t W hG hs' z1 ht' z2 (by decide) (by show 0 < (k:Int);omega))
 have HOF:=Lib.hid (fun (r:ByteArray) W hG hr=>rootOf1_ok (k:=180) (q:=((m:Int):Rat) / ((k:Int):Rat)) r W hG hr (Sz.div z1 z2 (by show 0 < (k:Int);omega)) (by decide))
 obtain ⟨B,hB⟩:∃ B,ratioB m k=B:=⟨_,rfl⟩
 obtain ⟨Q,hQ⟩:∃ Q,ratioQ m k=Q:=⟨_,rfl⟩
 rw [hB,hQ]
 have HRO:=Lib.hid (fun (a b:ByteArray) (W:World) hG ha hb=>rootRatio_ok m k a b W hm hk hk0 B Q hB hQ hG ha hb)
 have HG:=Lib.hid hG
 have I2:=Lib.hid (fun (W:World) (ty:TypeId)=>isStrs_lit2 W ((m:Int):Rat) ((k:Int):Rat) ty)
 rw [← es,← et] at I2
 clear hs ht hs' ht' hG hm hk z1 z2 hB hQ es et
 go_enter Tryz.func39,Tryz.ntmps39
 go_wp2_with fail
 have J1:IsStrs ((w.alloc (.cells #[.string s,.string t] 34)).alloc (.cells #[.string s,.string t] 34)) (.slice (some ⟨w.heap.size,0,none⟩) 2 2) ([((m:Int):Rat),((k:Int):Rat)].map numS):=(I2.out w _).below (bw4 (bw0 _ _) _)
 have J2:IsStrs ((w.alloc (.cells #[.string s,.string t] 34)).alloc (.cells #[.string s,.string t] 34)) (.slice (some ⟨w.heap.size+1,0,none⟩) 2 2) ([((m:Int):Rat),((k:Int):Rat)].map numS):=by
  have h:=I2.out (w.alloc (.cells #[.string s,.string t] 34)) 34
  rw [World.size_alloc] at h;exact h
 refine (HCK.out _ _ _ (HG.out.below qbl) J1 J2).mono ?_
 rintro e w1 ⟨rfl,hB1⟩
 have hb1:Below w.heap.size w w1:=qbl
 clear hB1 HCK I2 J1 J2
 go_wp2_with fail
 refine (HDV.out _ (HG.out.below hb1)).mono ?_
 rintro e w2 ⟨r,hr,rfl,hB2⟩
 have hb2:=below_trans' hb1 hB2
 have HR:=Lib.hid hr
 clear hr hB2 hb1 HDV
 go_wp2_with fail
 refine (HOF.out r _ (HG.out.below hb2) HR.out).mono ?_
 rintro e w3 ⟨a,b,ha,hb,rfl,hB3⟩
 have hb3:=below_trans' hb2 hB3
 have HP:=Lib.hid (HRO.out a b w3 (HG.out.below hb3) ha hb)
 clear ha hb hB3 hb2 HOF HRO
 go_wp2_with fail
 refine HP.out.mono ?_
 rintro e w4 ⟨rr,rfl,hrr,hB4⟩
 have hb4:=below_trans' hb3 hB4
 clear hB4 HP hb3
 go_wp2_with fail
 go_ret3
 exact ⟨rr,rfl,hrr,hb4⟩
end Go.Proofs.YtbbclfbpllbbbaaGreatDoor
namespace Go.Proofs.YtbbclfbpllbbbaaGreatDoor
open Go.RowKit
theorem wpList_pri {ops:Array Oper} {rest:List Oper} {o:Oper} {a:Act} {Q:Exit→Act→World→Prop} {w:World} (hg:o.guard=none) (p:Operand) (ho:o.op=.load 264 p) (hP:Pri w)
  (hp:a.eval p=.pointer (some ⟨1,0,none⟩)) (h:wpList Tryz.prog ops Q rest (a.put o.dst primesV) w):wpList Tryz.prog ops Q (o::rest) a w :=
 wpList_plain hg fun _ hK=>by
  unfold Oper.wp execOp
  simp only [ho,hp,Instr.loadAt,Instr.sureAddr,Sem.run_bind,Sem.run_pure,Result.andThen_ok,pri_load hP]
  exact hK _ _ h
theorem wpListIn_pri {F:Fence} {n:Nat} {ops:Array Oper} {rest:List Oper} {o:Oper} {a:Act} {Q:Exit→Act→World→Prop} {w:World} (hg:o.guard=none) (p:Operand) (ho:o.op=.load 264 p) (hP:Pri w)
  (hp:a.eval p=.pointer (some ⟨1,0,none⟩)) (h:wpListIn F n Tryz.prog ops Q rest (a.put o.dst primesV) w):wpListIn F n Tryz.prog ops Q (o::rest) a w:=by
 refine wpListIn_plain hg fun K hK=>?_
 unfold Oper.wpIn
 refine ⟨by simp [Oper.about,ho],?_⟩
 rw [Oper.semAt_plain F _ _ (by rw [ho];intro c hc';cases hc')]
 unfold execOp
 simp only [ho,hp,Instr.loadAt,Instr.sureAddr,Sem.run_bind,Sem.run_pure,Result.andThen_ok,pri_load hP]
 exact hK _ _ h
theorem pri_index (i:Nat) (h:i < 25) (W:World):(Instr.index 264 primesV (.int .i64 (i:Int))).run Tryz.prog W=.ok (.string (prS i)) W:=by
 have hu:=Tryz.underlying264
 have h1:(0:Int)≤(i:Int)∧(i:Int) < 25:=by omega
 have hs:=Tryz.sizeOf9
 have ha:=Tryz.isAgg9
 have hg:=primesL_get h
 unfold Instr.index primesV
 simp [go_sem,hu,hs,ha,h1,hg,h,asIntOf,part]
theorem rem_nat (n x:Nat):((n:Int)).tmod (x:Int)=((n % x:Nat):Int):=by rw [Int.tmod_eq_emod_of_nonneg (by omega)];simp
theorem primes_drop {k:Nat} (h:k < 25):primes25.drop k=primes25.getD k 0::primes25.drop (k+1):=by
 have h':k < primes25.length:=h
 rw [List.drop_eq_getElem_cons h',List.getD_eq_getElem?_getD,List.getElem?_eq_getElem h',Option.getD_some]
theorem Of_ok (n d:Nat) (w:World) (hG:Glo w) (hn:n≤1000000000000000000) (hd:d≤1000000000000000000) (hd0:0 < d) :
  Calls Tryz.prog 23 #[.int .i64 (n:Int),.int .i64 (d:Int)] w (RetN (Rat.divInt n d) w):=by
 have HI:=Lib.hid (fun (x:Nat) (hx:x≤1000000000000000000) W hG=>itoa_any (x:Int) (by omega) (by omega) W hG)
 have HG:=Lib.hid hG
 have d0:¬ ((d:Int)=0):=by omega
 by_cases h1:d=1
 ·subst h1
  have e:Lib.itoa (n:Int)=ratText (Rat.divInt n (1:Nat)):=by
   rw [show Rat.divInt (n:Int) ((1:Nat):Int)=((n:Int):Rat) from by rw [Rat.divInt_ofNat,Rat.mkRat_one],ratText_int]
  have HE:=Lib.hid e
  clear e hG
  go_enter Tryz.func23,Tryz.ntmps23
  go_wp2_with fail
  refine (HI.out n hn _ (HG.out.below qbl)).mono ?_
  rintro e w1 ⟨r,hr,rfl,hB1⟩
  have HR:=Lib.hid hr
  clear hr
  go_wp2_with fail
  go_ret2
  exact ⟨r,by rw [HR.out,HE.out],rfl,hB1⟩
 ·have d1:¬ ((d:Int)=1):=by omega
  have HN:=Lib.hid (fun (s t:ByteArray) W hG hs ht=>Qnumber_ok (n:Int) (d:Int) s t W hG hs (fit_nat (Nat.lt_of_le_of_lt hn (Nat.lt_of_lt_of_le (by decide:1000000000000000000 < 10 ^ 19) (pow10_le (a:=19) (b:=300) (by decide))))) ht (fit_nat (Nat.lt_of_le_of_lt hd (Nat.lt_of_lt_of_le (by decide:1000000000000000000 < 10 ^ 19) (pow10_le (a:=19) (b:=300) (by decide))))) (by omega))
  clear hG h1 hd0
  go_enter Tryz.func23,Tryz.ntmps23
  go_wp2_with fail
  refine (HI.out n hn _ (HG.out.below qbl)).mono ?_
  rintro e w1 ⟨r,hr,rfl,hB1⟩
  have HR:=Lib.hid hr
  clear hr
  go_wp2_with fail
  refine (HI.out d hd _ (HG.out.below hB1)).mono ?_
  rintro e w2 ⟨s,hs,rfl,hB2⟩
  have hb2:=below_trans' hB1 hB2
  have HS:=Lib.hid hs
  clear hs hB2 hB1
  go_wp2_with fail
  refine (HN.out r s _ (HG.out.below hb2) HR.out HS.out).mono ?_
  rintro e w3 ⟨t,ht,rfl,hB3⟩
  have hb3:=below_trans' hb2 hB3
  have HT:=Lib.hid ht
  clear ht hB3
  go_wp2_with fail
  go_ret2
  exact ⟨t,HT.out,rfl,hb3⟩
theorem sq_lt_bd {c l m:Nat} (h:c * c * l=m) (hl:0 < l) (hm:m < 100000000000000000):c≤1000000000:=by
 refine Nat.le_of_not_lt fun hc=>?_
 have h1:1000000001 * 1000000001≤c * c:=Nat.mul_le_mul hc hc
 have h2:c * c * 1≤c * c * l:=Nat.mul_le_mul (Nat.le_refl _) hl
 omega
def RetNm (q:Rat) (l:List UInt8) (w:World) (e:Ending) (w':World):Prop:=∃ r s:ByteArray,r.data.toList=ratText q∧s.data.toList=l∧e=.returned (.tuple #[.string r,.string s])∧Below w.heap.size w w'
theorem norm_round {p c l m:Nat} (hp:2≤p) (hl:0 < l) (hc:0 < c) (hm:c * c * l=m) (h:l % (p * p)=0):stripped p c l=stripped p (c * p) (l / (p * p))∧(c * p) * (c * p) * (l / (p * p))=m∧0 < l / (p * p)∧l / (p * p) < l∧0 < c * p:=by
 refine ⟨stripped_go hp hl h,?_,div_pos_sq hp hl h,div_lt_sq hp hl,Nat.mul_pos hc (by omega)⟩
 have:=Nat.div_add_mod l (p * p)
 rw [h,Nat.add_zero] at this
 rw [← hm]
 generalize l / (p * p)=q at *
 rw [← this]
 simp [Nat.mul_assoc,Nat.mul_comm,Nat.mul_left_comm]
theorem nativeNormal_ok (n d:Nat) (w:World) (hG:Glo w) (hP:Pri w) (hn0:0 < n) (hd0:0 < d) (hnd:n * d < 100000000000000000) (hd:d≤1000000000000000000) :
  Calls Tryz.prog 136 #[.int .i64 (n:Int),.int .i64 (d:Int)] w (RetNm (Rat.divInt ((normalN (n * d)).1:Nat) d) (Lib.decDigits (normalN (n * d)).2) w):=by
 have hm0:0 < n * d:=Nat.mul_pos hn0 hd0
 have hw1:IntKind.i64.wrap ((n:Int) * (d:Int))=((n * d:Nat):Int):=by rw [← Int.natCast_mul];exact IntWalk.i64_in _ (by omega)
 obtain ⟨R,hR⟩:∃ R,norms primes25 1 (n * d)=R:=⟨_,rfl⟩
 have HN:Hid (norms (primes25.drop 0) 1 (n * d)=R):=Lib.hid hR
 have HV:Hid (normalN (n * d)=squared R):=Lib.hid (by rw [← hR];rfl)
 obtain ⟨V,hV⟩:∃ V,normalN (n * d)=V:=⟨_,rfl⟩
 rw [hV] at HV ⊢
 obtain ⟨m,hm⟩:∃ m,n * d=m:=⟨_,rfl⟩
 rw [hm] at hnd hm0 hw1 HN
 have HG:=Lib.hid hG
 have HP:=Lib.hid hP
 have HRT:=Lib.hid (fun (x:Nat) W (hx:x < 100000000000000000)=>nativeRoot_ok x W hx)
 have HI:=Lib.hid (fun (x:Nat) (hx:x≤1000000000000000000) W hG=>itoa_any (x:Int) (by omega) (by omega) W hG)
 clear hG hP hR hV hm
 go_enter Tryz.func136,Tryz.ntmps136
 go_wp2_with (refine wpList_pri rfl _ rfl HP.out rfl ?_)
 go_loopw [6,7,19] (fun c l i wr=>∃ k a b:Nat,k≤25∧i=.int .i64 k∧c=.int .i64 a∧l=.int .i64 b∧0 < a∧0 < b∧b < 100000000000000000∧Hid (a * a * b=m)∧Hid (norms (primes25.drop k) a b=R)∧Below w.heap.size w wr) (fun _ _ i _=>25 - (intOf i).toNat)
 case atStart=>exact ⟨0,1,m,by omega,rfl,rfl,rfl,by omega,hm0,hnd,Lib.hid (by simp),HN,bw0 _ _⟩
 case round =>
  obtain ⟨k,a,b,hk,rfl,rfl,rfl,ha,hb,hbm,hab,hno,hB⟩:=hrel
  clear hw1 HN
  by_cases hlt:k < 25
  ·have hltI:(k:Int) < 25:=by omega
   have hix:=fun W=>pri_index k hlt W
   obtain ⟨p2,p97⟩:=primes_two hlt
   have HAT:=Lib.hid (fun W=>atoi_any (prS k) W (by
    have h1:(prS k).size=(prS k).data.toList.length:=rfl
    rw [h1,prS_list,Lib.decDigits_length]
    have:=nDigits_le_of_lt (show primes25.getD k 0 < 10 ^ 2 by omega) (by decide)
    omega) (v:=(primes25.getD k 0:Nat)) (by rw [prS_list,← itoa_natCast];exact atoi_itoa (by omega) (by omega)))
   have HNO:Hid (norms (primes25.drop (k+1)) (stripped (primes25.getD k 0) a b).1 (stripped (primes25.getD k 0) a b).2=R):=Lib.hid (by have:=hno.out;rw [primes_drop hlt] at this;exact this)
   generalize primes25.getD k 0=p at *
   generalize prS k=ps at *
   obtain ⟨q,hq⟩:∃ q,p * p=q:=⟨_,rfl⟩
   have hq1:q≤97 * 97:=by rw [← hq];exact Nat.mul_le_mul p97 p97
   have hq0:4≤q:=by rw [← hq];exact Nat.mul_le_mul p2 p2
   have hpp:IntKind.i64.wrap ((p:Int) * (p:Int))=(q:Int):=by rw [← Int.natCast_mul,hq];exact IntWalk.i64_in _ (by omega)
   have hqz:¬ ((q:Int)=0):=by omega
   have HQ:=Lib.hid hq
   obtain ⟨S,hS⟩:∃ S,stripped p a b=S:=⟨_,rfl⟩
   rw [hS] at HNO
   have HS:Hid (stripped p a b=S):=Lib.hid hS
   clear hno hS hq
   go_wp2_with fail
   refine (HAT.out _).mono ?_
   rintro e w1 ⟨rfl,hB1⟩
   have hb1:=below_trans' hB hB1
   clear hB1 HAT hB hix
   go_wp2_with fail
   go_loopw [6,7] (fun c l wr=>∃ x y:Nat,c=.int .i64 x∧l=.int .i64 y∧0 < x∧0 < y∧y < 100000000000000000∧Hid (x * x * y=m)∧Hid (stripped p x y=S)∧Below w.heap.size w wr) (fun _ l _=>(intOf l).toNat)
   case atStart=>exact ⟨a,b,rfl,rfl,ha,hb,hbm,hab,HS,hb1⟩
   case round =>
    clear hb1 hab HS hb hbm ha
    obtain ⟨x,y,rfl,rfl,hx,hy,hym,hxy,hst,hB⟩:=hrel
    have hrem:=rem_nat y q
    have hquo:=quo_nat y q
    by_cases hz:y % q=0
    ·have ⟨r1,r2,r3,r4,r5⟩:=norm_round p2 hy hx hxy.out (by rw [HQ.out];exact hz)
     rw [HQ.out] at r1 r2 r3 r4
     rw [hz] at hrem
     have hx1:x * p≤1000000000:=sq_lt_bd r2 r3 (by have:=hxy.out;have h3:=Nat.mul_le_mul (Nat.mul_le_mul hx hx) (Nat.le_refl y);omega)
     have hxp:IntKind.i64.wrap ((x:Int) * (p:Int))=((x * p:Nat):Int):=by rw [← Int.natCast_mul];exact IntWalk.i64_in _ (by omega)
     have H1:=Lib.hid r1
     have H2:=Lib.hid r2
     generalize y / q=Y at *
     generalize x * p=X at *
     have hwY:IntKind.i64.wrap (Y:Int)=(Y:Int):=IntWalk.i64_in _ (by omega)
     have hw0:IntKind.i64.wrap (0:Int)=0:=by decide
     clear r1 r2 hz hxy
     go_wp2_with fail
     go_quiet (fail)
     go_wp2_with fail
     go_roundw
     case rel=>exact ⟨X,Y,rfl,rfl,r5,r3,by omega,H2,Lib.hid (by rw [← H1.out];exact hst.out),bw2 hB _⟩
     case measure=>simp [intOf];omega
    ·have HE:=Lib.hid (stripped_end (c:=x) hy (show ¬ y % (p * p)=0 by rw [HQ.out];exact hz))
     generalize y % q=z at *
     have hzI:¬ ((z:Int)=0):=by omega
     have hk1:IntKind.i64.wrap ((k:Int)+1)=((k+1:Nat):Int):=IntWalk.i64_in _ (by omega)
     clear hz
     go_wp2_with fail
     go_roundw
     case rel=>exact ⟨k+1,x,y,by omega,rfl,rfl,rfl,hx,hy,hym,hxy,Lib.hid (by
      have h1:=HNO.out
      rw [← hst.out,HE.out] at h1
      exact h1),hB⟩
     case measure=>simp [intOf];omega
  ·have hk25:k=25:=by omega
   subst hk25
   have hRe:(a,b)=R:=hno.out
   subst hRe
   have ha9:=sq_lt_bd hab.out hb hnd
   have hrb:rootN b * rootN b≤b:=(rootN_spec b).1
   have HV2:=HV.out
   unfold squared at HV2
   dsimp only at HV2
   have hab':=hab.out
   have HRB:=Lib.hid (HRT.out b)
   generalize rootN b=r at *
   have hr9:r≤1000000000:=by
    refine Nat.le_of_not_lt fun hc=>?_
    have:=Nat.mul_le_mul hc hc
    omega
   have hrr:IntKind.i64.wrap ((r:Int) * (r:Int))=((r * r:Nat):Int):=by rw [← Int.natCast_mul];exact IntWalk.i64_in _ (by omega)
   clear hno
   by_cases hsq:r * r=b
   ·rw [if_pos hsq] at HV2
    rw [hsq] at hrr
    have hac:a * r≤1000000000:=sq_lt_bd (l:=1) (m:=m) (by rw [← hab',← hsq];simp [Nat.mul_assoc,Nat.mul_comm,Nat.mul_left_comm]) (by omega) hnd
    have har:IntKind.i64.wrap ((a:Int) * (r:Int))=((a * r:Nat):Int):=by rw [← Int.natCast_mul];exact IntWalk.i64_in _ (by omega)
    generalize a * r=A at *
    subst HV2
    have HOF:=Lib.hid (fun W hG=>Of_ok A d W hG (by omega) hd hd0)
    clear hab hab' hsq
    go_wp2_with fail
    refine (HRB.out _ (by omega)).mono ?_
    rintro e w2 ⟨rfl,hB2⟩
    have hb2:=below_trans' hB hB2
    clear hB2
    go_wp2_with fail
    refine (HOF.out _ (HG.out.below hb2)).mono ?_
    rintro e w3 ⟨s,hs,rfl,hB3⟩
    have hb3:=below_trans' hb2 hB3
    have HS:=Lib.hid hs
    clear hs hB3
    go_wp2_with fail
    refine (HI.out 1 (by omega) _ (HG.out.below hb3)).mono ?_
    rintro e w4 ⟨t,ht,rfl,hB4⟩
    have hb4:=below_trans' hb3 hB4
    have HT:=Lib.hid ht
    clear ht hB4
    go_wp2_with fail
    go_ret2
    exact ⟨s,t,HS.out,by rw [HT.out,itoa_natCast],rfl,hb4⟩
   ·rw [if_neg hsq] at HV2
    subst HV2
    have hne:¬ (((r * r:Nat):Int)=(b:Int)):=by omega
    generalize r * r=rr at *
    have HOF:=Lib.hid (fun W hG=>Of_ok a d W hG (by omega) hd hd0)
    clear hab hab' hsq
    go_wp2_with fail
    refine (HRB.out _ (by omega)).mono ?_
    rintro e w2 ⟨rfl,hB2⟩
    have hb2:=below_trans' hB hB2
    clear hB2
    go_wp2_with fail
    refine (HOF.out _ (HG.out.below hb2)).mono ?_
    rintro e w3 ⟨s,hs,rfl,hB3⟩
    have hb3:=below_trans' hb2 hB3
    have HS:=Lib.hid hs
    clear hs hB3
    go_wp2_with fail
    refine (HI.out b (by omega) _ (HG.out.below hb3)).mono ?_
    rintro e w4 ⟨t,ht,rfl,hB4⟩
    have hb4:=below_trans' hb3 hB4
    have HT:=Lib.hid ht
    clear ht hB4
    go_wp2_with fail
    go_ret2
    exact ⟨s,t,HS.out,by rw [HT.out,itoa_natCast],rfl,hb4⟩
end Go.Proofs.YtbbclfbpllbbbaaGreatDoor
namespace Go.Proofs.YtbbclfbpllbbbaaGreatDoor
open Go.RowKit
variable {F:Fence} {n:Nat} {P:Program}
def SeqRunsB {α:Type} (F:Fence) (n:Nat) (P:Program) (g:Nat) (lb:Array Value) (encs:α→Array Value) (Mv Kp:World→World→Prop) (S Ok:List α→Prop) (w:World):Prop :=
 ∀ (l:Nat) (J:List α→World→Prop) (W:World),Below w.heap.size w W→AbidesFrom W.heap.size J→(∀ s X Y,J s X→Mv X Y→J s Y) →
  (∀ pre x W1,J pre W1→Ok (pre++[x])→YieldAt F (n - 1) P l (encs x) W1 fun e W'=>e=.returned (.bool true)∧J (pre++[x]) W'∧Kp W1 W') →
  J [] W →
  CallsIn F n P g (#[.func (.yield l) #[] #[]]++lb) W fun e W'=>(∃ v,e=.returned v)∧∃ xs,S xs∧J xs W'
def Rec2 (b:Nat) (r:Loop) (W:World):Prop:=W.heap[b+1]?=some (.loop r)∧W.heap[b]?=some (.deferred (some []))
theorem Rec2.keeps {b:Nat} {r:Loop} {W W':World} (h:Rec2 b r W) (hK:KeepsFrom b W W'):Rec2 b r W':=⟨hK.same _ _ (by omega) h.1 rfl,hK.same _ _ (Nat.le_refl _) h.2 rfl⟩
theorem Rec2.put {b:Nat} {r r':Loop} {W:World} (h:Rec2 b r W):Rec2 b r' (W.putObj (b+1) (.loop r')) :=
 ⟨World.putObj_heap_same (Array.getElem?_eq_some_iff.1 h.1).1,(World.putObj_heap_other (by omega)).trans h.2⟩
theorem rangeFunc_runsB {α:Type} {g:Operand} {ps:Array Tmp} {assign body:Code} {Q:Exit→Act→World→Prop} {a:Act} {w:World}
  (hro:F.round=none) (h1:1≤n) {gf:Nat} {lb:Array Value} (hg:a.eval g=.func (.func gf) #[] lb) (hFg:F.fn gf) (eg:∀ args w,(callFunc gf args).run P w=.ok (.enter gf args) w)
  {encs:α→Array Value} {Mv Kp:World→World→Prop} {S Ok:List α→Prop} {w0:World} (hseq:SeqRunsB F (n - 1) P gf lb encs Mv Kp S Ok w0)
  (hKt:∀ {A B C:World},Kp A B→Kp B C→Kp A C) (hKb:∀ (W:World) (l:Nat) (o o':Obj),w.heap.size≤l→W.heap[l]?=some o→o.isCells=false→o.isWalk=false→Kp W (W.putObj l o'))
  (hMv:∀ X Y,Mv X Y→KeepsFrom w.heap.size X Y) (hb0:Below w0.heap.size w0 w) (hps:∀ x,(encs x).size=ps.size)
  (I:List α→World→Prop) (hI:OwnFrom w.heap.size I) (hIM:∀ s X Y,I s X→Mv X Y→I s Y) (h0:I [] w) (a₁:α→Act)
  (hassign:∀ (l:Nat) (x:α) (W:World) (K:Act→World→Prop),K (a₁ x) W →
   assign.wpIn (F.inRound l) (n - 1 - 1) P (Exit.then K (fun _ _ _=>False)) { tmps:=(ps.zip (encs x)).foldl (fun t (p,v)=>t.setIfInBounds p v) a.tmps,defers:=[] } W)
  (hbody:∀ (l:Nat) (pre:List α) (x:α) (W:World),I pre W→Ok (pre++[x])→body.wpIn (F.inRound l) (n - 1 - 1) P (fun e _ W'=>e=.normal∧KeepsFrom w.heap.size W W'∧Kp W W'∧I (pre++[x]) W') (a₁ x) W)
  (hdone:∀ (D:Nat) (xs:List α) (W:World),w.heap.size≤D→S xs→I xs W→W.heap[D]?=some (.deferred (some []))→Q .normal { a with defers:={ target:=.collected D,args:=#[] }::a.defers } W) :
  (Code.rangeFunc g ps assign body).wpIn F n P Q a w:=by
 refine wpIn_rangeFunc fun fn hfn=>?_
 rw [hro]
 obtain ⟨r,hr⟩:∃ r:LoopState→Option Code→Loop,r=fun st pe=>{ state:=st,pending:=pe,fn,tmps:=a.tmps,params:=ps,assign,body,defers:=w.heap.size }:=⟨_,rfl⟩
 have hnw1:Below w.heap.size w ((w.alloc (.deferred (some []))).alloc (.loop (r .ready none))):=((bw0 _ w).alloc (Nat.le_refl _) _).alloc (by simp) _
 have hR0:Rec2 w.heap.size (r .ready none) ((w.alloc (.deferred (some []))).alloc (.loop (r .ready none))):=by
  constructor
  ·have:=World.alloc_heap_new (w.alloc (.deferred (some []))) (.loop (r .ready none))
   rwa [World.size_alloc] at this
  ·exact (Below.heap_alloc _ _ _ (by simp)).trans (World.alloc_heap_new w _)
 have hI1:I [] ((w.alloc (.deferred (some []))).alloc (.loop (r .ready none))):=hI.alloc _ (hI.alloc _ h0)
 have hent:(Instr.enterLoop fn a.tmps ps assign body none).run P w=.ok (w.heap.size+1,[{ target:=.collected w.heap.size,args:=#[] }]) ((w.alloc (.deferred (some []))).alloc (.loop (r .ready none))):=by rw [hr];exact run_enterLoop_outer _ _ _ _ _
 have hsz:w.heap.size≤((w.alloc (.deferred (some []))).alloc (.loop (r .ready none))).heap.size:=hnw1.size
 have hready:∀ pe,(r .ready pe).state=.ready:=by intro pe;rw [hr]
 generalize (w.alloc (.deferred (some []))).alloc (.loop (r .ready none))=W1 at *
 have hpar:∀ st pe,(r st pe).params=ps:=by intro st pe;rw [hr]
 refine ⟨w.heap.size+1,[{ target:=.collected w.heap.size,args:=#[] }],W1,{ target:=.fn (.func gf) lb,args:=#[.func (.yield (w.heap.size+1)) #[] #[]] },W1,gf,
  #[.func (.yield (w.heap.size+1)) #[] #[]]++lb,W1,hent,?_,?_,?_,fun _=>h1,?_⟩
 ·simp only [resolve,hg]
  simp [go_sem]
 ·intro f' hf'
  simp [Target.leads] at hf'
  subst hf'
  exact hFg
 ·simp [invoke,go_sem,eg]
 ·refine (hseq (w.heap.size+1) (fun pre W=>I pre W∧Rec2 w.heap.size (r .ready none) W) W1 (hb0.trans (hnw1.mono hb0.size)) ?_ (fun s X Y h hm=>⟨hIM s X Y h.1 hm,h.2.keeps (hMv X Y hm)⟩) ?_ ⟨hI1,hR0⟩).mono ?_
  ·intro s X Y row h hgr hrow
   have hrow':∀ j,row=some j→w.heap.size≤j∧∃ o:Obj,X.heap[j]?=some o∧o.isCells=false:=fun j e=>by
    obtain ⟨hB,o,ho,hw⟩:=hrow j e
    exact ⟨Nat.le_trans hsz hB,o,ho,Obj.not_cells_of_walk hw⟩
   refine ⟨hI s X Y row h.1 hgr hrow',?_,?_⟩
   ·exact (grownBy_keeps hgr (fun j e=>(hrow j e).2) h.2.1 rfl).trans h.2.1
   ·exact (grownBy_keeps hgr (fun j e=>(hrow j e).2) h.2.2 rfl).trans h.2.2
  ·rintro pre x W ⟨hi,hR⟩ hlen
   have hy:=run_yield (P:=P) (args:=encs x) hR.1 (by rw [hpar];exact hps x)
   have hbeg:=run_beginRound (P:=P) hR.1 (hready none)
   have hRb:Rec2 w.heap.size { r .ready none with state:=.busy } (W.putObj (w.heap.size+1) (.loop { r .ready none with state:=.busy })):=hR.put
   have hKp1:Kp W (W.putObj (w.heap.size+1) (.loop { r .ready none with state:=.busy })):=hKb _ _ _ _ (by omega) hR.1 rfl rfl
   have hIb:I pre (W.putObj (w.heap.size+1) (.loop { r .ready none with state:=.busy })):=hI.putObj _ hi (by omega) hR.1 rfl
   rw [hr] at hy
   refine ⟨fn,_,assign,body,hy,roundIn_of_wpIn hfn (hassign _ x W _ ⟨_,hbeg,?_⟩)⟩
   refine wpIn_mono (hbody _ pre x _ hIb hlen) ?_
   rintro e a3 W3 ⟨rfl,hK3,hKp3,hI3⟩
   have hR3:=hRb.keeps hK3
   have hend:=run_endRound (P:=P) none hR3.1
   have he:({ { r .ready none with state:=.busy } with state:=(if (none:Option Code).isNone then .ready else .done),pending:=none }:Loop)=r .ready none:=by rw [hr];rfl
   rw [he] at hend
   exact ⟨_,_,hend,rfl,⟨hI.putObj _ hI3 (by omega) hR3.1 rfl,hR3.put⟩,hKt (hKt hKp1 hKp3) (hKb _ _ _ _ (by omega) hR3.1 rfl rfl)⟩
  ·rintro e W2 ⟨⟨v,rfl⟩,xs,hS,hi,hR⟩
   have hel:=run_endLoop (P:=P) hR.1 (by rw [hready];simp)
   have hpe:(r .ready none).pending=none:=by rw [hr]
   rw [hpe] at hel
   exact ⟨none,_,hel,hdone _ xs _ (Nat.le_refl _) hS (hI.putObj _ hi (by omega) hR.1 rfl) ((World.putObj_heap_other (by omega)).trans hR.2)⟩
end Go.Proofs.YtbbclfbpllbbbaaGreatDoor
namespace Go.Proofs.YtbbclfbpllbbbaaGreatDoor
open Go.RowKit Go.Shelf
attribute [local go_sem] Oper.semAt_some
def decS (n:Nat):ByteArray:=⟨(Lib.decDigits n).toArray⟩
theorem decS_list (n:Nat):(decS n).data.toList=Lib.decDigits n:=by simp [decS]
theorem decS_itoa (n:Nat):(decS n).data.toList=Lib.itoa (n:Int):=by rw [decS_list,itoa_natCast]
theorem decS_of {r:ByteArray} {n:Nat} (h:r.data.toList=Lib.decDigits n):r=decS n:=by
 unfold decS
 rw [← h]
theorem decS_nz {n:Nat} (h:0 < n):((decS n).toList == [48])=false:=by
 rw [Lib.toList_data,decS_list]
 have:=dec_ne_zero h
 simpa using this
theorem decS_z:((decS 0).toList == [48])=true:=by
 rw [Lib.toList_data,decS_list,show Lib.decDigits 0=[48] by decide +kernel]
 decide
theorem mulN_ok (x y:Nat) (w:World) (hG:Glo w) (hx:Fit (x:Int)) (hy:Fit (y:Int)) (hxy:Fit ((x * y:Nat):Int)) :
  Calls Tryz.prog 137 #[.string (decS x),.string (decS y)] w (RetB (.string (decS (x * y))) w) :=
 (rootMul_ok (x:Int) (y:Int) _ _ w hG (decS_itoa x) hx (decS_itoa y) hy (by rwa [← Int.natCast_mul])).mono fun e w' ⟨r,hr,he,hB⟩=>by
  rw [← Int.natCast_mul,itoa_natCast] at hr
  rw [decS_of hr] at he
  exact ⟨he,hB⟩
theorem quotN_ok (x y:Nat) (w:World) (hG:Glo w) (hx:Fit (x:Int)) (hy:Fit (y:Int)) (hy0:0 < y) :
  Calls Tryz.prog 192 #[.string (decS x),.string (decS y)] w (RetB (.tuple #[.string (decS (x / y)),.string (decS (x % y))]) w) :=
 (quotient_ok (x:Int) (y:Int) _ _ w hG (decS_itoa x) hx (decS_itoa y) hy (by omega) (by omega)).mono fun e w' ⟨a,b,ha,hb,he,hB⟩=>by
  rw [← Int.natCast_ediv,itoa_natCast] at ha
  rw [← Int.natCast_emod,itoa_natCast] at hb
  rw [decS_of ha,decS_of hb] at he
  exact ⟨he,hB⟩
def encP (e:Nat × Nat):Array Value:=#[.string (decS e.1),.string (decS e.2)]
def afterS (s:Nat × Nat) (ys:List (Nat × Nat)):Nat × Nat:=ys.foldl (fun s e=>(s.1 * e.1,e.2)) s
theorem afterS_snoc (s:Nat × Nat) (ys:List (Nat × Nat)) (e:Nat × Nat):afterS s (ys++[e])=((afterS s ys).1 * e.1,e.2):=by simp [afterS]
def OkS (m:Nat) (ys:List (Nat × Nat)):Prop:=(afterS (1,m) ys).1 * (afterS (1,m) ys).1 * (afterS (1,m) ys).2=m∧0 < (afterS (1,m) ys).1∧0 < (afterS (1,m) ys).2
def MvBox (b:Nat) (X Y:World):Prop:=∃ v,Y=X.setCell ⟨b,0,none⟩ v
theorem MvBox.keeps {b B:Nat} {X Y:World} (h:MvBox b X Y):KeepsFrom B X Y:=by
 obtain ⟨v,rfl⟩:=h
 exact (KeepsOthers.setCell _ _ _).from _
theorem fit_sq {c y m:Nat} (h:c * c * y=m) (hc:0 < c) (hy:0 < y) (hm:Fit (m:Int)):Fit (c:Int)∧Fit (y:Int) :=
 ⟨fit_lt (n:=c) (by rw [← h];exact Nat.le_trans (Nat.le_mul_of_pos_right c hc) (Nat.le_mul_of_pos_right _ hy)) hm,fit_lt (n:=y) (by rw [← h];exact Nat.le_mul_of_pos_left _ (Nat.mul_pos hc hc)) hm⟩
theorem squares_in (m:Nat) (n:Nat) (hn:1≤n) (l b1 B:Nat) (J:List (Nat × Nat)→World→Prop) (hm0:0 < m) (hmf:Fit (m:Int))
  (hY:∀ pre x W,J pre W→OkS m (pre++[x])→YieldAt Fence.wide (n - 1) Tryz.prog l (encP x) W fun e W'=>e=.returned (.bool true)∧J (pre++[x]) W'∧KpB B b1 b1 W W')
  (W:World) (hJ:AbidesFrom W.heap.size J) (hM:∀ s X Y,J s X→MvBox b1 X Y→J s Y) (w0:World) (hG:Glo w0) (hP:Pri w0) (hw0:Below w0.heap.size w0 W) (hB:w0.heap.size≤B) (hb1:w0.heap.size≤b1)
  (c1:Boxed W b1 9 (.string (decS m))) (h0:J [] W) :
  CallsIn Fence.wide n Tryz.prog 191 #[.func (.yield l) #[] #[],.pointer (some ⟨b1,0,none⟩)] W fun e W'=>(∃ v,e=.returned v)∧∃ ys,afterS (1,m) ys=norms primes25 1 m∧J ys W':=by
 have HG:=Lib.hid hG
 have HP:=Lib.hid hP
 have HJ:=Lib.hid hJ
 have HY:=Lib.hid hY
 have HM:=Lib.hid hM
 have HMF:=Lib.hid hmf
 obtain ⟨R,hR⟩:∃ R,norms primes25 1 m=R:=⟨_,rfl⟩
 have HN:Hid (norms (primes25.drop 0) 1 m=R):=Lib.hid hR
 rw [hR]
 have HB1:=Lib.hid c1
 clear hG hP hJ hY hM hmf hR c1
 refine callsIn_of_wp Tryz.func191 rfl trivial ?_ rfl
 simp only [Tryz.ntmps191,List.size_toArray,List.length_cons,List.length_nil,Nat.reduceAdd,Nat.reduceSub,Array.replicate_succ,Array.replicate_zero,List.push_toArray,List.append_toArray,List.nil_append,List.cons_append]
 gi_wp2_with (refine wpListIn_pri rfl _ rfl (HP.out.below hw0) rfl ?_)
 gi_loopg [9] 25 (fun g v wr=>∃ (k y:Nat) (ys:List (Nat × Nat)),k≤25∧g=25 - k∧v=.int .i64 k∧0 < y∧Hid True∧Hid ((afterS (1,m) ys).1 * (afterS (1,m) ys).1 * y=m∧(afterS (1,m) ys).2=y∧0 < (afterS (1,m) ys).1)∧Hid (norms (primes25.drop k) (afterS (1,m) ys).1 y=R)∧Hid (J ys wr)∧Hid (Boxed wr b1 9 (.string (decS y)))∧Below w0.heap.size w0 wr)
 case atStart=>exact ⟨0,m,[],by omega,rfl,rfl,hm0,Lib.hid (by simp),Lib.hid (by simp [afterS]),HN,Lib.hid h0,HB1,hw0⟩
 case round =>
  obtain ⟨k,y,ys,hk,rfl,rfl,hy,hlen,haf,hno,hJk,hbx,hBk⟩:=hrel
  clear HN HB1 h0 hw0
  by_cases hlt:k < 25
  ·have hltI:(k:Int) < 25:=by omega
   have hix:=fun W=>pri_index k hlt W
   obtain ⟨p2,p97⟩:=primes_two hlt
   have HNO:Hid (norms (primes25.drop (k+1)) (stripped (primes25.getD k 0) (afterS (1,m) ys).1 y).1 (stripped (primes25.getD k 0) (afterS (1,m) ys).1 y).2=R):=Lib.hid (by have:=hno.out;rw [primes_drop hlt] at this;exact this)
   have hps:prS k=decS (primes25.getD k 0):=rfl
   rw [hps] at hix
   generalize primes25.getD k 0=p at *
   obtain ⟨q,hq⟩:∃ q,p * p=q:=⟨_,rfl⟩
   have hq1:q≤97 * 97:=by rw [← hq];exact Nat.mul_le_mul p97 p97
   have hq0:4≤q:=by rw [← hq];exact Nat.mul_le_mul p2 p2
   have hpq:p≤q:=by rw [← hq];exact Nat.le_mul_self p
   have hqf:Fit (q:Int):=fit_nat (Nat.lt_of_lt_of_le (show q < 10 ^ 10 by omega) (pow10_le (a:=10) (b:=300) (by decide)))
   have HMU:=Lib.hid (fun W hG=>by have h:=mulN_ok p p W hG (fit_lt hpq hqf) (fit_lt hpq hqf) (by rw [hq];exact hqf);rw [hq] at h;exact h)
   have HQU:=Lib.hid (fun (x:Nat) W hG (hx:Fit (x:Int))=>quotN_ok x q W hG hx hqf (by omega))
   have HQ:=Lib.hid hq
   obtain ⟨S,hS⟩:∃ S,stripped p (afterS (1,m) ys).1 y=S:=⟨_,rfl⟩
   rw [hS] at HNO
   have HS:Hid (stripped p (afterS (1,m) ys).1 y=S):=Lib.hid hS
   clear hno hS hq hqf
   gi_wp2
   refine ⟨trivial,?_⟩
   refine (callsIn_wide.2 (HMU.out _ (HG.out.below hBk))).mono ?_
   rintro e w1 ⟨rfl,hB1⟩
   have hB2:=hBk.trans (hB1.mono hBk.size)
   have hJ1:Hid (J ys w1):=Lib.hid (abides_below' HJ.out hJk.out hB1)
   have hbx1:Hid (Boxed w1 b1 9 (.string (decS y))):=Lib.hid (boxed_below hbx.out hB1)
   clear hB1 hBk hJk hbx HMU hix
   gi_wp2
   gi_loopg [6] y (fun g v wr=>∃ (x:Nat) (zs:List (Nat × Nat)),x=g∧0 < x∧Hid True∧Hid ((afterS (1,m) zs).1 * (afterS (1,m) zs).1 * x=m∧(afterS (1,m) zs).2=x∧0 < (afterS (1,m) zs).1)∧Hid (stripped p (afterS (1,m) zs).1 x=S)∧Hid (J zs wr)∧Hid (Boxed wr b1 9 (.string (decS x)))∧Below w0.heap.size w0 wr)
   case atStart=>exact ⟨y,ys,rfl,hy,hlen,haf,HS,hJ1,hbx1,hB2⟩
   case round =>
    obtain ⟨x,zs,rfl,hx,hlz,haz,hst,hJz,hbz,hBz⟩:=hrel
    clear hB2 hJ1 hbx1 HS haf hlen hy
    have hxf:=(fit_sq haz.out.1 haz.out.2.2 hx HMF.out).2
    have HQX:=Lib.hid (fun W hG=>HQU.out x W hG hxf)
    have d1:=hbz.out.cell
    have i1:=hbz.out.frozen
    have z1:=hbz.out.lt
    by_cases hz:x % q=0
    ·obtain ⟨r1,r2,r3,r4,r5⟩:=norm_round p2 hx haz.out.2.2 haz.out.1 (by rw [HQ.out];exact hz)
     rw [HQ.out] at r1 r2 r3 r4
     rw [hz] at HQX
     have hnz:=decS_z
     have hnew:afterS (1,m) (zs++[(p,x / q)])=((afterS (1,m) zs).1 * p,x / q):=afterS_snoc _ _ _
     have HAZ:Hid ((afterS (1,m) (zs++[(p,x / q)])).1 * (afterS (1,m) (zs++[(p,x / q)])).1 * (x / q)=m∧(afterS (1,m) (zs++[(p,x / q)])).2=x / q∧0 < (afterS (1,m) (zs++[(p,x / q)])).1):=Lib.hid (by rw [hnew];exact ⟨r2,rfl,r5⟩)
     have HOK:Hid (OkS m (zs++[(p,x / q)])):=Lib.hid (by unfold OkS;rw [hnew];exact ⟨r2,r5,r3⟩)
     have HST:Hid (stripped p (afterS (1,m) (zs++[(p,x / q)])).1 (x / q)=S):=Lib.hid (by rw [hnew];exact r1.symm.trans hst.out)
     have HL:=hlz
     have HYX:=Lib.hid (fun W h=>HY.out zs (p,x / q) W h HOK.out)
     have HE:Hid (encP (p,x / q)=#[.string (decS p),.string (decS (x / q))]):=Lib.hid rfl
     generalize x / q=X at *
     generalize decS 0=s0 at *
     generalize hsX:decS X=sX at *
     generalize decS x=sx at *
     clear r1 r2 hz haz hst hlz hnew HOK
     gi_wp2
     refine ⟨trivial,?_⟩
     refine (callsIn_wide.2 (HQX.out _ (HG.out.below hBz))).mono ?_
     rintro e w2 ⟨rfl,hB3⟩
     have e1:=(boxed_below hbz.out hB3).cell
     have j1:=(boxed_below hbz.out hB3).frozen
     have y1:=(boxed_below hbz.out hB3).lt
     have hJ2:=Lib.hid (HM.out _ _ (w2.setCell ⟨b1,0,none⟩ (.string sX)) (abides_below' HJ.out hJz.out hB3) ⟨_,rfl⟩)
     have hbx2:=Lib.hid ((boxed_below hbz.out hB3).set (.string sX))
     have hB4:Below w0.heap.size w0 (w2.setCell ⟨b1,0,none⟩ (.string sX)):=bw1 (hBz.trans (hB3.mono hBz.size)) hb1 _
     have d2:=hbx2.out.cell
     clear hB3 d1 i1 z1 hbz hJz hBz HQX
     obtain ⟨fn,tmps,assign,body,hy,hR2⟩:=HYX.out _ hJ2.out
     have HR2:=Lib.hid hR2
     rw [HE.out] at hy
     clear hR2 HE HYX
     gi_wp2
     refine HR2.out.mono ?_
     rintro e W3 ⟨rfl,hJ3,hk3⟩
     have hJ3':=Lib.hid hJ3
     have hbx3:Hid (Boxed W3 b1 9 (.string sX)):=Lib.hid (hk3.2.1.trans hbx2.out)
     have hB5:=hB4.trans (hk3.1.mono hB)
     clear hJ3 hk3 hy HR2 hB4 hbx2 hJ2 d2 e1 j1 y1
     gi_wp2
     gi_roundg X
     case rel=>exact ⟨X,_,rfl,r3,HL,HAZ,HST,hJ3',Lib.hid (by rw [hsX];exact hbx3.out),hB5⟩
     case measure=>omega
    ·have HE:=Lib.hid (stripped_end (c:=(afterS (1,m) zs).1) hx (show ¬ x % (p * p)=0 by rw [HQ.out];exact hz))
     have hnz:=decS_nz (show 0 < x % q by omega)
     have hk1:IntKind.i64.wrap ((k:Int)+1)=((k+1:Nat):Int):=IntWalk.i64_in _ (by omega)
     generalize decS (x % q)=sr at *
     clear hz
     gi_wp2
     refine ⟨trivial,?_⟩
     refine (callsIn_wide.2 (HQX.out _ (HG.out.below hBz))).mono ?_
     rintro e w2 ⟨rfl,hB3⟩
     have hJ2:=Lib.hid (abides_below' HJ.out hJz.out hB3)
     have hbx2:=Lib.hid (boxed_below hbz.out hB3)
     have hB4:=hBz.trans (hB3.mono hBz.size)
     clear hB3 d1 i1 z1 hbz hJz hBz HQX
     gi_wp2
     gi_roundg (25 - (k+1))
     case rel=>exact ⟨k+1,x,zs,by omega,rfl,rfl,hx,hlz,haz,Lib.hid (by
      have h1:=HNO.out
      rw [← hst.out,HE.out] at h1
      exact h1),hJ2,hbx2,hB4⟩
     case measure=>omega
  ·have hk25:k=25:=by omega
   subst hk25
   gi_wp2
   go_end0
   refine ⟨⟨_,rfl⟩,ys,?_,hJk.out⟩
   have h1:=hno.out
   have h2:=haf.out.2.1
   rw [← h1]
   show _=((afterS (1,m) ys).1,y)
   rw [← h2]
theorem squares_runs (m n:Nat) (hn:1≤n) (b1 B:Nat) (hm0:0 < m) (hmf:Fit (m:Int)) (w0 w:World) (hG:Glo w0) (hP:Pri w0) (hw0:Below w0.heap.size w0 w) (hB:w0.heap.size≤B) (hb1:w0.heap.size≤b1)
  (c1:Boxed w b1 9 (.string (decS m))) :
  SeqRunsB Fence.wide n Tryz.prog 191 #[.pointer (some ⟨b1,0,none⟩)] encP (MvBox b1) (KpB B b1 b1) (fun ys=>afterS (1,m) ys=norms primes25 1 m) (OkS m) w:=fun l J W hW hJ hM hY h0 =>
 squares_in m n hn l b1 B J hm0 hmf hY W hJ hM w0 hG hP (hw0.trans (hW.mono hw0.size)) hB hb1 (boxed_below c1 hW) h0
theorem squares_ok (m:Nat) (w:World) :
  Calls Tryz.prog 138 #[.string (decS m)] w (fun e w'=>e=.returned (.func (.func 191) #[] #[.pointer (some ⟨w.heap.size,0,none⟩)])∧w'=w.alloc (.cells #[.string (decS m)] 9)):=by
 generalize decS m=s
 go_enter Tryz.func138,Tryz.ntmps138
 go_wp2_with fail
 go_ret
 exact ⟨rfl,rfl⟩
end Go.Proofs.YtbbclfbpllbbbaaGreatDoor
namespace Go.Proofs.YtbbclfbpllbbbaaGreatDoor
open Go.RowKit
def normQ (q:Rat):Rat × Nat:=if q.num=0 then (0,1) else (Rat.divInt ((normalN (q.num.toNat * q.den)).1:Nat) (q.den:Nat),(normalN (q.num.toNat * q.den)).2)
def RetNl (A:Rat) (L:Nat) (w:World) (e:Ending) (w':World):Prop:=e=.returned (.tuple #[.string (numS A),.string (decS L),.int .i64 0])∧Below w.heap.size w w'
theorem rootOfN_ok {k:Nat} {q:Rat} (w:World) (hG:Glo w) (hq:Sz k q) (hk:k≤300) (hq0:0≤q.num) :
  Calls Tryz.prog 93 #[.string (numS q)] w (RetB (.agg #[.string (decS q.num.toNat),.string (decS q.den)]) w) :=
 (rootOf1_ok (numS q) w hG (numS_list q) hq hk).mono fun e w' ⟨a,b,ha,hb,he,hB⟩=>by
  have hn:q.num=((q.num.toNat:Nat):Int):=by omega
  rw [hn,itoa_natCast] at ha
  rw [decS_of ha,decS_of hb] at he
  exact ⟨he,hB⟩
theorem one_all {q:Rat} {P:Rat→Prop} (h:P q):∀ k (hk:k < [q].length),P [q][k]:=by
 intro k hk
 obtain rfl:k=0:=by
  simp at hk
  omega
 exact h
theorem rootCheck1_ok (q:Rat) (w:World) (u v:Value) (hG:Glo w) (hu:IsStrs w u ([q].map numS)) (hv:IsStrs w v ([q].map numS)) (hq:Sz 90 q) (hq0:0≤q.num) :
  Calls Tryz.prog 90 #[u,v] w (RetB (.int .i64 0) w) :=
 rootCheck_ok [q] [q] u v w hG hu hv (one_all hq) (one_all (P:=fun x=>0≤x.num) hq0) (by simp) (by simp)
theorem check1_lits (q:Rat) (w:World) (hG:Glo w) (hq:Sz 90 q) (hq0:0≤q.num) :
  Calls Tryz.prog 90 #[.slice (some ⟨w.heap.size,0,none⟩) 1 1,.slice (some ⟨w.heap.size+1,0,none⟩) 1 1] ((w.alloc (.cells #[.string (numS q)] 34)).alloc (.cells #[.string (numS q)] 34))
   (fun e w'=>e=.returned (.int .i64 0)∧Below w.heap.size w w'):=by
 have hB:Below w.heap.size w ((w.alloc (.cells #[.string (numS q)] 34)).alloc (.cells #[.string (numS q)] 34)):=((bw0 _ w).alloc (Nat.le_refl _) _).alloc (by simp) _
 have J1:IsStrs ((w.alloc (.cells #[.string (numS q)] 34)).alloc (.cells #[.string (numS q)] 34)) (.slice (some ⟨w.heap.size,0,none⟩) 1 1) ([q].map numS):=(isStrs_lit1 w q _).below (bw4 (bw0 _ _) _)
 have J2:IsStrs ((w.alloc (.cells #[.string (numS q)] 34)).alloc (.cells #[.string (numS q)] 34)) (.slice (some ⟨w.heap.size+1,0,none⟩) 1 1) ([q].map numS):=by
  have h:=isStrs_lit1 (w.alloc (.cells #[.string (numS q)] 34)) q 34
  rw [World.size_alloc] at h;exact h
 exact (rootCheck1_ok q _ _ _ (hG.below hB) J1 J2 hq hq0).mono fun e w' ⟨he,hb⟩=>⟨he,below_trans' hB hb⟩
theorem Normal_zero (q:Rat) (w:World) (hG:Glo w) (hq:Sz 90 q) (h0:q.num=0) :
  Calls Tryz.prog 83 #[.string (numS q)] w (RetNl 0 1 w):=by
 have HCK:=Lib.hid (fun W hG=>check1_lits q W hG hq (by omega))
 have HOF:=Lib.hid (fun W hG=>rootOfN_ok W hG hq (by decide) (by omega))
 rw [h0] at HOF
 have hz:((decS (Int.toNat 0)).toList == [48])=true:=decS_z
 have HG:=Lib.hid hG
 have e1:(numS 0:ByteArray)=⟨#[48]⟩:=by
  unfold numS;rw [show ratText 0=[48] by decide +kernel]
 have e2:(decS 1:ByteArray)=⟨#[49]⟩:=by
  unfold decS;rw [show Lib.decDigits 1=[49] by decide +kernel]
 have HE:=Lib.hid (And.intro e1 e2)
 clear hG hq h0 e1 e2
 generalize numS q=s at *
 generalize decS (Int.toNat 0)=a at *
 generalize decS q.den=b at *
 go_enter Tryz.func83,Tryz.ntmps83
 go_wp2_with fail
 refine (HCK.out _ HG.out).mono ?_
 rintro e w1 ⟨rfl,hb1⟩
 clear HCK
 go_wp2_with fail
 refine (HOF.out _ (HG.out.below hb1)).mono ?_
 rintro e w2 ⟨rfl,hB2⟩
 have hb2:=below_trans' hb1 hB2
 clear hB2 hb1 HOF
 go_wp2_with fail
 go_ret3
 exact ⟨by rw [HE.out.1,HE.out.2];rfl,qbl⟩
theorem decS_lt {n:Nat}:n < 10 ^ (decS n).size:=pow_le_of_lt (by have:(decS n).size=(decS n).data.toList.length:=rfl;rw [this,decS_list];exact Nat.le_refl _)
theorem decS_size_le {n k:Nat} (h:n < 10 ^ k) (hk:1≤k):(decS n).size≤k:=by
 have:(decS n).size=(decS n).data.toList.length:=rfl
 rw [this,decS_list,Lib.decDigits_length]
 exact nDigits_le_of_lt h hk
theorem Normal_short (q:Rat) (w:World) (hG:Glo w) (hP:Pri w) (hq:Sz 90 q) (h0:0 < q.num) (hs:(decS q.num.toNat).size+(decS q.den).size≤17) :
  Calls Tryz.prog 83 #[.string (numS q)] w (RetNl (normQ q).1 (normQ q).2 w):=by
 have HCK:=Lib.hid (fun W hG=>check1_lits q W hG hq (by omega))
 have HOF:=Lib.hid (fun W hG=>rootOfN_ok W hG hq (by decide) (by omega))
 have hn0:0 < q.num.toNat:=by omega
 have hd0:0 < q.den:=q.den_pos
 have e1:(normQ q).1=Rat.divInt ((normalN (q.num.toNat * q.den)).1:Nat) (q.den:Nat):=by unfold normQ;rw [if_neg (by omega)]
 have e2:(normQ q).2=(normalN (q.num.toNat * q.den)).2:=by unfold normQ;rw [if_neg (by omega)]
 rw [e1,e2]
 generalize numS q=sq at *
 generalize q.num.toNat=n at *
 generalize q.den=d at *
 have hnz:=decS_nz hn0
 have hlt:n * d < 10 ^ 17:=by
  refine Nat.lt_of_lt_of_le (Nat.mul_lt_mul_of_lt_of_le (decS_lt (n:=n)) (Nat.le_of_lt (decS_lt (n:=d))) (Nat.pow_pos (by decide))) ?_
  rw [← Nat.pow_add]
  exact Nat.pow_le_pow_right (by decide) hs
 have hd17:d≤1000000000000000000:=by
  have h1:1 * d≤n * d:=Nat.mul_le_mul hn0 (Nat.le_refl _)
  omega
 have HN:=Lib.hid (native_ok n (decS n) · (decS_list n) (by omega))
 have HD:=Lib.hid (native_ok d (decS d) · (decS_list d) (by omega))
 have HNN:=Lib.hid (fun W hG hP=>nativeNormal_ok n d W hG hP hn0 hd0 (by omega) hd17)
 have HG:=Lib.hid hG
 have HP:=Lib.hid hP
 have hle:((decS n).size:Int)+((decS d).size:Int)≤17:=by omega
 have hw:IntKind.i64.wrap (((decS n).size:Int)+((decS d).size:Int))=((decS n).size:Int)+((decS d).size:Int):=IntWalk.i64_in _ (by omega)
 obtain ⟨A,hA⟩:∃ A,Rat.divInt ((normalN (n * d)).1:Nat) (d:Nat)=A:=⟨_,rfl⟩
 obtain ⟨L,hL⟩:∃ L,(normalN (n * d)).2=L:=⟨_,rfl⟩
 rw [hA,hL] at HNN ⊢
 generalize decS n=a at *
 generalize decS d=b at *
 clear hG hP hq h0 e1 e2 hs hn0 hd0 hlt hd17 hA hL
 go_enter Tryz.func83,Tryz.ntmps83
 go_wp2_with fail
 refine (HCK.out _ HG.out).mono ?_
 rintro e w1 ⟨rfl,hb1⟩
 clear HCK
 go_wp2_with fail
 refine (HOF.out _ (HG.out.below hb1)).mono ?_
 rintro e w2 ⟨rfl,hB2⟩
 have hb2:=below_trans' hb1 hB2
 have hb2':=bw4 hb2 (.cells #[.string a,.string b] 167)
 clear hB2 hb1 HOF
 go_wp2_with fail
 refine (HN.out _).mono ?_
 rintro e w3 ⟨rfl,hB3⟩
 have hb3:Below w.heap.size w w3:=qbl
 have c1:w3.cell? ⟨w2.heap.size,1,none⟩=some (.string b):=keep hB3 (by simp [go_sem])
 clear hB3 hb2' HN
 go_wp2_with fail
 refine (HD.out _).mono ?_
 rintro e w4 ⟨rfl,hB4⟩
 have hb4:=below_trans' hb3 hB4
 clear hB4 HD c1 hb3
 go_wp2_with fail
 refine (HNN.out _ (HG.out.below hb4) (HP.out.below hb4)).mono ?_
 rintro e w5 ⟨r,t,hr,ht,rfl,hB5⟩
 have hb5:=below_trans' hb4 hB5
 have HRR:=Lib.hid (And.intro (numS_of hr) (decS_of ht))
 clear hr ht hB5
 go_wp2_with fail
 go_ret3
 exact ⟨by rw [← HRR.out.1,← HRR.out.2];rfl,hb5⟩
end Go.Proofs.YtbbclfbpllbbbaaGreatDoor
