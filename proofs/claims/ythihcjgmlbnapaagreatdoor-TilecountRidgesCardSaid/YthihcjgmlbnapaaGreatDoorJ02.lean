/- Joined texts: WNum, WQuick, WOps, WDiv, WCut, WRead, WSmallInt, WGcd, WCourse1, WMid, WCmpMid, Drawn. -/
import Derived.Test.YthihcjgmlbnapaaGreatDoorJ01
import Derived.Deep.RegionHeld3
import Derived.Deep.RegionWith
import Derived.Deep.DrawnRows
set_option maxRecDepth 100000
set_option linter.unusedVariables false
set_option linter.unusedSimpArgs false
set_option maxHeartbeats 12800000
namespace Go.Proofs.YthihcjgmlbnapaaGreatDoor
open Go.RowKit
theorem gcd_int (a b:Int) (w:World) (ha0:0≤a) (hb0:0≤b) (ha:a≤4000000000000000000) (hb:b≤4000000000000000000) :
  Calls Tryz.prog 124 #[.int .i64 a,.int .i64 b] w (RetQ (.int .i64 (Int.gcd a b:Nat)) w):=by
 have:=gcd_any a.toNat b.toNat w (by omega) (by omega)
 rw [Int.toNat_of_nonneg ha0,Int.toNat_of_nonneg hb0] at this
 have e:Int.gcd a b=Nat.gcd a.toNat b.toNat:=by rw [Int.gcd];congr 1<;>omega
 rw [e];exact this
theorem bounds_of_mul {n a:Int} {g:Nat} (h:n=a * g) (g0:0 < g) (h1 : -4000000000000000000≤n) (h2:n≤4000000000000000000) : -4000000000000000000≤a∧a≤4000000000000000000:=by
 have hz:(1:Int)≤g:=by omega
 constructor
 ·by_cases ha:0≤a
  ·omega
  ·have:=Int.mul_le_mul_of_nonpos_left (a:=a) (show a≤0 by omega) hz;omega
 ·by_cases ha:0≤a
  ·have:=Int.mul_le_mul_of_nonneg_left hz ha;omega
  ·omega
theorem number_any (n d:Int) (w:World) (hG:Glo w) (hd:d≠0) (h1 : -4000000000000000000≤n) (h2:n≤4000000000000000000) (h3 : -4000000000000000000≤d) (h4:d≤4000000000000000000) :
  Calls Tryz.prog 137 #[.agg #[.int .i64 n,.int .i64 d]] w (RetS (ratText (Rat.divInt n d)) w):=by
 go_enter Tryz.func137,Tryz.ntmps137
 go_upto_region 0 with fail
 go_cut [1,2] (fun p s2 wr=>p=.pointer (some ⟨w.heap.size,0,none⟩)∧s2=.string .empty∧wr=w.alloc (.cells #[.int .i64 n,.int .i64 d] 133))
 case first =>
  go_wp2_with fail
  go_meet
  exact ⟨rfl,rfl,rfl⟩
 case rest =>
  obtain ⟨rfl,rfl,rfl⟩:=hcut
  go_step
  go_step
  go_cut [6] (fun _ wr=>∃ n' d':Int,0 < d'∧Rat.divInt n' d'=Rat.divInt n d∧-4000000000000000000≤n'∧n'≤4000000000000000000∧d'≤4000000000000000000∧wr=w.alloc (.cells #[.int .i64 n',.int .i64 d'] 133))
  case first =>
   by_cases h:d < 0
   ·go_wp2_with fail
    go_meet
    exact ⟨-n,-d,by omega,Rat.neg_divInt_neg _ _,by omega,by omega,by omega,by trivial⟩
   ·go_wp2_with fail
    go_meet
    exact ⟨n,d,by omega,rfl,by omega,by omega,by omega,by trivial⟩
  case rest =>
   obtain ⟨n',d',p1,p2,p3,p4,p5,rfl⟩:=hcut
   obtain ⟨a,b,g,hg,g0,ha,hb,b0,hnum,hden,q1,q2⟩:=divInt_parts n' d' p1
   have HG:=Lib.hid hG
   have hab1 : -4000000000000000000≤a∧a≤4000000000000000000:=bounds_of_mul ha g0 p3 p4
   have hab2 : -4000000000000000000≤b∧b≤4000000000000000000:=bounds_of_mul hb g0 (by omega) p5
   have hgz:¬ (g:Int)=0:=by omega
   have hw1:IntKind.i64.wrap a=a:=IntWalk.i64_in _ (by omega)
   have hw2:IntKind.i64.wrap b=b:=IntWalk.i64_in _ (by omega)
   have HN:Hid ((Rat.divInt n d).num=a):=Lib.hid (by rw [← p2];exact hnum)
   have HD:Hid (((Rat.divInt n d).den:Int)=b):=Lib.hid (by rw [← p2];exact hden)
   have HGG:=Lib.hid hg
   obtain ⟨a1,a2⟩:=hab1
   obtain ⟨b1,b2⟩:=hab2
   clear p2 hd h1 h2 h3 h4 hnum hden ha hb hg hG
   go_wp2_with (go_at_call 124;refine (gcd_int _ _ _ (by omega) (by omega) (by omega) (by omega)).mono ?_;rintro e w' ⟨rfl,nq,rfl⟩;rw [← HGG.out])
   go_quiet (fail)
   by_cases h1:b=1
   ·have hbb:((b:Int) == 1)=true:=by simp [h1]
    have HT:Hid (ratText (Rat.divInt n d)=Lib.itoa a):=Lib.hid (by
     have h2:=HD.out
     rw [ratText,if_pos (by omega),HN.out])
    clear h1
    go_wp2_with (go_at_call 68;refine (itoa_any _ (by omega) (by omega) _ (HG.out.below qbl)).mono ?_;rintro e w2 ⟨s,hs,rfl,hB⟩)
    go_ret
    exact ⟨s,hs.trans HT.out.symm,rfl,Below.trans qbl (hB.mono (by simp))⟩
   ·have hbb:((b:Int) == 1)=false:=by simp [h1]
    have HT:Hid (ratText (Rat.divInt n d)=Lib.itoa a++47::Lib.itoa b):=Lib.hid (by
     have h2:=HD.out
     rw [ratText,if_neg (by omega),HN.out,← h2,Lib.itoa_nonneg])
    clear h1
    go_wp2_with fail
    refine (itoa_any a (by omega) (by omega) _ (HG.out.below qbl)).mono ?_
    rintro e w2 ⟨s,hs,rfl,hB⟩
    have hsz:s.size≤21:=by have:=Lib.itoa_length_le a (by omega) (by omega);rw [← hs] at this;exact this
    have HS:=Lib.hid hs
    have hG2:Glo w2:=(HG.out.below qbl).below hB
    have HG2:=Lib.hid hG2
    clear hs hG2
    go_wp2_with fail
    refine (itoa_any b (by omega) (by omega) _ HG2.out).mono ?_
    rintro e w3 ⟨s',hs',rfl,hB'⟩
    have hsz':s'.size≤21:=by have:=Lib.itoa_length_le b (by omega) (by omega);rw [← hs'] at this;exact this
    have HS':=Lib.hid hs'
    clear hs'
    go_wp2_with fail
    go_ret
    refine ⟨_,?_,rfl,Below.trans (Below.trans qbl (hB.mono (by simp))) (hB'.mono (by have:=hB.size;simp at this;omega))⟩
    rw [HT.out,← HS.out,← HS'.out]
    simp
end Go.Proofs.YthihcjgmlbnapaaGreatDoor
namespace Go.Proofs.YthihcjgmlbnapaaGreatDoor
open Go.RowKit
theorem ratText_le {q:Rat} (h:Small q):(ratText q).length≤30:=by
 have l1:(Lib.itoa q.num).length≤9:=by
  have:=nDigits_le8 h.1
  rcases itoa_cases q.num with ⟨_,e⟩|⟨_,e⟩<;>rw [e]<;>simp [Lib.decDigits_length]<;>omega
 have l2:(Lib.decDigits q.den).length≤8:=by rw [Lib.decDigits_length];exact nDigits_le8 h.2
 unfold ratText;split
 ·omega
 ·simp;omega
theorem nativeOf_small {q:Rat} (s:ByteArray) (w:World) (hs:s.data.toList=ratText q) (h:Small q) :
  Calls Tryz.prog 64 #[.string s] w (RetB (.tuple #[.agg #[.int .i64 q.num,.int .i64 q.den],.bool true]) w):=by
 have:=nativeOf_any s w (by have h1:=ratText_le h;rw [← hs] at h1;have:s.size=s.data.toList.length:=rfl;unfold maxLen;omega)
 rw [natOfV,hs,natOf_ratText h] at this
 exact this
def N8 (n d:Int):Prop:=-100000000 < n∧n < 100000000∧0 < d∧d < 100000000
theorem Small.n8 {q:Rat} (h:Small q):N8 q.num q.den:=by
 have:=h.1;have:=h.2;have:=q.den_pos;unfold N8;omega
theorem mul8 (a b:Int) (a1 : -100000000 < a) (a2:a < 100000000) (b1 : -100000000 < b) (b2:b < 100000000) : -10000000000000000 < a * b∧a * b < 10000000000000000:=by
 have h1:a.natAbs * b.natAbs < 100000000 * 100000000:=Nat.mul_lt_mul'' (by omega) (by omega)
 rw [← Int.natAbs_mul] at h1
 omega
theorem add1_any (n1 d1 n2 d2:Int) (w:World) (h1:N8 n1 d1) (h2:N8 n2 d2) :
  Calls Tryz.prog 145 #[.agg #[.int .i64 n1,.int .i64 d1],.agg #[.int .i64 n2,.int .i64 d2]] w (RetB (.agg #[.int .i64 (n1 * d2+n2 * d1),.int .i64 (d1 * d2)]) w):=by
 obtain ⟨a1,a2,a3,a4⟩:=h1
 obtain ⟨b1,b2,b3,b4⟩:=h2
 obtain ⟨m1,m1'⟩:=mul8 n1 d2 a1 a2 (by omega) b4
 obtain ⟨m2,m2'⟩:=mul8 n2 d1 b1 b2 (by omega) a4
 obtain ⟨m3,m3'⟩:=mul8 d1 d2 (by omega) a4 (by omega) b4
 obtain ⟨m4,m4'⟩:=mul8 n1 n2 a1 a2 b1 b2
 obtain ⟨m5,m5'⟩:=mul8 d1 n2 (by omega) a4 b1 b2
 clear a1 a2 a3 a4 b1 b2 b3 b4
 go_enter Tryz.func145,Tryz.ntmps145
 go_wp2_with fail
 exact bodyPost_ret (v:=.agg #[.int .i64 (n1 * d2+n2 * d1),.int .i64 (d1 * d2)]) (by simp [results,Tryz.results145,go_sem]) rfl ⟨rfl,qbl⟩
theorem sub1_any (n1 d1 n2 d2:Int) (w:World) (h1:N8 n1 d1) (h2:N8 n2 d2) :
  Calls Tryz.prog 75 #[.agg #[.int .i64 n1,.int .i64 d1],.agg #[.int .i64 n2,.int .i64 d2]] w (RetB (.agg #[.int .i64 (n1 * d2 - n2 * d1),.int .i64 (d1 * d2)]) w):=by
 obtain ⟨a1,a2,a3,a4⟩:=h1
 obtain ⟨b1,b2,b3,b4⟩:=h2
 obtain ⟨m1,m1'⟩:=mul8 n1 d2 a1 a2 (by omega) b4
 obtain ⟨m2,m2'⟩:=mul8 n2 d1 b1 b2 (by omega) a4
 obtain ⟨m3,m3'⟩:=mul8 d1 d2 (by omega) a4 (by omega) b4
 obtain ⟨m4,m4'⟩:=mul8 n1 n2 a1 a2 b1 b2
 obtain ⟨m5,m5'⟩:=mul8 d1 n2 (by omega) a4 b1 b2
 clear a1 a2 a3 a4 b1 b2 b3 b4
 go_enter Tryz.func75,Tryz.ntmps75
 go_wp2_with fail
 exact bodyPost_ret (v:=.agg #[.int .i64 (n1 * d2 - n2 * d1),.int .i64 (d1 * d2)]) (by simp [results,Tryz.results75,go_sem]) rfl ⟨rfl,qbl⟩
theorem mul1_any (n1 d1 n2 d2:Int) (w:World) (h1:N8 n1 d1) (h2:N8 n2 d2) :
  Calls Tryz.prog 109 #[.agg #[.int .i64 n1,.int .i64 d1],.agg #[.int .i64 n2,.int .i64 d2]] w (RetB (.agg #[.int .i64 (n1 * n2),.int .i64 (d1 * d2)]) w):=by
 obtain ⟨a1,a2,a3,a4⟩:=h1
 obtain ⟨b1,b2,b3,b4⟩:=h2
 obtain ⟨m1,m1'⟩:=mul8 n1 d2 a1 a2 (by omega) b4
 obtain ⟨m2,m2'⟩:=mul8 n2 d1 b1 b2 (by omega) a4
 obtain ⟨m3,m3'⟩:=mul8 d1 d2 (by omega) a4 (by omega) b4
 obtain ⟨m4,m4'⟩:=mul8 n1 n2 a1 a2 b1 b2
 obtain ⟨m5,m5'⟩:=mul8 d1 n2 (by omega) a4 b1 b2
 clear a1 a2 a3 a4 b1 b2 b3 b4
 go_enter Tryz.func109,Tryz.ntmps109
 go_wp2_with fail
 exact bodyPost_ret (v:=.agg #[.int .i64 (n1 * n2),.int .i64 (d1 * d2)]) (by simp [results,Tryz.results109,go_sem]) rfl ⟨rfl,qbl⟩
theorem div1_any (n1 d1 n2 d2:Int) (w:World) (h1:N8 n1 d1) (h2:N8 n2 d2) :
  Calls Tryz.prog 79 #[.agg #[.int .i64 n1,.int .i64 d1],.agg #[.int .i64 n2,.int .i64 d2]] w (RetB (.agg #[.int .i64 (n1 * d2),.int .i64 (d1 * n2)]) w):=by
 obtain ⟨a1,a2,a3,a4⟩:=h1
 obtain ⟨b1,b2,b3,b4⟩:=h2
 obtain ⟨m1,m1'⟩:=mul8 n1 d2 a1 a2 (by omega) b4
 obtain ⟨m2,m2'⟩:=mul8 n2 d1 b1 b2 (by omega) a4
 obtain ⟨m3,m3'⟩:=mul8 d1 d2 (by omega) a4 (by omega) b4
 obtain ⟨m4,m4'⟩:=mul8 n1 n2 a1 a2 b1 b2
 obtain ⟨m5,m5'⟩:=mul8 d1 n2 (by omega) a4 b1 b2
 clear a1 a2 a3 a4 b1 b2 b3 b4
 go_enter Tryz.func79,Tryz.ntmps79
 go_wp2_with fail
 exact bodyPost_ret (v:=.agg #[.int .i64 (n1 * d2),.int .i64 (d1 * n2)]) (by simp [results,Tryz.results79,go_sem]) rfl ⟨rfl,qbl⟩
theorem quick_small {p q:Rat} (F:Nat) (n d:Int) (s t:ByteArray) (w:World) (hG:Glo w) (hs:s.data.toList=ratText p) (hp:Small p) (ht:t.data.toList=ratText q) (hq:Small q)
  (hE:∀ args w,(callFunc F args).run Tryz.prog w=.ok (.enter F args) w)
  (hF:∀ w,Calls Tryz.prog F #[.agg #[.int .i64 p.num,.int .i64 p.den],.agg #[.int .i64 q.num,.int .i64 q.den]] w (RetB (.agg #[.int .i64 n,.int .i64 d]) w))
  (hd:d≠0) (h1 : -4000000000000000000≤n) (h2:n≤4000000000000000000) (h3 : -4000000000000000000≤d) (h4:d≤4000000000000000000) :
  Calls Tryz.prog 74 #[.string s,.string t,.func (.func F) #[] #[]] w fun e w'=>∃ r:ByteArray,r.data.toList=ratText (Rat.divInt n d)∧e=.returned (.tuple #[.string r,.bool true])∧Below w.heap.size w w':=by
 have HS:=Lib.hid hs
 have HT:=Lib.hid ht
 have HG:=Lib.hid hG
 have HF:=Lib.hid hF
 have HD:=Lib.hid hd
 clear hs ht hG hF hd
 go_enter Tryz.func74,Tryz.ntmps74
 go_wp2_with fail
 refine (nativeOf_small s _ HS.out hp).mono ?_
 rintro e w1 ⟨rfl,hB1⟩
 go_wp2_with fail
 refine (nativeOf_small t _ HT.out hq).mono ?_
 rintro e w2 ⟨rfl,hB2⟩
 obtain ⟨hc2,hf2⟩:=bcell hB2
 have z2:=hB2.size
 simp only [World.size_alloc] at z2
 have c0:w2.cell? ⟨w1.heap.size,0,none⟩=some (.int .i64 p.num):=by rw [hc2 _ _ (by simp)];simp [go_sem]
 have c1:w2.cell? ⟨w1.heap.size,1,none⟩=some (.int .i64 p.den):=by rw [hc2 _ _ (by simp)];simp [go_sem]
 have z3:w1.heap.size < w2.heap.size:=by omega
 clear hc2 hf2
 go_wp2_with fail
 refine (HF.out _).mono ?_
 rintro e w3 ⟨rfl,hB3⟩
 have hB:Below w.heap.size w w3:=qbl
 go_wp2_with fail
 refine (number_any n d _ (HG.out.below hB) HD.out h1 h2 h3 h4).mono ?_
 rintro e w4 ⟨r,hr,rfl,hB4⟩
 have HR:=Lib.hid hr
 clear hr
 go_wp2_with fail
 go_ret2
 exact ⟨r,HR.out,rfl,hB.trans (hB4.mono hB.size)⟩
end Go.Proofs.YthihcjgmlbnapaaGreatDoor
namespace Go.Proofs.YthihcjgmlbnapaaGreatDoor
open Go.RowKit
def RetN (q:Rat) (w:World) (e:Ending) (w':World):Prop:=∃ r:ByteArray,r.data.toList=ratText q∧e=.returned (.tuple #[.string r,.int .i64 0])∧Below w.heap.size w w'
theorem bds8 {n1 d1 n2 d2:Int} (h1:N8 n1 d1) (h2:N8 n2 d2):(-10000000000000000 < n1 * d2∧n1 * d2 < 10000000000000000)∧(-10000000000000000 < n2 * d1∧n2 * d1 < 10000000000000000)∧(-10000000000000000 < d1 * d2∧d1 * d2 < 10000000000000000)∧(-10000000000000000 < n1 * n2∧n1 * n2 < 10000000000000000)∧(-10000000000000000 < d1 * n2∧d1 * n2 < 10000000000000000):=by
 obtain ⟨a1,a2,a3,a4⟩:=h1
 obtain ⟨b1,b2,b3,b4⟩:=h2
 exact ⟨mul8 n1 d2 a1 a2 (by omega) b4,mul8 n2 d1 b1 b2 (by omega) a4,mul8 d1 d2 (by omega) a4 (by omega) b4,mul8 n1 n2 a1 a2 b1 b2,mul8 d1 n2 (by omega) a4 b1 b2⟩
theorem Add_small {p q:Rat} (s t:ByteArray) (w:World) (hG:Glo w) (hs:s.data.toList=ratText p) (hp:Small p) (ht:t.data.toList=ratText q) (hq:Small q) :
  Calls Tryz.prog 84 #[.string s,.string t] w (RetN (p+q) w):=by
 have hd:(p.den:Int) * q.den≠0:=by have:=hp.n8;have:=hq.n8;unfold N8 at *;exact Int.ne_of_gt (Int.mul_pos (by omega) (by omega))
 obtain ⟨b1,b2,b3,b4⟩:=bds8 hp.n8 hq.n8
 have hr:Rat.divInt (p.num * q.den+q.num * p.den) ((p.den:Int) * q.den)=p+q:=by rw [Rat.add_def',← Rat.divInt_ofNat];simp
 have HR:=Lib.hid hr
 have HS:=Lib.hid hs
 have HT:=Lib.hid ht
 have HG:=Lib.hid hG
 clear hr hs ht hG
 go_enter Tryz.func84,Tryz.ntmps84
 go_wp2_with fail
 refine (quick_small 145 (p.num * q.den+q.num * p.den) ((p.den:Int) * q.den) s t _ HG.out HS.out hp HT.out hq (enters_of Tryz.func145 (by kernel_rfl) rfl) (fun w=>add1_any _ _ _ _ w hp.n8 hq.n8) hd (by omega) (by omega) (by omega) (by omega)).mono ?_
 rintro e w1 ⟨r,hr,rfl,hB1⟩
 rw [HR.out] at hr
 have HR2:=Lib.hid hr
 clear hr
 go_wp2_with fail
 go_ret2
 exact ⟨r,HR2.out,rfl,hB1⟩
theorem Sub_small {p q:Rat} (s t:ByteArray) (w:World) (hG:Glo w) (hs:s.data.toList=ratText p) (hp:Small p) (ht:t.data.toList=ratText q) (hq:Small q) :
  Calls Tryz.prog 36 #[.string s,.string t] w (RetN (p - q) w):=by
 have hd:(p.den:Int) * q.den≠0:=by have:=hp.n8;have:=hq.n8;unfold N8 at *;exact Int.ne_of_gt (Int.mul_pos (by omega) (by omega))
 obtain ⟨b1,b2,b3,b4⟩:=bds8 hp.n8 hq.n8
 have hr:Rat.divInt (p.num * q.den - q.num * p.den) ((p.den:Int) * q.den)=p - q:=by rw [Rat.sub_def',← Rat.divInt_ofNat];simp
 have HR:=Lib.hid hr
 have HS:=Lib.hid hs
 have HT:=Lib.hid ht
 have HG:=Lib.hid hG
 clear hr hs ht hG
 go_enter Tryz.func36,Tryz.ntmps36
 go_wp2_with fail
 refine (quick_small 75 (p.num * q.den - q.num * p.den) ((p.den:Int) * q.den) s t _ HG.out HS.out hp HT.out hq (enters_of Tryz.func75 (by kernel_rfl) rfl) (fun w=>sub1_any _ _ _ _ w hp.n8 hq.n8) hd (by omega) (by omega) (by omega) (by omega)).mono ?_
 rintro e w1 ⟨r,hr,rfl,hB1⟩
 rw [HR.out] at hr
 have HR2:=Lib.hid hr
 clear hr
 go_wp2_with fail
 go_ret2
 exact ⟨r,HR2.out,rfl,hB1⟩
theorem Mul_small {p q:Rat} (s t:ByteArray) (w:World) (hG:Glo w) (hs:s.data.toList=ratText p) (hp:Small p) (ht:t.data.toList=ratText q) (hq:Small q) :
  Calls Tryz.prog 57 #[.string s,.string t] w (RetN (p * q) w):=by
 have hd:(p.den:Int) * q.den≠0:=by have:=hp.n8;have:=hq.n8;unfold N8 at *;exact Int.ne_of_gt (Int.mul_pos (by omega) (by omega))
 obtain ⟨b1,b2,b3,b4⟩:=bds8 hp.n8 hq.n8
 have hr:Rat.divInt (p.num * q.num) ((p.den:Int) * q.den)=p * q:=by rw [Rat.mul_def',← Rat.divInt_ofNat];simp
 have HR:=Lib.hid hr
 have HS:=Lib.hid hs
 have HT:=Lib.hid ht
 have HG:=Lib.hid hG
 clear hr hs ht hG
 go_enter Tryz.func57,Tryz.ntmps57
 go_wp2_with fail
 refine (quick_small 109 (p.num * q.num) ((p.den:Int) * q.den) s t _ HG.out HS.out hp HT.out hq (enters_of Tryz.func109 (by kernel_rfl) rfl) (fun w=>mul1_any _ _ _ _ w hp.n8 hq.n8) hd (by omega) (by omega) (by omega) (by omega)).mono ?_
 rintro e w1 ⟨r,hr,rfl,hB1⟩
 rw [HR.out] at hr
 have HR2:=Lib.hid hr
 clear hr
 go_wp2_with fail
 go_ret2
 exact ⟨r,HR2.out,rfl,hB1⟩
end Go.Proofs.YthihcjgmlbnapaaGreatDoor
namespace Go.Proofs.YthihcjgmlbnapaaGreatDoor
open Go.RowKit
theorem ratText_ne0 {q:Rat} (h:Small q) (h0:q≠0):ratText q≠[48]:=by
 intro h1
 have h2:=natOf_ratText h
 rw [h1] at h2
 have h3:natOf [48]=some (0,1):=by decide
 rw [h3] at h2
 simp only [Option.some.injEq,Prod.mk.injEq] at h2
 exact h0 (Rat.num_eq_zero.1 h2.1.symm)
theorem Div_small {p q:Rat} (s t:ByteArray) (w:World) (hG:Glo w) (hs:s.data.toList=ratText p) (hp:Small p) (ht:t.data.toList=ratText q) (hq:Small q) (hq0:q≠0) :
  Calls Tryz.prog 37 #[.string s,.string t] w (RetN (p / q) w):=by
 have hne:(t.toList == [48])=false:=by
  rw [Lib.toList_data,ht];simpa using ratText_ne0 hq hq0
 have hqn:q.num≠0:=fun h=>hq0 (Rat.num_eq_zero.1 h)
 have hd:(p.den:Int) * q.num≠0:=Int.mul_ne_zero (by have:=p.den_pos;omega) hqn
 obtain ⟨b1,b2,b3,b4,b5⟩:=bds8 hp.n8 hq.n8
 have hr:Rat.divInt (p.num * q.den) (p.den * q.num)=p / q:=by
  rw [Rat.div_def,Rat.inv_def,← Rat.num_divInt_den p,Rat.divInt_mul_divInt,Rat.num_divInt_den]
 have HR:=Lib.hid hr
 have HS:=Lib.hid hs
 have HT:=Lib.hid ht
 have HG:=Lib.hid hG
 clear hr hs ht hG
 go_enter Tryz.func37,Tryz.ntmps37
 go_wp2_with fail
 refine (quick_small 79 (p.num * q.den) (p.den * q.num) s t _ HG.out HS.out hp HT.out hq (enters_of Tryz.func79 (by kernel_rfl) rfl) (fun w=>div1_any _ _ _ _ w hp.n8 hq.n8) hd (by omega) (by omega) (by omega) (by omega)).mono ?_
 rintro e w1 ⟨r,hr,rfl,hB1⟩
 rw [HR.out] at hr
 have HR2:=Lib.hid hr
 clear hr
 go_wp2_with fail
 go_ret2
 exact ⟨r,HR2.out,rfl,hB1⟩
theorem Compare_small {p q:Rat} (s t:ByteArray) (w:World) (hs:s.data.toList=ratText p) (hp:Small p) (ht:t.data.toList=ratText q) (hq:Small q) :
  Calls Tryz.prog 30 #[.string s,.string t] w (RetB (.tuple #[.int .i64 (Lib.compareInt (p.num * q.den) (q.num * p.den)),.int .i64 0]) w):=by
 obtain ⟨m1,m2,_⟩:=bds8 hp.n8 hq.n8
 have HS:=Lib.hid hs
 have HT:=Lib.hid ht
 clear hs ht
 go_enter Tryz.func30,Tryz.ntmps30
 go_wp2_with fail
 refine (nativeOf_small s _ HS.out hp).mono ?_
 rintro e w1 ⟨rfl,hB1⟩
 go_wp2_with fail
 refine (nativeOf_small t _ HT.out hq).mono ?_
 rintro e w2 ⟨rfl,hB2⟩
 obtain ⟨hc2,hf2⟩:=bcell hB2
 have z2:=hB2.size
 simp only [World.size_alloc] at z2
 have c0:w2.cell? ⟨w1.heap.size,0,none⟩=some (.int .i64 p.num):=by rw [hc2 _ _ (by simp)];simp [go_sem]
 have c1:w2.cell? ⟨w1.heap.size,1,none⟩=some (.int .i64 p.den):=by rw [hc2 _ _ (by simp)];simp [go_sem]
 have z3:w1.heap.size < w2.heap.size:=by omega
 obtain ⟨m1a,m1b⟩:=m1
 obtain ⟨m2a,m2b⟩:=m2
 clear hc2 hf2
 go_wp2_with fail
 refine (Tryz.cmp_Compare_int _ _ _).mono ?_
 rintro e w3 ⟨rfl,rfl⟩
 go_wp2_with fail
 go_ret2
 exact ⟨rfl,qbl⟩
theorem tdiv_bds {n d:Int} (a1 : -100000000 < n) (a2:n < 100000000) (a3:0 < d) : -100000000 < n.tdiv d∧n.tdiv d < 100000000:=by
 have h1:(n.tdiv d).natAbs≤n.natAbs:=by rw [Int.natAbs_tdiv];exact Nat.div_le_self _ _
 omega
theorem tdiv_floor (n d:Int) (hd:0 < d):(n.tmod d < 0→n / d=n.tdiv d - 1)∧(¬ n.tmod d < 0→n / d=n.tdiv d):=by
 have h1:=Int.mul_tdiv_add_tmod n d
 have h2:=Int.mul_ediv_add_emod n d
 have h3:=Int.emod_nonneg n (show d≠0 by omega)
 have h4:=Int.emod_lt_of_pos n hd
 have h5:n.tmod d < d:=Int.tmod_lt_of_pos n hd
 have h6 : -d < n.tmod d:=by have:=Int.lt_tmod_of_pos n hd;omega
 constructor
 ·intro h
  have h7:d * (n / d - (n.tdiv d - 1)) < d * 1∧d * (-1) < d * (n / d - (n.tdiv d - 1)):=by
   rw [Int.mul_sub,Int.mul_sub];omega
  have:=Int.lt_of_mul_lt_mul_left h7.1 (by omega)
  have:=Int.lt_of_mul_lt_mul_left h7.2 (by omega)
  omega
 ·intro h
  have h7:d * (n / d - n.tdiv d) < d * 1∧d * (-1) < d * (n / d - n.tdiv d):=by
   rw [Int.mul_sub];omega
  have:=Int.lt_of_mul_lt_mul_left h7.1 (by omega)
  have:=Int.lt_of_mul_lt_mul_left h7.2 (by omega)
  omega
theorem ratText_int (n:Int):ratText n=Lib.itoa n:=by simp [ratText]
theorem Floor_small {p:Rat} (s:ByteArray) (w:World) (hG:Glo w) (hs:s.data.toList=ratText p) (hp:Small p) :
  Calls Tryz.prog 38 #[.string s] w (RetN (p.floor:Int) w):=by
 have HS:=Lib.hid hs
 have HG:=Lib.hid hG
 obtain ⟨a1,a2,a3,a4⟩:=hp.n8
 have hz:¬ ((p.den:Nat):Int)=0:=by omega
 have ht:=tdiv_floor p.num p.den a3
 have hb : -100000000 < p.num.tdiv p.den∧p.num.tdiv p.den < 100000000:=tdiv_bds a1 a2 a3
 have hb2 : -100000000 < p.num.tmod p.den∧p.num.tmod p.den < 100000000:=by
  have:=Int.tmod_lt_of_pos p.num a3;have:=Int.lt_tmod_of_pos p.num a3;omega
 obtain ⟨hb1,hb2,⟨hb3,hb4⟩⟩:=(⟨hb.1,hb.2,hb2⟩:_∧_∧_)
 have hw1:IntKind.i64.wrap (p.num.tdiv p.den)=p.num.tdiv p.den:=IntWalk.i64_in _ (by omega)
 have hw2:IntKind.i64.wrap (p.num.tmod p.den)=p.num.tmod p.den:=IntWalk.i64_in _ (by omega)
 obtain ⟨t,hq⟩:∃ t,p.num.tdiv p.den=t:=⟨_,rfl⟩
 obtain ⟨m,hm⟩:∃ m,p.num.tmod p.den=m:=⟨_,rfl⟩
 rw [hq] at hb1 hb2 hw1 ht
 rw [hm] at hb3 hb4 hw2 ht
 by_cases h:m < 0
 ·have hfl:=ht.1 h
  have HF:Hid (ratText (p.floor:Int)=Lib.itoa (t - 1)):=Lib.hid (by rw [ratText_int,Rat.floor_def,hfl])
  clear hs hG ht hb hfl
  go_enter Tryz.func38,Tryz.ntmps38
  go_wp2_with fail
  refine (nativeOf_small s _ HS.out hp).mono ?_
  rintro e w1 ⟨rfl,hB1⟩
  go_wp2_with fail
  refine (itoa_any _ (by omega) (by omega) _ (HG.out.below qbl)).mono ?_
  rintro e w2 ⟨r,hr,rfl,hB2⟩
  have HR:=Lib.hid hr
  clear hr
  go_wp2_with fail
  go_ret2
  exact ⟨r,HR.out.trans HF.out.symm,rfl,qbl⟩
 ·have hfl:=ht.2 h
  have HF:Hid (ratText (p.floor:Int)=Lib.itoa t):=Lib.hid (by rw [ratText_int,Rat.floor_def,hfl])
  have h':(decide (m < 0))=false:=by simp;omega
  clear hs hG ht hb hfl h
  go_enter Tryz.func38,Tryz.ntmps38
  go_wp2_with fail
  refine (nativeOf_small s _ HS.out hp).mono ?_
  rintro e w1 ⟨rfl,hB1⟩
  go_wp2_with fail
  go_outline
  refine (itoa_any _ (by omega) (by omega) _ (HG.out.below qbl)).mono ?_
  rintro e w2 ⟨r,hr,rfl,hB2⟩
  have HR:=Lib.hid hr
  clear hr
  go_wp2_with fail
  go_ret2
  exact ⟨r,HR.out.trans HF.out.symm,rfl,qbl⟩
end Go.Proofs.YthihcjgmlbnapaaGreatDoor
namespace Go.Proofs.YthihcjgmlbnapaaGreatDoor
open Go.RowKit
theorem digits_any (s:ByteArray) (w:World) (hs:s.size≤maxLen) :
  Calls Tryz.prog 156 #[.string s] w (RetQ (.int .i64 (digs s.data.toList:Nat)) w):=by
 unfold maxLen at hs
 go_enter Tryz.func156,Tryz.ntmps156
 go_upto_block 0 with fail
 go_cut [3] (fun i wr=>i=.int .i64 (nDig s.data.toList:Nat)∧wr=w)
 case first =>
  go_wp2_with fail
  go_loopw [3] (fun i wr=>∃ k:Nat,k≤nDig s.data.toList∧i=.int .i64 k∧wr=w) (fun i _=>s.size - (intOf i).toNat)
  case atStart=>exact ⟨0,Nat.zero_le _,rfl,rfl⟩
  case round =>
   obtain ⟨k,hk,rfl,rfl⟩:=hrel
   have hkn:=nDig_le s.data.toList
   have hln:s.data.toList.length=s.size:=rfl
   by_cases hlt:k < nDig s.data.toList
   ·have hks:k < s.size:=by omega
    obtain ⟨hd1,hd2⟩:=(isDig_iff _).1 (isDig_of_lt s.data.toList k hlt hks)
    have hd1':(48:Int)≤(s[k].toNat:Int):=by exact_mod_cast hd1
    have hd2':(s[k].toNat:Int)≤57:=by exact_mod_cast hd2
    clear hd1 hd2 hln
    go_wp2
    go_roundw
    case rel=>exact ⟨k+1,hlt,by go_num,by trivial⟩
    case measure=>simp [intOf];omega
   ·have hK:k=nDig s.data.toList:=by omega
    subst hK
    by_cases hks:nDig s.data.toList < s.size
    ·have hd:=not_isDig_at s.data.toList hks
     by_cases hd1:(48:Int)≤(s[nDig s.data.toList].toNat:Int)
     ·have hd2:¬ (s[nDig s.data.toList].toNat:Int)≤57:=fun h=>by
       have:isDig s.data.toList[nDig s.data.toList]=true:=(isDig_iff _).2 ⟨by exact_mod_cast hd1,by exact_mod_cast h⟩
       rw [this] at hd;cases hd
      clear hd hln
      go_wp2
      go_meet
      exact ⟨rfl,rfl⟩
     ·clear hd hln
      go_wp2
      go_meet
      exact ⟨rfl,rfl⟩
    ·clear hln
     go_wp2
     go_meet
     exact ⟨rfl,rfl⟩
 case rest =>
  obtain ⟨rfl,rfl⟩:=hcut
  have hkn:nDig s.data.toList≤s.size:=nDig_le s.data.toList
  by_cases h1:1 < nDig s.data.toList
  ·have h1':(1:Int) < (nDig s.data.toList:Nat):=by omega
   have hs0:0 < s.size:=by omega
   by_cases hz:((s[0].toNat:Int) == 48)=true
   ·have HD:Hid (digs s.data.toList=0):=Lib.hid (if_pos ⟨h1,headq hs0 hz⟩)
    go_wp2
    go_ret
    exact ⟨by rw [HD.out];rfl,0,rfl⟩
   ·have hz':((s[0].toNat:Int) == 48)=false:=by simpa using hz
    have HD:Hid (digs s.data.toList=nDig s.data.toList):=Lib.hid (if_neg fun h=>hz (headq' hs0 h.2))
    go_wp2
    go_ret
    exact ⟨by rw [HD.out];rfl,0,rfl⟩
  ·have HD:Hid (digs s.data.toList=nDig s.data.toList):=Lib.hid (if_neg fun h=>h1 h.1)
   have h1':¬ (1:Int) < (nDig s.data.toList:Nat):=by omega
   go_wp2
   go_ret
   exact ⟨by rw [HD.out];rfl,0,rfl⟩
end Go.Proofs.YthihcjgmlbnapaaGreatDoor
namespace Go.Proofs.YthihcjgmlbnapaaGreatDoor
open Go.RowKit
def RetP (q:Rat) (v:Value) (w:World) (e:Ending) (w':World):Prop:=∃ a b:ByteArray,Hid (a.data.toList=Lib.itoa q.num)∧Hid (b.data.toList=Lib.decDigits q.den)∧e=.returned (.tuple #[.agg #[.string a,.string b],v])∧Below w.heap.size w w'
theorem one_digits:Lib.decDigits 1=[49]:=by rw [Lib.decDigits_one (by omega)];decide
theorem digits_dec {n:Nat} (s:ByteArray) (w:World) (hs:s.size≤maxLen) (h:s.data.toList=Lib.decDigits n) :
  Calls Tryz.prog 156 #[.string s] w (RetQ (.int .i64 (s.size:Nat)) w):=by
 have:=digits_any s w hs
 rw [h,digs_dec,← h] at this
 exact this
theorem size_dec {s:ByteArray} {n:Nat} (h:s.data.toList=Lib.decDigits n):((s.size:Int) == 0)=false:=by
 have:s.size≠0:=fun h0=>decDigits_ne n (by rw [← h];exact data_nil h0)
 simp [this]
theorem ne_of_list {s:ByteArray} {l m:List UInt8} (h:s.data.toList=l) (hn:l≠m):(s.toList == m)=false:=by
 rw [Lib.toList_data,h];simpa using hn
theorem cut_valid {q:Rat} (s:ByteArray) (w:World) (hG:Glo w) (hs:s.data.toList=ratText q) (hl:s.size < 4294967281) :
  Calls Tryz.prog 99 #[.string s] w (RetP q (.bool true) w):=by
 have HG:=Lib.hid hG
 have htr:=trim_itoa q.num
 have HT:=Lib.hid htr.1
 have hneg:∃ c,Lib.hasPrefix (Lib.itoa q.num) [45]=c∧(c=true→Lib.decDigits q.num.natAbs≠[48]):=⟨_,rfl,fun h=>dec_ne_zero (htr.2 h)⟩
 obtain ⟨c,hp,hz⟩:=hneg
 have HP:=Lib.hid hp
 have HZ:=Lib.hid hz
 clear hp hz htr
 by_cases h1:q.den=1
 ·have hc:Lib.cut s.data.toList [47]=(Lib.itoa q.num,[],false):=by
   rw [hs,ratText,if_pos h1];exact cut_itoa _
  have hq1:([49]:List UInt8)=Lib.decDigits q.den:=by rw [h1];exact one_digits.symm
  have HC:=Lib.hid hc
  have H1:=Lib.hid hq1
  have hll:(Lib.itoa q.num).length=s.size:=by rw [← show s.data.toList.length=s.size from rfl,hs,ratText,if_pos h1]
  have HL:=Lib.hid hll
  clear hs hG hc hq1 h1 hll
  cases c
  all_goals
   go_enter Tryz.func99,Tryz.ntmps99
   go_wp2_with fail
   refine (cut_any _ _ _ (HG.out.below qbl) hl HC.out).mono ?_
   rintro e w1 ⟨a,b,ha,hb,rfl,n1,rfl⟩
   have hx:=HT.out
   have hy:=HP.out
   rw [← ha.out] at hx hy
   have HX:=Lib.hid hx
   have HY:=Lib.hid hy
   clear hx hy
   go_wp2_with fail
   refine (cutPrefix_any a _ _ HX.out HY.out).mono ?_
   rintro e w2 ⟨o,ho,rfl,rfl⟩
   have hol:o.size≤maxLen:=by
    have e1:o.size=(Lib.decDigits q.num.natAbs).length:=by rw [← ho.out];rfl
    have e2:=(trim_len q.num)
    have e3:=HL.out
    unfold maxLen;omega
   have hz1:=size_dec ho.out
   first|(have hz2:=ne_of_list ho.out (HZ.out trivial))|(have hz2:=ne_of_list ho.out (HZ.out rfl))|skip
   go_wp2_with fail
   refine (digits_dec o _ hol ho.out).mono ?_
   rintro e w3 ⟨rfl,n2,rfl⟩
   go_wp2_with fail
   refine bodyPost_ret (v:=.tuple #[.agg #[.string a,.string ⟨#[49]⟩],.bool true]) (by simp [results,Tryz.results99,go_sem]) rfl ⟨a,⟨#[49]⟩,ha,H1.out,rfl,qbl⟩
 ·have hc:Lib.cut s.data.toList [47]=(Lib.itoa q.num,Lib.decDigits q.den,true):=by
   rw [hs,ratText,if_neg h1];exact cut_frac _ _
  have HC:=Lib.hid hc
  have hll:(Lib.itoa q.num).length+(Lib.decDigits q.den).length < s.size:=by rw [← show s.data.toList.length=s.size from rfl,hs,ratText,if_neg h1];simp
  have HL:=Lib.hid hll
  have hd0:=dec_ne_zero q.den_pos
  have hd1:=dec_ne_one h1
  have HD0:=Lib.hid hd0
  have HD1:=Lib.hid hd1
  clear hs hG hc h1 hll hd0 hd1
  cases c
  all_goals
   go_enter Tryz.func99,Tryz.ntmps99
   go_wp2_with fail
   refine (cut_any _ _ _ (HG.out.below qbl) hl HC.out).mono ?_
   rintro e w1 ⟨a,b,ha,hb,rfl,n1,rfl⟩
   have hx:=HT.out
   have hy:=HP.out
   rw [← ha.out] at hx hy
   have HX:=Lib.hid hx
   have HY:=Lib.hid hy
   clear hx hy
   go_wp2_with fail
   refine (cutPrefix_any a _ _ HX.out HY.out).mono ?_
   rintro e w2 ⟨o,ho,rfl,rfl⟩
   have hol:o.size≤maxLen:=by
    have e1:o.size=(Lib.decDigits q.num.natAbs).length:=by rw [← ho.out];rfl
    have e2:=(trim_len q.num)
    have e3:=HL.out
    unfold maxLen;omega
   have hz1:=size_dec ho.out
   first|(have hz2:=ne_of_list ho.out (HZ.out trivial))|(have hz2:=ne_of_list ho.out (HZ.out rfl))|skip
   go_wp2_with fail
   refine (digits_dec o _ hol ho.out).mono ?_
   rintro e w3 ⟨rfl,n2,rfl⟩
   have hbl:b.size≤maxLen:=by
    have e1:b.size=(Lib.decDigits q.den).length:=by rw [← hb.out];rfl
    have e3:=HL.out
    unfold maxLen;omega
   have hb1:=size_dec hb.out
   have hb2:=ne_of_list hb.out HD0.out
   have hb3:=ne_of_list hb.out HD1.out
   go_wp2_with fail
   refine (digits_dec b _ hbl hb.out).mono ?_
   rintro e w4 ⟨rfl,n3,rfl⟩
   go_wp2_with fail
   refine bodyPost_ret (v:=.tuple #[.agg #[.string a,.string b],.bool true]) (by simp [results,Tryz.results99,go_sem]) rfl ⟨a,b,ha,hb,rfl,qbl⟩
theorem read_small {q:Rat} (s:ByteArray) (w:World) (hG:Glo w) (hs:s.data.toList=ratText q) (hq:Small q) :
  Calls Tryz.prog 54 #[.string s] w (RetP q (.int .i64 0) w):=by
 have HS:=Lib.hid hs
 have HG:=Lib.hid hG
 have hl:s.size < 4294967281:=by
  have h1:=ratText_le hq
  rw [← hs] at h1
  have e:s.size=s.data.toList.length:=rfl
  omega
 clear hs hG
 go_enter Tryz.func54,Tryz.ntmps54
 go_wp2_with fail
 refine (cut_valid s _ (HG.out.below qbl) HS.out hl).mono ?_
 rintro e w1 ⟨a,b,ha,hb,rfl,hB1⟩
 obtain ⟨hc1,hf1⟩:=bcell hB1
 have z1:=hB1.size
 simp only [World.size_alloc] at z1
 have z1':w.heap.size < w1.heap.size:=by omega
 have c0:w1.cell? ⟨w.heap.size,0,none⟩=some (.string ⟨#[]⟩):=by rw [hc1 _ _ (by simp)];simp [go_sem]
 have c1:w1.cell? ⟨w.heap.size,1,none⟩=some (.string ⟨#[]⟩):=by rw [hc1 _ _ (by simp)];simp [go_sem]
 have g0:w1.frozen? ⟨w.heap.size,0,none⟩=false:=by rw [hf1 _ _ (by simp)];simp [go_sem]
 have g1:w1.frozen? ⟨w.heap.size,1,none⟩=false:=by rw [hf1 _ _ (by simp)];simp [go_sem]
 clear hc1 hf1
 go_wp2_with fail
 refine (nativeOf_small s _ HS.out hq).mono ?_
 rintro e w2 ⟨rfl,hB2⟩
 obtain ⟨hc2,hf2⟩:=bcell hB2
 have z2:=hB2.size
 simp only [World.size_alloc] at z2
 have z2':w.heap.size < w2.heap.size:=by omega
 have z2'':w1.heap.size < w2.heap.size:=by omega
 have c0':w2.cell? ⟨w.heap.size,0,none⟩=some (.string ⟨#[]⟩):=by rw [hc2 _ _ (by simp;omega)];simp [go_sem,c0,z1']
 have c1':w2.cell? ⟨w.heap.size,1,none⟩=some (.string ⟨#[]⟩):=by rw [hc2 _ _ (by simp;omega)];simp [go_sem,c1,z1']
 have g0':w2.frozen? ⟨w.heap.size,0,none⟩=false:=by rw [hf2 _ _ (by simp;omega)];simp [go_sem,g0,z1']
 have g1':w2.frozen? ⟨w.heap.size,1,none⟩=false:=by rw [hf2 _ _ (by simp;omega)];simp [go_sem,g1,z1']
 have c2:w2.cell? ⟨w1.heap.size,0,none⟩=some (.string a):=by rw [hc2 _ _ (by simp)];simp [go_sem]
 have c3:w2.cell? ⟨w1.heap.size,1,none⟩=some (.string b):=by rw [hc2 _ _ (by simp)];simp [go_sem]
 clear hc2 hf2 c0 c1 g0 g1
 go_wp2_with fail
 refine bodyPost_ret (v:=.tuple #[.agg #[.string a,.string b],.int .i64 0]) (by simp [results,Tryz.results54,go_sem,c0',c1',c2,c3,z2',z2'']) rfl ⟨a,b,ha,hb,rfl,qbl⟩
end Go.Proofs.YthihcjgmlbnapaaGreatDoor
namespace Go.Proofs.YthihcjgmlbnapaaGreatDoor
open Go.RowKit
def RetI (n:Int) (w:World) (e:Ending) (w':World):Prop:=∃ r:ByteArray,r.data.toList=Lib.itoa n∧e=.returned (.tuple #[.string r,.int .i64 0])∧Below w.heap.size w w'
theorem ICheck_ok (n:Int) (s:ByteArray) (w:World) (hs:s.data.toList=Lib.itoa n) (hl:(Lib.decDigits n.natAbs).length≤300) :
  Calls Tryz.prog 167 #[.string s] w (RetB (.int .i64 0) w):=by
 have hx:=(trim_itoa n).1
 rw [← hs] at hx
 have HX:=Lib.hid hx
 have HL:=Lib.hid hl
 by_cases h0:n=0
 ·have hz2:(s.toList == [48])=true:=by rw [Lib.toList_data,hs,h0,itoa_zero];rfl
  have HZ:Hid (Lib.decDigits n.natAbs=[48]):=Lib.hid (by rw [h0];exact Lib.decDigits_one (by omega))
  clear h0 hs hx hl
  go_enter Tryz.func167,Tryz.ntmps167
  go_wp2_with fail
  refine (trimPrefix_any s _ _ HX.out).mono ?_
  rintro e w1 ⟨o,ho,rfl,rfl⟩
  have hol:(o.size:Int)≤300:=by have h1:=HL.out;rw [← ho.out] at h1;have e:o.data.toList.length=o.size:=rfl;omega
  have ho0:¬ o.size=0:=fun h=>by have h1:=HZ.out;rw [← ho.out,data_nil h] at h1;cases h1
  have e1:=toList_ne ho0
  have e2:=toList_isEmpty ho0
  have e3:0 < o.size:=by omega
  have e4:((o[0].toNat:Int) == 48)=true:=headqc' (c:=48) e3 (by rw [ho.out,HZ.out];rfl)
  clear ho0
  go_wp2_with fail
  refine (trimDigits_any o _ (by omega) (trimS_digits _ (by rw [ho.out];exact decDigits_isDig _))).mono ?_
  rintro e w2 ⟨a,ha,rfl,hB⟩
  have e5:=toList_nil (s:=a) (congrArg List.length ha.out)
  go_wp2_with fail
  go_ret
  exact ⟨rfl,qbl⟩
 ·have hz2:Hid ((Lib.decDigits n.natAbs).head?≠some 48):=Lib.hid (decDigits_head' (by omega))
  clear h0 hs hx hl
  go_enter Tryz.func167,Tryz.ntmps167
  go_wp2_with fail
  refine (trimPrefix_any s _ _ HX.out).mono ?_
  rintro e w1 ⟨o,ho,rfl,rfl⟩
  have hol:(o.size:Int)≤300:=by have h1:=HL.out;rw [← ho.out] at h1;have e:o.data.toList.length=o.size:=rfl;omega
  have ho0:¬ o.size=0:=fun h=>decDigits_ne n.natAbs (by rw [← ho.out,data_nil h])
  have e1:=toList_ne ho0
  have e2:=toList_isEmpty ho0
  have e3:0 < o.size:=by omega
  have e4:((o[0].toNat:Int) == 48)=false:=by
   refine Bool.eq_false_iff.2 fun h=>hz2.out ?_
   rw [← ho.out];exact headq e3 h
  clear ho0
  go_wp2_with fail
  refine (trimDigits_any o _ (by omega) (trimS_digits _ (by rw [ho.out];exact decDigits_isDig _))).mono ?_
  rintro e w2 ⟨a,ha,rfl,hB⟩
  have e5:=toList_nil (s:=a) (congrArg List.length ha.out)
  go_wp2_with fail
  go_ret
  exact ⟨rfl,qbl⟩
theorem Iboth_ok (x y:Int) (s t:ByteArray) (w:World) (hs:s.data.toList=Lib.itoa x) (hx:(Lib.decDigits x.natAbs).length≤300) (ht:t.data.toList=Lib.itoa y) (hy:(Lib.decDigits y.natAbs).length≤300) :
  Calls Tryz.prog 126 #[.string s,.string t] w (RetB (.int .i64 0) w):=by
 have HS:=Lib.hid hs
 have HT:=Lib.hid ht
 clear hs ht
 go_enter Tryz.func126,Tryz.ntmps126
 go_wp2_with fail
 refine (ICheck_ok x s _ HS.out hx).mono ?_
 rintro e w1 ⟨rfl,hB1⟩
 go_wp2_with fail
 refine (ICheck_ok y t _ HT.out hy).mono ?_
 rintro e w2 ⟨rfl,hB2⟩
 go_wp2_with fail
 go_ret
 exact ⟨rfl,qbl⟩
theorem Ismall_ok (x y:Int) (s t:ByteArray) (w:World) (hs:s.data.toList=Lib.itoa x) (hx:s.size≤18) (ht:t.data.toList=Lib.itoa y) (hy:t.size≤18) :
  Calls Tryz.prog 127 #[.string s,.string t,.int .i64 18] w (RetB (.tuple #[.int .i64 x,.int .i64 y,.bool true]) w):=by
 have bx:x.natAbs < 10 ^ 18:=itoa_lt (by rw [← hs];exact hx)
 have by':y.natAbs < 10 ^ 18:=itoa_lt (by rw [← ht];exact hy)
 have hax:Lib.atoiAll s.data.toList=.ok x:=by rw [hs];exact atoi_itoa (by omega) (by omega)
 have hay:Lib.atoiAll t.data.toList=.ok y:=by rw [ht];exact atoi_itoa (by omega) (by omega)
 have HAX:=Lib.hid hax
 have HAY:=Lib.hid hay
 clear hs ht hax hay bx by'
 go_enter Tryz.func127,Tryz.ntmps127
 go_wp2_with fail
 refine (atoi_any s _ (by omega) HAX.out).mono ?_
 rintro e w1 ⟨rfl,hB1⟩
 go_wp2_with fail
 refine (atoi_any t _ (by omega) HAY.out).mono ?_
 rintro e w2 ⟨rfl,hB2⟩
 go_wp2_with fail
 go_quiet (fail)
 go_wp2_with fail
 go_ret3
 exact ⟨rfl,qbl⟩
end Go.Proofs.YthihcjgmlbnapaaGreatDoor
namespace Go.Proofs.YthihcjgmlbnapaaGreatDoor
open Go.RowKit
theorem dec_le_of_size {s:ByteArray} {x:Int} {k:Nat} (hs:s.data.toList=Lib.itoa x) (h:s.size≤k):(Lib.decDigits x.natAbs).length≤k:=by
 have e:s.size=s.data.toList.length:=rfl
 rw [e,hs] at h
 exact Nat.le_trans (trim_len x) h
theorem Gcd_small (x y:Int) (s t:ByteArray) (w:World) (hG:Glo w) (hs:s.data.toList=Lib.itoa x) (hx:s.size≤18) (ht:t.data.toList=Lib.itoa y) (hy:t.size≤18) :
  Calls Tryz.prog 100 #[.string s,.string t] w (RetI (Int.gcd x y:Nat) w):=by
 have hxl:=dec_le_of_size hs hx
 have hyl:=dec_le_of_size ht hy
 have bx:x.natAbs < 10 ^ 18:=itoa_lt (by rw [← hs];exact hx)
 have by':y.natAbs < 10 ^ 18:=itoa_lt (by rw [← ht];exact hy)
 have HS:=Lib.hid hs
 have HT:=Lib.hid ht
 have HG:=Lib.hid hG
 clear hs ht hG
 go_enter Tryz.func100,Tryz.ntmps100
 go_wp2_with fail
 refine (Iboth_ok x y s t _ HS.out (by omega) HT.out (by omega)).mono ?_
 rintro e w1 ⟨rfl,hB1⟩
 go_wp2_with fail
 refine (Ismall_ok x y s t _ HS.out hx HT.out hy).mono ?_
 rintro e w2 ⟨rfl,hB2⟩
 have hB:Below w.heap.size w w2:=qbl
 clear hB1 hB2
 go_wp2_with fail
 go_loopw [7,8] (fun a b wr=>∃ m n:Int,a=.int .i64 m∧b=.int .i64 n∧m.natAbs < 10 ^ 18∧n.natAbs < 10 ^ 18∧Int.gcd m n=Int.gcd x y∧Below w.heap.size w wr) (fun _ b _=>(intOf b).natAbs)
 case atStart=>exact ⟨x,y,rfl,rfl,bx,by',rfl,hB⟩
 case round =>
  obtain ⟨m,n,rfl,rfl,hm,hn,hg,hBr⟩:=hrel
  have HGG:=Lib.hid hg
  clear hg hB
  by_cases h0:n=0
  ·subst h0
   have hgm:Hid (Int.gcd x y=m.natAbs):=Lib.hid (by rw [← HGG.out,Int.gcd_zero_right])
   go_wp2_with fail
   refine (itoa_any (max m (-m)) (by omega) (by omega) _ (HG.out.below hBr)).mono ?_
   rintro e w3 ⟨r,hr,rfl,hB3⟩
   have HR:=Lib.hid hr
   clear hr
   go_wp2_with fail
   go_ret2
   exact ⟨r,by rw [HR.out,hgm.out];congr 1;omega,rfl,hBr.trans (hB3.mono hBr.size)⟩
  ·have hne:((n:Int) != 0)=true:=by simp [h0]
   have hnz:¬ n=0:=h0
   obtain ⟨q,hq⟩:∃ q,m.tmod n=q:=⟨_,rfl⟩
   have hqa:q.natAbs=m.natAbs % n.natAbs:=by rw [← hq,Int.natAbs_tmod]
   have hqn:q.natAbs < n.natAbs:=by rw [hqa];exact Nat.mod_lt _ (by omega)
   have hqg:Int.gcd n q=Int.gcd x y:=by
    rw [← HGG.out,Int.gcd,Int.gcd,hqa,Nat.gcd_comm m.natAbs,Nat.gcd_comm n.natAbs]
    exact (Nat.gcd_rec n.natAbs m.natAbs).symm
   have hw:IntKind.i64.wrap q=q:=IntWalk.i64_in _ (by omega)
   have HQ:=Lib.hid hqg
   clear hqa hqg
   go_wp2_with fail
   go_quiet (fail)
   go_wp2_with fail
   go_roundw
   case rel=>exact ⟨n,q,rfl,rfl,hn,by omega,HQ.out,bw2 hBr _⟩
   case measure=>simp [intOf];omega
theorem eq_of_list {s:ByteArray} {m:List UInt8} (h:s.data.toList=m):(s.toList == m)=true:=by
 rw [Lib.toList_data,h];simp
theorem itoa_one:Lib.itoa 1=[49]:=by rw [Lib.itoa,if_neg (by omega)];exact one_digits
theorem itoa_ne1 {n:Int} (h:n≠1):Lib.itoa n≠[49]:=by
 rcases itoa_cases n with ⟨h1,e⟩|⟨h1,e⟩
 ·rw [e];intro h2;injection h2 with h3 h4;exact absurd h3 (by decide)
 ·rw [e];exact dec_ne_one (by omega)
theorem tmod_floor (n d:Int) (hd:0 < d):(n.tmod d < 0→n % d=n.tmod d+d)∧(¬ n.tmod d < 0→n % d=n.tmod d):=by
 have h1:=Int.mul_tdiv_add_tmod n d
 have h2:=Int.mul_ediv_add_emod n d
 have h3:=tdiv_floor n d hd
 constructor
 ·intro h
  have:=h3.1 h
  rw [this,Int.mul_sub] at h2;omega
 ·intro h
  have:=h3.2 h
  rw [this] at h2;omega
theorem Divide_small (x y:Int) (s t:ByteArray) (w:World) (hG:Glo w) (hs:s.data.toList=Lib.itoa x) (hx:s.size≤18) (ht:t.data.toList=Lib.itoa y) (hy:t.size≤18) (hy0:0 < y) :
  Calls Tryz.prog 81 #[.string s,.string t] w fun e w'=>∃ q r:ByteArray,q.data.toList=Lib.itoa (x / y)∧r.data.toList=Lib.itoa (x % y)∧e=.returned (.tuple #[.string q,.string r,.int .i64 0])∧Below w.heap.size w w':=by
 have hxl:=dec_le_of_size hs hx
 have hyl:=dec_le_of_size ht hy
 have bx:x.natAbs < 10 ^ 18:=itoa_lt (by rw [← hs];exact hx)
 have by':y.natAbs < 10 ^ 18:=itoa_lt (by rw [← ht];exact hy)
 have hne:(t.toList == [48])=false:=ne_of_list ht (itoa_ne0 (by omega))
 have HS:=Lib.hid hs
 have HT:=Lib.hid ht
 have HG:=Lib.hid hG
 have t1:=tdiv_floor x y hy0
 have t2:=tmod_floor x y hy0
 obtain ⟨q,hq⟩:∃ q,x.tdiv y=q:=⟨_,rfl⟩
 obtain ⟨r,hr⟩:∃ r,x.tmod y=r:=⟨_,rfl⟩
 rw [hq,hr] at t1
 rw [hr] at t2
 have hqa:q.natAbs≤x.natAbs:=by rw [← hq,Int.natAbs_tdiv];exact Nat.div_le_self _ _
 have hra:r < y∧-y < r:=by
  have:=Int.tmod_lt_of_pos x hy0;have:=Int.lt_tmod_of_pos x hy0;omega
 obtain ⟨r1,r2⟩:=hra
 have hw1:IntKind.i64.wrap q=q:=IntWalk.i64_in _ (by omega)
 have hw2:IntKind.i64.wrap r=r:=IntWalk.i64_in _ (by omega)
 have hyz:¬ y=0:=by omega
 have hyn:¬ y < 0:=by omega
 have hyd:decide (y < 0)=false:=by simpa using hyn
 by_cases h:r < 0
 ·have hrn:(r != 0)=true:=by simp;omega
  have hrd:decide (r < 0)=true:=by simpa using h
  have hw3:IntKind.i64.wrap (q - 1)=q - 1:=IntWalk.i64_in _ (by omega)
  have hw4:IntKind.i64.wrap (r+y)=r+y:=IntWalk.i64_in _ (by omega)
  have E1:Hid (x / y=q - 1):=Lib.hid (t1.1 h)
  have E2:Hid (x % y=r+y):=Lib.hid (t2.1 h)
  clear hs ht hG t1 t2
  go_enter Tryz.func81,Tryz.ntmps81
  go_wp2_with fail
  refine (Iboth_ok x y s t _ HS.out (by omega) HT.out (by omega)).mono ?_
  rintro e w1 ⟨rfl,hB1⟩
  go_wp2_with fail
  refine (Ismall_ok x y s t _ HS.out hx HT.out hy).mono ?_
  rintro e w2 ⟨rfl,hB2⟩
  go_wp2_with fail
  go_quiet (fail)
  go_wp2_with fail
  refine (itoa_any (q - 1) (by omega) (by omega) _ (HG.out.below qbl)).mono ?_
  rintro e w3 ⟨u,hu,rfl,hB3⟩
  have HU:=Lib.hid hu
  clear hu
  go_wp2_with fail
  refine (itoa_any (r+y) (by omega) (by omega) _ (HG.out.below qbl)).mono ?_
  rintro e w4 ⟨v,hv,rfl,hB4⟩
  have HV:=Lib.hid hv
  clear hv
  go_wp2_with fail
  go_ret3
  exact ⟨u,v,by rw [HU.out,E1.out],by rw [HV.out,E2.out],rfl,qbl⟩
 ·have hrd:decide (r < 0)=false:=by simpa using h
  have E1:Hid (x / y=q):=Lib.hid (t1.2 h)
  have E2:Hid (x % y=r):=Lib.hid (t2.2 h)
  have hr0:(0:Int)≤r:=by omega
  clear hs ht hG t1 t2 h
  by_cases hz:r=0
  ·have hrn:(r != 0)=false:=by simp [hz]
   clear hz
   go_enter Tryz.func81,Tryz.ntmps81
   go_wp2_with fail
   refine (Iboth_ok x y s t _ HS.out (by omega) HT.out (by omega)).mono ?_
   rintro e w1 ⟨rfl,hB1⟩
   go_wp2_with fail
   refine (Ismall_ok x y s t _ HS.out hx HT.out hy).mono ?_
   rintro e w2 ⟨rfl,hB2⟩
   go_wp2_with fail
   go_quiet (fail)
   go_wp2_with fail
   refine (itoa_any (q) (by omega) (by omega) _ (HG.out.below qbl)).mono ?_
   rintro e w3 ⟨u,hu,rfl,hB3⟩
   have HU:=Lib.hid hu
   clear hu
   go_wp2_with fail
   refine (itoa_any (r) (by omega) (by omega) _ (HG.out.below qbl)).mono ?_
   rintro e w4 ⟨v,hv,rfl,hB4⟩
   have HV:=Lib.hid hv
   clear hv
   go_wp2_with fail
   go_ret3
   exact ⟨u,v,by rw [HU.out,E1.out],by rw [HV.out,E2.out],rfl,qbl⟩
  ·have hrn:(r != 0)=true:=by simp [hz]
   clear hz
   go_enter Tryz.func81,Tryz.ntmps81
   go_wp2_with fail
   refine (Iboth_ok x y s t _ HS.out (by omega) HT.out (by omega)).mono ?_
   rintro e w1 ⟨rfl,hB1⟩
   go_wp2_with fail
   refine (Ismall_ok x y s t _ HS.out hx HT.out hy).mono ?_
   rintro e w2 ⟨rfl,hB2⟩
   go_wp2_with fail
   go_quiet (fail)
   go_wp2_with fail
   refine (itoa_any (q) (by omega) (by omega) _ (HG.out.below qbl)).mono ?_
   rintro e w3 ⟨u,hu,rfl,hB3⟩
   have HU:=Lib.hid hu
   clear hu
   go_wp2_with fail
   refine (itoa_any (r) (by omega) (by omega) _ (HG.out.below qbl)).mono ?_
   rintro e w4 ⟨v,hv,rfl,hB4⟩
   have HV:=Lib.hid hv
   clear hv
   go_wp2_with fail
   go_ret3
   exact ⟨u,v,by rw [HU.out,E1.out],by rw [HV.out,E2.out],rfl,qbl⟩
theorem Of_one (n:Int) (w:World) (hG:Glo w) (h0 : -9223372036854775808≤n) (h1:n≤9223372036854775807) :
  Calls Tryz.prog 31 #[.int .i64 n,.int .i64 1] w (RetN n w):=by
 have HG:=Lib.hid hG
 clear hG
 go_enter Tryz.func31,Tryz.ntmps31
 go_wp2_with fail
 refine (itoa_any n h0 h1 _ HG.out).mono ?_
 rintro e w1 ⟨r,hr,rfl,hB1⟩
 have HR:=Lib.hid hr
 clear hr
 go_wp2_with fail
 go_ret2
 exact ⟨r,by rw [HR.out,ratText_int],rfl,hB1⟩
end Go.Proofs.YthihcjgmlbnapaaGreatDoor
namespace Go.Proofs.YthihcjgmlbnapaaGreatDoor
open Go.RowKit
def ordQ (p q:Rat):Int:=if p < q then -1 else if q < p then 1 else 0
theorem compareInt_rat (p q:Rat):Lib.compareInt (p.num * q.den) (q.num * p.den)=ordQ p q:=by
 unfold Lib.compareInt ordQ
 simp only [Rat.lt_iff]
theorem ratText_inj {p q:Rat} (hp:Small p) (hq:Small q) (h:ratText p=ratText q):p=q:=by
 have h1:=natOf_ratText hp
 rw [h,natOf_ratText hq] at h1
 simp only [Option.some.injEq,Prod.mk.injEq] at h1
 exact Rat.ext h1.1.symm h1.2.symm
theorem Parts_small {q:Rat} (s:ByteArray) (w:World) (hG:Glo w) (hs:s.data.toList=ratText q) (hq:Small q) :
  Calls Tryz.prog 60 #[.string s] w fun e w'=>∃ a b:ByteArray,Hid (a.data.toList=Lib.itoa q.num)∧Hid (b.data.toList=Lib.decDigits q.den)∧e=.returned (.tuple #[.string a,.string b,.int .i64 0])∧Below w.heap.size w w':=by
 have HS:=Lib.hid hs
 have HG:=Lib.hid hG
 clear hs hG
 go_enter Tryz.func60,Tryz.ntmps60
 go_wp2_with fail
 refine (read_small s _ HG.out HS.out hq).mono ?_
 rintro e w1 ⟨a,b,ha,hb,rfl,hB1⟩
 go_wp2_with fail
 go_quiet (fail)
 go_wp2_with fail
 go_ret3
 exact ⟨a,b,ha,hb,rfl,qbl⟩
theorem Int_small (n:Int) (s:ByteArray) (w:World) (hG:Glo w) (hs:s.data.toList=ratText n) (hq:Small (n:Rat)) :
  Calls Tryz.prog 39 #[.string s] w (RetB (.tuple #[.int .i64 n,.int .i64 0]) w):=by
 have HS:=Lib.hid hs
 have HG:=Lib.hid hG
 have hn:n.natAbs < 100000000:=hq.1
 clear hs hG
 go_enter Tryz.func39,Tryz.ntmps39
 go_wp2_with fail
 refine (read_small s _ HG.out HS.out hq).mono ?_
 rintro e w1 ⟨a,b,ha,hb,rfl,hB1⟩
 have hb1:=eq_of_list (s:=b) (m:=[49]) (by rw [hb.out];exact one_digits)
 have hat:Hid (Lib.atoiAll a.data.toList=.ok n):=Lib.hid (by rw [ha.out,Rat.num_intCast];exact atoi_itoa (by omega) (by omega))
 have hal:Hid (a.size≤1000):=Lib.hid (by
  have h1:=itoa_len_le (n:=n) (k:=8) (by omega) (by omega)
  have h2:a.size=a.data.toList.length:=rfl
  rw [h2,ha.out]
  exact Nat.le_trans h1 (by omega))
 go_wp2_with fail
 refine (atoi_any a _ hal.out hat.out).mono ?_
 rintro e w2 ⟨rfl,hB2⟩
 go_wp2_with fail
 go_ret2
 exact ⟨rfl,qbl⟩
theorem short_small {q:Rat} (s:ByteArray) (w:World) (hG:Glo w) (hs:s.data.toList=ratText q) (hq:Small q) :
  Calls Tryz.prog 208 #[.string s] w (RetB (.bool true) w):=by
 have HS:=Lib.hid hs
 have HG:=Lib.hid hG
 clear hs hG
 go_enter Tryz.func208,Tryz.ntmps208
 go_wp2_with fail
 refine (Parts_small s _ HG.out HS.out hq).mono ?_
 rintro e w1 ⟨a,b,ha,hb,rfl,hB1⟩
 have hx:=(trim_itoa q.num).1
 rw [← ha.out] at hx
 have HX:=Lib.hid hx
 clear hx
 have hbl:(b.size:Int)≤8:=by
  have h1:=nDigits_le8 hq.2
  have h2:b.size=b.data.toList.length:=rfl
  rw [h2,hb.out,Lib.decDigits_length];omega
 go_wp2_with fail
 refine (trimPrefix_any a _ _ HX.out).mono ?_
 rintro e w2 ⟨o,ho,rfl,rfl⟩
 have hol:(o.size:Int)≤8:=by
  have h1:=nDigits_le8 hq.1
  have h2:o.size=o.data.toList.length:=rfl
  rw [h2,ho.out,Lib.decDigits_length];omega
 have hmx:max (o.size:Int) (b.size:Int)≤36:=by omega
 go_wp2_with fail
 go_ret
 exact ⟨rfl,qbl⟩
theorem order_small {p q:Rat} (s t:ByteArray) (w:World) (hs:s.data.toList=ratText p) (hp:Small p) (ht:t.data.toList=ratText q) (hq:Small q) :
  Calls Tryz.prog 209 #[.string s,.string t] w (RetB (.int .i64 (ordQ p q)) w):=by
 have HS:=Lib.hid hs
 have HT:=Lib.hid ht
 by_cases he:s.toList=t.toList
 ·have hpq:p=q:=by
   rw [Lib.toList_data,Lib.toList_data,hs,ht] at he
   exact ratText_inj hp hq he
  subst hpq
  have ho:Hid (ordQ p p=0):=Lib.hid (by unfold ordQ;rw [if_neg Rat.lt_irrefl,if_neg Rat.lt_irrefl])
  have hE:(s.toList == t.toList)=true:=by simpa using he
  clear hs ht he
  go_enter Tryz.func209,Tryz.ntmps209
  go_wp2_with fail
  go_ret
  exact ⟨by rw [ho.out];rfl,qbl⟩
 ·have hE:(s.toList == t.toList)=false:=by simpa using he
  clear hs ht he
  go_enter Tryz.func209,Tryz.ntmps209
  go_wp2_with fail
  refine (Compare_small s t _ HS.out hp HT.out hq).mono ?_
  rintro e w1 ⟨rfl,hB1⟩
  go_wp2_with fail
  go_ret
  exact ⟨by rw [← compareInt_rat];rfl,qbl⟩
end Go.Proofs.YthihcjgmlbnapaaGreatDoor
namespace Go.Proofs.YthihcjgmlbnapaaGreatDoor
open Go.RowKit
theorem Imul_small (x y:Int) (s t:ByteArray) (w:World) (hG:Glo w) (hs:s.data.toList=Lib.itoa x) (ht:t.data.toList=Lib.itoa y) (hl:s.size+t.size≤18) :
  Calls Tryz.prog 111 #[.string s,.string t] w (RetI (x * y) w):=by
 have hxl:=dec_le_of_size hs (show s.size≤18 by omega)
 have hyl:=dec_le_of_size ht (show t.size≤18 by omega)
 have hp:(x * y).natAbs < 10 ^ 18:=by
  have b1:x.natAbs < 10 ^ s.size:=itoa_lt (by rw [← hs];exact Nat.le_refl _)
  have b2:y.natAbs < 10 ^ t.size:=itoa_lt (by rw [← ht];exact Nat.le_refl _)
  rw [Int.natAbs_mul]
  calc x.natAbs * y.natAbs < 10 ^ s.size * 10 ^ t.size:=Nat.mul_lt_mul'' b1 b2
   _=10 ^ (s.size+t.size):=(Nat.pow_add _ _ _).symm
   _≤10 ^ 18:=Nat.pow_le_pow_right (by omega) hl
 have HS:=Lib.hid hs
 have HT:=Lib.hid ht
 have HG:=Lib.hid hG
 have hlz:((s.size:Int)+(t.size:Int))≤18:=by omega
 clear hs ht hG
 go_enter Tryz.func111,Tryz.ntmps111
 go_wp2_with fail
 refine (Iboth_ok x y s t _ HS.out (by omega) HT.out (by omega)).mono ?_
 rintro e w1 ⟨rfl,hB1⟩
 go_wp2_with fail
 refine (Ismall_ok x y s t _ HS.out (by omega) HT.out (by omega)).mono ?_
 rintro e w2 ⟨rfl,hB2⟩
 have hp1 : -1000000000000000000 < x * y:=by omega
 have hp2:x * y < 1000000000000000000:=by omega
 clear hp
 go_wp2_with fail
 refine (itoa_any (x * y) (by omega) (by omega) _ (HG.out.below qbl)).mono ?_
 rintro e w3 ⟨r,hr,rfl,hB3⟩
 have HR:=Lib.hid hr
 clear hr
 go_wp2_with fail
 go_ret2
 exact ⟨r,HR.out,rfl,qbl⟩
theorem ICompare_small (x y:Int) (s t:ByteArray) (w:World) (hs:s.data.toList=Lib.itoa x) (hx:s.size≤18) (ht:t.data.toList=Lib.itoa y) (hy:t.size≤18) :
  Calls Tryz.prog 67 #[.string s,.string t] w (RetB (.tuple #[.int .i64 (Lib.compareInt x y),.int .i64 0]) w):=by
 have hxl:=dec_le_of_size hs hx
 have hyl:=dec_le_of_size ht hy
 have HS:=Lib.hid hs
 have HT:=Lib.hid ht
 clear hs ht
 go_enter Tryz.func67,Tryz.ntmps67
 go_wp2_with fail
 refine (Iboth_ok x y s t _ HS.out (by omega) HT.out (by omega)).mono ?_
 rintro e w1 ⟨rfl,hB1⟩
 go_wp2_with fail
 refine (Ismall_ok x y s t _ HS.out hx HT.out hy).mono ?_
 rintro e w2 ⟨rfl,hB2⟩
 go_wp2_with fail
 refine (Tryz.cmp_Compare_int _ _ _).mono ?_
 rintro e w3 ⟨rfl,rfl⟩
 go_wp2_with fail
 go_ret2
 exact ⟨rfl,qbl⟩
def Mid (n:Int):Prop:=natOf (Lib.itoa n)=none∧n.natAbs < 10 ^ 10
theorem nativeOf_none (s:ByteArray) (w:World) (hs:s.size≤1000) (h:natOf s.data.toList=none) :
  Calls Tryz.prog 64 #[.string s] w (RetB (.tuple #[.agg #[.int .i64 0,.int .i64 0],.bool false]) w):=by
 have:=nativeOf_any s w (by unfold maxLen;omega)
 rw [natOfV,h] at this
 exact this
theorem read_mid {n:Int} (s:ByteArray) (w:World) (hG:Glo w) (hs:s.data.toList=Lib.itoa n) (hn:Mid n) :
  Calls Tryz.prog 54 #[.string s] w (RetP (n:Rat) (.int .i64 0) w):=by
 have hsz:s.size≤11:=by
  have h1:=itoa_len_le (n:=n) (k:=10) hn.2 (by omega)
  have h2:s.size=s.data.toList.length:=rfl
  rw [h2,hs];exact h1
 have hno:natOf s.data.toList=none:=by rw [hs];exact hn.1
 have hrt:s.data.toList=ratText (n:Rat):=by rw [hs,ratText_int]
 have HS:=Lib.hid hrt
 have HN:=Lib.hid hno
 have HG:=Lib.hid hG
 have HM:=Lib.hid hn
 clear hs hG hno hrt hn
 go_enter Tryz.func54,Tryz.ntmps54
 go_wp2_with fail
 refine (cut_valid s _ (HG.out.below qbl) HS.out (by omega)).mono ?_
 rintro e w1 ⟨a,b,ha,hb,rfl,hB1⟩
 have c0:w1.cell? ⟨w.heap.size,0,none⟩=some (.string ⟨#[]⟩):=keep hB1 (by simp [go_sem])
 have c1:w1.cell? ⟨w.heap.size,1,none⟩=some (.string ⟨#[]⟩):=keep hB1 (by simp [go_sem])
 have g0:w1.frozen? ⟨w.heap.size,0,none⟩=false:=keepf hB1 (v:=.string ⟨#[]⟩) (by simp [go_sem]) (by simp [go_sem])
 have g1:w1.frozen? ⟨w.heap.size,1,none⟩=false:=keepf hB1 (v:=.string ⟨#[]⟩) (by simp [go_sem]) (by simp [go_sem])
 have z1:=lt_of_cell c0
 go_wp2_with fail
 refine (nativeOf_none s _ (by omega) HN.out).mono ?_
 rintro e w2 ⟨rfl,hB2⟩
 have c0':w2.cell? ⟨w.heap.size,0,none⟩=some (.string ⟨#[]⟩):=keep hB2 (keep (bw4 (bw0 _ _) _) c0)
 have c1':w2.cell? ⟨w.heap.size,1,none⟩=some (.string ⟨#[]⟩):=keep hB2 (keep (bw4 (bw0 _ _) _) c1)
 have g0':w2.frozen? ⟨w.heap.size,0,none⟩=false:=keepf hB2 (keep (bw4 (bw0 _ _) _) c0) (keepf (bw4 (bw0 _ _) _) c0 g0)
 have g1':w2.frozen? ⟨w.heap.size,1,none⟩=false:=keepf hB2 (keep (bw4 (bw0 _ _) _) c1) (keepf (bw4 (bw0 _ _) _) c1 g1)
 have c2:w2.cell? ⟨w1.heap.size,0,none⟩=some (.string a):=keep hB2 (by simp [go_sem])
 have c3:w2.cell? ⟨w1.heap.size,1,none⟩=some (.string b):=keep hB2 (by simp [go_sem])
 have z2:=lt_of_cell c0'
 have z3:=lt_of_cell c2
 have hx:=(trim_itoa n).1
 have ha':a.data.toList=Lib.itoa n:=ha.out
 rw [← ha'] at hx
 have HX:=Lib.hid hx
 have hb1:(b.toList == [49])=true:=eq_of_list (by rw [hb.out];exact one_digits)
 have hbl:(b.size:Int)≤300:=by
  have h2:b.size=b.data.toList.length:=rfl
  rw [h2,hb.out]
  rw [show (n:Rat).den=1 from rfl,one_digits];decide
 clear hx ha' c0 c1 g0 g1
 go_wp2_with fail
 refine (trimPrefix_any a _ _ HX.out).mono ?_
 rintro e w3 ⟨o,ho,rfl,rfl⟩
 have hol:(o.size:Int)≤300:=by
  have h2:o.size=o.data.toList.length:=rfl
  have h3:=nDigits_le_of_lt HM.out.2 (by omega)
  rw [h2,ho.out,Lib.decDigits_length];omega
 go_wp2_with fail
 refine bodyPost_ret (v:=.tuple #[.agg #[.string a,.string b],.int .i64 0]) (by simp [results,Tryz.results54,go_sem,c0',c1',c2,c3,z2,z3]) rfl ⟨a,b,ha,hb,rfl,qbl⟩
end Go.Proofs.YthihcjgmlbnapaaGreatDoor
namespace Go.Proofs.YthihcjgmlbnapaaGreatDoor
open Go.RowKit
theorem itoa_natCast (n:Nat):Lib.itoa (n:Int)=Lib.decDigits n:=by
 rcases itoa_cases n with ⟨h,_⟩|⟨_,e⟩
 ·omega
 ·rw [e];rfl
def RetC (u v:Int) (w:World) (e:Ending) (w':World):Prop:=∃ r s:ByteArray,Hid (r.data.toList=Lib.itoa u)∧Hid (s.data.toList=Lib.itoa v)∧e=.returned (.tuple #[.string r,.string s,.int .i64 0])∧Below w.heap.size w w'
theorem crossed_ok (xn yn:Int) (xd yd:Nat) (a b c d:ByteArray) (w:World) (hG:Glo w) (ha:a.data.toList=Lib.itoa xn) (hb:b.data.toList=Lib.decDigits xd) (hc:c.data.toList=Lib.itoa yn) (hd:d.data.toList=Lib.decDigits yd) (h1:a.size+d.size≤18) (h2:c.size+b.size≤18) :
  Calls Tryz.prog 66 #[.agg #[.string a,.string b],.agg #[.string c,.string d]] w (RetC (xn * yd) (yn * xd) w):=by
 rw [← itoa_natCast] at hb hd
 have HA:=Lib.hid ha
 have HB:=Lib.hid hb
 have HC:=Lib.hid hc
 have HD:=Lib.hid hd
 have HG:=Lib.hid hG
 clear hG ha hb hc hd
 go_enter Tryz.func66,Tryz.ntmps66
 go_wp2_with fail
 refine (Imul_small xn yd a d _ (HG.out.below qbl) HA.out HD.out h1).mono ?_
 rintro e w1 ⟨r,hr,rfl,hB1⟩
 have HR:=Lib.hid hr
 clear hr
 have c1:w1.cell? ⟨w.heap.size,1,none⟩=some (.string b):=keep hB1 (by simp [go_sem])
 have c2:w1.cell? ⟨w.heap.size+1,0,none⟩=some (.string c):=keep hB1 (by simp [go_sem])
 have z1:=lt_of_cell c1
 have z2:=lt_of_cell c2
 have hB1':Below w.heap.size w w1:=qbl
 go_wp2_with fail
 refine (Imul_small yn xd c b _ (HG.out.below qbl) HC.out HB.out h2).mono ?_
 rintro e w2 ⟨s,hs,rfl,hB2⟩
 have HS:=Lib.hid hs
 clear hs
 have hB2':Below w.heap.size w w2:=qbl
 go_wp2_with fail
 go_ret3
 exact ⟨r,s,HR,HS,rfl,qbl⟩
theorem Compare_mid {p:Rat} {n:Int} (s t:ByteArray) (w:World) (hG:Glo w) (hs:s.data.toList=ratText p) (hp:Small p) (ht:t.data.toList=Lib.itoa n) (hn:Mid n) (h0:0≤n) :
  Calls Tryz.prog 30 #[.string s,.string t] w (RetB (.tuple #[.int .i64 (Lib.compareInt p.num (n * p.den)),.int .i64 0]) w):=by
 have l1:(Lib.itoa p.num).length≤9:=itoa_len_le (k:=8) hp.1 (by omega)
 have l2:(Lib.decDigits p.den).length≤8:=by rw [Lib.decDigits_length];exact nDigits_le_of_lt (k:=8) hp.2 (by omega)
 have l3:(Lib.itoa n).length≤10:=by
  rcases itoa_cases n with ⟨h,_⟩|⟨_,e⟩
  ·omega
  ·rw [e,Lib.decDigits_length];exact nDigits_le_of_lt (k:=10) hn.2 (by omega)
 have hno:natOf t.data.toList=none:=by rw [ht];exact hn.1
 have tsz:t.size≤10:=by
  have h2:t.size=t.data.toList.length:=rfl
  rw [h2,ht];exact l3
 have bp:(n * (p.den:Int)).natAbs < 10 ^ 18:=by
  rw [Int.natAbs_mul]
  calc n.natAbs * (p.den:Int).natAbs < 10 ^ 10 * 10 ^ 8:=Nat.mul_lt_mul'' hn.2 (by have:=hp.2;omega)
   _=10 ^ 18:=by decide
 have l4:(Lib.itoa (n * (p.den:Int))).length≤18:=by
  rcases itoa_cases (n * (p.den:Int)) with ⟨h,_⟩|⟨_,e⟩
  ·have:=Int.mul_nonneg h0 (Int.natCast_nonneg p.den);omega
  ·rw [e,Lib.decDigits_length];exact nDigits_le_of_lt (k:=18) bp (by omega)
 have HS:=Lib.hid hs
 have HT:=Lib.hid ht
 have HN:=Lib.hid hno
 have HG:=Lib.hid hG
 clear hG hs ht hno bp
 go_enter Tryz.func30,Tryz.ntmps30
 go_wp2_with fail
 refine (nativeOf_small s _ HS.out hp).mono ?_
 rintro e w1 ⟨rfl,hB1⟩
 have hb1:Below w.heap.size w w1:=qbl
 go_wp2_with fail
 refine (nativeOf_none t _ (by omega) HN.out).mono ?_
 rintro e w2 ⟨rfl,hB2⟩
 have hb2:Below w.heap.size w w2:=qbl
 go_wp2_with fail
 refine (read_small s _ (HG.out.below qbl) HS.out hp).mono ?_
 rintro e w3 ⟨a,b,ha,hb,rfl,hB3⟩
 have hb3:Below w.heap.size w w3:=qbl
 go_wp2_with fail
 refine (read_mid t _ (HG.out.below qbl) HT.out hn).mono ?_
 rintro e w4 ⟨c,d,hc,hd,rfl,hB4⟩
 have hb4:Below w.heap.size w w4:=qbl
 have c1:w4.cell? ⟨w3.heap.size,0,none⟩=some (.string a):=keep hB4 (by simp [go_sem])
 have c2:w4.cell? ⟨w3.heap.size,1,none⟩=some (.string b):=keep hB4 (by simp [go_sem])
 have z1:=lt_of_cell c1
 have sa:a.size≤9:=by
  have h2:a.size=a.data.toList.length:=rfl
  rw [h2,ha.out];exact l1
 have sb:b.size≤8:=by
  have h2:b.size=b.data.toList.length:=rfl
  rw [h2,hb.out];exact l2
 have sc:c.size≤10:=by
  have h2:c.size=c.data.toList.length:=rfl
  rw [h2,hc.out];exact l3
 have sd:d.size≤1:=by
  have h2:d.size=d.data.toList.length:=rfl
  rw [h2,hd.out,show (n:Rat).den=1 from rfl,one_digits];decide
 go_wp2_with fail
 refine (crossed_ok p.num n p.den 1 a b c d _ (HG.out.below qbl) ha.out hb.out hc.out hd.out (by omega) (by omega)).mono ?_
 rintro e w5 ⟨u,v,hu,hv,rfl,hB5⟩
 have hb5:Below w.heap.size w w5:=qbl
 have hu':u.data.toList=Lib.itoa p.num:=by rw [hu.out];simp
 have su:u.size≤9:=by
  have h2:u.size=u.data.toList.length:=rfl
  rw [h2,hu'];exact l1
 have sv:v.size≤18:=by
  have h2:v.size=v.data.toList.length:=rfl
  rw [h2,hv.out];exact l4
 have HU:=Lib.hid hu'
 clear hu hu'
 go_wp2_with fail
 refine (ICompare_small p.num (n * p.den) u v _ HU.out (by omega) hv.out sv).mono ?_
 rintro e w6 ⟨rfl,hB6⟩
 have hb6:Below w.heap.size w w6:=qbl
 go_wp2_with fail
 go_ret2
 exact ⟨rfl,qbl⟩
theorem mid_most:Mid 1073741824:=by
 refine ⟨?_,by decide⟩
 decide +kernel
end Go.Proofs.YthihcjgmlbnapaaGreatDoor
namespace Go.Proofs.YthihcjgmlbnapaaGreatDoor
theorem consW {P:Program} {ops:Array Oper} {Q:Exit→Act→World→Prop} {md:Region.Mode} {S:World→Prop} {fuel:Nat} {listed:Array Bool} {a:Act} {w:World} {i:Nat} {o:Oper} (ho:ops[i]?=some o) (hw:Region.wanted o (yielded ops a.tmps)=true)
  (h:∀ K':Act→World→Prop,Shut (∀ a w,S w→(S w→wpAnyH P md ops Q S fuel (listed.setIfInBounds i true) a w)→K' a w)→Oper.wp P o a w K' Q):AllReadyH P md ops Q S fuel listed a w [i] :=
 AllReadyH.cons ho (fun K' hK=>by rw [if_pos hw];exact h K' hK) AllReadyH.nil
section
variable {P:Program} {ops:Array Oper} {Q:Exit→Act→World→Prop} {md:Region.Mode} {S:World→Prop} {listed:Array Bool} {a:Act} {w:World}
theorem region_held_abs {id:Nat} (n:Nat) (L:Array Bool) (hm:P.follows .mixedOrders=true) (hn:ops.size=n) (hL:Array.replicate n false=L) (hQ:∀ c (a:Act) d v w,Q (.panic c) (a.put (some d) v) w→Q (.panic c) a w) (hS:S w.drew)
  (h:∀ Q':Exit→Act→World→Prop,(∀ c (a:Act) d v w,Q' (.panic c) (a.put (some d) v) w→Q' (.panic c) a w)→Shut (∀ a w,Q .normal a w→Q' .normal a w)→S w.drew→wpAnyH P .any ops Q' S n L a w.drew) :
  (Code.region id ops true).wp P Q a w:=wp_region_held_drew hm hS (by rw [hn,hL];exact h Q hQ (fun _ _ h=>h))
theorem putQ {d:Option Nat} {v:Value} (hQ:∀ c (a:Act) d v w,Q (.panic c) (a.put (some d) v) w→Q (.panic c) a w):∀ c (a:Act) w,Q (.panic c) (a.put d v) w→Q (.panic c) a w:=by
 intro c a w h
 cases d with
 | none=>exact h
 | some d=>exact hQ c a d v w h
theorem takeT (d:Nat) {i:Nat} {oi:Oper} {v:Value} {fuel:Nat} (hQ:∀ c (a:Act) d v w,Q (.panic c) (a.put (some d) v) w→Q (.panic c) a w) (hS:S w) (hi:ops[i]?=some oi) (hd:oi.dst=some d)
  (hs:Region.noSelect ops=true) (hf:Region.free md ops listed i=true) (hr:(Region.ready md ops listed).contains i=true)
  (hw:Region.wanted oi (yielded ops a.tmps)=true) (hy:∀ w,S w→(execOp a.eval oi).run P w=.ok (.value v) w)
  (h:wpAnyH P md ops Q S fuel (listed.setIfInBounds i true) (a.put (some d) v) w):wpAnyH P md ops Q S (fuel+1) listed a w :=
 wpAnyH_take hi hs hf hr (fun c a w h=>putQ hQ c a w h) (Or.inl ⟨hw,hy⟩) hS (by rw [hd];exact h)
theorem takeF (d:Nat) {i:Nat} {oi:Oper} {fuel:Nat} (hQ:∀ c (a:Act) d v w,Q (.panic c) (a.put (some d) v) w→Q (.panic c) a w) (hS:S w) (hi:ops[i]?=some oi) (hd:oi.dst=some d)
  (hs:Region.noSelect ops=true) (hf:Region.free md ops listed i=true) (hr:(Region.ready md ops listed).contains i=true)
  (hw:Region.wanted oi (yielded ops a.tmps)=false)
  (h:wpAnyH P md ops Q S fuel (listed.setIfInBounds i true) (a.put (some d) undef) w):wpAnyH P md ops Q S (fuel+1) listed a w :=
 wpAnyH_take hi hs hf hr (fun c a w h=>putQ hQ c a w h) (Or.inr ⟨hw,rfl⟩) hS (by rw [hd];exact h)
end
theorem tT (d i:Nat) {P:Program} {ops:Array Oper} {Q:Exit→Act→World→Prop} {md:Region.Mode} {S:World→Prop} {listed L':Array Bool} {a a':Act} {w:World} {oi:Oper} {v:Value} {fuel:Nat}
  (h:wpAnyH P md ops Q S fuel L' a' w)
  (hQ:∀ c (a:Act) d v w,Q (.panic c) (a.put (some d) v) w→Q (.panic c) a w:=by assumption) (hS:S w:=by assumption)
  (hi:ops[i]?=some oi:=by rfl) (hd:oi.dst=some d:=by kernel_rfl) (hs:Region.noSelect ops=true:=by kernel_rfl) (hf:Region.free md ops listed i=true:=by kernel_rfl)
  (hr:(Region.ready md ops listed).contains i=true:=by kernel_rfl) (hw:Region.wanted oi (yielded ops a.tmps)=true:=by kernel_rfl)
  (hy:∀ w,S w→(execOp a.eval oi).run P w=.ok (.value v) w:=by intro w hSw;(try dsimp only at hSw);go_simp;(try with_reducible rfl))
  (hL:listed.setIfInBounds i true=L':=by (try simp only [bw7,bw8,bw9]);(try with_reducible rfl))
  (ha:a.put (some d) v=a':=by (try simp only [Act.put,bw7,bw8,bw9]);(try with_reducible rfl)):wpAnyH P md ops Q S (fuel+1) listed a w:=by
 subst hL ha
 exact takeT d hQ hS hi hd hs hf hr hw hy h
theorem tF (d i:Nat) {P:Program} {ops:Array Oper} {Q:Exit→Act→World→Prop} {md:Region.Mode} {S:World→Prop} {listed L':Array Bool} {a a':Act} {w:World} {oi:Oper} {fuel:Nat}
  (h:wpAnyH P md ops Q S fuel L' a' w) (hQ:∀ c (a:Act) d v w,Q (.panic c) (a.put (some d) v) w→Q (.panic c) a w:=by assumption) (hS:S w:=by assumption)
  (hi:ops[i]?=some oi:=by rfl) (hd:oi.dst=some d:=by kernel_rfl) (hs:Region.noSelect ops=true:=by kernel_rfl) (hf:Region.free md ops listed i=true:=by kernel_rfl)
  (hr:(Region.ready md ops listed).contains i=true:=by kernel_rfl) (hw:Region.wanted oi (yielded ops a.tmps)=false:=by kernel_rfl)
  (hL:listed.setIfInBounds i true=L':=by (try simp only [bw7,bw8,bw9]);(try with_reducible rfl))
  (ha:a.put (some d) undef=a':=by (try simp only [Act.put,bw7,bw8,bw9]);(try with_reducible rfl)):wpAnyH P md ops Q S (fuel+1) listed a w:=by
 subst hL ha
 exact takeF d hQ hS hi hd hs hf hr hw h
end Go.Proofs.YthihcjgmlbnapaaGreatDoor
