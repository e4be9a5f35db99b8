/- Walks: Flow and Size of the program and of the reference (kingpostref50) at any texts of at most 20 bytes and any tables. -/
import Derived.Test.YteepphiomcedfaaGreatDoorJ26
import Derived.Test.YteepphiomcedfaaGreatDoorJ25
import Derived.Test.YteepphiomcedfaaGreatDoorWSizes50
set_option maxRecDepth 100000
set_option linter.unusedVariables false
set_option linter.unusedSimpArgs false
set_option maxHeartbeats 6400000
namespace Go.Proofs.YteepphiomcedfaaGreatDoor
open Go.RowKit
open Classical in
noncomputable def qOf (s:ByteArray):Rat:=if h:IsNum s then Classical.choose h else 0
open Classical in
theorem qOf_spec {s:ByteArray} (h:IsNum s):s.data.toList=ratText (qOf s)∧Sz 300 (qOf s):=by
 unfold qOf
 rw [dif_pos h]
 exact Classical.choose_spec h
theorem sz_of_size {s:ByteArray} {q:Rat} {k:Nat} (h:s.data.toList=ratText q) (hs:s.size≤k) (hk:1≤k):Sz k q:=by
 have e:s.size=s.data.toList.length:=rfl
 rw [e,h] at hs
 unfold ratText at hs
 split at hs
 ·rename_i hd
  exact ⟨itoa_lt hs,by rw [hd];exact Nat.one_lt_pow (by omega) (by omega)⟩
 ·rw [List.length_append,List.length_cons] at hs
  exact ⟨itoa_lt (by omega),pow_le_of_lt (by omega)⟩
noncomputable def flowPair (s:ByteArray) (n:Int):ByteArray × Int:=open Classical in if IsNum s then (if (qOf s).num < 0∨n < 0∨10000 < n then (⟨#[]⟩,2) else (numS (flowQ (qOf s) n),0)) else (⟨#[]⟩,11)
theorem flowPair_bad {s:ByteArray} {n:Int} (h:¬ IsNum s):flowPair s n=(⟨#[]⟩,11):=by unfold flowPair;rw [if_neg h]
theorem flowPair_out {s:ByteArray} {n:Int} (h:IsNum s) (h2:(qOf s).num < 0∨n < 0∨10000 < n):flowPair s n=(⟨#[]⟩,2):=by unfold flowPair;rw [if_pos h,if_pos h2]
theorem flowPair_ok {s:ByteArray} {n:Int} (h:IsNum s) (h2:¬ ((qOf s).num < 0∨n < 0∨10000 < n)):flowPair s n=(numS (flowQ (qOf s) n),0):=by unfold flowPair;rw [if_pos h,if_neg h2]
theorem numC_bad {s:ByteArray} (h:¬ IsNum s):numC s=11:=by unfold numC;rw [if_neg h]
def RetPair (p:ByteArray × Int) (w:World) (e:Ending) (w':World):Prop:=RetB (.tuple #[.string p.1,.int .i64 p.2]) w e w'
theorem minus_byte {q:Rat} {s:ByteArray} (hs:s.data.toList=ratText q):∃ h0:0 < s.size,((s[0].toNat:Int) == 45)=decide (q.num < 0):=by
 have h0:0 < s.size:=by
  have h1:s.size=s.data.toList.length:=rfl
  rw [h1,hs];exact List.length_pos_iff.2 (ratText_ne_nil q)
 refine ⟨h0,?_⟩
 by_cases h:q.num < 0
 ·rw [decide_eq_true h]
  exact headq45' h0 (by rw [hs,ratText_neg h];rfl)
 ·rw [decide_eq_false h]
  refine Bool.eq_false_iff.2 fun h'=>?_
  have:=headq45 h0 h'
  rw [hs] at this
  exact ratText_head (by omega) this
theorem negative_any {q:Rat} (s:ByteArray) (w:World) (hs:s.data.toList=ratText q):Calls Tryz.prog 67 #[.string s] w fun e w'=>e=.returned (.bool (decide (q.num < 0)))∧w'=w:=by
 obtain ⟨h0,hb⟩:=minus_byte hs
 have hi:(0:Int) < (s.size:Int):=by omega
 generalize decide (q.num < 0)=b at *
 clear hs
 go_enter Tryz.func67,Tryz.ntmps67
 go_wp2_with fail
 go_ret
 exact ⟨rfl,rfl⟩
theorem gflow_all (s:ByteArray) (n:Int) (w:World) (hG:Glo w) (h20:s.size≤20) :
  Calls Tryz.prog 20 #[.string s,.int .i64 n] w (RetPair (flowPair s n) w):=by
 by_cases hN:IsNum s
 ·obtain ⟨hs,h3⟩:=qOf_spec hN
  have hq:=sz_of_size hs h20 (by omega)
  by_cases hout:(qOf s).num < 0∨n < 0∨10000 < n
  ·rw [flowPair_out hN hout]
   have HC:=Lib.hid (fun W (hB:Below w.heap.size w W)=>RCheck_ok s W (hG.below hB) hs hq (by omega))
   have HNG:=Lib.hid (fun W=>negative_any s W hs)
   have hcase:decide ((qOf s).num < 0)=true∨(decide ((qOf s).num < 0)=false∧(n < 0∨(¬ n < 0∧10000 < n))):=by
    by_cases h:(qOf s).num < 0
    ·exact .inl (by simpa using h)
    ·exact .inr ⟨by simpa using h,by omega⟩
   generalize decide ((qOf s).num < 0)=b at *
   clear hs hq hG hout hN h3
   go_enter Tryz.func20,Tryz.ntmps20
   go_wp2_with fail
   refine (HC.out _ qbl).mono ?_
   rintro e w1 ⟨rfl,hB1⟩
   have hb1:Below w.heap.size w w1:=qbl
   clear hB1
   go_wp2_with fail
   refine (HNG.out _).mono ?_
   rintro e w2 ⟨rfl,rfl⟩
   rcases hcase with rfl|⟨rfl,hn|⟨hn,hn2⟩⟩
   ·go_wp2_with fail
    go_ret2
    exact ⟨rfl,qbl⟩
   ·go_wp2_with fail
    go_ret2
    exact ⟨rfl,qbl⟩
   ·go_wp2_with fail
    go_ret2
    exact ⟨rfl,qbl⟩
  ·rw [flowPair_ok hN hout]
   refine (flowL_ok s n w hG hs hq (by omega) (by omega) (by omega) (by omega)).mono ?_
   rintro e w' ⟨r,hr,rfl,hB⟩
   exact ⟨by rw [numS_of hr],hB⟩
 ·rw [flowPair_bad hN]
  have HC:=Lib.hid (fun W (hB:Below w.heap.size w W)=>RCheck_bad s W (hG.below hB) (by omega) hN)
  clear hG hN
  go_enter Tryz.func20,Tryz.ntmps20
  go_wp2_with fail
  refine (HC.out _ qbl).mono ?_
  rintro e w1 ⟨c,rfl,hc0,hc,hB1⟩
  obtain rfl:c=11:=hc h20
  go_wp2_with fail
  go_ret2
  exact ⟨rfl,qbl⟩
theorem rOf1_ok (n:Int) (w:World) (h0 : -1000000000≤n) (h1:n≤1000000000) :
  Calls Tryz.prog 54 #[.int .i64 n,.int .i64 1] w (RetB (.tuple #[.string (numS (n:Rat)),.int .i64 0]) w):=by
 have HQ:=Lib.hid (fun W=>quick02_ok n 1 W (by omega) (by omega) (by omega))
 have HE:Hid (Rat.divInt n 1=(n:Rat)):=Lib.hid (by rw [show (1:Int)=((1:Nat):Int) from rfl,Rat.divInt_ofNat,Rat.mkRat_one])
 go_enter Tryz.func54,Tryz.ntmps54
 go_wp2_with fail
 refine (HQ.out _).mono ?_
 rintro e w1 ⟨r,hr,rfl,hB⟩
 rw [HE.out] at hr
 obtain rfl:=numS_of hr
 clear hr
 go_wp2_with fail
 go_ret2
 exact ⟨rfl,qbl⟩
theorem rnumber50_ok (n:Int) (w:World) (h0 : -1000000000≤n) (h1:n≤1000000000) :
  Calls Tryz.prog 76 #[.int .i64 n] w (RetB (.string (numS (n:Rat))) w):=by
 have HQ:=Lib.hid (fun W=>rOf1_ok n W h0 h1)
 generalize numS (n:Rat)=t at *
 go_enter Tryz.func76,Tryz.ntmps76
 go_wp2_with fail
 refine (HQ.out _).mono ?_
 rintro e w1 ⟨rfl,hB⟩
 go_wp2_with fail
 go_ret
 exact ⟨rfl,qbl⟩
theorem rflow_all (s:ByteArray) (n:Int) (w:World) (hG:Glo w) (h20:s.size≤20) :
  Calls Tryz.prog 23 #[.string s,.int .i64 n] w (RetPair (flowPair s n) w):=by
 by_cases hN:IsNum s
 ·obtain ⟨hs,h3⟩:=qOf_spec hN
  have hq:=sz_of_size hs h20 (by omega)
  obtain ⟨h0,hb⟩:=minus_byte hs
  have hi:(0:Int) < (s.size:Int):=by omega
  have HC:=Lib.hid (fun W (hB:Below w.heap.size w W)=>rCheck02_q s W (hG.below hB) hs hq (by omega))
  by_cases hout:(qOf s).num < 0∨n < 0∨10000 < n
  ·rw [flowPair_out hN hout]
   have hcase:decide ((qOf s).num < 0)=true∨(decide ((qOf s).num < 0)=false∧(n < 0∨(¬ n < 0∧10000 < n))):=by
    by_cases h:(qOf s).num < 0
    ·exact .inl (by simpa using h)
    ·exact .inr ⟨by simpa using h,by omega⟩
   generalize decide ((qOf s).num < 0)=b at *
   clear hs hq hG hout hN h3
   rcases hcase with rfl|⟨rfl,hn|⟨hn,hn2⟩⟩
   ·go_enter Tryz.func23,Tryz.ntmps23
    go_wp2_with fail
    refine (HC.out _ qbl).mono ?_
    rintro e w1 ⟨rfl,hB1⟩
    go_wp2_with fail
    go_ret2
    exact ⟨rfl,qbl⟩
   ·go_enter Tryz.func23,Tryz.ntmps23
    go_wp2_with fail
    refine (HC.out _ qbl).mono ?_
    rintro e w1 ⟨rfl,hB1⟩
    go_wp2_with fail
    go_ret2
    exact ⟨rfl,qbl⟩
   ·go_enter Tryz.func23,Tryz.ntmps23
    go_wp2_with fail
    refine (HC.out _ qbl).mono ?_
    rintro e w1 ⟨rfl,hB1⟩
    go_wp2_with fail
    go_ret2
    exact ⟨rfl,qbl⟩
  ·rw [flowPair_ok hN hout]
   have hnn:decide ((qOf s).num < 0)=false:=decide_eq_false (fun h=>hout (.inl h))
   rw [hnn] at hb
   have hn0:¬ n < 0:=by omega
   have hn1:¬ (10000:Int) < n:=by omega
   have hD:(⟨#[54,48,48,48,48,48,48,48]⟩:ByteArray).data.toList=ratText (60000000:Int):=by decide +kernel
   have HNU:=Lib.hid (fun W=>rnumber50_ok n W (by omega) (by omega))
   have HM:=Lib.hid (fun W (hB:Below w.heap.size w W)=>RMul02_q s (numS (n:Rat)) W (hG.below hB) hs hq (numS_list _) (sz_int (k:=5) (by omega) (by omega)) (by omega))
   have HDV:=Lib.hid (fun (u:ByteArray) W (hB:Below w.heap.size w W) hu=>RDiv02_q u ⟨#[54,48,48,48,48,48,48,48]⟩ W (hG.below hB) hu (hq.mul (sz_int (n:=n) (k:=5) (by omega) (by omega))) hD (sz_int (n:=60000000) (k:=8) (by decide) (by omega)) (by omega) (by decide))
   generalize numS (n:Rat)=t at *
   clear hs hq hG hout hN h3 hnn hD
   go_enter Tryz.func23,Tryz.ntmps23
   go_wp2_with fail
   refine (HC.out _ (bw0 _ _)).mono ?_
   rintro e w1 ⟨rfl,hB1⟩
   go_wp2_with fail
   refine (HNU.out _).mono ?_
   rintro e w2 ⟨rfl,hB2⟩
   have hb2:=below_trans' hB1 hB2
   clear hB1 hB2
   go_wp2_with fail
   refine (HM.out _ hb2).mono ?_
   rintro e w3 ⟨u,hu,rfl,hB3⟩
   have HU:=Lib.hid hu
   have hb3:=below_trans' hb2 hB3
   clear hu hB3 hb2
   go_wp2_with fail
   refine (HDV.out u _ hb3 HU.out).mono ?_
   rintro e w4 ⟨v,hv,rfl,hB4⟩
   have HV:=Lib.hid hv
   have hb4:=below_trans' hb3 hB4
   clear hv hB4 hb3
   go_wp2_with fail
   go_ret2
   exact ⟨by rw [numS_of HV.out];rfl,hb4⟩
 ·rw [flowPair_bad hN]
  have HC:=Lib.hid (fun W (hB:Below w.heap.size w W)=>rCheck02_code s W (hG.below hB) (by omega))
  have HN:=Lib.hid (numC_bad hN)
  clear hG hN
  go_enter Tryz.func23,Tryz.ntmps23
  go_wp2_with fail
  refine (HC.out _ (bw0 _ _)).mono ?_
  rintro e w1 ⟨c,rfl,hc,hB1⟩
  obtain rfl:c=11:=by rw [hc.out.2 h20,HN.out]
  clear hc
  go_wp2_with fail
  go_ret2
  exact ⟨rfl,qbl⟩
def SizeIs (T:List (List Int)) (s:ByteArray) (x c:Int):Prop :=
 (¬ CodeT T 0∧x=0∧c=1)∨(CodeT T 0∧¬ IsNum s∧x=0∧c=11)∨(CodeT T 0∧IsNum s∧(qOf s).num < 0∧x=0∧c=2) ∨
 (CodeT T 0∧IsNum s∧0≤(qOf s).num∧∃ n,FirstAt T.length (takesT (qOf s) T) n∧((n < 0∧x=0∧c=6)∨(0≤n∧x=lim (rowT T n.toNat) 0∧c=0)))
theorem SizeIs.uniq {T:List (List Int)} {s:ByteArray} {x c y d:Int} (h:SizeIs T s x c) (k:SizeIs T s y d):x=y∧c=d:=by
 rcases h with ⟨h1,rfl,rfl⟩|⟨h1,h2,rfl,rfl⟩|⟨h1,h2,h3,rfl,rfl⟩|⟨h1,h2,h3,n,h4,h5⟩ <;>
 rcases k with ⟨k1,rfl,rfl⟩|⟨k1,k2,rfl,rfl⟩|⟨k1,k2,k3,rfl,rfl⟩|⟨k1,k2,k3,m,k4,k5⟩ <;>
 first
 | exact ⟨rfl,rfl⟩
 | exact absurd k1 h1
 | exact absurd h1 k1
 | exact absurd k2 h2
 | exact absurd h2 k2
 | omega
 | (obtain rfl:=h4.uniq k4;rcases h5 with ⟨_,rfl,rfl⟩|⟨_,rfl,rfl⟩<;>rcases k5 with ⟨_,rfl,rfl⟩|⟨_,rfl,rfl⟩<;>first|exact ⟨rfl,rfl⟩|omega)
def RetSize (T:List (List Int)) (s:ByteArray) (w:World) (e:Ending) (w':World):Prop:=∃ x c:Int,e=.returned (.tuple #[.int .i64 x,.int .i64 c])∧Hid (SizeIs T s x c)∧Below w.heap.size w w'
theorem gsize_all (T:List (List Int)) (v:Value) (s:ByteArray) (w:World) (hG:Glo w) (hv:IsTable w v T) (h12:T.length≤12) (h20:s.size≤20) :
  Calls Tryz.prog 24 #[v,.string s] w (RetSize T s w):=by
 have HCK:=Lib.hid (fun W (hB:Below w.heap.size w W)=>gutCheckT_ok T v W (hv.below hB) h12)
 by_cases hT:CodeT T 0
 ·by_cases hN:IsNum s
  ·obtain ⟨hs,h3⟩:=qOf_spec hN
   have hq:=sz_of_size hs h20 (by omega)
   by_cases hneg:(qOf s).num < 0
   ·have HS:=Lib.hid (show SizeIs T s 0 2 from .inr (.inr (.inl ⟨hT,hN,hneg,rfl,rfl⟩)))
    have HCR:=Lib.hid (fun W (hB:Below w.heap.size w W)=>RCheck_ok s W (hG.below hB) hs hq (by omega))
    have HNG:=Lib.hid (fun W=>negative_any s W hs)
    rw [decide_eq_true hneg] at HNG
    have HT:=Lib.hid hT
    obtain ⟨a,cap,rfl,-,-,-⟩:=hv
    clear hs hq hG hN hneg h3 hT
    go_enter Tryz.func24,Tryz.ntmps24
    go_wp2_with fail
    refine (HCK.out _ qbl).mono ?_
    rintro e w1 ⟨c,rfl,HCT,hB1⟩
    obtain rfl:c=0:=HCT.out.uniq HT.out
    have k1:w1.cell? ⟨w.heap.size,0,none⟩=some (.string s):=keep hB1 (by simp [go_sem])
    have hb1:Below w.heap.size w w1:=qbl
    clear hB1 HCT
    go_wp2_with fail
    refine (HCR.out _ hb1).mono ?_
    rintro e w2 ⟨rfl,hB2⟩
    have k2:=keep hB2 k1
    have hb2:Below w.heap.size w w2:=qbl
    clear hB2 k1 hb1
    go_wp2_with fail
    refine (HNG.out _).mono ?_
    rintro e w3 ⟨rfl,rfl⟩
    go_wp2_with fail
    go_ret2
    exact ⟨0,2,rfl,HS,qbl⟩
   ·refine (gsize_ok T v s w hG hv h12 hT hs hq (by omega) (by omega)).mono ?_
    rintro e w' ⟨n,HF,⟨hn,rfl⟩|⟨hn,rfl⟩,hB⟩
    ·exact ⟨0,6,rfl,Lib.hid (.inr (.inr (.inr ⟨hT,hN,by omega,n,HF.out,.inl ⟨hn,rfl,rfl⟩⟩))),hB⟩
    ·exact ⟨_,0,rfl,Lib.hid (.inr (.inr (.inr ⟨hT,hN,by omega,n,HF.out,.inr ⟨hn,rfl,rfl⟩⟩))),hB⟩
  ·have HS:=Lib.hid (show SizeIs T s 0 11 from .inr (.inl ⟨hT,hN,rfl,rfl⟩))
   have HCR:=Lib.hid (fun W (hB:Below w.heap.size w W)=>RCheck_bad s W (hG.below hB) (by omega) hN)
   have HT:=Lib.hid hT
   obtain ⟨a,cap,rfl,-,-,-⟩:=hv
   clear hG hN hT
   go_enter Tryz.func24,Tryz.ntmps24
   go_wp2_with fail
   refine (HCK.out _ qbl).mono ?_
   rintro e w1 ⟨c,rfl,HCT,hB1⟩
   obtain rfl:c=0:=HCT.out.uniq HT.out
   have k1:w1.cell? ⟨w.heap.size,0,none⟩=some (.string s):=keep hB1 (by simp [go_sem])
   have hb1:Below w.heap.size w w1:=qbl
   clear hB1 HCT
   go_wp2_with fail
   refine (HCR.out _ hb1).mono ?_
   rintro e w2 ⟨c,rfl,hc0,hc,hB2⟩
   obtain rfl:c=11:=hc h20
   go_wp2_with fail
   go_ret2
   exact ⟨0,11,rfl,HS,qbl⟩
 ·have HS:=Lib.hid (show SizeIs T s 0 1 from .inl ⟨hT,rfl,rfl⟩)
  have HT:=Lib.hid hT
  obtain ⟨a,cap,rfl,-,-,-⟩:=hv
  clear hG hT
  go_enter Tryz.func24,Tryz.ntmps24
  go_wp2_with fail
  refine (HCK.out _ qbl).mono ?_
  rintro e w1 ⟨c,rfl,HCT,hB1⟩
  have hc0:(c != 0)=true:=by
   have:c≠0:=fun h=>HT.out (by have:=HCT.out;rwa [h] at this)
   simpa using this
  clear HCT
  go_wp2_with fail
  go_ret2
  exact ⟨0,1,rfl,HS,qbl⟩
theorem rsize_all (T:List (List Int)) (v:Value) (s:ByteArray) (w:World) (hG:Glo w) (hv:IsTable w v T) (h12:T.length≤12) (h20:s.size≤20) :
  Calls Tryz.prog 25 #[v,.string s] w (RetSize T s w):=by
 have HCK:=Lib.hid (fun W (hB:Below w.heap.size w W)=>refCheckT_ok T v W (hv.below hB) h12)
 by_cases hT:CodeT T 0
 ·by_cases hN:IsNum s
  ·obtain ⟨hs,h3⟩:=qOf_spec hN
   have hq:=sz_of_size hs h20 (by omega)
   obtain ⟨h0,hb⟩:=minus_byte hs
   have hi:(0:Int) < (s.size:Int):=by omega
   have HCR:=Lib.hid (fun W (hB:Below w.heap.size w W)=>rCheck02_q s W (hG.below hB) hs hq (by omega))
   by_cases hneg:(qOf s).num < 0
   ·have HS:=Lib.hid (show SizeIs T s 0 2 from .inr (.inr (.inl ⟨hT,hN,hneg,rfl,rfl⟩)))
    rw [decide_eq_true hneg] at hb
    have HT:=Lib.hid hT
    obtain ⟨a,cap,rfl,-,-,-⟩:=hv
    clear hs hq hG hN hneg h3 hT
    go_enter Tryz.func25,Tryz.ntmps25
    go_wp2_with fail
    refine (HCK.out _ qbl).mono ?_
    rintro e w1 ⟨c,rfl,HCT,hB1⟩
    obtain rfl:c=0:=HCT.out.uniq HT.out
    have hb1:Below w.heap.size w w1:=qbl
    clear hB1 HCT
    go_wp2_with fail
    refine (HCR.out _ hb1).mono ?_
    rintro e w2 ⟨rfl,hB2⟩
    have hb2:Below w.heap.size w w2:=qbl
    clear hB2 hb1
    go_wp2_with fail
    go_ret2
    exact ⟨0,2,rfl,HS,hb2⟩
   ·rw [decide_eq_false hneg] at hb
    have hva:=valid_rows hT.zero
    have HVA:=Lib.hid hva
    have HSZ:=Lib.hid (fun n (hf:FirstAt T.length (takesT (qOf s) T) n) x c hx=>(show SizeIs T s x c from .inr (.inr (.inr ⟨hT,hN,by omega,n,hf,hx⟩))))
    have HT:=Lib.hid hT
    have HV:=Lib.hid hv
    have HCM:=Lib.hid (fun (y:Int) (y1:1≤y) (y2:y≤1048576) W (hB:Below w.heap.size w W)=>RCompare02_q (numS (y:Rat)) s W (hG.below hB) (numS_list _) (sz_row y1 y2) hs hq (by omega))
    have HD:=Lib.hid (fun y:Int=>cmp_ge' (p:=qOf s) (q:=(y:Rat)))
    obtain ⟨a,cap,rfl,-,-,-⟩:=hv
    clear hs hq hG hN hneg h3 hT hva
    go_enter Tryz.func25,Tryz.ntmps25
    go_wp2_with fail
    refine (HCK.out _ qbl).mono ?_
    rintro e w1 ⟨c,rfl,HCT,hB1⟩
    obtain rfl:c=0:=HCT.out.uniq HT.out
    have hb1:Below w.heap.size w w1:=qbl
    clear hB1 HCT
    go_wp2_with fail
    refine (HCR.out _ hb1).mono ?_
    rintro e w2 ⟨rfl,hB2⟩
    have hb2:Below w.heap.size w w2:=qbl
    clear hB2 hb1
    go_wp2_with fail
    go_loopw [7] (fun i wr=>∃ k:Nat,k≤T.length∧i=.int .i64 k∧Below w.heap.size w wr∧Hid (∀ j,j < k→takesT (qOf s) T j=false)) (fun i _=>T.length - (intOf i).toNat)
    case atStart=>exact ⟨0,by omega,rfl,hb2,Lib.hid (by intro j h;omega)⟩
    case round =>
     clear hb2
     obtain ⟨k,hk,rfl,hB,hno⟩:=hrel
     by_cases hlt:k < T.length
     ·obtain ⟨_,_,e,_,_,h4⟩:=HV.out.below hB
      obtain ⟨b2,off2,rfl,hcc⟩:=h4 (fun h=>by rw [h] at hlt;simp at hlt)
      cases e
      obtain ⟨u,hu,hi2⟩:=hcc k hlt
      obtain ⟨hl2,-,-,y1,y2⟩:=HVA.out k hlt
      obtain ⟨rb,ro,rc,rfl,d0,d1⟩:=hi2.two hl2
      have HTK:Hid (takesT (qOf s) T k=decide (qOf s≤((lim (rowT T k) 1:Int):Rat))):=Lib.hid rfl
      obtain ⟨x,hx⟩:∃ x,lim (rowT T k) 0=x:=⟨_,rfl⟩
      obtain ⟨y,hy⟩:∃ y,lim (rowT T k) 1=y:=⟨_,rfl⟩
      have HX:=Lib.hid hx
      rw [hx] at d0
      rw [hy] at d1 y1 y2 HTK
      have HFK:Hid (takesT (qOf s) T k=true→FirstAt T.length (takesT (qOf s) T) k):=Lib.hid (fun h=>.inr ⟨k,rfl,hlt,h,hno.out⟩)
      have hkI:(k:Int) < (T.length:Int):=by omega
      have HNU:=Lib.hid (fun W=>rnumber50_ok y W (by omega) (by omega))
      have HCY:=Lib.hid (HCM.out y y1 y2)
      have HDY:=Lib.hid (HD.out y)
      generalize numS (y:Rat)=ys at *
      generalize Lib.compareInt ((y:Rat).num * (qOf s).den) ((qOf s).num * (y:Rat).den)=cc at *
      obtain ⟨bb,hbb⟩:∃ bb,decide (qOf s≤(y:Rat))=bb:=⟨_,rfl⟩
      rw [hbb] at HDY HTK
      clear hcc hx hy hbb hi2
      go_wp2_with fail
      refine (HNU.out _).mono ?_
      rintro e w3 ⟨rfl,hB3⟩
      have d0':=keep hB3 d0
      have hu':=keep hB3 hu
      have hb3:=below_trans' hB hB3
      clear hB3 d0 d1 hu
      go_wp2_with fail
      refine (HCY.out _ hb3).mono ?_
      rintro e w4 ⟨rfl,hB4⟩
      have d0:=keep hB4 d0'
      have hu:=keep hB4 hu'
      have hb4:=below_trans' hb3 hB4
      clear hB4 hb3 d0' hu'
      have hcc:=HDY.out
      cases bb
      ·have hno':Hid (∀ j,j < k+1→takesT (qOf s) T j=false):=Lib.hid (fun j hj=>by
        by_cases h:j < k
        ·exact hno.out j h
        ·obtain rfl:j=k:=by omega
         exact HTK.out)
       have hcn:¬ 0≤cc:=by simpa using hcc
       clear hcc
       go_wp2_with fail
       go_roundw
       case rel=>exact ⟨k+1,hlt,by go_num,hb4,hno'⟩
       case measure=>simp [intOf];omega
      ·have hcn:0≤cc:=by simpa using hcc
       clear hcc
       have HFF:=Lib.hid (HSZ.out k (HFK.out HTK.out) x 0 (.inr ⟨by omega,by rw [Int.toNat_natCast,HX.out],rfl⟩))
       go_wp2_with fail
       go_ret2
       exact ⟨x,0,rfl,HFF,hb4⟩
     ·have e:k=T.length:=by omega
      have HFF:=Lib.hid (HSZ.out (-1) (.inl ⟨rfl,fun j hj=>hno.out j (by omega)⟩) 0 6 (.inl ⟨by omega,rfl,rfl⟩))
      subst e
      go_wp2_with fail
      go_ret2
      exact ⟨0,6,rfl,HFF,hB⟩
  ·have HS:=Lib.hid (show SizeIs T s 0 11 from .inr (.inl ⟨hT,hN,rfl,rfl⟩))
   have HCR:=Lib.hid (fun W (hB:Below w.heap.size w W)=>rCheck02_code s W (hG.below hB) (by omega))
   have HN:=Lib.hid (numC_bad hN)
   have HT:=Lib.hid hT
   obtain ⟨a,cap,rfl,-,-,-⟩:=hv
   clear hG hN hT
   go_enter Tryz.func25,Tryz.ntmps25
   go_wp2_with fail
   refine (HCK.out _ qbl).mono ?_
   rintro e w1 ⟨c,rfl,HCT,hB1⟩
   obtain rfl:c=0:=HCT.out.uniq HT.out
   have hb1:Below w.heap.size w w1:=qbl
   clear hB1 HCT
   go_wp2_with fail
   refine (HCR.out _ hb1).mono ?_
   rintro e w2 ⟨c,rfl,hc,hB2⟩
   obtain rfl:c=11:=by rw [hc.out.2 h20,HN.out]
   clear hc
   go_wp2_with fail
   go_ret2
   exact ⟨0,11,rfl,HS,qbl⟩
 ·have HS:=Lib.hid (show SizeIs T s 0 1 from .inl ⟨hT,rfl,rfl⟩)
  have HT:=Lib.hid hT
  obtain ⟨a,cap,rfl,-,-,-⟩:=hv
  clear hG hT
  go_enter Tryz.func25,Tryz.ntmps25
  go_wp2_with fail
  refine (HCK.out _ qbl).mono ?_
  rintro e w1 ⟨c,rfl,HCT,hB1⟩
  have hc0:(c != 0)=true:=by
   have:c≠0:=fun h=>HT.out (by have:=HCT.out;rwa [h] at this)
   simpa using this
  clear HCT
  go_wp2_with fail
  go_ret2
  exact ⟨0,1,rfl,HS,qbl⟩
end Go.Proofs.YteepphiomcedfaaGreatDoor
