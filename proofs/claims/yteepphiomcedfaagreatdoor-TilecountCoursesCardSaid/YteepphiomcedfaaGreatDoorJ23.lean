/- Joined texts: WRef02, W02a, W02c, WShort50. -/
import Derived.Test.YteepphiomcedfaaGreatDoorJ04
import Derived.Test.YteepphiomcedfaaGreatDoorJ22
import Derived.Test.YteepphiomcedfaaGreatDoorJ20
set_option maxRecDepth 100000
set_option linter.unusedVariables false
set_option linter.unusedSimpArgs false
set_option maxHeartbeats 6400000
namespace Go.Proofs.YteepphiomcedfaaGreatDoor
open Go.RowKit
def tailTxt (q:Rat):List UInt8:=if q.den=1 then [] else 47::Lib.decDigits q.den
def minusB (q:Rat):Bool:=decide (q.num < 0)
def slashB (q:Rat):Bool:=!decide (q.den=1)
theorem ratText_own (q:Rat):ratText q=(if minusB q then [45] else [])++(Lib.decDigits q.num.natAbs++tailTxt q):=by
 unfold ratText tailTxt minusB
 rcases itoa_cases q.num with ⟨h,e⟩|⟨h,e⟩
 ·by_cases hd:q.den=1<;>simp [h,e,hd]
 ·by_cases hd:q.den=1<;>simp [show ¬ q.num < 0 by omega,e,hd]
theorem dec_ge47 {n:Nat}:∀ c ∈ Lib.decDigits n,c≠47:=fun c hc e=>by
 have:=decDigits_isDig n c hc
 subst e
 exact absurd this (by decide)
theorem head_dec (n:Nat) (r:List UInt8):∃ c t,Lib.decDigits n++r=c::t∧isDig c=true:=by
 cases h:Lib.decDigits n with
 | nil=>exact absurd h (decDigits_ne n)
 | cons c t=>exact ⟨c,t++r,rfl,decDigits_isDig n c (by rw [h];simp)⟩
def RetSplit (q:Rat) (w:World) (e:Ending) (w':World):Prop:=∃ n d:ByteArray,Hid (n.data.toList=Lib.decDigits q.num.natAbs)∧Hid (d.data.toList=if q.den=1 then [] else Lib.decDigits q.den)∧e=.returned (.tuple #[.bool (minusB q),.string n,.string d,.bool (slashB q)])∧Below w.heap.size w w'
theorem sizeL (s:ByteArray):s.size=s.data.toList.length:=rfl
theorem getL {s:ByteArray} {k:Nat} (h:k < s.size):s[k]=s.data.toList[k]'h:=rfl
theorem extract_take (s:ByteArray) (k:Nat):(s.extract 0 k).data.toList=s.data.toList.take k:=by
 rw [ByteArray.data_extract,Array.toList_extract,List.extract_eq_take_drop,List.drop_zero,Nat.sub_zero]
def DigS (s:ByteArray) (n:Nat):Prop:=s.data.toList=Lib.decDigits n∧n < 100000000
theorem DigS.size {s:ByteArray} {n:Nat} (h:DigS s n):1≤s.size∧s.size≤8:=by
 rw [sizeL,h.1,Lib.decDigits_length]
 refine ⟨?_,nDigits_le8 h.2⟩
 rw [← Lib.decDigits_length]
 exact List.length_pos_iff.2 (decDigits_ne n)
theorem DigS.dig {s:ByteArray} {n k:Nat} (h:DigS s n) (hk:k < s.size):(48:Int)≤(s[k].toNat:Int)∧(s[k].toNat:Int)≤57:=by
 have h1:isDig s[k]=true:=decDigits_isDig n _ (by rw [← h.1];exact List.getElem_mem hk)
 have:=(isDig_iff _).1 h1
 omega
theorem DigS.lead {s:ByteArray} {n:Nat} (h:DigS s n) (h0:0 < s.size) (h1:1 < s.size):((s[0].toNat:Int) == 48)=false:=by
 refine Bool.eq_false_iff.2 (fun h'=>?_)
 have h2:=headq h0 h'
 rw [h.1] at h2
 exact decDigits_head n (by rw [← h.1];exact (show 1 < s.size from h1)) h2
theorem rgcd_any (a b:Nat) (w:World) (ha:a≤4000000000000000000) (hb:b≤4000000000000000000) :
  Calls Tryz.prog 119 #[.int .i64 a,.int .i64 b] w fun e w'=>e=.returned (.int .i64 (Nat.gcd a b:Nat))∧∃ n,w'=w.drewN n:=by
 go_enter Tryz.func119,Tryz.ntmps119
 go_wp2
 go_loopw [0,1] (fun x y wr=>∃ m n:Nat,x=.int .i64 m∧y=.int .i64 n∧m≤4000000000000000000∧n≤4000000000000000000∧Nat.gcd m n=Nat.gcd a b∧∃ q,wr=w.drewN q) (fun _ y _=>(intOf y).toNat)
 case atStart=>exact ⟨a,b,rfl,rfl,ha,hb,rfl,0,rfl⟩
 case round =>
  obtain ⟨m,n,rfl,rfl,hm,hn,hg,q,rfl⟩:=hrel
  have HG:=Lib.hid hg;clear hg
  by_cases h0:n=0
  ·subst h0
   go_wp2
   go_ret
   have:=HG.out
   rw [Nat.gcd_zero_right] at this
   subst this
   exact ⟨rfl,q,rfl⟩
  ·have hne:((n:Int) != 0)=true:=by simp [h0]
   have hlt:m % n < n:=Nat.mod_lt _ (by omega)
   go_wp2
   go_quiet (fail)
   go_wp2
   go_roundw
   case rel=>exact ⟨n,m % n,rfl,by go_num,hn,by omega,by rw [← HG.out,Nat.gcd_comm m n,Nat.gcd_comm n (m % n)];exact (Nat.gcd_rec n m).symm,_,drewN_add _ _ _⟩
   case measure=>simp [intOf];omega
theorem dec_48 {s:ByteArray} {n:Nat} (h:s.data.toList=Lib.decDigits n) (h0:n≠0):(s.toList == [48])=false:=by
 rw [Lib.toList_data,h]
 have:Lib.decDigits n≠[48]:=fun e=>by have:=congrArg dval e;rw [dval_decDigits] at this;exact h0 (this.trans (by decide))
 simpa using this
theorem dec_49 {s:ByteArray} {n:Nat} (h:s.data.toList=Lib.decDigits n) (h0:n≠1):(s.toList == [49])=false:=by
 rw [Lib.toList_data,h]
 have:Lib.decDigits n≠[49]:=fun e=>by have:=congrArg dval e;rw [dval_decDigits] at this;exact h0 (this.trans (by decide))
 simpa using this
end Go.Proofs.YteepphiomcedfaaGreatDoor
namespace Go.Proofs.YteepphiomcedfaaGreatDoor
open Go.RowKit
def RetCut (s:ByteArray) (w:World) (e:Ending) (w':World):Prop:=∃ (m sl:Bool) (n d:ByteArray),Hid (s.data.toList=(if m then [45] else [])++(n.data.toList++(if sl then 47::d.data.toList else [])))∧Hid (sl=false→d=⟨#[]⟩)∧e=.returned (.tuple #[.bool m,.string n,.string d,.bool sl])∧Below w.heap.size w w'
theorem split_any (s:ByteArray) (w:World) (hs:s.size≤9223372036854775807):Calls Tryz.prog 111 #[.string s] w (RetCut s w):=by
 by_cases h0:0 < s.size
 ·have hI0:(0:Int) < (s.size:Int):=by omega
  have e1:=toList_ne (s:=s) (by omega)
  have e2:=toList_isEmpty (s:=s) (by omega)
  obtain ⟨mb,hmb⟩:∃ mb,((s[0].toNat:Int) == 45)=mb:=⟨_,rfl⟩
  have HH:=Lib.hid (fun h:mb=true=>headq45 h0 (hmb.trans h))
  go_enter Tryz.func111,Tryz.ntmps111
  go_upto_if 18 with (fail)
  go_cut [6] (fun o wr=>∃ own:ByteArray,o=.string own∧s.data.toList=(if mb then [45] else [])++own.data.toList∧wr=w)
  case first =>
   cases mb
   ·go_wp2_with fail
    go_meet
    exact ⟨s,rfl,rfl,rfl⟩
   ·go_wp2_with fail
    go_meet
    refine ⟨s.extract 1 s.size,rfl,?_,rfl⟩
    have hh:=HH.out (by simp)
    rw [extract_drop]
    cases hd:s.data.toList with
    | nil=>rw [hd] at hh;cases hh
    | cons a t=>rw [hd] at hh;injection hh with hh;subst hh;simp
  case rest =>
   obtain ⟨own,rfl,hown,rfl⟩:=hcut
   have hol:own.size≤9223372036854775807:=by
    have h1:s.size=s.data.toList.length:=rfl
    have h2:own.size=own.data.toList.length:=rfl
    rw [hown,List.length_append] at h1
    omega
   have HW:=Lib.hid hown
   clear hown hmb
   go_wp2_with fail
   go_loopw [8] (fun i wr=>∃ k:Nat,k≤own.size∧i=.int .i64 k∧wr=wc) (fun i _=>own.size - (intOf i).toNat)
   case atStart=>exact ⟨0,by omega,rfl,rfl⟩
   case round =>
    obtain ⟨k,hk,rfl,hwr⟩:=hrel
    subst wr
    by_cases hks:k < own.size
    ·cases he:((own[k].toNat:Int) == 47)
     ·go_wp2_with fail
      go_roundw
      case rel=>exact ⟨k+1,by omega,by go_num,by trivial⟩
      case measure=>simp [intOf];omega
     ·have HE:=Lib.hid he
      have hk1:IntKind.i64.wrap ((k:Int)+1)=(k:Int)+1:=IntWalk.i64_in _ (by omega)
      have hk2:0≤(k:Int)+1:=by omega
      have hk3:((k:Int)+1).toNat=k+1:=by omega
      go_wp2_with fail
      go_quiet (fail)
      go_wp2_with fail
      refine bodyPost_ret (v:=.tuple #[.bool mb,.string (own.extract 0 k),.string (own.extract (k+1) own.size),.bool true]) (by simp [results,Tryz.results111,go_sem]) rfl ⟨mb,true,own.extract 0 k,own.extract (k+1) own.size,Lib.hid ?_,Lib.hid (fun h=>by cases h),rfl,qbl⟩
      rw [extract_take,extract_drop,HW.out]
      congr 1
      have h47:own.data.toList[k]'hks=47:=by
       have h1:own[k].toNat=47:=by have:=HE.out;rw [beq_iff_eq] at this;omega
       exact UInt8.toNat_inj.1 h1
      conv=>lhs;rw [← List.take_append_drop k own.data.toList]
      rw [List.drop_eq_getElem_cons hks,h47]
      rfl
    ·go_wp2_with fail
     refine bodyPost_ret (v:=.tuple #[.bool mb,.string own,.string ⟨#[]⟩,.bool false]) (by simp [results,Tryz.results111,go_sem]) rfl ⟨mb,false,own,⟨#[]⟩,Lib.hid ?_,Lib.hid (fun _=>rfl),rfl,qbl⟩
     rw [HW.out]
     simp
 ·have hz:¬ (0:Int) < (s.size:Int):=by omega
  go_enter Tryz.func111,Tryz.ntmps111
  go_wp2_with fail
  go_loopw [8] (fun i wr=>i=.int .i64 0∧wr=w) (fun i _=>0)
  case atStart=>exact ⟨rfl,rfl⟩
  case round =>
   obtain ⟨rfl,hwr⟩:=hrel
   subst wr
   go_wp2_with fail
   refine bodyPost_ret (v:=.tuple #[.bool false,.string s,.string ⟨#[]⟩,.bool false]) (by simp [results,Tryz.results111,go_sem]) rfl ⟨false,false,s,⟨#[]⟩,Lib.hid (by simp),Lib.hid (fun _=>rfl),rfl,qbl⟩
def RetDigs (s:ByteArray) (w:World) (e:Ending) (w':World):Prop:=∃ b:Bool,e=.returned (.bool b)∧Hid (b=true→s.data.toList=Lib.decDigits (dval s.data.toList))∧w'=w
theorem dec_of_digits (l:List UInt8) (hd:∀ c ∈ l,isDig c=true) (h0:l≠[]) (h1:1 < l.length→l.head?≠some 48):Lib.decDigits (dval l)=l:=by
 induction hn:l.length generalizing l with
 | zero=>exact absurd (List.length_eq_zero_iff.1 hn) h0
 | succ k ih =>
  obtain ⟨t,c,rfl⟩:∃ t c,l=t++[c]:=⟨l.dropLast,l.getLast h0,(List.dropLast_concat_getLast h0).symm⟩
  have hc:=(isDig_iff c).1 (hd c (by simp))
  have e48:UInt8.ofNat (48+(c.toNat - 48))=c:=by
   rw [show 48+(c.toNat - 48)=c.toNat by omega]
   simp
  rw [dval_snoc]
  by_cases ht:t=[]
  ·subst ht
   rw [show 10 * dval []+(c.toNat - 48)=c.toNat - 48 by simp [dval],Lib.decDigits_one (by omega),e48]
   rfl
  ·have ht1:1≤t.length:=List.length_pos_iff.2 ht
   have hhead:t.head?≠some 48:=by
    have:=h1 (by rw [List.length_append];simp;omega)
    cases t with
    | nil=>exact absurd rfl ht
    | cons a r=>simpa using this
   have hih:=ih t (fun c hc=>hd c (by simp [hc])) ht (fun _=>hhead) (by rw [List.length_append] at hn;simpa using hn)
   have hpos:0 < dval t:=by
    refine Nat.pos_of_ne_zero fun hz=>?_
    rw [hz,Lib.decDigits_one (by omega)] at hih
    rw [← hih] at hhead
    exact hhead rfl
   rw [Lib.decDigits,dif_neg (by omega),show (10 * dval t+(c.toNat - 48)) / 10=dval t by omega,show (10 * dval t+(c.toNat - 48)) % 10=c.toNat - 48 by omega,hih,e48]
theorem rdigits_any (s:ByteArray) (w:World) (hs:s.size≤9223372036854775807):Calls Tryz.prog 118 #[.string s] w (RetDigs s w):=by
 by_cases hz0:s.size=0
 ·have hz:((s.size:Int) == 0)=true:=by rw [hz0];rfl
  clear hz0
  go_enter Tryz.func118,Tryz.ntmps118
  go_wp2_with fail
  go_ret
  exact ⟨false,rfl,Lib.hid (fun h=>by cases h),rfl⟩
 ·have hz:((s.size:Int) == 0)=false:=by rw [beq_eq_false_iff_ne];omega
  have hp:0 < s.size:=by omega
  have hne:s.data.toList≠[]:=fun h=>hz0 (by have h1:s.size=s.data.toList.length:=rfl;rw [h1,h];rfl)
  by_cases hbad:1 < s.size∧((s[0].toNat:Int) == 48)=true
  ·obtain ⟨h1,h48⟩:=hbad
   have h1':(1:Int) < (s.size:Int):=by omega
   clear hz0
   go_enter Tryz.func118,Tryz.ntmps118
   go_wp2_with fail
   go_ret
   exact ⟨false,rfl,Lib.hid (fun h=>by cases h),rfl⟩
  ·have HB:=Lib.hid (fun hd:(∀ c ∈ s.data.toList,isDig c=true)=>(dec_of_digits s.data.toList hd hne (fun h1 h=>hbad ⟨h1,headq' hp h⟩)).symm)
   have hcase:(1 < s.size∧((s[0].toNat:Int) == 48)=false)∨¬ (1:Int) < (s.size:Int):=by
    by_cases h1:1 < s.size
    ·refine .inl ⟨h1,?_⟩
     cases h:((s[0].toNat:Int) == 48)
     ·rfl
     ·exact absurd ⟨h1,h⟩ hbad
    ·exact .inr (by omega)
   clear hbad hz0 hne
   rcases hcase with ⟨h1,h48⟩|h1
   ·have h1':(1:Int) < (s.size:Int):=by omega
    go_enter Tryz.func118,Tryz.ntmps118
    go_wp2_with fail
    go_loopw [3] (fun i wr=>∃ k:Nat,k≤s.size∧i=.int .i64 k∧Hid (∀ j (h:j < s.size),j < k→isDig s[j]=true)∧wr=w) (fun i _=>s.size - (intOf i).toNat)
    case atStart=>exact ⟨0,by omega,rfl,Lib.hid (fun j _ h=>by omega),rfl⟩
    case round =>
     obtain ⟨k,hk,rfl,HD,hwr⟩:=hrel
     subst wr
     by_cases hlt:k < s.size
     ·by_cases hd1:(s[k].toNat:Int) < 48
      ·go_wp2_with fail
       go_ret
       exact ⟨false,rfl,Lib.hid (fun h=>by cases h),rfl⟩
      ·by_cases hd2:(57:Int) < (s[k].toNat:Int)
       ·go_wp2_with fail
        go_ret
        exact ⟨false,rfl,Lib.hid (fun h=>by cases h),rfl⟩
       ·have HD2:Hid (∀ j (h:j < s.size),j < k+1→isDig s[j]=true):=Lib.hid (fun j h hj=>by
         by_cases hjk:j=k
         ·subst hjk;rw [isDig_iff];omega
         ·exact HD.out j h (by omega))
        go_wp2_with fail
        go_roundw
        case rel=>exact ⟨k+1,by omega,by go_num,HD2,by trivial⟩
        case measure=>simp [intOf];omega
     ·have HK:Hid (s.data.toList.length≤k):=Lib.hid (by have:s.size=s.data.toList.length:=rfl;omega)
      go_wp2_with fail
      go_ret
      exact ⟨true,rfl,Lib.hid (fun _=>HB.out (fun c hc=>by
       obtain ⟨j,hj,rfl⟩:=List.getElem_of_mem hc
       exact HD.out j hj (Nat.lt_of_lt_of_le hj HK.out))),rfl⟩
   ·go_enter Tryz.func118,Tryz.ntmps118
    go_wp2_with fail
    go_loopw [3] (fun i wr=>∃ k:Nat,k≤s.size∧i=.int .i64 k∧Hid (∀ j (h:j < s.size),j < k→isDig s[j]=true)∧wr=w) (fun i _=>s.size - (intOf i).toNat)
    case atStart=>exact ⟨0,by omega,rfl,Lib.hid (fun j _ h=>by omega),rfl⟩
    case round =>
     obtain ⟨k,hk,rfl,HD,hwr⟩:=hrel
     subst wr
     by_cases hlt:k < s.size
     ·by_cases hd1:(s[k].toNat:Int) < 48
      ·go_wp2_with fail
       go_ret
       exact ⟨false,rfl,Lib.hid (fun h=>by cases h),rfl⟩
      ·by_cases hd2:(57:Int) < (s[k].toNat:Int)
       ·go_wp2_with fail
        go_ret
        exact ⟨false,rfl,Lib.hid (fun h=>by cases h),rfl⟩
       ·have HD2:Hid (∀ j (h:j < s.size),j < k+1→isDig s[j]=true):=Lib.hid (fun j h hj=>by
         by_cases hjk:j=k
         ·subst hjk;rw [isDig_iff];omega
         ·exact HD.out j h (by omega))
        go_wp2_with fail
        go_roundw
        case rel=>exact ⟨k+1,by omega,by go_num,HD2,by trivial⟩
        case measure=>simp [intOf];omega
     ·have HK:Hid (s.data.toList.length≤k):=Lib.hid (by have:s.size=s.data.toList.length:=rfl;omega)
      go_wp2_with fail
      go_ret
      exact ⟨true,rfl,Lib.hid (fun _=>HB.out (fun c hc=>by
       obtain ⟨j,hj,rfl⟩:=List.getElem_of_mem hc
       exact HD.out j hj (Nat.lt_of_lt_of_le hj HK.out))),rfl⟩
theorem rsmall_any {n:Nat} (s:ByteArray) (w:World) (hs:s.data.toList=Lib.decDigits n) (hl:s.size≤9):Calls Tryz.prog 120 #[.string s] w fun e w'=>e=.returned (.int .i64 n)∧w'=w:=by
 have HS:=Lib.hid (fun k hk=>R6.dec_dig (k:=k) hs hk)
 have HV:=Lib.hid (show dval (s.data.toList.take s.size)=n by rw [List.take_of_length_le (show s.data.toList.length≤s.size from Nat.le_refl _),hs,dval_decDigits])
 have HB:=Lib.hid (fun k (hk:k≤s.size)=>(show dval (s.data.toList.take k) < 10 ^ 9 from Nat.lt_of_lt_of_le (R6.dec_val_lt hs hk) (Nat.pow_le_pow_right (by omega) (by omega))))
 clear hs
 go_enter Tryz.func120,Tryz.ntmps120
 go_wp2_with fail
 go_loopw [3,4] (fun n i wr=>∃ k:Nat,k≤s.size∧i=.int .i64 k∧n=.int .i64 (dval (s.data.toList.take k):Nat)∧wr=w) (fun _ i _=>s.size - (intOf i).toNat)
 case atStart=>exact ⟨0,by omega,rfl,rfl,rfl⟩
 case round =>
  obtain ⟨k,hk,rfl,rfl,hwr⟩:=hrel
  subst wr
  by_cases hlt:k < s.size
  ·obtain ⟨d1,d2⟩:=HS.out k hlt
   have hv:=HB.out k hk
   have hv8:(dval (s.data.toList.take k):Int)≤1000000000:=by omega
   have HVS:=Lib.hid (dval_snoc (s.data.toList.take k) s[k])
   clear hv
   go_wp2_with fail
   go_roundw
   case rel=>exact ⟨k+1,by omega,by go_num,ret_i64 (by rw [List.take_succ_eq_append_getElem hlt];have:=HVS.out;have e:s.data.toList[k]=s[k]:=rfl;rw [e];omega),by trivial⟩
   case measure=>simp [intOf];omega
  ·have e:k=s.size:=by omega
   subst e
   rw [HV.out]
   go_wp2_with fail
   go_ret
   exact ⟨rfl,rfl⟩
end Go.Proofs.YteepphiomcedfaaGreatDoor
namespace Go.Proofs.YteepphiomcedfaaGreatDoor
open Go.RowKit
theorem text_is {a b:Nat} (m:Bool) (hb:1≤b) (hg:Nat.gcd a b=1) (hm:m=true→a≠0) :
  ∃ q:Rat,q.num.natAbs=a∧q.den=b∧ratText q=(if m then [45] else [])++(Lib.decDigits a++if b=1 then [] else 47::Lib.decDigits b):=by
 refine ⟨⟨if m then -(a:Int) else (a:Int),b,by omega,?_⟩,?_,rfl,?_⟩
 ·cases m
  ·simpa [Nat.Coprime] using hg
  ·simpa [Nat.Coprime] using hg
 ·cases m<;>simp
 ·rw [ratText_own]
  cases m
  ·simp [minusB,tailTxt]
  ·have:=hm rfl
   have h:minusB ⟨if true then -(a:Int) else (a:Int),b,by omega,by simpa [Nat.Coprime] using hg⟩=true:=by simp [minusB];omega
   rw [h]
   simp [tailTxt]
theorem bool_lt {s:ByteArray} {k:Nat} (h:s.data.toList=Lib.decDigits (dval s.data.toList)) (hs:s.size≤k):dval s.data.toList < 10 ^ k:=pow_le_of_lt (by rw [← h];exact hs)
end Go.Proofs.YteepphiomcedfaaGreatDoor
namespace Go.Proofs.YteepphiomcedfaaGreatDoor
open Go.RowKit
end Go.Proofs.YteepphiomcedfaaGreatDoor
