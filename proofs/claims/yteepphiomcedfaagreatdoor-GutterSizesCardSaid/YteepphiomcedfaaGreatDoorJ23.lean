/- Joined texts: WRef02, W02a, W02c, WShort50. -/
import Derived.Test.YteepphiomcedfaaGreatDoorJ04
import Derived.Test.YteepphiomcedfaaGreatDoorJ22
import Derived.Test.YteepphiomcedfaaGreatDoorJ20
set_option maxRecDepth 100000
set_option linter.unusedVariables false
set_option linter.unusedSimpArgs false
namespace Go.Proofs.YteepphiomcedfaaGreatDoor
open Go.RowKit
def tailTxt (q:Rat):List UInt8:=if q.den=1 then [] else 47::Lib.decDigits q.den
def minusB (q:Rat):Bool:=decide (q.num < 0)
theorem ratText_own (q:Rat):ratText q=(if minusB q then [45] else [])++(Lib.decDigits q.num.natAbs++tailTxt q):=by
 unfold ratText tailTxt minusB
 rcases itoa_cases q.num with ⟨h,e⟩|⟨h,e⟩
 ·by_cases hd:q.den=1<;>simp [h,e,hd]
 ·by_cases hd:q.den=1<;>simp [show ¬ q.num < 0 by omega,e,hd]
theorem sizeL (s:ByteArray):s.size=s.data.toList.length:=rfl
theorem extract_take (s:ByteArray) (k:Nat):(s.extract 0 k).data.toList=s.data.toList.take k:=by
 rw [ByteArray.data_extract,Array.toList_extract,List.extract_eq_take_drop,List.drop_zero,Nat.sub_zero]
def DigS (s:ByteArray) (n:Nat):Prop:=s.data.toList=Lib.decDigits n∧n < 100000000
theorem DigS.size {s:ByteArray} {n:Nat} (h:DigS s n):1≤s.size∧s.size≤8:=by
 rw [sizeL,h.1,Lib.decDigits_length]
 refine ⟨?_,nDigits_le8 h.2⟩
 rw [← Lib.decDigits_length]
 exact List.length_pos_iff.2 (decDigits_ne n)
set_option maxHeartbeats 800000 in
theorem rgcd_any (a b:Nat) (w:World) (ha:a≤4000000000000000000) (hb:b≤4000000000000000000) :
  Calls Tryz.prog 119 #[.int .i64 a,.int .i64 b] w fun e w'=>e=.returned (.int .i64 (Nat.gcd a b:Nat))∧∃ n,w'=w.drewN n:=by
 go_enter Tryz.func119,Tryz.ntmps119
 go_wp2
 go_loopw [0,1] (fun x y wr=>∃ m n:Nat,x=.int .i64 m∧y=.int .i64 n∧m≤4000000000000000000∧n≤4000000000000000000∧Nat.gcd m n=Nat.gcd a b∧∃ q,wr=w.drewN q) (fun _ y _=>(intOf y).toNat)
 case atStart=>exact ⟨a,b,rfl,rfl,ha,hb,rfl,0,rfl⟩
 case round =>
  obtain ⟨m,n,rfl,rfl,hm,hn,hg,q,rfl⟩:=hrel
  have HG:=Lib.hid hg;clear hg
  by_cases h0:n=0
  ·subst h0
   go_wp2
   go_ret
   have:=HG.out
   rw [Nat.gcd_zero_right] at this
   subst this
   exact ⟨rfl,q,rfl⟩
  ·have hne:((n:Int) != 0)=true:=by simp [h0]
   have hlt:m % n < n:=Nat.mod_lt _ (by omega)
   go_wp2
   go_quiet (fail)
   go_wp2
   go_roundw
   case rel=>exact ⟨n,m % n,rfl,by go_num,hn,by omega,by rw [← HG.out,Nat.gcd_comm m n,Nat.gcd_comm n (m % n)];exact (Nat.gcd_rec n m).symm,_,drewN_add _ _ _⟩
   case measure=>simp [intOf];omega
end Go.Proofs.YteepphiomcedfaaGreatDoor
namespace Go.Proofs.YteepphiomcedfaaGreatDoor
open Go.RowKit
def RetCut (s:ByteArray) (w:World) (e:Ending) (w':World):Prop:=∃ (m sl:Bool) (n d:ByteArray),Hid (s.data.toList=(if m then [45] else [])++(n.data.toList++(if sl then 47::d.data.toList else [])))∧Hid (sl=false→d=⟨#[]⟩)∧e=.returned (.tuple #[.bool m,.string n,.string d,.bool sl])∧Below w.heap.size w w'
set_option maxHeartbeats 1600000 in
theorem split_any (s:ByteArray) (w:World) (hs:s.size≤1000):Calls Tryz.prog 111 #[.string s] w (RetCut s w):=by
 by_cases h0:0 < s.size
 ·have hI0:(0:Int) < (s.size:Int):=by omega
  have e1:=toList_ne (s:=s) (by omega)
  have e2:=toList_isEmpty (s:=s) (by omega)
  obtain ⟨mb,hmb⟩:∃ mb,((s[0].toNat:Int) == 45)=mb:=⟨_,rfl⟩
  have HH:=Lib.hid (fun h:mb=true=>headq45 h0 (hmb.trans h))
  go_enter Tryz.func111,Tryz.ntmps111
  go_upto_if 18 with (fail)
  go_cut [6] (fun o wr=>∃ own:ByteArray,o=.string own∧s.data.toList=(if mb then [45] else [])++own.data.toList∧wr=w)
  case first =>
   cases mb
   ·go_wp2_with fail
    go_meet
    exact ⟨s,rfl,rfl,rfl⟩
   ·go_wp2_with fail
    go_meet
    refine ⟨s.extract 1 s.size,rfl,?_,rfl⟩
    have hh:=HH.out (by simp)
    rw [extract_drop]
    cases hd:s.data.toList with
    | nil=>rw [hd] at hh;cases hh
    | cons a t=>rw [hd] at hh;injection hh with hh;subst hh;simp
  case rest =>
   obtain ⟨own,rfl,hown,rfl⟩:=hcut
   have hol:own.size≤1000:=by
    have h1:s.size=s.data.toList.length:=rfl
    have h2:own.size=own.data.toList.length:=rfl
    rw [hown,List.length_append] at h1
    omega
   have HW:=Lib.hid hown
   clear hown hmb
   go_wp2_with fail
   go_loopw [8] (fun i wr=>∃ k:Nat,k≤own.size∧i=.int .i64 k∧wr=wc) (fun i _=>own.size - (intOf i).toNat)
   case atStart=>exact ⟨0,by omega,rfl,rfl⟩
   case round =>
    obtain ⟨k,hk,rfl,hwr⟩:=hrel
    subst wr
    by_cases hks:k < own.size
    ·cases he:((own[k].toNat:Int) == 47)
     ·go_wp2_with fail
      go_roundw
      case rel=>exact ⟨k+1,by omega,by go_num,by trivial⟩
      case measure=>simp [intOf];omega
     ·have HE:=Lib.hid he
      have hk1:IntKind.i64.wrap ((k:Int)+1)=(k:Int)+1:=IntWalk.i64_in _ (by omega)
      have hk2:0≤(k:Int)+1:=by omega
      have hk3:((k:Int)+1).toNat=k+1:=by omega
      go_wp2_with fail
      go_quiet (fail)
      go_wp2_with fail
      refine bodyPost_ret (v:=.tuple #[.bool mb,.string (own.extract 0 k),.string (own.extract (k+1) own.size),.bool true]) (by simp [results,Tryz.results111,go_sem]) rfl ⟨mb,true,own.extract 0 k,own.extract (k+1) own.size,Lib.hid ?_,Lib.hid (fun h=>by cases h),rfl,(by repeat (first|(with_reducible first|exact bw0 _ _|refine bw1 ?_ ?_ _|refine bw2 ?_ _|refine bw3 ?_|refine bw4 ?_ _|refine bw5 (by assumption) ?_)|exact Nat.le_refl _|(focus (simp;done))|(focus (simp;omega))|omega))⟩
      rw [extract_take,extract_drop,HW.out]
      congr 1
      have h47:own.data.toList[k]'hks=47:=by
       have h1:own[k].toNat=47:=by have:=HE.out;rw [beq_iff_eq] at this;omega
       exact UInt8.toNat_inj.1 h1
      conv=>lhs;rw [← List.take_append_drop k own.data.toList]
      rw [List.drop_eq_getElem_cons hks,h47]
      rfl
    ·go_wp2_with fail
     refine bodyPost_ret (v:=.tuple #[.bool mb,.string own,.string ⟨#[]⟩,.bool false]) (by simp [results,Tryz.results111,go_sem]) rfl ⟨mb,false,own,⟨#[]⟩,Lib.hid ?_,Lib.hid (fun _=>rfl),rfl,(by repeat (first|(with_reducible first|exact bw0 _ _|refine bw1 ?_ ?_ _|refine bw2 ?_ _|refine bw3 ?_|refine bw4 ?_ _|refine bw5 (by assumption) ?_)|exact Nat.le_refl _|(focus (simp;done))|(focus (simp;omega))|omega))⟩
     rw [HW.out]
     simp
 ·have hz:¬ (0:Int) < (s.size:Int):=by omega
  go_enter Tryz.func111,Tryz.ntmps111
  go_wp2_with fail
  go_loopw [8] (fun i wr=>i=.int .i64 0∧wr=w) (fun i _=>0)
  case atStart=>exact ⟨rfl,rfl⟩
  case round =>
   obtain ⟨rfl,hwr⟩:=hrel
   subst wr
   go_wp2_with fail
   refine bodyPost_ret (v:=.tuple #[.bool false,.string s,.string ⟨#[]⟩,.bool false]) (by simp [results,Tryz.results111,go_sem]) rfl ⟨false,false,s,⟨#[]⟩,Lib.hid (by simp),Lib.hid (fun _=>rfl),rfl,(by repeat (first|(with_reducible first|exact bw0 _ _|refine bw1 ?_ ?_ _|refine bw2 ?_ _|refine bw3 ?_|refine bw4 ?_ _|refine bw5 (by assumption) ?_)|exact Nat.le_refl _|(focus (simp;done))|(focus (simp;omega))|omega))⟩
def RetDigs (s:ByteArray) (w:World) (e:Ending) (w':World):Prop:=∃ b:Bool,e=.returned (.bool b)∧Hid (b=true→s.data.toList=Lib.decDigits (dval s.data.toList))∧w'=w
theorem dec_of_digits (l:List UInt8) (hd:∀ c ∈ l,isDig c=true) (h0:l≠[]) (h1:1 < l.length→l.head?≠some 48):Lib.decDigits (dval l)=l:=by
 induction hn:l.length generalizing l with
 | zero=>exact absurd (List.length_eq_zero_iff.1 hn) h0
 | succ k ih =>
  obtain ⟨t,c,rfl⟩:∃ t c,l=t++[c]:=⟨l.dropLast,l.getLast h0,(List.dropLast_concat_getLast h0).symm⟩
  have hc:=(isDig_iff c).1 (hd c (by simp))
  have e48:UInt8.ofNat (48+(c.toNat - 48))=c:=by
   rw [show 48+(c.toNat - 48)=c.toNat by omega]
   simp
  rw [dval_snoc]
  by_cases ht:t=[]
  ·subst ht
   rw [show 10 * dval []+(c.toNat - 48)=c.toNat - 48 by simp [dval],Lib.decDigits_one (by omega),e48]
   rfl
  ·have ht1:1≤t.length:=List.length_pos_iff.2 ht
   have hhead:t.head?≠some 48:=by
    have:=h1 (by rw [List.length_append];simp;omega)
    cases t with
    | nil=>exact absurd rfl ht
    | cons a r=>simpa using this
   have hih:=ih t (fun c hc=>hd c (by simp [hc])) ht (fun _=>hhead) (by rw [List.length_append] at hn;simpa using hn)
   have hpos:0 < dval t:=by
    refine Nat.pos_of_ne_zero fun hz=>?_
    rw [hz,Lib.decDigits_one (by omega)] at hih
    rw [← hih] at hhead
    exact hhead rfl
   rw [Lib.decDigits,dif_neg (by omega),show (10 * dval t+(c.toNat - 48)) / 10=dval t by omega,show (10 * dval t+(c.toNat - 48)) % 10=c.toNat - 48 by omega,hih,e48]
set_option maxHeartbeats 1600000 in
theorem rdigits_any (s:ByteArray) (w:World) (hs:s.size≤1000):Calls Tryz.prog 118 #[.string s] w (RetDigs s w):=by
 by_cases hz0:s.size=0
 ·have hz:((s.size:Int) == 0)=true:=by rw [hz0];rfl
  clear hz0
  go_enter Tryz.func118,Tryz.ntmps118
  go_wp2_with fail
  go_ret
  exact ⟨false,rfl,Lib.hid (fun h=>by cases h),rfl⟩
 ·have hz:((s.size:Int) == 0)=false:=by rw [beq_eq_false_iff_ne];omega
  have hp:0 < s.size:=by omega
  have hne:s.data.toList≠[]:=fun h=>hz0 (by have h1:s.size=s.data.toList.length:=rfl;rw [h1,h];rfl)
  by_cases hbad:1 < s.size∧((s[0].toNat:Int) == 48)=true
  ·obtain ⟨h1,h48⟩:=hbad
   have h1':(1:Int) < (s.size:Int):=by omega
   clear hz0
   go_enter Tryz.func118,Tryz.ntmps118
   go_wp2_with fail
   go_ret
   exact ⟨false,rfl,Lib.hid (fun h=>by cases h),rfl⟩
  ·have HB:=Lib.hid (fun hd:(∀ c ∈ s.data.toList,isDig c=true)=>(dec_of_digits s.data.toList hd hne (fun h1 h=>hbad ⟨h1,headq' hp h⟩)).symm)
   have hcase:(1 < s.size∧((s[0].toNat:Int) == 48)=false)∨¬ (1:Int) < (s.size:Int):=by
    by_cases h1:1 < s.size
    ·refine .inl ⟨h1,?_⟩
     cases h:((s[0].toNat:Int) == 48)
     ·rfl
     ·exact absurd ⟨h1,h⟩ hbad
    ·exact .inr (by omega)
   clear hbad hz0 hne
   rcases hcase with ⟨h1,h48⟩|h1
   ·have h1':(1:Int) < (s.size:Int):=by omega
    go_enter Tryz.func118,Tryz.ntmps118
    go_wp2_with fail
    go_loopw [3] (fun i wr=>∃ k:Nat,k≤s.size∧i=.int .i64 k∧Hid (∀ j (h:j < s.size),j < k→isDig s[j]=true)∧wr=w) (fun i _=>s.size - (intOf i).toNat)
    case atStart=>exact ⟨0,by omega,rfl,Lib.hid (fun j _ h=>by omega),rfl⟩
    case round =>
     obtain ⟨k,hk,rfl,HD,hwr⟩:=hrel
     subst wr
     by_cases hlt:k < s.size
     ·by_cases hd1:(s[k].toNat:Int) < 48
      ·go_wp2_with fail
       go_ret
       exact ⟨false,rfl,Lib.hid (fun h=>by cases h),rfl⟩
      ·by_cases hd2:(57:Int) < (s[k].toNat:Int)
       ·go_wp2_with fail
        go_ret
        exact ⟨false,rfl,Lib.hid (fun h=>by cases h),rfl⟩
       ·have HD2:Hid (∀ j (h:j < s.size),j < k+1→isDig s[j]=true):=Lib.hid (fun j h hj=>by
         by_cases hjk:j=k
         ·subst hjk;rw [isDig_iff];omega
         ·exact HD.out j h (by omega))
        go_wp2_with fail
        go_roundw
        case rel=>exact ⟨k+1,by omega,by go_num,HD2,by trivial⟩
        case measure=>simp [intOf];omega
     ·have HK:Hid (s.data.toList.length≤k):=Lib.hid (by have:s.size=s.data.toList.length:=rfl;omega)
      go_wp2_with fail
      go_ret
      exact ⟨true,rfl,Lib.hid (fun _=>HB.out (fun c hc=>by
       obtain ⟨j,hj,rfl⟩:=List.getElem_of_mem hc
       exact HD.out j hj (Nat.lt_of_lt_of_le hj HK.out))),rfl⟩
   ·go_enter Tryz.func118,Tryz.ntmps118
    go_wp2_with fail
    go_loopw [3] (fun i wr=>∃ k:Nat,k≤s.size∧i=.int .i64 k∧Hid (∀ j (h:j < s.size),j < k→isDig s[j]=true)∧wr=w) (fun i _=>s.size - (intOf i).toNat)
    case atStart=>exact ⟨0,by omega,rfl,Lib.hid (fun j _ h=>by omega),rfl⟩
    case round =>
     obtain ⟨k,hk,rfl,HD,hwr⟩:=hrel
     subst wr
     by_cases hlt:k < s.size
     ·by_cases hd1:(s[k].toNat:Int) < 48
      ·go_wp2_with fail
       go_ret
       exact ⟨false,rfl,Lib.hid (fun h=>by cases h),rfl⟩
      ·by_cases hd2:(57:Int) < (s[k].toNat:Int)
       ·go_wp2_with fail
        go_ret
        exact ⟨false,rfl,Lib.hid (fun h=>by cases h),rfl⟩
       ·have HD2:Hid (∀ j (h:j < s.size),j < k+1→isDig s[j]=true):=Lib.hid (fun j h hj=>by
         by_cases hjk:j=k
         ·subst hjk;rw [isDig_iff];omega
         ·exact HD.out j h (by omega))
        go_wp2_with fail
        go_roundw
        case rel=>exact ⟨k+1,by omega,by go_num,HD2,by trivial⟩
        case measure=>simp [intOf];omega
     ·have HK:Hid (s.data.toList.length≤k):=Lib.hid (by have:s.size=s.data.toList.length:=rfl;omega)
      go_wp2_with fail
      go_ret
      exact ⟨true,rfl,Lib.hid (fun _=>HB.out (fun c hc=>by
       obtain ⟨j,hj,rfl⟩:=List.getElem_of_mem hc
       exact HD.out j hj (Nat.lt_of_lt_of_le hj HK.out))),rfl⟩
set_option maxHeartbeats 800000 in
theorem rsmall_any {n:Nat} (s:ByteArray) (w:World) (hs:s.data.toList=Lib.decDigits n) (hl:s.size≤9):Calls Tryz.prog 120 #[.string s] w fun e w'=>e=.returned (.int .i64 n)∧w'=w:=by
 have HS:=Lib.hid (fun k hk=>R6.dec_dig (k:=k) hs hk)
 have HV:=Lib.hid (show dval (s.data.toList.take s.size)=n by rw [List.take_of_length_le (show s.data.toList.length≤s.size from Nat.le_refl _),hs,dval_decDigits])
 have HB:=Lib.hid (fun k (hk:k≤s.size)=>(show dval (s.data.toList.take k) < 10 ^ 9 from Nat.lt_of_lt_of_le (R6.dec_val_lt hs hk) (Nat.pow_le_pow_right (by omega) (by omega))))
 clear hs
 go_enter Tryz.func120,Tryz.ntmps120
 go_wp2_with fail
 go_loopw [3,4] (fun n i wr=>∃ k:Nat,k≤s.size∧i=.int .i64 k∧n=.int .i64 (dval (s.data.toList.take k):Nat)∧wr=w) (fun _ i _=>s.size - (intOf i).toNat)
 case atStart=>exact ⟨0,by omega,rfl,rfl,rfl⟩
 case round =>
  obtain ⟨k,hk,rfl,rfl,hwr⟩:=hrel
  subst wr
  by_cases hlt:k < s.size
  ·obtain ⟨d1,d2⟩:=HS.out k hlt
   have hv:=HB.out k hk
   have hv8:(dval (s.data.toList.take k):Int)≤1000000000:=by omega
   have HVS:=Lib.hid (dval_snoc (s.data.toList.take k) s[k])
   clear hv
   go_wp2_with fail
   go_roundw
   case rel=>exact ⟨k+1,by omega,by go_num,ret_i64 (by rw [List.take_succ_eq_append_getElem hlt];have:=HVS.out;have e:s.data.toList[k]=s[k]:=rfl;rw [e];omega),by trivial⟩
   case measure=>simp [intOf];omega
  ·have e:k=s.size:=by omega
   subst e
   rw [HV.out]
   go_wp2_with fail
   go_ret
   exact ⟨rfl,rfl⟩
end Go.Proofs.YteepphiomcedfaaGreatDoor
namespace Go.Proofs.YteepphiomcedfaaGreatDoor
open Go.RowKit
theorem text_is {a b:Nat} (m:Bool) (hb:1≤b) (hg:Nat.gcd a b=1) (hm:m=true→a≠0) :
  ∃ q:Rat,q.num.natAbs=a∧q.den=b∧ratText q=(if m then [45] else [])++(Lib.decDigits a++if b=1 then [] else 47::Lib.decDigits b):=by
 refine ⟨⟨if m then -(a:Int) else (a:Int),b,by omega,?_⟩,?_,rfl,?_⟩
 ·cases m
  ·simpa [Nat.Coprime] using hg
  ·simpa [Nat.Coprime] using hg
 ·cases m<;>simp
 ·rw [ratText_own]
  cases m
  ·simp [minusB,tailTxt]
  ·have:=hm rfl
   have h:minusB ⟨if true then -(a:Int) else (a:Int),b,by omega,by simpa [Nat.Coprime] using hg⟩=true:=by simp [minusB];omega
   rw [h]
   simp [tailTxt]
def RetCk (s:ByteArray) (w:World) (e:Ending) (w':World):Prop:=∃ c:Int,e=.returned (.int .i64 c)∧Hid (c=0→∃ q:Rat,s.data.toList=ratText q∧Sz 20 q)∧Below w.heap.size w w'
theorem bool_lt {s:ByteArray} {k:Nat} (h:s.data.toList=Lib.decDigits (dval s.data.toList)) (hs:s.size≤k):dval s.data.toList < 10 ^ k:=pow_le_of_lt (by rw [← h];exact hs)
theorem ck_one {s n:ByteArray} {m:Bool} (hs:s.data.toList=(if m then [45] else [])++(n.data.toList++[])) (h20:n.size≤20) (hn:n.data.toList=Lib.decDigits (dval n.data.toList)) (h48:m=true→(n.toList == [48])=false):∃ q:Rat,s.data.toList=ratText q∧Sz 20 q:=by
 obtain ⟨q,h1,h2,h3⟩:=text_is (a:=dval n.data.toList) (b:=1) m (by omega) (Nat.gcd_one_right _) (fun h e=>by
  have h0:=h48 h
  rw [e] at hn
  rw [Lib.toList_data,hn] at h0
  rw [Lib.decDigits_one (by omega)] at h0
  exact absurd h0 (by decide))
 refine ⟨q,by rw [h3,hs,← hn,if_pos rfl],⟨by rw [h1];exact bool_lt hn h20,by rw [h2];omega⟩⟩
theorem ck_two {s n d:ByteArray} {m:Bool} (hs:s.data.toList=(if m then [45] else [])++(n.data.toList++47::d.data.toList)) (h20:n.size≤20) (hd20:d.size≤20) (hn:n.data.toList=Lib.decDigits (dval n.data.toList)) (hd:d.data.toList=Lib.decDigits (dval d.data.toList))
  (h48:m=true→(n.toList == [48])=false) (g48:(d.toList == [48])=false) (g49:(d.toList == [49])=false) (hg:Nat.gcd (dval n.data.toList) (dval d.data.toList)=1):∃ q:Rat,s.data.toList=ratText q∧Sz 20 q:=by
 have e0:dval d.data.toList≠0:=fun e=>by
  rw [e] at hd
  rw [Lib.toList_data,hd] at g48
  rw [Lib.decDigits_one (by omega)] at g48
  exact absurd g48 (by decide)
 have e1:dval d.data.toList≠1:=fun e=>by
  rw [e] at hd
  rw [Lib.toList_data,hd] at g49
  rw [Lib.decDigits_one (by omega)] at g49
  exact absurd g49 (by decide)
 obtain ⟨q,h1,h2,h3⟩:=text_is (a:=dval n.data.toList) (b:=dval d.data.toList) m (by omega) hg (fun h e=>by
  have h0:=h48 h
  rw [e] at hn
  rw [Lib.toList_data,hn] at h0
  rw [Lib.decDigits_one (by omega)] at h0
  exact absurd h0 (by decide))
 refine ⟨q,by rw [h3,hs,← hn,if_neg e1,← hd],⟨by rw [h1];exact bool_lt hn h20,by rw [h2];exact bool_lt hd hd20⟩⟩
set_option maxHeartbeats 3200000 in
theorem rCheck02_any (s:ByteArray) (w:World) (hG:Glo w) (hs:s.size≤20):Calls Tryz.prog 59 #[.string s] w (RetCk s w):=by
 have HS:=Lib.hid (fun w=>split_any s w (by omega))
 have HG:=Lib.hid hG
 clear hG
 go_enter Tryz.func59,Tryz.ntmps59
 go_wp2_with fail
 refine (HS.out _).mono ?_
 rintro e w1 ⟨m,sl,n,d,HC,HD,rfl,hB⟩
 have hlen:n.size+(if sl then d.size+1 else 0)≤s.size:=by
  have h1:s.size=s.data.toList.length:=rfl
  have h2:n.size=n.data.toList.length:=rfl
  have h3:d.size=d.data.toList.length:=rfl
  rw [h1,HC.out,h2,h3]
  cases m<;>cases sl<;>simp<;>omega
 have hn20:n.size≤20:=by cases sl<;>simp at hlen<;>omega
 have HN:=Lib.hid (fun w=>rdigits_any n w (by omega))
 cases sl
 ·obtain rfl:=HD.out rfl
  clear hlen HD
  cases m
  ·skip
   go_wp2_with fail
   refine (HN.out _).mono ?_
   rintro e w2 ⟨b,rfl,HB,rfl⟩
   cases b
   ·go_wp2_with fail
    go_ret
    exact ⟨11,rfl,Lib.hid (fun h=>by cases h),(by repeat (first|(with_reducible first|exact bw0 _ _|refine bw1 ?_ ?_ _|refine bw2 ?_ _|refine bw3 ?_|refine bw4 ?_ _|refine bw5 (by assumption) ?_)|exact Nat.le_refl _|(focus (simp;done))|(focus (simp;omega))|omega))⟩
   ·go_wp2_with fail
    go_ret
    exact ⟨0,rfl,Lib.hid (fun _=>ck_one (m:=false) HC.out hn20 (HB.out (by trivial)) (fun h=>by cases h)),(by repeat (first|(with_reducible first|exact bw0 _ _|refine bw1 ?_ ?_ _|refine bw2 ?_ _|refine bw3 ?_|refine bw4 ?_ _|refine bw5 (by assumption) ?_)|exact Nat.le_refl _|(focus (simp;done))|(focus (simp;omega))|omega))⟩
  ·obtain ⟨v48,h48⟩:∃ v,(n.toList == [48])=v:=⟨_,rfl⟩
   cases v48
   ·have Z48:=Lib.hid h48
    go_wp2_with fail
    refine (HN.out _).mono ?_
    rintro e w3 ⟨b,rfl,HB,rfl⟩
    cases b
    ·go_wp2_with fail
     go_ret
     exact ⟨11,rfl,Lib.hid (fun h=>by cases h),(by repeat (first|(with_reducible first|exact bw0 _ _|refine bw1 ?_ ?_ _|refine bw2 ?_ _|refine bw3 ?_|refine bw4 ?_ _|refine bw5 (by assumption) ?_)|exact Nat.le_refl _|(focus (simp;done))|(focus (simp;omega))|omega))⟩
    ·go_wp2_with fail
     go_ret
     exact ⟨0,rfl,Lib.hid (fun _=>ck_one (m:=true) HC.out hn20 (HB.out (by trivial)) (fun _=>Z48.out)),(by repeat (first|(with_reducible first|exact bw0 _ _|refine bw1 ?_ ?_ _|refine bw2 ?_ _|refine bw3 ?_|refine bw4 ?_ _|refine bw5 (by assumption) ?_)|exact Nat.le_refl _|(focus (simp;done))|(focus (simp;omega))|omega))⟩
   ·skip
    go_wp2_with fail
    refine (HN.out _).mono ?_
    rintro e w4 ⟨b,rfl,HB,rfl⟩
    cases b
    ·go_wp2_with fail
     go_ret
     exact ⟨11,rfl,Lib.hid (fun h=>by cases h),(by repeat (first|(with_reducible first|exact bw0 _ _|refine bw1 ?_ ?_ _|refine bw2 ?_ _|refine bw3 ?_|refine bw4 ?_ _|refine bw5 (by assumption) ?_)|exact Nat.le_refl _|(focus (simp;done))|(focus (simp;omega))|omega))⟩
    ·go_wp2_with fail
     go_ret
     exact ⟨11,rfl,Lib.hid (fun h=>by cases h),(by repeat (first|(with_reducible first|exact bw0 _ _|refine bw1 ?_ ?_ _|refine bw2 ?_ _|refine bw3 ?_|refine bw4 ?_ _|refine bw5 (by assumption) ?_)|exact Nat.le_refl _|(focus (simp;done))|(focus (simp;omega))|omega))⟩
 ·have hd20:d.size≤20:=by simp at hlen;omega
  have HDd:=Lib.hid (fun w=>rdigits_any d w (by omega))
  clear hlen HD
  cases m
  ·skip
   go_wp2_with fail
   refine (HN.out _).mono ?_
   rintro e w5 ⟨b,rfl,HB,rfl⟩
   cases b
   ·skip
    go_wp2_with fail
    go_ret
    exact ⟨11,rfl,Lib.hid (fun h=>by cases h),(by repeat (first|(with_reducible first|exact bw0 _ _|refine bw1 ?_ ?_ _|refine bw2 ?_ _|refine bw3 ?_|refine bw4 ?_ _|refine bw5 (by assumption) ?_)|exact Nat.le_refl _|(focus (simp;done))|(focus (simp;omega))|omega))⟩
   ·skip
    go_wp2_with fail
    refine (HDd.out _).mono ?_
    rintro e w6 ⟨b2,rfl,HB2,rfl⟩
    cases b2
    ·skip
     go_wp2_with fail
     go_ret
     exact ⟨11,rfl,Lib.hid (fun h=>by cases h),(by repeat (first|(with_reducible first|exact bw0 _ _|refine bw1 ?_ ?_ _|refine bw2 ?_ _|refine bw3 ?_|refine bw4 ?_ _|refine bw5 (by assumption) ?_)|exact Nat.le_refl _|(focus (simp;done))|(focus (simp;omega))|omega))⟩
    ·obtain ⟨v0,h0⟩:∃ v,(d.toList == [48])=v:=⟨_,rfl⟩
     obtain ⟨v1,h1⟩:∃ v,(d.toList == [49])=v:=⟨_,rfl⟩
     cases v0
     ·cases v1
      ·have G48:=Lib.hid h0
       have G49:=Lib.hid h1
       have hGc:=Lib.hid (fun hg=>ck_two (m:=false) HC.out hn20 hd20 (HB.out (by trivial)) (HB2.out (by trivial)) (fun h=>by cases h) G48.out G49.out hg)
       by_cases h9:n.size≤9∧d.size≤9
       ·obtain ⟨n9,d9⟩:=h9
        have L1:dval n.data.toList < 10 ^ 9:=bool_lt (HB.out (by trivial)) n9
        have L2:dval d.data.toList < 10 ^ 9:=bool_lt (HB2.out (by trivial)) d9
        have R1:=Lib.hid (fun w=>rsmall_any n w (HB.out (by trivial)) n9)
        have R2:=Lib.hid (fun w=>rsmall_any d w (HB2.out (by trivial)) d9)
        generalize dval n.data.toList=x at hGc L1 R1
        generalize dval d.data.toList=y at hGc L2 R2
        go_wp2_with fail
        refine (R1.out _).mono ?_
        rintro e w7 ⟨rfl,rfl⟩
        go_wp2_with fail
        refine (R2.out _).mono ?_
        rintro e w8 ⟨rfl,rfl⟩
        go_wp2_with fail
        refine (rgcd_any x y _ (by omega) (by omega)).mono ?_
        rintro e w9 ⟨rfl,nq,rfl⟩
        obtain ⟨g,hg⟩:∃ g,Nat.gcd x y=g:=⟨_,rfl⟩
        have HGG:=Lib.hid hg
        rw [hg]
        clear hg
        by_cases g1:g=1
        ·have HX:=Lib.hid (hGc.out (HGG.out.trans g1))
         subst g1
         go_wp2_with fail
         go_ret
         exact ⟨0,rfl,Lib.hid (fun _=>HX.out),(by repeat (first|(with_reducible first|exact bw0 _ _|refine bw1 ?_ ?_ _|refine bw2 ?_ _|refine bw3 ?_|refine bw4 ?_ _|refine bw5 (by assumption) ?_)|exact Nat.le_refl _|(focus (simp;done))|(focus (simp;omega))|omega))⟩
        ·have hne:((g:Int) != 1)=true:=by simp;omega
         go_wp2_with fail
         go_ret
         exact ⟨11,rfl,Lib.hid (fun h=>by cases h),(by repeat (first|(with_reducible first|exact bw0 _ _|refine bw1 ?_ ?_ _|refine bw2 ?_ _|refine bw3 ?_|refine bw4 ?_ _|refine bw5 (by assumption) ?_)|exact Nat.le_refl _|(focus (simp;done))|(focus (simp;omega))|omega))⟩
       ·have R:=Lib.hid (fun w hG=>R6.gcd6_ok n d w hG (HB.out (by trivial)) (by omega) (HB2.out (by trivial)) (by omega))
        have hcase:(9:Int) < (n.size:Int)∨((n.size:Int)≤9∧(9:Int) < (d.size:Int)):=by omega
        rcases hcase with h9a|⟨h9a,h9b⟩
        ·skip
         go_wp2_with fail
         refine (R.out _ (HG.out.below hB)).mono ?_
         rintro e w10 ⟨r,hr,rfl,hB2⟩
         obtain ⟨v,hv⟩:∃ v,(r.toList == [49])=v:=⟨_,rfl⟩
         have HX:=Lib.hid (fun h:v=true=>hGc.out (by rw [h,beq_iff_eq,Lib.toList_data,hr] at hv;have:=congrArg dval hv;rw [dval_decDigits] at this;exact this))
         clear hr
         have hv2:(r.toList != [49])=!v:=by rw [bne,hv]
         cases v
         ·simp only [Bool.not_false] at hv2
          clear HX
          go_wp2_with fail
          go_ret
          exact ⟨11,rfl,Lib.hid (fun h=>by cases h),(by repeat (first|(with_reducible first|exact bw0 _ _|refine bw1 ?_ ?_ _|refine bw2 ?_ _|refine bw3 ?_|refine bw4 ?_ _|refine bw5 (by assumption) ?_)|exact Nat.le_refl _|(focus (simp;done))|(focus (simp;omega))|omega))⟩
         ·simp only [Bool.not_true] at hv2
          have HY:=Lib.hid (HX.out rfl)
          clear HX
          go_wp2_with fail
          go_ret
          exact ⟨0,rfl,Lib.hid (fun _=>HY.out),(by repeat (first|(with_reducible first|exact bw0 _ _|refine bw1 ?_ ?_ _|refine bw2 ?_ _|refine bw3 ?_|refine bw4 ?_ _|refine bw5 (by assumption) ?_)|exact Nat.le_refl _|(focus (simp;done))|(focus (simp;omega))|omega))⟩
        ·skip
         go_wp2_with fail
         refine (R.out _ (HG.out.below hB)).mono ?_
         rintro e w11 ⟨r,hr,rfl,hB2⟩
         obtain ⟨v,hv⟩:∃ v,(r.toList == [49])=v:=⟨_,rfl⟩
         have HX:=Lib.hid (fun h:v=true=>hGc.out (by rw [h,beq_iff_eq,Lib.toList_data,hr] at hv;have:=congrArg dval hv;rw [dval_decDigits] at this;exact this))
         clear hr
         have hv2:(r.toList != [49])=!v:=by rw [bne,hv]
         cases v
         ·simp only [Bool.not_false] at hv2
          clear HX
          go_wp2_with fail
          go_ret
          exact ⟨11,rfl,Lib.hid (fun h=>by cases h),(by repeat (first|(with_reducible first|exact bw0 _ _|refine bw1 ?_ ?_ _|refine bw2 ?_ _|refine bw3 ?_|refine bw4 ?_ _|refine bw5 (by assumption) ?_)|exact Nat.le_refl _|(focus (simp;done))|(focus (simp;omega))|omega))⟩
         ·simp only [Bool.not_true] at hv2
          have HY:=Lib.hid (HX.out rfl)
          clear HX
          go_wp2_with fail
          go_ret
          exact ⟨0,rfl,Lib.hid (fun _=>HY.out),(by repeat (first|(with_reducible first|exact bw0 _ _|refine bw1 ?_ ?_ _|refine bw2 ?_ _|refine bw3 ?_|refine bw4 ?_ _|refine bw5 (by assumption) ?_)|exact Nat.le_refl _|(focus (simp;done))|(focus (simp;omega))|omega))⟩
      ·skip
       go_wp2_with fail
       go_ret
       exact ⟨11,rfl,Lib.hid (fun h=>by cases h),(by repeat (first|(with_reducible first|exact bw0 _ _|refine bw1 ?_ ?_ _|refine bw2 ?_ _|refine bw3 ?_|refine bw4 ?_ _|refine bw5 (by assumption) ?_)|exact Nat.le_refl _|(focus (simp;done))|(focus (simp;omega))|omega))⟩
     ·skip
      go_wp2_with fail
      go_ret
      exact ⟨11,rfl,Lib.hid (fun h=>by cases h),(by repeat (first|(with_reducible first|exact bw0 _ _|refine bw1 ?_ ?_ _|refine bw2 ?_ _|refine bw3 ?_|refine bw4 ?_ _|refine bw5 (by assumption) ?_)|exact Nat.le_refl _|(focus (simp;done))|(focus (simp;omega))|omega))⟩
  ·skip
   go_wp2_with fail
   refine (HN.out _).mono ?_
   rintro e w12 ⟨b,rfl,HB,rfl⟩
   cases b
   ·skip
    go_wp2_with fail
    go_ret
    exact ⟨11,rfl,Lib.hid (fun h=>by cases h),(by repeat (first|(with_reducible first|exact bw0 _ _|refine bw1 ?_ ?_ _|refine bw2 ?_ _|refine bw3 ?_|refine bw4 ?_ _|refine bw5 (by assumption) ?_)|exact Nat.le_refl _|(focus (simp;done))|(focus (simp;omega))|omega))⟩
   ·skip
    go_wp2_with fail
    refine (HDd.out _).mono ?_
    rintro e w13 ⟨b2,rfl,HB2,rfl⟩
    cases b2
    ·skip
     go_wp2_with fail
     go_ret
     exact ⟨11,rfl,Lib.hid (fun h=>by cases h),(by repeat (first|(with_reducible first|exact bw0 _ _|refine bw1 ?_ ?_ _|refine bw2 ?_ _|refine bw3 ?_|refine bw4 ?_ _|refine bw5 (by assumption) ?_)|exact Nat.le_refl _|(focus (simp;done))|(focus (simp;omega))|omega))⟩
    ·obtain ⟨v0,h0⟩:∃ v,(d.toList == [48])=v:=⟨_,rfl⟩
     obtain ⟨v1,h1⟩:∃ v,(d.toList == [49])=v:=⟨_,rfl⟩
     cases v0
     ·cases v1
      ·have G48:=Lib.hid h0
       have G49:=Lib.hid h1
       obtain ⟨v48,h48⟩:∃ v,(n.toList == [48])=v:=⟨_,rfl⟩
       cases v48
       ·have Z48:=Lib.hid h48
        have hGc:=Lib.hid (fun hg=>ck_two (m:=true) HC.out hn20 hd20 (HB.out (by trivial)) (HB2.out (by trivial)) (fun _=>Z48.out) G48.out G49.out hg)
        by_cases h9:n.size≤9∧d.size≤9
        ·obtain ⟨n9,d9⟩:=h9
         have L1:dval n.data.toList < 10 ^ 9:=bool_lt (HB.out (by trivial)) n9
         have L2:dval d.data.toList < 10 ^ 9:=bool_lt (HB2.out (by trivial)) d9
         have R1:=Lib.hid (fun w=>rsmall_any n w (HB.out (by trivial)) n9)
         have R2:=Lib.hid (fun w=>rsmall_any d w (HB2.out (by trivial)) d9)
         generalize dval n.data.toList=x at hGc L1 R1
         generalize dval d.data.toList=y at hGc L2 R2
         go_wp2_with fail
         refine (R1.out _).mono ?_
         rintro e w14 ⟨rfl,rfl⟩
         go_wp2_with fail
         refine (R2.out _).mono ?_
         rintro e w15 ⟨rfl,rfl⟩
         go_wp2_with fail
         refine (rgcd_any x y _ (by omega) (by omega)).mono ?_
         rintro e w16 ⟨rfl,nq,rfl⟩
         obtain ⟨g,hg⟩:∃ g,Nat.gcd x y=g:=⟨_,rfl⟩
         have HGG:=Lib.hid hg
         rw [hg]
         clear hg
         by_cases g1:g=1
         ·have HX:=Lib.hid (hGc.out (HGG.out.trans g1))
          subst g1
          go_wp2_with fail
          go_ret
          exact ⟨0,rfl,Lib.hid (fun _=>HX.out),(by repeat (first|(with_reducible first|exact bw0 _ _|refine bw1 ?_ ?_ _|refine bw2 ?_ _|refine bw3 ?_|refine bw4 ?_ _|refine bw5 (by assumption) ?_)|exact Nat.le_refl _|(focus (simp;done))|(focus (simp;omega))|omega))⟩
         ·have hne:((g:Int) != 1)=true:=by simp;omega
          go_wp2_with fail
          go_ret
          exact ⟨11,rfl,Lib.hid (fun h=>by cases h),(by repeat (first|(with_reducible first|exact bw0 _ _|refine bw1 ?_ ?_ _|refine bw2 ?_ _|refine bw3 ?_|refine bw4 ?_ _|refine bw5 (by assumption) ?_)|exact Nat.le_refl _|(focus (simp;done))|(focus (simp;omega))|omega))⟩
        ·have R:=Lib.hid (fun w hG=>R6.gcd6_ok n d w hG (HB.out (by trivial)) (by omega) (HB2.out (by trivial)) (by omega))
         have hcase:(9:Int) < (n.size:Int)∨((n.size:Int)≤9∧(9:Int) < (d.size:Int)):=by omega
         rcases hcase with h9a|⟨h9a,h9b⟩
         ·skip
          go_wp2_with fail
          refine (R.out _ (HG.out.below hB)).mono ?_
          rintro e w17 ⟨r,hr,rfl,hB2⟩
          obtain ⟨v,hv⟩:∃ v,(r.toList == [49])=v:=⟨_,rfl⟩
          have HX:=Lib.hid (fun h:v=true=>hGc.out (by rw [h,beq_iff_eq,Lib.toList_data,hr] at hv;have:=congrArg dval hv;rw [dval_decDigits] at this;exact this))
          clear hr
          have hv2:(r.toList != [49])=!v:=by rw [bne,hv]
          cases v
          ·simp only [Bool.not_false] at hv2
           clear HX
           go_wp2_with fail
           go_ret
           exact ⟨11,rfl,Lib.hid (fun h=>by cases h),(by repeat (first|(with_reducible first|exact bw0 _ _|refine bw1 ?_ ?_ _|refine bw2 ?_ _|refine bw3 ?_|refine bw4 ?_ _|refine bw5 (by assumption) ?_)|exact Nat.le_refl _|(focus (simp;done))|(focus (simp;omega))|omega))⟩
          ·simp only [Bool.not_true] at hv2
           have HY:=Lib.hid (HX.out rfl)
           clear HX
           go_wp2_with fail
           go_ret
           exact ⟨0,rfl,Lib.hid (fun _=>HY.out),(by repeat (first|(with_reducible first|exact bw0 _ _|refine bw1 ?_ ?_ _|refine bw2 ?_ _|refine bw3 ?_|refine bw4 ?_ _|refine bw5 (by assumption) ?_)|exact Nat.le_refl _|(focus (simp;done))|(focus (simp;omega))|omega))⟩
         ·skip
          go_wp2_with fail
          refine (R.out _ (HG.out.below hB)).mono ?_
          rintro e w18 ⟨r,hr,rfl,hB2⟩
          obtain ⟨v,hv⟩:∃ v,(r.toList == [49])=v:=⟨_,rfl⟩
          have HX:=Lib.hid (fun h:v=true=>hGc.out (by rw [h,beq_iff_eq,Lib.toList_data,hr] at hv;have:=congrArg dval hv;rw [dval_decDigits] at this;exact this))
          clear hr
          have hv2:(r.toList != [49])=!v:=by rw [bne,hv]
          cases v
          ·simp only [Bool.not_false] at hv2
           clear HX
           go_wp2_with fail
           go_ret
           exact ⟨11,rfl,Lib.hid (fun h=>by cases h),(by repeat (first|(with_reducible first|exact bw0 _ _|refine bw1 ?_ ?_ _|refine bw2 ?_ _|refine bw3 ?_|refine bw4 ?_ _|refine bw5 (by assumption) ?_)|exact Nat.le_refl _|(focus (simp;done))|(focus (simp;omega))|omega))⟩
          ·simp only [Bool.not_true] at hv2
           have HY:=Lib.hid (HX.out rfl)
           clear HX
           go_wp2_with fail
           go_ret
           exact ⟨0,rfl,Lib.hid (fun _=>HY.out),(by repeat (first|(with_reducible first|exact bw0 _ _|refine bw1 ?_ ?_ _|refine bw2 ?_ _|refine bw3 ?_|refine bw4 ?_ _|refine bw5 (by assumption) ?_)|exact Nat.le_refl _|(focus (simp;done))|(focus (simp;omega))|omega))⟩
       ·skip
        go_wp2_with fail
        go_ret
        exact ⟨11,rfl,Lib.hid (fun h=>by cases h),(by repeat (first|(with_reducible first|exact bw0 _ _|refine bw1 ?_ ?_ _|refine bw2 ?_ _|refine bw3 ?_|refine bw4 ?_ _|refine bw5 (by assumption) ?_)|exact Nat.le_refl _|(focus (simp;done))|(focus (simp;omega))|omega))⟩
      ·skip
       go_wp2_with fail
       go_ret
       exact ⟨11,rfl,Lib.hid (fun h=>by cases h),(by repeat (first|(with_reducible first|exact bw0 _ _|refine bw1 ?_ ?_ _|refine bw2 ?_ _|refine bw3 ?_|refine bw4 ?_ _|refine bw5 (by assumption) ?_)|exact Nat.le_refl _|(focus (simp;done))|(focus (simp;omega))|omega))⟩
     ·skip
      go_wp2_with fail
      go_ret
      exact ⟨11,rfl,Lib.hid (fun h=>by cases h),(by repeat (first|(with_reducible first|exact bw0 _ _|refine bw1 ?_ ?_ _|refine bw2 ?_ _|refine bw3 ?_|refine bw4 ?_ _|refine bw5 (by assumption) ?_)|exact Nat.le_refl _|(focus (simp;done))|(focus (simp;omega))|omega))⟩
end Go.Proofs.YteepphiomcedfaaGreatDoor
namespace Go.Proofs.YteepphiomcedfaaGreatDoor
open Go.RowKit
def RetHyp (P:Prop) (w:World) (e:Ending) (w':World):Prop:=∃ b:Bool,e=.returned (.bool b)∧Hid (b=false→P)∧Below w.heap.size w w'
def Short (s:ByteArray):Prop:=s.size≤20∧∃ q:Rat,s.data.toList=ratText q∧Sz 20 q∧0≤q.num
theorem short_of {s:ByteArray} {v:Bool} (h:∃ q:Rat,s.data.toList=ratText q∧Sz 20 q) (hs:s.size≤20):∃ h0:0 < s.size,(((s[0].toNat:Int) == 45)=false→Short s):=by
 obtain ⟨q,h1,h2⟩:=h
 have h0:0 < s.size:=by
  have e:s.size=s.data.toList.length:=rfl
  rw [e,h1]
  exact List.length_pos_iff.2 (ratText_ne_nil q)
 refine ⟨h0,fun h=>⟨hs,q,h1,h2,?_⟩⟩
 refine Int.not_lt.1 fun hn=>?_
 have e:=ratText_own q
 rw [show minusB q=true from by unfold minusB;simpa using hn,← h1,if_pos rfl] at e
 have:s.data.toList[0]'h0=45:=by
  have:s.data.toList.head?=some 45:=by rw [e];rfl
  rw [List.head?_eq_getElem?,List.getElem?_eq_getElem h0] at this
  exact Option.some.inj this
 have e2:s[0]=45:=this
 rw [e2] at h
 exact absurd h (by decide)
set_option maxHeartbeats 800000 in
theorem short1_ok (s:ByteArray) (w:World) (hG:Glo w):Calls Tryz.prog 58 #[.string s] w (RetHyp (Short s) w):=by
 by_cases h20:s.size≤20
 ·have H:=Lib.hid (fun w hG=>rCheck02_any s w hG h20)
  have HG:=Lib.hid hG
  clear hG
  go_enter Tryz.func58,Tryz.ntmps58
  go_wp2_with fail
  refine (H.out _ HG.out).mono ?_
  rintro e w1 ⟨c,rfl,HC,hB⟩
  by_cases hc:c=0
  ·subst hc
   obtain ⟨h0,HS⟩:=short_of (v:=true) (HC.out (by trivial)) h20
   have HSS:=Lib.hid HS
   obtain ⟨v,hv⟩:∃ v,((s[0].toNat:Int) == 45)=v:=⟨_,rfl⟩
   have HV:=Lib.hid (fun e:v=false=>HSS.out (hv.trans e))
   clear HS HC HSS
   have hI0:(0:Int) < (s.size:Int):=by omega
   have h20':decide ((20:Int) < (s.size:Int))=false:=by simp;omega
   go_wp2_with fail
   go_ret
   exact ⟨v,rfl,HV,hB⟩
  ·have hne:(c != 0)=true:=by simpa using hc
   clear HC
   go_wp2_with fail
   go_ret
   exact ⟨true,rfl,Lib.hid (fun h=>by cases h),hB⟩
 ·have h20':(20:Int) < (s.size:Int):=by omega
  go_enter Tryz.func58,Tryz.ntmps58
  go_wp2_with fail
  go_ret
  exact ⟨true,rfl,Lib.hid (fun h=>by cases h),(by repeat (first|(with_reducible first|exact bw0 _ _|refine bw1 ?_ ?_ _|refine bw2 ?_ _|refine bw3 ?_|refine bw4 ?_ _|refine bw5 (by assumption) ?_)|exact Nat.le_refl _|(focus (simp;done))|(focus (simp;omega))|omega))⟩
def RetIdxP (n:Nat) (P:Nat→Prop) (w:World) (e:Ending) (w':World):Prop:=∃ i:Int,e=.returned (.int .i64 i)∧-1≤i∧i≤100000∧Hid (i < 0→∀ k,k < n→P k)∧Below w.heap.size w w'
set_option maxHeartbeats 800000 in
theorem indexNum_any (F:Nat) (cap0:Array Value) (n:Nat) (el:Nat→ByteArray) (P:Nat→Prop) (b off cap:Nat) (w:World) (hc:∀ k,k < n→w.cell? ⟨b,off+k,none⟩=some (.string (el k))) (hl:n≤100000)
  (hE:∀ args w,(callFunc F args).run Tryz.prog w=.ok (.enter F args) w)
  (hF:∀ k,k < n→∀ W,Below w.heap.size w W→Calls Tryz.prog F (#[.string (el k)]++cap0) W (RetHyp (P k) W)) :
  Calls Tryz.prog 117 #[.slice (some ⟨b,off,none⟩) n cap,.func (.func F) #[] cap0] w (RetIdxP n P w):=by
 have HC:=Lib.hid hc
 have HF:=Lib.hid hF
 clear hc hF
 go_enter Tryz.func117,Tryz.ntmps117
 go_wp2_with fail
 go_loopw [8] (fun i wr=>∃ k:Nat,k≤n∧i=.int .i64 k∧Below w.heap.size w wr∧Hid (∀ j,j < k→P j)) (fun i _=>n - (intOf i).toNat)
 case atStart=>exact ⟨0,by omega,rfl,bw0 _ _,Lib.hid (by intro j h;omega)⟩
 case round =>
  obtain ⟨k,hk,rfl,hB,hno⟩:=hrel
  by_cases hlt:k < n
  ·have d0:=keep hB (HC.out k hlt)
   have hf:=Lib.hid (HF.out k hlt wr hB)
   go_wp2_with fail
   refine hf.out.mono ?_
   rintro e w1 ⟨v,rfl,HV,hB1⟩
   have hB2:Below w.heap.size w w1:=below_trans' hB hB1
   clear hB1 d0
   cases v
   ·have hno':Hid (∀ j,j < k+1→P j):=Lib.hid (fun j hj=>by
     by_cases h:j < k
     ·exact hno.out j h
     ·obtain rfl:j=k:=by omega
      exact HV.out (by trivial))
    go_wp2_with fail
    go_roundw
    case rel=>exact ⟨k+1,hlt,by go_num,hB2,hno'⟩
    case measure=>simp [intOf];omega
   ·go_wp2_with fail
    go_ret
    exact ⟨k,rfl,by omega,by omega,Lib.hid (fun h=>by omega),hB2⟩
  ·have e:k=n:=by omega
   subst e
   go_wp2_with fail
   go_ret
   exact ⟨-1,rfl,by omega,by omega,Lib.hid (fun _=>hno.out),hB⟩
set_option maxHeartbeats 800000 in
theorem containsNum_any (F:Nat) (cap0:Array Value) (n:Nat) (el:Nat→ByteArray) (P:Nat→Prop) (b off cap:Nat) (w:World) (hc:∀ k,k < n→w.cell? ⟨b,off+k,none⟩=some (.string (el k))) (hl:n≤100000)
  (hE:∀ args w,(callFunc F args).run Tryz.prog w=.ok (.enter F args) w)
  (hF:∀ k,k < n→∀ W,Below w.heap.size w W→Calls Tryz.prog F (#[.string (el k)]++cap0) W (RetHyp (P k) W)) :
  Calls Tryz.prog 57 #[.slice (some ⟨b,off,none⟩) n cap,.func (.func F) #[] cap0] w (RetHyp (∀ k,k < n→P k) w):=by
 have HI:=Lib.hid (indexNum_any F cap0 n el P b off cap w hc hl hE hF)
 clear hF hc
 go_enter Tryz.func57,Tryz.ntmps57
 go_wp2_with fail
 refine HI.out.mono ?_
 rintro e w1 ⟨i,rfl,h1,h2,HN,hB⟩
 by_cases hn:i < 0
 ·have HN2:=Lib.hid (HN.out hn)
  clear HN
  have hge:decide (0≤i)=false:=by simp;omega
  go_wp2_with fail
  go_ret
  exact ⟨false,rfl,Lib.hid (fun _=>HN2.out),hB⟩
 ·clear HN
  have hge:decide (0≤i)=true:=by simp;omega
  go_wp2_with fail
  go_ret
  exact ⟨true,rfl,Lib.hid (fun h=>by cases h),hB⟩
def RetShort (n:Nat) (P:Nat→Prop) (w:World) (e:Ending) (w':World):Prop:=∃ b:Bool,e=.returned (.bool b)∧Hid (b=true→∀ k,k < n→P k)∧Below w.heap.size w w'
set_option maxHeartbeats 800000 in
theorem short_ok (n:Nat) (el:Nat→ByteArray) (b off cap:Nat) (w:World) (hG:Glo w) (hc:∀ k,k < n→w.cell? ⟨b,off+k,none⟩=some (.string (el k))) (hl:n≤100000) :
  Calls Tryz.prog 17 #[.slice (some ⟨b,off,none⟩) n cap] w (RetShort n (fun k=>Short (el k)) w):=by
 have H:=Lib.hid (containsNum_any 58 #[] n el (fun k=>Short (el k)) b off cap w hc hl (enters_of Tryz.func58 (by kernel_rfl) rfl) (fun k hk W hB=>short1_ok (el k) W (hG.below hB)))
 clear hc hG
 go_enter Tryz.func17,Tryz.ntmps17
 go_wp2_with fail
 refine H.out.mono ?_
 rintro e w1 ⟨v,rfl,HV,hB⟩
 go_wp2_with fail
 go_ret
 exact ⟨!v,rfl,Lib.hid (fun h=>HV.out (by simpa using h)),hB⟩
end Go.Proofs.YteepphiomcedfaaGreatDoor
