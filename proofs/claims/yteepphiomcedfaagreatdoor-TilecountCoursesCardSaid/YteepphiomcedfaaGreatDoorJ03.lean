/- Joined texts: WNat, WNatOf, WNum, WQuick, WOps, WDiv, WCut, WRead. -/
import Derived.Test.YteepphiomcedfaaGreatDoorJ01
set_option maxRecDepth 100000
set_option linter.unusedVariables false
set_option linter.unusedSimpArgs false
set_option maxHeartbeats 6400000
namespace Go.Proofs.YteepphiomcedfaaGreatDoor
open Go.RowKit
theorem gcd_any (a b:Nat) (w:World) (ha:a≤4000000000000000000) (hb:b≤4000000000000000000) :
  Calls Tryz.prog 134 #[.int .i64 a,.int .i64 b] w fun e w'=>e=.returned (.int .i64 (Nat.gcd a b:Nat))∧∃ n,w'=w.drewN n:=by
 go_enter Tryz.func134,Tryz.ntmps134
 go_wp2
 go_loopw [0,1] (fun x y wr=>∃ m n:Nat,x=.int .i64 m∧y=.int .i64 n∧m≤4000000000000000000∧n≤4000000000000000000∧Nat.gcd m n=Nat.gcd a b∧∃ q,wr=w.drewN q) (fun _ y _=>(intOf y).toNat)
 case atStart=>exact ⟨a,b,rfl,rfl,ha,hb,rfl,0,rfl⟩
 case round =>
  obtain ⟨m,n,rfl,rfl,hm,hn,hg,q,rfl⟩:=hrel
  have HG:=Lib.hid hg;clear hg
  by_cases h0:n=0
  ·subst h0
   go_wp2
   go_ret
   have:=HG.out
   rw [Nat.gcd_zero_right] at this
   subst this
   exact ⟨rfl,q,rfl⟩
  ·have hne:((n:Int) != 0)=true:=by simp [h0]
   have hlt:m % n < n:=Nat.mod_lt _ (by omega)
   go_wp2
   go_quiet (fail)
   go_wp2
   go_roundw
   case rel=>exact ⟨n,m % n,rfl,by go_num,hn,by omega,by rw [← HG.out,Nat.gcd_comm m n,Nat.gcd_comm n (m % n)];exact (Nat.gcd_rec n m).symm,_,drewN_add _ _ _⟩
   case measure=>simp [intOf];omega
def natIntV (l:List UInt8):Value:=match natInt l with|none=>.tuple #[.int .i64 0,.string .empty,.bool false]|some (n,r)=>.tuple #[.int .i64 n,.string ⟨r.toArray⟩,.bool true]
theorem natIntV_none {l:List UInt8} (h:nDig l=0∨8 < nDig l∨(1 < nDig l∧l.head?=some 48)):natIntV l=.tuple #[.int .i64 0,.string .empty,.bool false]:=by
 simp only [natIntV,natInt,if_pos h]
theorem natIntV_some {l:List UInt8} (h:¬ (nDig l=0∨8 < nDig l∨(1 < nDig l∧l.head?=some 48))):natIntV l=.tuple #[.int .i64 (dval (l.take (nDig l)):Nat),.string ⟨(l.drop (nDig l)).toArray⟩,.bool true]:=by
 simp only [natIntV,natInt,if_neg h]
theorem nativeInt_any (s:ByteArray) (w:World) (hs:s.size≤maxLen) :
  Calls Tryz.prog 133 #[.string s] w (RetQ (natIntV s.data.toList) w):=by
 unfold maxLen at hs
 go_enter Tryz.func133,Tryz.ntmps133
 go_upto_block 0 with fail
 go_cut [5,6] (fun n i wr=>∃ k:Nat,k≤s.size∧k=min (nDig s.data.toList) 9∧i=.int .i64 k∧n=.int .i64 (dval (s.data.toList.take k):Nat)∧wr=w)
 case first =>
  go_wp2_with fail
  go_loopw [5,6] (fun n i wr=>∃ k:Nat,k≤s.size∧k≤nDig s.data.toList∧k≤9∧i=.int .i64 k∧n=.int .i64 (dval (s.data.toList.take k):Nat)∧wr=w) (fun _ i _=>s.size - (intOf i).toNat)
  case atStart=>exact ⟨0,Nat.zero_le _,Nat.zero_le _,by omega,rfl,rfl,rfl⟩
  case round =>
   obtain ⟨k,hk,hkd,hk9,rfl,rfl,rfl⟩:=hrel
   by_cases hlt:k < nDig s.data.toList∧k < 9
   ·have hks:k < s.size:=Nat.lt_of_lt_of_le hlt.1 (nDig_le _)
    have hk8:(k:Int)≤8:=by omega
    obtain ⟨hd1,hd2⟩:=(isDig_iff _).1 (isDig_of_lt s.data.toList k hlt.1 hks)
    have hd1':(48:Int)≤(s[k].toNat:Int):=by exact_mod_cast hd1
    have hd2':(s[k].toNat:Int)≤57:=by exact_mod_cast hd2
    have hv:=dval_take_lt s.data.toList k (by omega)
    have hvs:=dval_snoc (s.data.toList.take k) s[k]
    have hv9:10 ^ k≤10 ^ 8:=Nat.pow_le_pow_right (by omega) (by omega)
    have hv8:(dval (s.data.toList.take k):Int)≤100000000:=by omega
    have HV:=Lib.hid hvs
    have hlt':=hlt.1
    clear hvs hv hv9 hlt hd1 hd2
    go_wp2
    go_roundw
    case rel=>exact ⟨k+1,hks,hlt',by omega,by go_num,ret_i64 (by rw [List.take_succ_eq_append_getElem hks];have:=HV.out;have e:s.data.toList[k]=s[k]:=rfl;rw [e];omega),by trivial⟩
    case measure=>simp [intOf];omega
   ·have hK:k=min (nDig s.data.toList) 9:=by omega
    have HK:=Lib.hid hK
    clear hK
    by_cases hks:k < s.size
    ·by_cases h9:k=9
     ·subst h9
      go_wp2
      go_meet
      exact ⟨9,hk,HK.out,rfl,rfl,rfl⟩
     ·have hk8:(k:Int)≤8:=by omega
      have hkn:k=nDig s.data.toList:=by have:=HK.out;omega
      have hd:=not_isDig_at s.data.toList (by show _ < s.size;omega)
      clear hlt h9
      by_cases hd1:(48:Int)≤(s[k].toNat:Int)
      ·have hd2:¬ (s[k].toNat:Int)≤57:=fun h=>by
        subst hkn
        have:isDig s.data.toList[nDig s.data.toList]=true:=(isDig_iff _).2 ⟨by exact_mod_cast hd1,by exact_mod_cast h⟩
        rw [this] at hd;cases hd
       clear hd hkn
       go_wp2
       go_meet
       exact ⟨k,hk,HK.out,rfl,rfl,rfl⟩
      ·clear hd hkn
       go_wp2
       go_meet
       exact ⟨k,hk,HK.out,rfl,rfl,rfl⟩
    ·go_wp2
     go_meet
     exact ⟨k,hk,HK.out,rfl,rfl,rfl⟩
 case rest =>
  obtain ⟨k,hk,hkm,rfl,rfl,rfl⟩:=hcut
  have HK:=Lib.hid hkm
  clear hkm
  by_cases h0:k=0
  ·subst h0
   go_wp2
   go_ret3
   exact ⟨by rw [natIntV_none (Or.inl (by have:=HK.out;omega))];rfl,0,rfl⟩
  ·have hb0:((k:Int) == 0)=false:=by simp [h0]
   by_cases h8:8 < (k:Int)
   ·go_wp2
    go_ret3
    exact ⟨by rw [natIntV_none (Or.inr (Or.inl (by have:=HK.out;omega)))];rfl,0,rfl⟩
   ·by_cases h1:1 < (k:Int)
    ·have hs0:0 < s.size:=by omega
     by_cases hz:((s[0].toNat:Int) == 48)=true
     ·go_wp2
      go_ret3
      exact ⟨by rw [natIntV_none (Or.inr (Or.inr (by have:=HK.out;exact ⟨by omega,headq hs0 hz⟩)))];rfl,0,rfl⟩
     ·have hz':((s[0].toNat:Int) == 48)=false:=by simpa using hz
      go_wp2
      go_quiet (fail)
      go_wp2
      go_ret3
      have e:k=nDig s.data.toList:=by have:=HK.out;omega
      subst e
      exact ⟨by rw [natIntV_some (fun h=>h.elim (fun h=>h0 h) (fun h=>h.elim (fun h=>by omega) (fun h=>hz (headq' hs0 h.2)))),← extract_drop];rfl,_,rfl⟩
    ·go_wp2
     go_quiet (fail)
     go_wp2
     go_ret3
     have e:k=nDig s.data.toList:=by have:=HK.out;omega
     subst e
     exact ⟨by rw [natIntV_some (by rintro (h|h|⟨h,_⟩)<;>omega),← extract_drop];rfl,_,rfl⟩
end Go.Proofs.YteepphiomcedfaaGreatDoor
namespace Go.Proofs.YteepphiomcedfaaGreatDoor
open Go.RowKit
theorem own_lt {s own:ByteArray} (ho:own.data.toList=if s.data.toList.head?=some 45 then s.data.toList.tail else s.data.toList) (hz:s.data.toList.head?=some 45):(own.size:Int) < (s.size:Int):=by
 have h1:own.size=own.data.toList.length:=rfl
 have h2:s.size=s.data.toList.length:=rfl
 rw [h1,h2,ho,if_pos hz]
 cases h:s.data.toList with
 | nil=>rw [h] at hz;cases hz
 | cons a t=>simp only [List.tail_cons,List.length_cons];omega
theorem own_le {s own:ByteArray} (ho:own.data.toList=if s.data.toList.head?=some 45 then s.data.toList.tail else s.data.toList) (hz:¬ s.data.toList.head?=some 45):¬ (own.size:Int) < (s.size:Int):=by
 have h1:own.size=own.data.toList.length:=rfl
 have h2:s.size=s.data.toList.length:=rfl
 rw [h1,h2,ho,if_neg hz];omega
theorem nativeInt_none (s:ByteArray) (w:World) (hs:s.size≤maxLen) (h:natInt s.data.toList=none) :
  Calls Tryz.prog 133 #[.string s] w (RetQ (.tuple #[.int .i64 0,.string .empty,.bool false]) w):=by
 have:=nativeInt_any s w hs
 rw [natIntV,h] at this;exact this
theorem nativeInt_ok (s:ByteArray) (w:World) (hs:s.size≤maxLen) {n:Nat} {r:List UInt8} (h:natInt s.data.toList=some (n,r)) :
  Calls Tryz.prog 133 #[.string s] w (RetQ (.tuple #[.int .i64 n,.string ⟨r.toArray⟩,.bool true]) w):=by
 have:=nativeInt_any s w hs
 rw [natIntV,h] at this;exact this
theorem nativeInt_ok' (s:ByteArray) (w:World) (hs:s.size≤maxLen) {n:Nat} {r:List UInt8} (h:natInt s.data.toList=some (n,r)) :
  Calls Tryz.prog 133 #[.string s] w fun e w'=>∃ rs:ByteArray,Hid (rs.data.toList=r)∧e=.returned (.tuple #[.int .i64 n,.string rs,.bool true])∧∃ q,w'=w.drewN q :=
 (nativeInt_ok s w hs h).mono fun _ _ ⟨h1,h2⟩=>⟨⟨r.toArray⟩,Lib.hid (by simp),h1,h2⟩
theorem natInt_le {l:List UInt8} {n:Nat} {r:List UInt8} (h:natInt l=some (n,r)):r.length≤l.length:=by
 unfold natInt at h
 split at h
 ·cases h
 ·simp only [Option.some.injEq,Prod.mk.injEq] at h
  rw [← h.2];simp
theorem natInt_lt {l:List UInt8} {n:Nat} {r:List UInt8} (h:natInt l=some (n,r)):n < 100000000:=by
 unfold natInt at h
 split at h
 ·cases h
 ·rename_i hc
  simp only [Option.some.injEq,Prod.mk.injEq] at h
  have h1:=dval_take_lt l (nDig l) (Nat.le_refl _)
  have h2:10 ^ nDig l≤10 ^ 8:=Nat.pow_le_pow_right (by omega) (by omega)
  omega
def natOfV (l:List UInt8):Value:=match natOf l with|none=>.tuple #[.agg #[.int .i64 0,.int .i64 0],.bool false]|some (n,d)=>.tuple #[.agg #[.int .i64 n,.int .i64 d],.bool true]
theorem nativeOf_any (s:ByteArray) (w:World) (hs:s.size≤maxLen) :
  Calls Tryz.prog 70 #[.string s] w (RetB (natOfV s.data.toList) w):=by
 unfold maxLen at hs
 go_enter Tryz.func70,Tryz.ntmps70
 go_upto_region 1 with fail
 go_cut [4] (fun o wr=>o=.string s∧wr=w.alloc (.cells #[.int .i64 0,.int .i64 0] 95))
 case first =>
  go_wp2_with fail
  go_meet
  exact ⟨rfl,rfl⟩
 case rest =>
  obtain ⟨rfl,rfl⟩:=hcut
  go_step
  go_step
  go_cut [4] (fun o wr=>∃ own:ByteArray,o=.string own∧own.data.toList=(if s.data.toList.head?=some 45 then s.data.toList.tail else s.data.toList)∧wr=w.alloc (.cells #[.int .i64 0,.int .i64 0] 95))
  case first =>
   by_cases h0:s.size=0
   ·have e1:=toList_nil h0
    go_wp2_with fail
    go_meet
    exact ⟨s,rfl,by rw [data_nil h0];rfl,rfl⟩
   ·have e1:=toList_ne h0
    have e2:=toList_isEmpty h0
    have e3:0 < s.size:=by omega
    by_cases hm:((s[0].toNat:Int) == 45)=true
    ·go_wp2_with fail
     go_meet
     exact ⟨s.extract 1 s.size,rfl,by rw [extract_drop,if_pos (headq45 e3 hm)];simp,rfl⟩
    ·have hm':((s[0].toNat:Int) == 45)=false:=by simpa using hm
     go_wp2_with fail
     go_meet
     exact ⟨s,rfl,by rw [if_neg (fun h=>hm (headq45' e3 h))],rfl⟩
  case rest =>
   obtain ⟨own,rfl,hown,rfl⟩:=hcut
   have hos:own.size≤maxLen:=by
    have:own.data.toList.length≤s.data.toList.length:=by rw [hown];split<;>simp
    have e1:own.data.toList.length=own.size:=rfl
    have e2:s.data.toList.length=s.size:=rfl
    unfold maxLen;omega
   have HO:=Lib.hid hown
   clear hown
   rcases hn:natInt own.data.toList with _|⟨n,r⟩
   ·have HN:=Lib.hid hn
    have HV:Hid (natOfV s.data.toList=.tuple #[.agg #[.int .i64 0,.int .i64 0],.bool false]):=Lib.hid (by unfold natOfV;rw [natOf_own HO.out,hn])
    clear hn
    go_wp2_with (go_at_call 133;refine (nativeInt_none own _ hos HN.out).mono ?_;rintro e w' ⟨rfl,nq,rfl⟩)
    refine bodyPost_ret (v:=natOfV s.data.toList) (by rw [HV.out];simp [results,Tryz.results70,go_sem]) rfl ⟨rfl,?_⟩
    exact qbl
   ·have HN:=Lib.hid hn
    by_cases hz:s.data.toList.head?=some 45∧n=0
    ·obtain ⟨hz1,rfl⟩:=hz
     have HV:Hid (natOfV s.data.toList=.tuple #[.agg #[.int .i64 0,.int .i64 0],.bool false]):=Lib.hid (by unfold natOfV;rw [natOf_own HO.out,hn];simp [hz1])
     have hlt:=own_lt HO.out hz1
     clear hn hz1
     go_wp2_with (go_at_call 133;refine (nativeInt_ok own _ hos HN.out).mono ?_;rintro e w' ⟨rfl,nq,rfl⟩)
     refine bodyPost_ret (v:=natOfV s.data.toList) (by rw [HV.out];simp [results,Tryz.results70,go_sem]) rfl ⟨rfl,?_⟩
     exact qbl
    ·have HZ:=Lib.hid hz
     clear hn hz
     go_step
     go_step
     go_cut [5,6,7] (fun n' r' ok wr=>n'=.int .i64 n∧ok=.bool true∧(∃ rs:ByteArray,r'=.string rs∧rs.data.toList=r)∧∃ q,wr=(w.alloc (.cells #[.int .i64 0,.int .i64 0] 95)).drewN q)
     case first =>
      go_wp2_with (go_at_call 133;refine (nativeInt_ok own _ hos HN.out).mono ?_;rintro e w' ⟨rfl,nq,rfl⟩)
      go_meet
      exact ⟨rfl,rfl,⟨_,rfl,rfl⟩,_,rfl⟩
     case rest =>
      obtain ⟨rfl,rfl,⟨rs,rfl,hrs⟩,q,rfl⟩:=hcut
      have HR:=Lib.hid hrs
      clear hrs
      go_step
      go_step
      go_cut [7] (fun _ wr=>wr=(w.alloc (.cells #[.int .i64 0,.int .i64 0] 95)).drewN q)
      case first =>
       by_cases hm:s.data.toList.head?=some 45
       ·have hlt:=own_lt HO.out hm
        have h0:((n:Int) == 0)=false:=by
         have:=HZ.out;simp;intro h;exact this ⟨hm,h⟩
        clear hm
        go_wp2_with fail
        go_meet
        trivial
       ·have hlt:=own_le HO.out hm
        clear hm
        go_wp2_with fail
        go_meet
        trivial
      case rest =>
       obtain rfl:=hcut
       go_upto_region 7 with fail
       go_cut [8] (fun p wr=>p=.pointer (some ⟨w.heap.size+1,0,none⟩)∧wr=((w.alloc (.cells #[.int .i64 0,.int .i64 0] 95)).alloc (.cells #[.int .i64 n,.int .i64 1] 95)).drewN q)
       case first =>
        go_wp2_with fail
        go_meet
        exact ⟨rfl,rfl⟩
       case rest =>
        obtain ⟨rfl,rfl⟩:=hcut
        go_step
        go_step
        go_cut [6] (fun _ wr=>∃ d:Nat,natOf s.data.toList=some (if s.data.toList.head?=some 45 then -(n:Int) else n,d)∧wr.cell? ⟨w.heap.size+1,0,none⟩=some (.int .i64 n)∧wr.cell? ⟨w.heap.size+1,1,none⟩=some (.int .i64 d)∧wr.cell? ⟨w.heap.size,0,none⟩=some (.int .i64 0)∧wr.cell? ⟨w.heap.size,1,none⟩=some (.int .i64 0)∧wr.frozen? ⟨w.heap.size+1,0,none⟩=false∧wr.frozen? ⟨w.heap.size+1,1,none⟩=false∧wr.frozen? ⟨w.heap.size,0,none⟩=false∧wr.frozen? ⟨w.heap.size,1,none⟩=false∧Below w.heap.size w wr)
        case first =>
         by_cases h0:rs.size=0
         ·have e1:=toList_nil h0
          have e4:r=[]:=by rw [← HR.out];exact data_nil h0
          have HV:Hid (natOf s.data.toList=some (if s.data.toList.head?=some 45 then -(n:Int) else n,1)):=Lib.hid (by rw [natOf_own HO.out,HN.out];simp [HZ.out,e4])
          clear e4 h0
          go_wp2_with fail
          go_meet
          refine ⟨1,HV.out,?_,?_,?_,?_,?_,?_,?_,?_,qbl⟩<;>simp [go_sem]
         ·have e1:=toList_ne h0
          have e2:=toList_isEmpty h0
          have e3:0 < rs.size:=by omega
          have e4:¬ r=[]:=fun h=>h0 (by have:=HR.out;rw [h] at this;exact congrArg List.length this)
          by_cases hs:((rs[0].toNat:Int) != 47)=true
          ·have HV:Hid (natOfV s.data.toList=.tuple #[.agg #[.int .i64 0,.int .i64 0],.bool false]):=Lib.hid (by
            unfold natOfV;rw [natOf_own HO.out,HN.out]
            have:¬ r.head?=some 47:=fun h=>by rw [← HR.out] at h;have:=headqc' (c:=47) e3 h;simp at hs;exact hs (by simpa using this)
            simp [HZ.out,e4,this])
           clear e4
           go_wp2_with fail
           refine bodyPost_ret (v:=natOfV s.data.toList) (by rw [HV.out];simp [results,Tryz.results70,go_sem]) rfl ⟨rfl,?_⟩
           exact qbl
          ·have hs':((rs[0].toNat:Int) != 47)=false:=by simpa using hs
           have e5:r.head?=some 47:=by rw [← HR.out];exact headqc (c:=47) e3 (by simpa using hs)
           have hx:(rs.extract 1 rs.size).data.toList=r.tail:=by rw [extract_drop,← HR.out];simp
           have hxs:(rs.extract 1 rs.size).size≤maxLen:=by
            have e1:(rs.extract 1 rs.size).size=r.tail.length:=by rw [← hx];rfl
            have e2:=natInt_le HN.out
            have e3:own.data.toList.length=own.size:=rfl
            rw [e1];simp;omega
           rcases hd:natInt r.tail with _|⟨d,r'⟩
           ·have HV:Hid (natOfV s.data.toList=.tuple #[.agg #[.int .i64 0,.int .i64 0],.bool false]):=Lib.hid (by
             unfold natOfV;rw [natOf_own HO.out,HN.out]
             simp [HZ.out,e4,e5,hd])
            have HD:=Lib.hid hd
            have HX:=Lib.hid hx
            clear hd hx e4 e5
            go_wp2_with (go_at_call 133;refine (nativeInt_none _ _ hxs (by rw [HX.out];exact HD.out)).mono ?_;rintro e w' ⟨rfl,nq,rfl⟩)
            refine bodyPost_ret (v:=natOfV s.data.toList) (by rw [HV.out];simp [results,Tryz.results70,go_sem]) rfl ⟨rfl,?_⟩
            exact qbl
           ·have hd8:=natInt_lt hd
            have hn8:=natInt_lt HN.out
            have HD:=Lib.hid hd
            have HX:=Lib.hid hx
            clear hx
            by_cases hbad:r'≠[]∨d < 2∨Nat.gcd n d≠1
            ·have HV:Hid (natOfV s.data.toList=.tuple #[.agg #[.int .i64 0,.int .i64 0],.bool false]):=Lib.hid (by
              unfold natOfV;rw [natOf_own HO.out,HN.out]
              simp only [if_neg HZ.out,if_neg e4,e5,ne_eq,not_true,if_false,hd,if_pos hbad])
             clear hd e4 e5
             by_cases b1:r'=[]
             ·subst b1
              by_cases b2:d < 2
              ·clear hbad
               have b2':(d:Int) < 2:=by omega
               go_wp2_with (go_at_call 133;refine (nativeInt_ok' _ _ hxs (by rw [HX.out];exact HD.out)).mono ?_;rintro e w' ⟨rs',hrs',rfl,nq,rfl⟩;have e1':=toList_nil (s:=rs') (congrArg List.length hrs'.out))
               refine bodyPost_ret (v:=natOfV s.data.toList) (by rw [HV.out];simp [results,Tryz.results70,go_sem]) rfl ⟨rfl,?_⟩
               exact qbl
              ·have b3:(((Nat.gcd n d:Nat):Int) != 1)=true:=by
                rcases hbad with h|h|h
                ·exact absurd rfl h
                ·exact absurd h b2
                ·simp;omega
               have b2':¬ (d:Int) < 2:=by omega
               clear hbad
               go_wp2_with (first|(go_at_call 133;refine (nativeInt_ok' _ _ hxs (by rw [HX.out];exact HD.out)).mono ?_;rintro e w' ⟨rs',hrs',rfl,nq,rfl⟩;have e1':=toList_nil (s:=rs') (congrArg List.length hrs'.out))|(go_at_call 134;refine (gcd_any _ _ _ (by omega) (by omega)).mono ?_;rintro e w' ⟨rfl,nq',rfl⟩))
               refine bodyPost_ret (v:=natOfV s.data.toList) (by rw [HV.out];simp [results,Tryz.results70,go_sem]) rfl ⟨rfl,?_⟩
               exact qbl
             ·clear hbad
              go_wp2_with (go_at_call 133;refine (nativeInt_ok' _ _ hxs (by rw [HX.out];exact HD.out)).mono ?_;rintro e w' ⟨rs',hrs',rfl,nq,rfl⟩;have e1':=toList_ne (s:=rs') (fun h=>b1 (by rw [← hrs'.out];exact data_nil h));have e2':=toList_isEmpty (s:=rs') (fun h=>b1 (by rw [← hrs'.out];exact data_nil h)))
              refine bodyPost_ret (v:=natOfV s.data.toList) (by rw [HV.out];simp [results,Tryz.results70,go_sem]) rfl ⟨rfl,?_⟩
              exact qbl
            ·have g1:r'=[]:=Decidable.byContradiction fun h=>hbad (Or.inl h)
             have g2:¬ (d:Int) < 2:=fun h=>hbad (Or.inr (Or.inl (by omega)))
             have g3:(((Nat.gcd n d:Nat):Int) != 1)=false:=by
              have:Nat.gcd n d=1:=Decidable.byContradiction fun h=>hbad (Or.inr (Or.inr h))
              simp [this]
             have HV:Hid (natOf s.data.toList=some (if s.data.toList.head?=some 45 then -(n:Int) else n,d)):=Lib.hid (by
              rw [natOf_own HO.out,HN.out]
              simp only [if_neg HZ.out,if_neg e4,e5,ne_eq,not_true,if_false,hd,if_neg hbad])
             subst g1
             clear hd e4 e5 hbad
             go_wp2_with (first|(go_at_call 133;refine (nativeInt_ok' _ _ hxs (by rw [HX.out];exact HD.out)).mono ?_;rintro e w' ⟨rs',hrs',rfl,nq,rfl⟩;have e1':=toList_nil (s:=rs') (congrArg List.length hrs'.out))|(go_at_call 134;refine (gcd_any _ _ _ (by omega) (by omega)).mono ?_;rintro e w' ⟨rfl,nq',rfl⟩))
             go_meet
             refine ⟨d,HV.out,?_,?_,?_,?_,?_,?_,?_,?_,qbl⟩<;>simp [go_sem]
        case rest =>
         obtain ⟨d,hV,c1,c2,c3,c4,z1,z2,z3,z4,hB⟩:=hcut
         have HV:=Lib.hid hV
         clear hV
         have hn8:=natInt_lt HN.out
         have hB2:=lt_of_cell c1
         by_cases hm:s.data.toList.head?=some 45
         ·have hlt:=own_lt HO.out hm
          have HW:Hid (natOfV s.data.toList=.tuple #[.agg #[.int .i64 (-(n:Int)),.int .i64 d],.bool true]):=Lib.hid (by unfold natOfV;rw [HV.out,if_pos hm])
          clear hm
          go_wp2_with fail
          refine bodyPost_ret (v:=natOfV s.data.toList) (by rw [HW.out];simp [results,Tryz.results70,go_sem,c1,c2,c3,c4,hB2,Nat.lt_of_succ_lt hB2]) rfl ⟨rfl,?_⟩
          exact (by repeat (first|(with_reducible first|exact bw0 _ _|exact hB|refine bw1 ?_ ?_ _|refine bw2 ?_ _|refine bw3 ?_|refine bw4 ?_ _|refine bw5 (by assumption) ?_)|exact Nat.le_refl _|(focus (simp;done))|(focus (simp;omega))|omega))
         ·have hlt:=own_le HO.out hm
          have HW:Hid (natOfV s.data.toList=.tuple #[.agg #[.int .i64 n,.int .i64 d],.bool true]):=Lib.hid (by unfold natOfV;rw [HV.out,if_neg hm])
          clear hm
          go_wp2_with fail
          refine bodyPost_ret (v:=natOfV s.data.toList) (by rw [HW.out];simp [results,Tryz.results70,go_sem,c1,c2,c3,c4,hB2,Nat.lt_of_succ_lt hB2]) rfl ⟨rfl,?_⟩
          exact (by repeat (first|(with_reducible first|exact bw0 _ _|exact hB|refine bw1 ?_ ?_ _|refine bw2 ?_ _|refine bw3 ?_|refine bw4 ?_ _|refine bw5 (by assumption) ?_)|exact Nat.le_refl _|(focus (simp;done))|(focus (simp;omega))|omega))
end Go.Proofs.YteepphiomcedfaaGreatDoor
namespace Go.Proofs.YteepphiomcedfaaGreatDoor
open Go.RowKit
theorem gcd_int (a b:Int) (w:World) (ha0:0≤a) (hb0:0≤b) (ha:a≤4000000000000000000) (hb:b≤4000000000000000000) :
  Calls Tryz.prog 134 #[.int .i64 a,.int .i64 b] w (RetQ (.int .i64 (Int.gcd a b:Nat)) w):=by
 have:=gcd_any a.toNat b.toNat w (by omega) (by omega)
 rw [Int.toNat_of_nonneg ha0,Int.toNat_of_nonneg hb0] at this
 have e:Int.gcd a b=Nat.gcd a.toNat b.toNat:=by rw [Int.gcd];congr 1<;>omega
 rw [e];exact this
theorem bounds_of_mul {n a:Int} {g:Nat} (h:n=a * g) (g0:0 < g) (h1 : -4000000000000000000≤n) (h2:n≤4000000000000000000) : -4000000000000000000≤a∧a≤4000000000000000000:=by
 have hz:(1:Int)≤g:=by omega
 constructor
 ·by_cases ha:0≤a
  ·omega
  ·have:=Int.mul_le_mul_of_nonpos_left (a:=a) (show a≤0 by omega) hz;omega
 ·by_cases ha:0≤a
  ·have:=Int.mul_le_mul_of_nonneg_left hz ha;omega
  ·omega
theorem number_any (n d:Int) (w:World) (hG:Glo w) (hd:d≠0) (h1 : -4000000000000000000≤n) (h2:n≤4000000000000000000) (h3 : -4000000000000000000≤d) (h4:d≤4000000000000000000) :
  Calls Tryz.prog 123 #[.agg #[.int .i64 n,.int .i64 d]] w (RetS (ratText (Rat.divInt n d)) w):=by
 go_enter Tryz.func123,Tryz.ntmps123
 go_upto_region 0 with fail
 go_cut [1,2] (fun p s2 wr=>p=.pointer (some ⟨w.heap.size,0,none⟩)∧s2=.string .empty∧wr=w.alloc (.cells #[.int .i64 n,.int .i64 d] 95))
 case first =>
  go_wp2_with fail
  go_meet
  exact ⟨rfl,rfl,rfl⟩
 case rest =>
  obtain ⟨rfl,rfl,rfl⟩:=hcut
  go_step
  go_step
  go_cut [6] (fun _ wr=>∃ n' d':Int,0 < d'∧Rat.divInt n' d'=Rat.divInt n d∧-4000000000000000000≤n'∧n'≤4000000000000000000∧d'≤4000000000000000000∧wr=w.alloc (.cells #[.int .i64 n',.int .i64 d'] 95))
  case first =>
   by_cases h:d < 0
   ·go_wp2_with fail
    go_meet
    exact ⟨-n,-d,by omega,Rat.neg_divInt_neg _ _,by omega,by omega,by omega,by trivial⟩
   ·go_wp2_with fail
    go_meet
    exact ⟨n,d,by omega,rfl,by omega,by omega,by omega,by trivial⟩
  case rest =>
   obtain ⟨n',d',p1,p2,p3,p4,p5,rfl⟩:=hcut
   obtain ⟨a,b,g,hg,g0,ha,hb,b0,hnum,hden,q1,q2⟩:=divInt_parts n' d' p1
   have HG:=Lib.hid hG
   have hab1 : -4000000000000000000≤a∧a≤4000000000000000000:=bounds_of_mul ha g0 p3 p4
   have hab2 : -4000000000000000000≤b∧b≤4000000000000000000:=bounds_of_mul hb g0 (by omega) p5
   have hgz:¬ (g:Int)=0:=by omega
   have hw1:IntKind.i64.wrap a=a:=IntWalk.i64_in _ (by omega)
   have hw2:IntKind.i64.wrap b=b:=IntWalk.i64_in _ (by omega)
   have HN:Hid ((Rat.divInt n d).num=a):=Lib.hid (by rw [← p2];exact hnum)
   have HD:Hid (((Rat.divInt n d).den:Int)=b):=Lib.hid (by rw [← p2];exact hden)
   have HGG:=Lib.hid hg
   obtain ⟨a1,a2⟩:=hab1
   obtain ⟨b1,b2⟩:=hab2
   clear p2 hd h1 h2 h3 h4 hnum hden ha hb hg hG
   go_wp2_with (go_at_call 134;refine (gcd_int _ _ _ (by omega) (by omega) (by omega) (by omega)).mono ?_;rintro e w' ⟨rfl,nq,rfl⟩;rw [← HGG.out])
   go_quiet (fail)
   by_cases h1:b=1
   ·have hbb:((b:Int) == 1)=true:=by simp [h1]
    have HT:Hid (ratText (Rat.divInt n d)=Lib.itoa a):=Lib.hid (by
     have h2:=HD.out
     rw [ratText,if_pos (by omega),HN.out])
    clear h1
    go_wp2_with (go_at_call 81;refine (itoa_any _ (by omega) (by omega) _ (HG.out.below qbl)).mono ?_;rintro e w2 ⟨s,hs,rfl,hB⟩)
    go_ret
    exact ⟨s,hs.trans HT.out.symm,rfl,Below.trans qbl (hB.mono (by simp))⟩
   ·have hbb:((b:Int) == 1)=false:=by simp [h1]
    have HT:Hid (ratText (Rat.divInt n d)=Lib.itoa a++47::Lib.itoa b):=Lib.hid (by
     have h2:=HD.out
     rw [ratText,if_neg (by omega),HN.out,← h2,Lib.itoa_nonneg])
    clear h1
    go_wp2_with fail
    refine (itoa_any a (by omega) (by omega) _ (HG.out.below qbl)).mono ?_
    rintro e w2 ⟨s,hs,rfl,hB⟩
    have hsz:s.size≤21:=by have:=Lib.itoa_length_le a (by omega) (by omega);rw [← hs] at this;exact this
    have HS:=Lib.hid hs
    have hG2:Glo w2:=(HG.out.below qbl).below hB
    have HG2:=Lib.hid hG2
    clear hs hG2
    go_wp2_with fail
    refine (itoa_any b (by omega) (by omega) _ HG2.out).mono ?_
    rintro e w3 ⟨s',hs',rfl,hB'⟩
    have hsz':s'.size≤21:=by have:=Lib.itoa_length_le b (by omega) (by omega);rw [← hs'] at this;exact this
    have HS':=Lib.hid hs'
    clear hs'
    go_wp2_with fail
    go_ret
    refine ⟨_,?_,rfl,Below.trans (Below.trans qbl (hB.mono (by simp))) (hB'.mono (by have:=hB.size;simp at this;omega))⟩
    rw [HT.out,← HS.out,← HS'.out]
    simp
end Go.Proofs.YteepphiomcedfaaGreatDoor
namespace Go.Proofs.YteepphiomcedfaaGreatDoor
open Go.RowKit
theorem ratText_le {q:Rat} (h:Small q):(ratText q).length≤30:=by
 have l1:(Lib.itoa q.num).length≤9:=by
  have:=nDigits_le8 h.1
  rcases itoa_cases q.num with ⟨_,e⟩|⟨_,e⟩<;>rw [e]<;>simp [Lib.decDigits_length]<;>omega
 have l2:(Lib.decDigits q.den).length≤8:=by rw [Lib.decDigits_length];exact nDigits_le8 h.2
 unfold ratText;split
 ·omega
 ·simp;omega
theorem nativeOf_small {q:Rat} (s:ByteArray) (w:World) (hs:s.data.toList=ratText q) (h:Small q) :
  Calls Tryz.prog 70 #[.string s] w (RetB (.tuple #[.agg #[.int .i64 q.num,.int .i64 q.den],.bool true]) w):=by
 have:=nativeOf_any s w (by have h1:=ratText_le h;rw [← hs] at h1;have:s.size=s.data.toList.length:=rfl;unfold maxLen;omega)
 rw [natOfV,hs,natOf_ratText h] at this
 exact this
def N8 (n d:Int):Prop:=-100000000 < n∧n < 100000000∧0 < d∧d < 100000000
theorem Small.n8 {q:Rat} (h:Small q):N8 q.num q.den:=by
 have:=h.1;have:=h.2;have:=q.den_pos;unfold N8;omega
theorem mul8 (a b:Int) (a1 : -100000000 < a) (a2:a < 100000000) (b1 : -100000000 < b) (b2:b < 100000000) : -10000000000000000 < a * b∧a * b < 10000000000000000:=by
 have h1:a.natAbs * b.natAbs < 100000000 * 100000000:=Nat.mul_lt_mul'' (by omega) (by omega)
 rw [← Int.natAbs_mul] at h1
 omega
theorem add1_any (n1 d1 n2 d2:Int) (w:World) (h1:N8 n1 d1) (h2:N8 n2 d2) :
  Calls Tryz.prog 62 #[.agg #[.int .i64 n1,.int .i64 d1],.agg #[.int .i64 n2,.int .i64 d2]] w (RetB (.agg #[.int .i64 (n1 * d2+n2 * d1),.int .i64 (d1 * d2)]) w):=by
 obtain ⟨a1,a2,a3,a4⟩:=h1
 obtain ⟨b1,b2,b3,b4⟩:=h2
 obtain ⟨m1,m1'⟩:=mul8 n1 d2 a1 a2 (by omega) b4
 obtain ⟨m2,m2'⟩:=mul8 n2 d1 b1 b2 (by omega) a4
 obtain ⟨m3,m3'⟩:=mul8 d1 d2 (by omega) a4 (by omega) b4
 obtain ⟨m4,m4'⟩:=mul8 n1 n2 a1 a2 b1 b2
 obtain ⟨m5,m5'⟩:=mul8 d1 n2 (by omega) a4 b1 b2
 clear a1 a2 a3 a4 b1 b2 b3 b4
 go_enter Tryz.func62,Tryz.ntmps62
 go_wp2_with fail
 exact bodyPost_ret (v:=.agg #[.int .i64 (n1 * d2+n2 * d1),.int .i64 (d1 * d2)]) (by simp [results,Tryz.results62,go_sem]) rfl ⟨rfl,qbl⟩
theorem sub1_any (n1 d1 n2 d2:Int) (w:World) (h1:N8 n1 d1) (h2:N8 n2 d2) :
  Calls Tryz.prog 99 #[.agg #[.int .i64 n1,.int .i64 d1],.agg #[.int .i64 n2,.int .i64 d2]] w (RetB (.agg #[.int .i64 (n1 * d2 - n2 * d1),.int .i64 (d1 * d2)]) w):=by
 obtain ⟨a1,a2,a3,a4⟩:=h1
 obtain ⟨b1,b2,b3,b4⟩:=h2
 obtain ⟨m1,m1'⟩:=mul8 n1 d2 a1 a2 (by omega) b4
 obtain ⟨m2,m2'⟩:=mul8 n2 d1 b1 b2 (by omega) a4
 obtain ⟨m3,m3'⟩:=mul8 d1 d2 (by omega) a4 (by omega) b4
 obtain ⟨m4,m4'⟩:=mul8 n1 n2 a1 a2 b1 b2
 obtain ⟨m5,m5'⟩:=mul8 d1 n2 (by omega) a4 b1 b2
 clear a1 a2 a3 a4 b1 b2 b3 b4
 go_enter Tryz.func99,Tryz.ntmps99
 go_wp2_with fail
 exact bodyPost_ret (v:=.agg #[.int .i64 (n1 * d2 - n2 * d1),.int .i64 (d1 * d2)]) (by simp [results,Tryz.results99,go_sem]) rfl ⟨rfl,qbl⟩
theorem mul1_any (n1 d1 n2 d2:Int) (w:World) (h1:N8 n1 d1) (h2:N8 n2 d2) :
  Calls Tryz.prog 131 #[.agg #[.int .i64 n1,.int .i64 d1],.agg #[.int .i64 n2,.int .i64 d2]] w (RetB (.agg #[.int .i64 (n1 * n2),.int .i64 (d1 * d2)]) w):=by
 obtain ⟨a1,a2,a3,a4⟩:=h1
 obtain ⟨b1,b2,b3,b4⟩:=h2
 obtain ⟨m1,m1'⟩:=mul8 n1 d2 a1 a2 (by omega) b4
 obtain ⟨m2,m2'⟩:=mul8 n2 d1 b1 b2 (by omega) a4
 obtain ⟨m3,m3'⟩:=mul8 d1 d2 (by omega) a4 (by omega) b4
 obtain ⟨m4,m4'⟩:=mul8 n1 n2 a1 a2 b1 b2
 obtain ⟨m5,m5'⟩:=mul8 d1 n2 (by omega) a4 b1 b2
 clear a1 a2 a3 a4 b1 b2 b3 b4
 go_enter Tryz.func131,Tryz.ntmps131
 go_wp2_with fail
 exact bodyPost_ret (v:=.agg #[.int .i64 (n1 * n2),.int .i64 (d1 * d2)]) (by simp [results,Tryz.results131,go_sem]) rfl ⟨rfl,qbl⟩
theorem div1_any (n1 d1 n2 d2:Int) (w:World) (h1:N8 n1 d1) (h2:N8 n2 d2) :
  Calls Tryz.prog 101 #[.agg #[.int .i64 n1,.int .i64 d1],.agg #[.int .i64 n2,.int .i64 d2]] w (RetB (.agg #[.int .i64 (n1 * d2),.int .i64 (d1 * n2)]) w):=by
 obtain ⟨a1,a2,a3,a4⟩:=h1
 obtain ⟨b1,b2,b3,b4⟩:=h2
 obtain ⟨m1,m1'⟩:=mul8 n1 d2 a1 a2 (by omega) b4
 obtain ⟨m2,m2'⟩:=mul8 n2 d1 b1 b2 (by omega) a4
 obtain ⟨m3,m3'⟩:=mul8 d1 d2 (by omega) a4 (by omega) b4
 obtain ⟨m4,m4'⟩:=mul8 n1 n2 a1 a2 b1 b2
 obtain ⟨m5,m5'⟩:=mul8 d1 n2 (by omega) a4 b1 b2
 clear a1 a2 a3 a4 b1 b2 b3 b4
 go_enter Tryz.func101,Tryz.ntmps101
 go_wp2_with fail
 exact bodyPost_ret (v:=.agg #[.int .i64 (n1 * d2),.int .i64 (d1 * n2)]) (by simp [results,Tryz.results101,go_sem]) rfl ⟨rfl,qbl⟩
theorem quick_small {p q:Rat} (F:Nat) (n d:Int) (s t:ByteArray) (w:World) (hG:Glo w) (hs:s.data.toList=ratText p) (hp:Small p) (ht:t.data.toList=ratText q) (hq:Small q)
  (hE:∀ args w,(callFunc F args).run Tryz.prog w=.ok (.enter F args) w)
  (hF:∀ w,Calls Tryz.prog F #[.agg #[.int .i64 p.num,.int .i64 p.den],.agg #[.int .i64 q.num,.int .i64 q.den]] w (RetB (.agg #[.int .i64 n,.int .i64 d]) w))
  (hd:d≠0) (h1 : -4000000000000000000≤n) (h2:n≤4000000000000000000) (h3 : -4000000000000000000≤d) (h4:d≤4000000000000000000) :
  Calls Tryz.prog 61 #[.string s,.string t,.func (.func F) #[] #[]] w fun e w'=>∃ r:ByteArray,r.data.toList=ratText (Rat.divInt n d)∧e=.returned (.tuple #[.string r,.bool true])∧Below w.heap.size w w':=by
 have HS:=Lib.hid hs
 have HT:=Lib.hid ht
 have HG:=Lib.hid hG
 have HF:=Lib.hid hF
 have HD:=Lib.hid hd
 clear hs ht hG hF hd
 go_enter Tryz.func61,Tryz.ntmps61
 go_wp2_with fail
 refine (nativeOf_small s _ HS.out hp).mono ?_
 rintro e w1 ⟨rfl,hB1⟩
 go_wp2_with fail
 refine (nativeOf_small t _ HT.out hq).mono ?_
 rintro e w2 ⟨rfl,hB2⟩
 obtain ⟨hc2,hf2⟩:=bcell hB2
 have z2:=hB2.size
 simp only [World.size_alloc] at z2
 have c0:w2.cell? ⟨w1.heap.size,0,none⟩=some (.int .i64 p.num):=by rw [hc2 _ _ (by simp)];simp [go_sem]
 have c1:w2.cell? ⟨w1.heap.size,1,none⟩=some (.int .i64 p.den):=by rw [hc2 _ _ (by simp)];simp [go_sem]
 have z3:w1.heap.size < w2.heap.size:=by omega
 clear hc2 hf2
 go_wp2_with fail
 refine (HF.out _).mono ?_
 rintro e w3 ⟨rfl,hB3⟩
 have hB:Below w.heap.size w w3:=qbl
 go_wp2_with fail
 refine (number_any n d _ (HG.out.below hB) HD.out h1 h2 h3 h4).mono ?_
 rintro e w4 ⟨r,hr,rfl,hB4⟩
 have HR:=Lib.hid hr
 clear hr
 go_wp2_with fail
 go_ret2
 exact ⟨r,HR.out,rfl,hB.trans (hB4.mono hB.size)⟩
end Go.Proofs.YteepphiomcedfaaGreatDoor
namespace Go.Proofs.YteepphiomcedfaaGreatDoor
open Go.RowKit
def RetN (q:Rat) (w:World) (e:Ending) (w':World):Prop:=∃ r:ByteArray,r.data.toList=ratText q∧e=.returned (.tuple #[.string r,.int .i64 0])∧Below w.heap.size w w'
theorem bds8 {n1 d1 n2 d2:Int} (h1:N8 n1 d1) (h2:N8 n2 d2):(-10000000000000000 < n1 * d2∧n1 * d2 < 10000000000000000)∧(-10000000000000000 < n2 * d1∧n2 * d1 < 10000000000000000)∧(-10000000000000000 < d1 * d2∧d1 * d2 < 10000000000000000)∧(-10000000000000000 < n1 * n2∧n1 * n2 < 10000000000000000)∧(-10000000000000000 < d1 * n2∧d1 * n2 < 10000000000000000):=by
 obtain ⟨a1,a2,a3,a4⟩:=h1
 obtain ⟨b1,b2,b3,b4⟩:=h2
 exact ⟨mul8 n1 d2 a1 a2 (by omega) b4,mul8 n2 d1 b1 b2 (by omega) a4,mul8 d1 d2 (by omega) a4 (by omega) b4,mul8 n1 n2 a1 a2 b1 b2,mul8 d1 n2 (by omega) a4 b1 b2⟩
theorem Add_small {p q:Rat} (s t:ByteArray) (w:World) (hG:Glo w) (hs:s.data.toList=ratText p) (hp:Small p) (ht:t.data.toList=ratText q) (hq:Small q) :
  Calls Tryz.prog 19 #[.string s,.string t] w (RetN (p+q) w):=by
 have hd:(p.den:Int) * q.den≠0:=by have:=hp.n8;have:=hq.n8;unfold N8 at *;exact Int.ne_of_gt (Int.mul_pos (by omega) (by omega))
 obtain ⟨b1,b2,b3,b4⟩:=bds8 hp.n8 hq.n8
 have hr:Rat.divInt (p.num * q.den+q.num * p.den) ((p.den:Int) * q.den)=p+q:=by rw [Rat.add_def',← Rat.divInt_ofNat];simp
 have HR:=Lib.hid hr
 have HS:=Lib.hid hs
 have HT:=Lib.hid ht
 have HG:=Lib.hid hG
 clear hr hs ht hG
 go_enter Tryz.func19,Tryz.ntmps19
 go_wp2_with fail
 refine (quick_small 62 (p.num * q.den+q.num * p.den) ((p.den:Int) * q.den) s t _ HG.out HS.out hp HT.out hq (enters_of Tryz.func62 (by kernel_rfl) rfl) (fun w=>add1_any _ _ _ _ w hp.n8 hq.n8) hd (by omega) (by omega) (by omega) (by omega)).mono ?_
 rintro e w1 ⟨r,hr,rfl,hB1⟩
 rw [HR.out] at hr
 have HR2:=Lib.hid hr
 clear hr
 go_wp2_with fail
 go_ret2
 exact ⟨r,HR2.out,rfl,hB1⟩
theorem Sub_small {p q:Rat} (s t:ByteArray) (w:World) (hG:Glo w) (hs:s.data.toList=ratText p) (hp:Small p) (ht:t.data.toList=ratText q) (hq:Small q) :
  Calls Tryz.prog 43 #[.string s,.string t] w (RetN (p - q) w):=by
 have hd:(p.den:Int) * q.den≠0:=by have:=hp.n8;have:=hq.n8;unfold N8 at *;exact Int.ne_of_gt (Int.mul_pos (by omega) (by omega))
 obtain ⟨b1,b2,b3,b4⟩:=bds8 hp.n8 hq.n8
 have hr:Rat.divInt (p.num * q.den - q.num * p.den) ((p.den:Int) * q.den)=p - q:=by rw [Rat.sub_def',← Rat.divInt_ofNat];simp
 have HR:=Lib.hid hr
 have HS:=Lib.hid hs
 have HT:=Lib.hid ht
 have HG:=Lib.hid hG
 clear hr hs ht hG
 go_enter Tryz.func43,Tryz.ntmps43
 go_wp2_with fail
 refine (quick_small 99 (p.num * q.den - q.num * p.den) ((p.den:Int) * q.den) s t _ HG.out HS.out hp HT.out hq (enters_of Tryz.func99 (by kernel_rfl) rfl) (fun w=>sub1_any _ _ _ _ w hp.n8 hq.n8) hd (by omega) (by omega) (by omega) (by omega)).mono ?_
 rintro e w1 ⟨r,hr,rfl,hB1⟩
 rw [HR.out] at hr
 have HR2:=Lib.hid hr
 clear hr
 go_wp2_with fail
 go_ret2
 exact ⟨r,HR2.out,rfl,hB1⟩
theorem Mul_small {p q:Rat} (s t:ByteArray) (w:World) (hG:Glo w) (hs:s.data.toList=ratText p) (hp:Small p) (ht:t.data.toList=ratText q) (hq:Small q) :
  Calls Tryz.prog 68 #[.string s,.string t] w (RetN (p * q) w):=by
 have hd:(p.den:Int) * q.den≠0:=by have:=hp.n8;have:=hq.n8;unfold N8 at *;exact Int.ne_of_gt (Int.mul_pos (by omega) (by omega))
 obtain ⟨b1,b2,b3,b4⟩:=bds8 hp.n8 hq.n8
 have hr:Rat.divInt (p.num * q.num) ((p.den:Int) * q.den)=p * q:=by rw [Rat.mul_def',← Rat.divInt_ofNat];simp
 have HR:=Lib.hid hr
 have HS:=Lib.hid hs
 have HT:=Lib.hid ht
 have HG:=Lib.hid hG
 clear hr hs ht hG
 go_enter Tryz.func68,Tryz.ntmps68
 go_wp2_with fail
 refine (quick_small 131 (p.num * q.num) ((p.den:Int) * q.den) s t _ HG.out HS.out hp HT.out hq (enters_of Tryz.func131 (by kernel_rfl) rfl) (fun w=>mul1_any _ _ _ _ w hp.n8 hq.n8) hd (by omega) (by omega) (by omega) (by omega)).mono ?_
 rintro e w1 ⟨r,hr,rfl,hB1⟩
 rw [HR.out] at hr
 have HR2:=Lib.hid hr
 clear hr
 go_wp2_with fail
 go_ret2
 exact ⟨r,HR2.out,rfl,hB1⟩
end Go.Proofs.YteepphiomcedfaaGreatDoor
namespace Go.Proofs.YteepphiomcedfaaGreatDoor
open Go.RowKit
theorem ratText_ne0 {q:Rat} (h:Small q) (h0:q≠0):ratText q≠[48]:=by
 intro h1
 have h2:=natOf_ratText h
 rw [h1] at h2
 have h3:natOf [48]=some (0,1):=by decide
 rw [h3] at h2
 simp only [Option.some.injEq,Prod.mk.injEq] at h2
 exact h0 (Rat.num_eq_zero.1 h2.1.symm)
theorem Div_small {p q:Rat} (s t:ByteArray) (w:World) (hG:Glo w) (hs:s.data.toList=ratText p) (hp:Small p) (ht:t.data.toList=ratText q) (hq:Small q) (hq0:q≠0) :
  Calls Tryz.prog 44 #[.string s,.string t] w (RetN (p / q) w):=by
 have hne:(t.toList == [48])=false:=by
  rw [Lib.toList_data,ht];simpa using ratText_ne0 hq hq0
 have hqn:q.num≠0:=fun h=>hq0 (Rat.num_eq_zero.1 h)
 have hd:(p.den:Int) * q.num≠0:=Int.mul_ne_zero (by have:=p.den_pos;omega) hqn
 obtain ⟨b1,b2,b3,b4,b5⟩:=bds8 hp.n8 hq.n8
 have hr:Rat.divInt (p.num * q.den) (p.den * q.num)=p / q:=by
  rw [Rat.div_def,Rat.inv_def,← Rat.num_divInt_den p,Rat.divInt_mul_divInt,Rat.num_divInt_den]
 have HR:=Lib.hid hr
 have HS:=Lib.hid hs
 have HT:=Lib.hid ht
 have HG:=Lib.hid hG
 clear hr hs ht hG
 go_enter Tryz.func44,Tryz.ntmps44
 go_wp2_with fail
 refine (quick_small 101 (p.num * q.den) (p.den * q.num) s t _ HG.out HS.out hp HT.out hq (enters_of Tryz.func101 (by kernel_rfl) rfl) (fun w=>div1_any _ _ _ _ w hp.n8 hq.n8) hd (by omega) (by omega) (by omega) (by omega)).mono ?_
 rintro e w1 ⟨r,hr,rfl,hB1⟩
 rw [HR.out] at hr
 have HR2:=Lib.hid hr
 clear hr
 go_wp2_with fail
 go_ret2
 exact ⟨r,HR2.out,rfl,hB1⟩
theorem Compare_small {p q:Rat} (s t:ByteArray) (w:World) (hs:s.data.toList=ratText p) (hp:Small p) (ht:t.data.toList=ratText q) (hq:Small q) :
  Calls Tryz.prog 21 #[.string s,.string t] w (RetB (.tuple #[.int .i64 (Lib.compareInt (p.num * q.den) (q.num * p.den)),.int .i64 0]) w):=by
 obtain ⟨m1,m2,_⟩:=bds8 hp.n8 hq.n8
 have HS:=Lib.hid hs
 have HT:=Lib.hid ht
 clear hs ht
 go_enter Tryz.func21,Tryz.ntmps21
 go_wp2_with fail
 refine (nativeOf_small s _ HS.out hp).mono ?_
 rintro e w1 ⟨rfl,hB1⟩
 go_wp2_with fail
 refine (nativeOf_small t _ HT.out hq).mono ?_
 rintro e w2 ⟨rfl,hB2⟩
 obtain ⟨hc2,hf2⟩:=bcell hB2
 have z2:=hB2.size
 simp only [World.size_alloc] at z2
 have c0:w2.cell? ⟨w1.heap.size,0,none⟩=some (.int .i64 p.num):=by rw [hc2 _ _ (by simp)];simp [go_sem]
 have c1:w2.cell? ⟨w1.heap.size,1,none⟩=some (.int .i64 p.den):=by rw [hc2 _ _ (by simp)];simp [go_sem]
 have z3:w1.heap.size < w2.heap.size:=by omega
 obtain ⟨m1a,m1b⟩:=m1
 obtain ⟨m2a,m2b⟩:=m2
 clear hc2 hf2
 go_wp2_with fail
 refine (Tryz.cmp_Compare_int _ _ _).mono ?_
 rintro e w3 ⟨rfl,rfl⟩
 go_wp2_with fail
 go_ret2
 exact ⟨rfl,qbl⟩
theorem tdiv_bds {n d:Int} (a1 : -100000000 < n) (a2:n < 100000000) (a3:0 < d) : -100000000 < n.tdiv d∧n.tdiv d < 100000000:=by
 have h1:(n.tdiv d).natAbs≤n.natAbs:=by rw [Int.natAbs_tdiv];exact Nat.div_le_self _ _
 omega
theorem tdiv_floor (n d:Int) (hd:0 < d):(n.tmod d < 0→n / d=n.tdiv d - 1)∧(¬ n.tmod d < 0→n / d=n.tdiv d):=by
 have h1:=Int.mul_tdiv_add_tmod n d
 have h2:=Int.mul_ediv_add_emod n d
 have h3:=Int.emod_nonneg n (show d≠0 by omega)
 have h4:=Int.emod_lt_of_pos n hd
 have h5:n.tmod d < d:=Int.tmod_lt_of_pos n hd
 have h6 : -d < n.tmod d:=by have:=Int.lt_tmod_of_pos n hd;omega
 constructor
 ·intro h
  have h7:d * (n / d - (n.tdiv d - 1)) < d * 1∧d * (-1) < d * (n / d - (n.tdiv d - 1)):=by
   rw [Int.mul_sub,Int.mul_sub];omega
  have:=Int.lt_of_mul_lt_mul_left h7.1 (by omega)
  have:=Int.lt_of_mul_lt_mul_left h7.2 (by omega)
  omega
 ·intro h
  have h7:d * (n / d - n.tdiv d) < d * 1∧d * (-1) < d * (n / d - n.tdiv d):=by
   rw [Int.mul_sub];omega
  have:=Int.lt_of_mul_lt_mul_left h7.1 (by omega)
  have:=Int.lt_of_mul_lt_mul_left h7.2 (by omega)
  omega
theorem ratText_int (n:Int):ratText n=Lib.itoa n:=by simp [ratText]
theorem Floor_small {p:Rat} (s:ByteArray) (w:World) (hG:Glo w) (hs:s.data.toList=ratText p) (hp:Small p) :
  Calls Tryz.prog 46 #[.string s] w (RetN (p.floor:Int) w):=by
 have HS:=Lib.hid hs
 have HG:=Lib.hid hG
 obtain ⟨a1,a2,a3,a4⟩:=hp.n8
 have hz:¬ ((p.den:Nat):Int)=0:=by omega
 have ht:=tdiv_floor p.num p.den a3
 have hb : -100000000 < p.num.tdiv p.den∧p.num.tdiv p.den < 100000000:=tdiv_bds a1 a2 a3
 have hb2 : -100000000 < p.num.tmod p.den∧p.num.tmod p.den < 100000000:=by
  have:=Int.tmod_lt_of_pos p.num a3;have:=Int.lt_tmod_of_pos p.num a3;omega
 obtain ⟨hb1,hb2,⟨hb3,hb4⟩⟩:=(⟨hb.1,hb.2,hb2⟩:_∧_∧_)
 have hw1:IntKind.i64.wrap (p.num.tdiv p.den)=p.num.tdiv p.den:=IntWalk.i64_in _ (by omega)
 have hw2:IntKind.i64.wrap (p.num.tmod p.den)=p.num.tmod p.den:=IntWalk.i64_in _ (by omega)
 obtain ⟨t,hq⟩:∃ t,p.num.tdiv p.den=t:=⟨_,rfl⟩
 obtain ⟨m,hm⟩:∃ m,p.num.tmod p.den=m:=⟨_,rfl⟩
 rw [hq] at hb1 hb2 hw1 ht
 rw [hm] at hb3 hb4 hw2 ht
 by_cases h:m < 0
 ·have hfl:=ht.1 h
  have HF:Hid (ratText (p.floor:Int)=Lib.itoa (t - 1)):=Lib.hid (by rw [ratText_int,Rat.floor_def,hfl])
  clear hs hG ht hb hfl
  go_enter Tryz.func46,Tryz.ntmps46
  go_wp2_with fail
  refine (nativeOf_small s _ HS.out hp).mono ?_
  rintro e w1 ⟨rfl,hB1⟩
  go_wp2_with fail
  refine (itoa_any _ (by omega) (by omega) _ (HG.out.below qbl)).mono ?_
  rintro e w2 ⟨r,hr,rfl,hB2⟩
  have HR:=Lib.hid hr
  clear hr
  go_wp2_with fail
  go_ret2
  exact ⟨r,HR.out.trans HF.out.symm,rfl,qbl⟩
 ·have hfl:=ht.2 h
  have HF:Hid (ratText (p.floor:Int)=Lib.itoa t):=Lib.hid (by rw [ratText_int,Rat.floor_def,hfl])
  have h':(decide (m < 0))=false:=by simp;omega
  clear hs hG ht hb hfl h
  go_enter Tryz.func46,Tryz.ntmps46
  go_wp2_with fail
  refine (nativeOf_small s _ HS.out hp).mono ?_
  rintro e w1 ⟨rfl,hB1⟩
  go_wp2_with fail
  go_outline
  refine (itoa_any _ (by omega) (by omega) _ (HG.out.below qbl)).mono ?_
  rintro e w2 ⟨r,hr,rfl,hB2⟩
  have HR:=Lib.hid hr
  clear hr
  go_wp2_with fail
  go_ret2
  exact ⟨r,HR.out.trans HF.out.symm,rfl,qbl⟩
end Go.Proofs.YteepphiomcedfaaGreatDoor
namespace Go.Proofs.YteepphiomcedfaaGreatDoor
open Go.RowKit
theorem digits_any (s:ByteArray) (w:World) (hs:s.size≤maxLen) :
  Calls Tryz.prog 192 #[.string s] w (RetQ (.int .i64 (digs s.data.toList:Nat)) w):=by
 unfold maxLen at hs
 go_enter Tryz.func192,Tryz.ntmps192
 go_upto_block 0 with fail
 go_cut [3] (fun i wr=>i=.int .i64 (nDig s.data.toList:Nat)∧wr=w)
 case first =>
  go_wp2_with fail
  go_loopw [3] (fun i wr=>∃ k:Nat,k≤nDig s.data.toList∧i=.int .i64 k∧wr=w) (fun i _=>s.size - (intOf i).toNat)
  case atStart=>exact ⟨0,Nat.zero_le _,rfl,rfl⟩
  case round =>
   obtain ⟨k,hk,rfl,rfl⟩:=hrel
   have hkn:=nDig_le s.data.toList
   have hln:s.data.toList.length=s.size:=rfl
   by_cases hlt:k < nDig s.data.toList
   ·have hks:k < s.size:=by omega
    obtain ⟨hd1,hd2⟩:=(isDig_iff _).1 (isDig_of_lt s.data.toList k hlt hks)
    have hd1':(48:Int)≤(s[k].toNat:Int):=by exact_mod_cast hd1
    have hd2':(s[k].toNat:Int)≤57:=by exact_mod_cast hd2
    clear hd1 hd2 hln
    go_wp2
    go_roundw
    case rel=>exact ⟨k+1,hlt,by go_num,by trivial⟩
    case measure=>simp [intOf];omega
   ·have hK:k=nDig s.data.toList:=by omega
    subst hK
    by_cases hks:nDig s.data.toList < s.size
    ·have hd:=not_isDig_at s.data.toList hks
     by_cases hd1:(48:Int)≤(s[nDig s.data.toList].toNat:Int)
     ·have hd2:¬ (s[nDig s.data.toList].toNat:Int)≤57:=fun h=>by
       have:isDig s.data.toList[nDig s.data.toList]=true:=(isDig_iff _).2 ⟨by exact_mod_cast hd1,by exact_mod_cast h⟩
       rw [this] at hd;cases hd
      clear hd hln
      go_wp2
      go_meet
      exact ⟨rfl,rfl⟩
     ·clear hd hln
      go_wp2
      go_meet
      exact ⟨rfl,rfl⟩
    ·clear hln
     go_wp2
     go_meet
     exact ⟨rfl,rfl⟩
 case rest =>
  obtain ⟨rfl,rfl⟩:=hcut
  have hkn:nDig s.data.toList≤s.size:=nDig_le s.data.toList
  by_cases h1:1 < nDig s.data.toList
  ·have h1':(1:Int) < (nDig s.data.toList:Nat):=by omega
   have hs0:0 < s.size:=by omega
   by_cases hz:((s[0].toNat:Int) == 48)=true
   ·have HD:Hid (digs s.data.toList=0):=Lib.hid (if_pos ⟨h1,headq hs0 hz⟩)
    go_wp2
    go_ret
    exact ⟨by rw [HD.out];rfl,0,rfl⟩
   ·have hz':((s[0].toNat:Int) == 48)=false:=by simpa using hz
    have HD:Hid (digs s.data.toList=nDig s.data.toList):=Lib.hid (if_neg fun h=>hz (headq' hs0 h.2))
    go_wp2
    go_ret
    exact ⟨by rw [HD.out];rfl,0,rfl⟩
  ·have HD:Hid (digs s.data.toList=nDig s.data.toList):=Lib.hid (if_neg fun h=>h1 h.1)
   have h1':¬ (1:Int) < (nDig s.data.toList:Nat):=by omega
   go_wp2
   go_ret
   exact ⟨by rw [HD.out];rfl,0,rfl⟩
end Go.Proofs.YteepphiomcedfaaGreatDoor
namespace Go.Proofs.YteepphiomcedfaaGreatDoor
open Go.RowKit
def RetP (q:Rat) (v:Value) (w:World) (e:Ending) (w':World):Prop:=∃ a b:ByteArray,Hid (a.data.toList=Lib.itoa q.num)∧Hid (b.data.toList=Lib.decDigits q.den)∧e=.returned (.tuple #[.agg #[.string a,.string b],v])∧Below w.heap.size w w'
theorem one_digits:Lib.decDigits 1=[49]:=by rw [Lib.decDigits_one (by omega)];decide
theorem digits_dec {n:Nat} (s:ByteArray) (w:World) (hs:s.size≤maxLen) (h:s.data.toList=Lib.decDigits n) :
  Calls Tryz.prog 192 #[.string s] w (RetQ (.int .i64 (s.size:Nat)) w):=by
 have:=digits_any s w hs
 rw [h,digs_dec,← h] at this
 exact this
theorem size_dec {s:ByteArray} {n:Nat} (h:s.data.toList=Lib.decDigits n):((s.size:Int) == 0)=false:=by
 have:s.size≠0:=fun h0=>decDigits_ne n (by rw [← h];exact data_nil h0)
 simp [this]
theorem ne_of_list {s:ByteArray} {l m:List UInt8} (h:s.data.toList=l) (hn:l≠m):(s.toList == m)=false:=by
 rw [Lib.toList_data,h];simpa using hn
theorem cut_valid {q:Rat} (s:ByteArray) (w:World) (hG:Glo w) (hs:s.data.toList=ratText q) (hl:s.size < 4294967281) :
  Calls Tryz.prog 136 #[.string s] w (RetP q (.bool true) w):=by
 have HG:=Lib.hid hG
 have htr:=trim_itoa q.num
 have HT:=Lib.hid htr.1
 have hneg:∃ c,Lib.hasPrefix (Lib.itoa q.num) [45]=c∧(c=true→Lib.decDigits q.num.natAbs≠[48]):=⟨_,rfl,fun h=>dec_ne_zero (htr.2 h)⟩
 obtain ⟨c,hp,hz⟩:=hneg
 have HP:=Lib.hid hp
 have HZ:=Lib.hid hz
 clear hp hz htr
 by_cases h1:q.den=1
 ·have hc:Lib.cut s.data.toList [47]=(Lib.itoa q.num,[],false):=by
   rw [hs,ratText,if_pos h1];exact cut_itoa _
  have hq1:([49]:List UInt8)=Lib.decDigits q.den:=by rw [h1];exact one_digits.symm
  have HC:=Lib.hid hc
  have H1:=Lib.hid hq1
  have hll:(Lib.itoa q.num).length=s.size:=by rw [← show s.data.toList.length=s.size from rfl,hs,ratText,if_pos h1]
  have HL:=Lib.hid hll
  clear hs hG hc hq1 h1 hll
  cases c
  all_goals
   go_enter Tryz.func136,Tryz.ntmps136
   go_wp2_with fail
   refine (cut_any _ _ _ (HG.out.below qbl) hl HC.out).mono ?_
   rintro e w1 ⟨a,b,ha,hb,rfl,n1,rfl⟩
   have hx:=HT.out
   have hy:=HP.out
   rw [← ha.out] at hx hy
   have HX:=Lib.hid hx
   have HY:=Lib.hid hy
   clear hx hy
   go_wp2_with fail
   refine (cutPrefix_any a _ _ HX.out HY.out).mono ?_
   rintro e w2 ⟨o,ho,rfl,rfl⟩
   have hol:o.size≤maxLen:=by
    have e1:o.size=(Lib.decDigits q.num.natAbs).length:=by rw [← ho.out];rfl
    have e2:=(trim_len q.num)
    have e3:=HL.out
    unfold maxLen;omega
   have hz1:=size_dec ho.out
   first|(have hz2:=ne_of_list ho.out (HZ.out trivial))|(have hz2:=ne_of_list ho.out (HZ.out rfl))|skip
   go_wp2_with fail
   refine (digits_dec o _ hol ho.out).mono ?_
   rintro e w3 ⟨rfl,n2,rfl⟩
   go_wp2_with fail
   refine bodyPost_ret (v:=.tuple #[.agg #[.string a,.string ⟨#[49]⟩],.bool true]) (by simp [results,Tryz.results136,go_sem]) rfl ⟨a,⟨#[49]⟩,ha,H1.out,rfl,qbl⟩
 ·have hc:Lib.cut s.data.toList [47]=(Lib.itoa q.num,Lib.decDigits q.den,true):=by
   rw [hs,ratText,if_neg h1];exact cut_frac _ _
  have HC:=Lib.hid hc
  have hll:(Lib.itoa q.num).length+(Lib.decDigits q.den).length < s.size:=by rw [← show s.data.toList.length=s.size from rfl,hs,ratText,if_neg h1];simp
  have HL:=Lib.hid hll
  have hd0:=dec_ne_zero q.den_pos
  have hd1:=dec_ne_one h1
  have HD0:=Lib.hid hd0
  have HD1:=Lib.hid hd1
  clear hs hG hc h1 hll hd0 hd1
  cases c
  all_goals
   go_enter Tryz.func136,Tryz.ntmps136
   go_wp2_with fail
   refine (cut_any _ _ _ (HG.out.below qbl) hl HC.out).mono ?_
   rintro e w1 ⟨a,b,ha,hb,rfl,n1,rfl⟩
   have hx:=HT.out
   have hy:=HP.out
   rw [← ha.out] at hx hy
   have HX:=Lib.hid hx
   have HY:=Lib.hid hy
   clear hx hy
   go_wp2_with fail
   refine (cutPrefix_any a _ _ HX.out HY.out).mono ?_
   rintro e w2 ⟨o,ho,rfl,rfl⟩
   have hol:o.size≤maxLen:=by
    have e1:o.size=(Lib.decDigits q.num.natAbs).length:=by rw [← ho.out];rfl
    have e2:=(trim_len q.num)
    have e3:=HL.out
    unfold maxLen;omega
   have hz1:=size_dec ho.out
   first|(have hz2:=ne_of_list ho.out (HZ.out trivial))|(have hz2:=ne_of_list ho.out (HZ.out rfl))|skip
   go_wp2_with fail
   refine (digits_dec o _ hol ho.out).mono ?_
   rintro e w3 ⟨rfl,n2,rfl⟩
   have hbl:b.size≤maxLen:=by
    have e1:b.size=(Lib.decDigits q.den).length:=by rw [← hb.out];rfl
    have e3:=HL.out
    unfold maxLen;omega
   have hb1:=size_dec hb.out
   have hb2:=ne_of_list hb.out HD0.out
   have hb3:=ne_of_list hb.out HD1.out
   go_wp2_with fail
   refine (digits_dec b _ hbl hb.out).mono ?_
   rintro e w4 ⟨rfl,n3,rfl⟩
   go_wp2_with fail
   refine bodyPost_ret (v:=.tuple #[.agg #[.string a,.string b],.bool true]) (by simp [results,Tryz.results136,go_sem]) rfl ⟨a,b,ha,hb,rfl,qbl⟩
theorem read_small {q:Rat} (s:ByteArray) (w:World) (hG:Glo w) (hs:s.data.toList=ratText q) (hq:Small q) :
  Calls Tryz.prog 72 #[.string s] w (RetP q (.int .i64 0) w):=by
 have HS:=Lib.hid hs
 have HG:=Lib.hid hG
 have hl:s.size < 4294967281:=by
  have h1:=ratText_le hq
  rw [← hs] at h1
  have e:s.size=s.data.toList.length:=rfl
  omega
 clear hs hG
 go_enter Tryz.func72,Tryz.ntmps72
 go_wp2_with fail
 refine (cut_valid s _ (HG.out.below qbl) HS.out hl).mono ?_
 rintro e w1 ⟨a,b,ha,hb,rfl,hB1⟩
 obtain ⟨hc1,hf1⟩:=bcell hB1
 have z1:=hB1.size
 simp only [World.size_alloc] at z1
 have z1':w.heap.size < w1.heap.size:=by omega
 have c0:w1.cell? ⟨w.heap.size,0,none⟩=some (.string ⟨#[]⟩):=by rw [hc1 _ _ (by simp)];simp [go_sem]
 have c1:w1.cell? ⟨w.heap.size,1,none⟩=some (.string ⟨#[]⟩):=by rw [hc1 _ _ (by simp)];simp [go_sem]
 have g0:w1.frozen? ⟨w.heap.size,0,none⟩=false:=by rw [hf1 _ _ (by simp)];simp [go_sem]
 have g1:w1.frozen? ⟨w.heap.size,1,none⟩=false:=by rw [hf1 _ _ (by simp)];simp [go_sem]
 clear hc1 hf1
 go_wp2_with fail
 refine (nativeOf_small s _ HS.out hq).mono ?_
 rintro e w2 ⟨rfl,hB2⟩
 obtain ⟨hc2,hf2⟩:=bcell hB2
 have z2:=hB2.size
 simp only [World.size_alloc] at z2
 have z2':w.heap.size < w2.heap.size:=by omega
 have z2'':w1.heap.size < w2.heap.size:=by omega
 have c0':w2.cell? ⟨w.heap.size,0,none⟩=some (.string ⟨#[]⟩):=by rw [hc2 _ _ (by simp;omega)];simp [go_sem,c0,z1']
 have c1':w2.cell? ⟨w.heap.size,1,none⟩=some (.string ⟨#[]⟩):=by rw [hc2 _ _ (by simp;omega)];simp [go_sem,c1,z1']
 have g0':w2.frozen? ⟨w.heap.size,0,none⟩=false:=by rw [hf2 _ _ (by simp;omega)];simp [go_sem,g0,z1']
 have g1':w2.frozen? ⟨w.heap.size,1,none⟩=false:=by rw [hf2 _ _ (by simp;omega)];simp [go_sem,g1,z1']
 have c2:w2.cell? ⟨w1.heap.size,0,none⟩=some (.string a):=by rw [hc2 _ _ (by simp)];simp [go_sem]
 have c3:w2.cell? ⟨w1.heap.size,1,none⟩=some (.string b):=by rw [hc2 _ _ (by simp)];simp [go_sem]
 clear hc2 hf2 c0 c1 g0 g1
 go_wp2_with fail
 refine bodyPost_ret (v:=.tuple #[.agg #[.string a,.string b],.int .i64 0]) (by simp [results,Tryz.results72,go_sem,c0',c1',c2,c3,z2',z2'']) rfl ⟨a,b,ha,hb,rfl,qbl⟩
end Go.Proofs.YteepphiomcedfaaGreatDoor
