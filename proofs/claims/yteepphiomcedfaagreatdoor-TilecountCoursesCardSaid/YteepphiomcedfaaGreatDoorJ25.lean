/- Joined texts: NumTxt, W02d, W02h, W02e, W02f, W02g. -/
import Derived.Test.YteepphiomcedfaaGreatDoorJ23
import Derived.Test.YteepphiomcedfaaGreatDoorJ01
import Derived.Test.YteepphiomcedfaaGreatDoorJ24
import Derived.Test.YteepphiomcedfaaGreatDoorJ20
set_option maxRecDepth 100000
set_option linter.unusedVariables false
set_option linter.unusedSimpArgs false
set_option maxHeartbeats 6400000
namespace Go.Proofs.YteepphiomcedfaaGreatDoor
def IsNum (s:ByteArray):Prop:=∃ q:Rat,s.data.toList=ratText q∧Sz 300 q
theorem cut_spec (l:List UInt8):∃ (a b:List UInt8) (c:Bool),Lib.cut l [47]=(a,b,c)∧l=a++(if c then 47::b else []):=by
 unfold Lib.cut
 rcases Lib.index_spec l [47] with ⟨h1,_⟩|⟨i,h1,h2,h3,_⟩
 ·rw [h1]
  exact ⟨l,[],false,by simp,by simp⟩
 ·have hi:=Lib.occAt_head (s:=l) (sub:=[47]) (i:=i) (c:=47) (t:=[]) rfl h3
  rw [h1]
  refine ⟨l.take i,l.drop (i+1),true,by simp,?_⟩
  have hlt:i < l.length:=by
   rcases Nat.lt_or_ge i l.length with h|h
   ·exact h
   ·rw [List.getElem?_eq_none h] at hi;cases hi
  rw [List.getElem?_eq_getElem hlt] at hi
  injection hi with hi
  conv=>lhs;rw [← List.take_append_drop i l]
  rw [List.drop_eq_getElem_cons hlt,hi]
  rfl
theorem digs_le (l:List UInt8):digs l≤l.length:=by
 unfold digs
 split
 ·omega
 ·exact nDig_le l
theorem dec_of_digs {l:List UInt8} (h0:digs l≠0) (h1:¬ digs l < l.length):Lib.decDigits (dval l)=l:=by
 unfold digs at h0 h1
 split at h0
 ·exact absurd rfl h0
 ·rename_i hc
  rw [if_neg hc] at h1
  have hn:=nDig_le l
  refine dec_of_digits l (fun c hc=>?_) (fun e=>by subst e;exact h0 rfl) (fun h h'=>hc ⟨by omega,h'⟩)
  obtain ⟨j,hj,rfl⟩:=List.getElem_of_mem hc
  exact isDig_of_lt l j (by omega) hj
theorem minus_spec (l:List UInt8):∃ (o:List UInt8) (c:Bool),Lib.trimPrefix l [45]=o∧Lib.hasPrefix l [45]=c∧l=(if c then [45] else [])++o:=by
 unfold Lib.trimPrefix Lib.hasPrefix
 cases l with
 | nil=>exact ⟨[],false,rfl,rfl,rfl⟩
 | cons a t =>
  by_cases h:a=45
  ·subst h
   exact ⟨t,true,by simp,by simp,by simp⟩
  ·refine ⟨a::t,false,?_,?_,by simp⟩
   ·rw [if_neg];simp [List.isPrefixOf];exact fun h'=>h h'.symm
   ·simp [List.isPrefixOf];exact fun h'=>h h'.symm
theorem dec_zero_iff {n:Nat}:Lib.decDigits n=[48]↔n=0:=by
 constructor
 ·intro h
  have:=congrArg dval h
  rw [dval_decDigits] at this
  exact this.trans (by decide)
 ·rintro rfl
  rw [Lib.decDigits_one (by omega)];decide
theorem dec_one_iff {n:Nat}:Lib.decDigits n=[49]↔n=1:=by
 constructor
 ·intro h
  have:=congrArg dval h
  rw [dval_decDigits] at this
  exact this.trans (by decide)
 ·rintro rfl
  rw [Lib.decDigits_one (by omega)];decide
theorem natInt_eq {l r:List UInt8} {n:Nat} (h:natInt l=some (n,r)):l=Lib.decDigits n++r∧n < 100000000:=by
 unfold natInt at h
 split at h
 ·cases h
 ·rename_i hc
  injection h with h
  injection h with h1 h2
  have hl:=nDig_le l
  have hd:Lib.decDigits (dval (l.take (nDig l)))=l.take (nDig l):=by
   refine dec_of_digits _ (fun c hc=>?_) (fun e=>?_) (fun h3 h4=>?_)
   ·obtain ⟨j,hj,rfl⟩:=List.getElem_of_mem hc
    rw [List.length_take] at hj
    rw [List.getElem_take]
    exact isDig_of_lt l j (by omega) (by omega)
   ·have:=congrArg List.length e
    rw [List.length_take] at this
    have e0:([]:List UInt8).length=0:=rfl
    omega
   ·rw [List.length_take] at h3
    refine hc (.inr (.inr ⟨by omega,?_⟩))
    rw [List.head?_take,if_neg (by omega)] at h4
    exact h4
  subst h1;subst h2
  refine ⟨?_,?_⟩
  ·rw [hd,List.take_append_drop]
  ·exact Nat.lt_of_lt_of_le (dval_take_lt l (nDig l) (Nat.le_refl _)) (Nat.pow_le_pow_right (n:=10) (by omega) (show nDig l≤8 by omega))
theorem text_num {l:List UInt8} {a b:Nat} (m:Bool) (hb:1≤b) (hg:Nat.gcd a b=1) (hm:m=true→a≠0) (hl:l=(if m then [45] else [])++(Lib.decDigits a++if b=1 then [] else 47::Lib.decDigits b)) (ha:a < 10 ^ 300) (hb3:b < 10 ^ 300):∃ q:Rat,l=ratText q∧Sz 300 q:=by
 obtain ⟨q,h1,h2,h3⟩:=text_is m hb hg hm
 exact ⟨q,by rw [hl,h3],by rw [h1];exact ha,by rw [h2];exact hb3⟩
theorem natOf_num {l:List UInt8} {n:Int} {d:Nat} (h:natOf l=some (n,d)):∃ q:Rat,l=ratText q∧Sz 300 q:=by
 have p8:(100000000:Nat)≤10 ^ 300:=Nat.le_trans (show 100000000≤10 ^ 8 by omega) (pow10_le (a:=8) (b:=300) (by decide))
 obtain ⟨m,own,hm,hown,hl⟩:∃ (m:Bool) (own:List UInt8),m=decide (l.head?=some 45)∧own=(if l.head?=some 45 then l.tail else l)∧l=(if m then [45] else [])++own:=by
  by_cases h45:l.head?=some 45
  ·refine ⟨true,l.tail,by simp [h45],by rw [if_pos h45],?_⟩
   cases l with
   | nil=>cases h45
   | cons a t=>injection h45 with h45;subst h45;rfl
  ·exact ⟨false,l,by simp [h45],by rw [if_neg h45],rfl⟩
 rw [natOf_own hown] at h
 cases hn:natInt own with
 | none=>rw [hn] at h;cases h
 | some p =>
  obtain ⟨a,rest⟩:=p
  rw [hn] at h
  obtain ⟨e1,b1⟩:=natInt_eq hn
  simp only at h
  split at h
  ·cases h
  ·rename_i hz
   have hmz:m=true→a≠0:=fun hmt h0=>hz ⟨by rw [hm] at hmt;simpa using hmt,h0⟩
   split at h
   ·rename_i hr
    subst hr
    exact text_num (a:=a) (b:=1) m (by omega) (Nat.gcd_one_right _) hmz (by rw [hl,e1,if_pos rfl]) (by omega) (by omega)
   ·split at h
    ·cases h
    ·rename_i hr0 hr1
     have hrest:rest=47::rest.tail:=by
      cases rest with
      | nil=>exact absurd rfl hr0
      | cons c t =>
       have:c=47:=by simpa using hr1
       subst this;rfl
     cases hd:natInt rest.tail with
     | none=>rw [hd] at h;cases h
     | some p2 =>
      obtain ⟨y,r⟩:=p2
      rw [hd] at h
      simp only at h
      obtain ⟨e2,b2⟩:=natInt_eq hd
      split at h
      ·cases h
      ·rename_i hc
       have hr:r=[]:=Decidable.byContradiction fun h'=>hc (.inl h')
       have hy2:¬ y < 2:=fun h'=>hc (.inr (.inl h'))
       have hg:Nat.gcd a y=1:=Decidable.byContradiction fun h'=>hc (.inr (.inr h'))
       subst hr
       rw [List.append_nil] at e2
       exact text_num (a:=a) (b:=y) m (by omega) hg hmz (by rw [hl,e1,if_neg (show ¬ y=1 by omega),hrest,e2]) (by omega) (by omega)
end Go.Proofs.YteepphiomcedfaaGreatDoor
namespace Go.Proofs.YteepphiomcedfaaGreatDoor
open Go.RowKit
theorem split_q {q:Rat} (s:ByteArray) (w:World) (hs:s.data.toList=ratText q) (hl:s.size≤1000) :
  Calls Tryz.prog 111 #[.string s] w (RetSplit q w):=by
 have ho:=ratText_own q
 rw [← hs] at ho
 obtain ⟨c0,t0,hc0,hd0⟩:=head_dec q.num.natAbs (tailTxt q)
 have h0:0 < s.size:=by rw [sizeL,ho,hc0];simp;omega
 have hI0:(0:Int) < (s.size:Int):=by omega
 have e1:=toList_ne (s:=s) (by omega)
 have e2:=toList_isEmpty (s:=s) (by omega)
 have hm45:((s[0].toNat:Int) == 45)=minusB q:=by
  cases hb:minusB q
  ·rw [hb] at ho
   have:s.data.toList.head?=some c0:=by rw [ho,hc0];rfl
   refine Bool.eq_false_iff.2 (fun h=>?_)
   have h2:=headq45 h0 h
   rw [this] at h2
   injection h2 with h2
   subst h2
   exact absurd hd0 (by decide)
  ·rw [hb] at ho
   exact headq45' h0 (by rw [ho];rfl)
 have HO:=Lib.hid ho
 clear ho hs hc0
 generalize hmb:minusB q=mb at *
 have HMB:=Lib.hid hmb
 clear hmb
 go_enter Tryz.func111,Tryz.ntmps111
 go_upto_if 18 with (fail)
 go_cut [6] (fun o wr=>∃ own:ByteArray,o=.string own∧own.data.toList=Lib.decDigits q.num.natAbs++tailTxt q∧wr=w)
 case first =>
  cases mb
  ·go_wp2_with fail
   go_meet
   exact ⟨s,rfl,by rw [HO.out];rfl,rfl⟩
  ·go_wp2_with fail
   go_meet
   exact ⟨s.extract 1 s.size,rfl,by rw [extract_drop,HO.out];simp,rfl⟩
 case rest =>
  obtain ⟨own,rfl,hown,rfl⟩:=hcut
  have hoz:own.size=(Lib.decDigits q.num.natAbs).length+(tailTxt q).length:=by rw [sizeL,hown,List.length_append]
  have hop:(Lib.decDigits q.num.natAbs).length+(tailTxt q).length≤1000:=by
   have h1:s.size=s.data.toList.length:=rfl
   rw [HO.out,List.length_append,List.length_append] at h1
   omega
  have hgt:=Lib.hid (fun k (hk:k < (Lib.decDigits q.num.natAbs).length) (hk':k < own.size)=>by
   have h1:own[k]=(Lib.decDigits q.num.natAbs)[k]:=by
    rw [getL hk']
    simp only [hown]
    exact List.getElem_append_left hk
   have h2:=dec_ge47 _ (List.getElem_mem hk)
   rw [← h1] at h2
   have h3:own[k].toNat≠47:=fun h=>h2 (UInt8.toNat_inj.1 h)
   show ((own[k].toNat:Int) == 47)=false
   simp only [beq_eq_false_iff_ne,ne_eq]
   omega)
  generalize hp:(Lib.decDigits q.num.natAbs).length=p at *
  have HP:=Lib.hid hp
  have HW:=Lib.hid hown
  clear hp hown
  go_wp2_with fail
  go_loopw [8] (fun i wr=>∃ k:Nat,k≤p∧i=.int .i64 k∧wr=wc) (fun i _=>own.size - (intOf i).toNat)
  case atStart=>exact ⟨0,by omega,rfl,rfl⟩
  case round =>
   obtain ⟨k,hk,rfl,hwr⟩:=hrel
   subst wr
   by_cases hlt:k < p
   ·have hks:k < own.size:=by omega
    have hne:=hgt.out k hlt hks
    go_wp2_with fail
    go_roundw
    case rel=>exact ⟨k+1,by omega,by go_num,by trivial⟩
    case measure=>simp [intOf];omega
   ·have e:k=p:=by omega
    subst e
    by_cases hd:q.den=1
    ·have ht:tailTxt q=[]:=if_pos hd
     have hts:(tailTxt q).length=0:=by rw [ht];rfl
     have HD:=Lib.hid hd
     have hks:¬ k < own.size:=by omega
     clear ht hd
     go_wp2_with fail
     refine bodyPost_ret (v:=.tuple #[.bool mb,.string own,.string ⟨#[]⟩,.bool false]) (by simp [results,Tryz.results111,go_sem]) rfl ⟨own,⟨#[]⟩,Lib.hid ?_,Lib.hid ?_,?_,qbl⟩
     ·rw [HW.out,show tailTxt q=[] from if_pos HD.out,List.append_nil]
     ·rw [if_pos HD.out]
     ·rw [HMB.out];unfold slashB;rw [HD.out];rfl
    ·have ht:tailTxt q=47::Lib.decDigits q.den:=if_neg hd
     have hts:(tailTxt q).length=(Lib.decDigits q.den).length+1:=by rw [ht];rfl
     have HD:=Lib.hid hd
     have hks:k < own.size:=by omega
     have he:((own[k].toNat:Int) == 47)=true:=by
      have h1:own[k]=47:=by
       rw [getL hks]
       simp only [HW.out,ht]
       rw [List.getElem_append_right (by rw [HP.out];exact Nat.le_refl _)]
       simp [HP.out]
      rw [h1];rfl
     have hk1:IntKind.i64.wrap ((k:Int)+1)=(k:Int)+1:=IntWalk.i64_in _ (by omega)
     have hk2:0≤(k:Int)+1:=by omega
     have hk3:((k:Int)+1).toNat=k+1:=by omega
     clear ht hd hoz hts
     go_wp2_with fail
     go_quiet (fail)
     go_wp2_with fail
     refine bodyPost_ret (v:=.tuple #[.bool mb,.string (own.extract 0 k),.string (own.extract (k+1) own.size),.bool true]) (by simp [results,Tryz.results111,go_sem]) rfl ⟨own.extract 0 k,own.extract (k+1) own.size,Lib.hid ?_,Lib.hid ?_,?_,qbl⟩
     ·rw [extract_take,HW.out,← HP.out,List.take_left]
     ·rw [extract_drop,HW.out,if_neg HD.out,show tailTxt q=47::Lib.decDigits q.den from if_neg HD.out,← HP.out]
      simp [List.drop_append]
     ·rw [HMB.out];unfold slashB;rw [decide_eq_false HD.out];rfl
def DigL (s:ByteArray) (n:Nat):Prop:=s.data.toList=Lib.decDigits n∧s.size≤1000
theorem DigL.sz {s:ByteArray} {n:Nat} (h:DigL s n):1≤s.size∧s.size≤1000:=by
 refine ⟨?_,h.2⟩
 rw [sizeL,h.1]
 exact List.length_pos_iff.2 (decDigits_ne n)
theorem DigL.dig {s:ByteArray} {n k:Nat} (h:DigL s n) (hk:k < s.size):(48:Int)≤(s[k].toNat:Int)∧(s[k].toNat:Int)≤57:=by
 have h1:isDig s[k]=true:=decDigits_isDig n _ (by rw [← h.1];exact List.getElem_mem hk)
 have:=(isDig_iff _).1 h1
 omega
theorem DigL.lead {s:ByteArray} {n:Nat} (h:DigL s n) (h0:0 < s.size) (h1:1 < s.size):((s[0].toNat:Int) == 48)=false:=by
 refine Bool.eq_false_iff.2 (fun h'=>?_)
 have h2:=headq h0 h'
 rw [h.1] at h2
 exact decDigits_head n (by rw [← h.1];exact (show 1 < s.size from h1)) h2
theorem DigL.lt {s:ByteArray} {n k:Nat} (h:DigL s n) (hk:s.size≤k):n < 10 ^ k:=pow_le_of_lt (by rw [← h.1];exact hk)
theorem dec_size {s:ByteArray} {n k:Nat} (h:s.data.toList=Lib.decDigits n) (hn:n < 10 ^ k) (hk:1≤k):s.size≤k:=by
 rw [sizeL,h,Lib.decDigits_length]
 exact nDigits_le_of_lt hn hk
theorem rdigits_dec {n:Nat} (s:ByteArray) (w:World) (hs:DigL s n):Calls Tryz.prog 118 #[.string s] w fun e w'=>e=.returned (.bool true)∧w'=w:=by
 obtain ⟨z1,z2⟩:=hs.sz
 have hz:((s.size:Int) == 0)=false:=by rw [beq_eq_false_iff_ne];omega
 have hz0:¬ s.size=0:=by omega
 have HS:=Lib.hid (fun k hk=>hs.dig (k:=k) hk)
 have hcase:(1 < s.size∧((s[0].toNat:Int) == 48)=false)∨¬ (1:Int) < (s.size:Int):=by
  by_cases h1:1 < s.size
  ·exact .inl ⟨h1,hs.lead z1 h1⟩
  ·exact .inr (by omega)
 clear hs
 rcases hcase with ⟨h1,h48⟩|h1
 ·have h1':(1:Int) < (s.size:Int):=by omega
  go_enter Tryz.func118,Tryz.ntmps118
  go_wp2_with fail
  go_loopw [3] (fun i wr=>∃ k:Nat,k≤s.size∧i=.int .i64 k∧wr=w) (fun i _=>s.size - (intOf i).toNat)
  case atStart=>exact ⟨0,by omega,rfl,rfl⟩
  case round =>
   obtain ⟨k,hk,rfl,hwr⟩:=hrel
   subst wr
   by_cases hlt:k < s.size
   ·obtain ⟨d1,d2⟩:=HS.out k hlt
    go_wp2_with fail
    go_roundw
    case rel=>exact ⟨k+1,by omega,by go_num,by trivial⟩
    case measure=>simp [intOf];omega
   ·go_wp2_with fail
    go_ret
    exact ⟨rfl,rfl⟩
 ·go_enter Tryz.func118,Tryz.ntmps118
  go_wp2_with fail
  go_loopw [3] (fun i wr=>∃ k:Nat,k≤s.size∧i=.int .i64 k∧wr=w) (fun i _=>s.size - (intOf i).toNat)
  case atStart=>exact ⟨0,by omega,rfl,rfl⟩
  case round =>
   obtain ⟨k,hk,rfl,hwr⟩:=hrel
   subst wr
   by_cases hlt:k < s.size
   ·obtain ⟨d1,d2⟩:=HS.out k hlt
    go_wp2_with fail
    go_roundw
    case rel=>exact ⟨k+1,by omega,by go_num,by trivial⟩
    case measure=>simp [intOf];omega
   ·go_wp2_with fail
    go_ret
    exact ⟨rfl,rfl⟩
theorem rCheck02_q {k:Nat} {q:Rat} (s:ByteArray) (w:World) (hG:Glo w) (hs:s.data.toList=ratText q) (hq:Sz k q) (hk:k≤300) :
  Calls Tryz.prog 59 #[.string s] w (RetB (.int .i64 0) w):=by
 have HSP:=Lib.hid (fun w=>split_q s w hs (by have:=txt_size hs hq hk;omega))
 have hn300:=pow300 hq.1 hk
 have hd300:=pow300 hq.2 hk
 have HN3:=Lib.hid hn300
 have HD3:=Lib.hid hd300
 have HG:=Lib.hid hG
 have hg:Nat.gcd q.num.natAbs q.den=1:=q.reduced
 have HGCD:=Lib.hid hg
 have hdp:=q.den_pos
 have hmz:minusB q=true→q.num.natAbs≠0:=fun h=>by have h1:q.num < 0:=of_decide_eq_true h;omega
 have HMZ:=Lib.hid hmz
 clear hs hq hg hmz hG hn300 hd300
 by_cases hd:q.den=1
 ·have hsl:slashB q=false:=by unfold slashB;simp [hd]
  have HSL:=Lib.hid hsl
  have HD:=Lib.hid hd
  clear hsl hd
  go_enter Tryz.func59,Tryz.ntmps59
  go_wp2_with fail
  refine (HSP.out _).mono ?_
  rintro e w1 ⟨n,d,hn,hd',rfl,hB1⟩
  rw [HSL.out]
  have hN:=Lib.hid (show DigL n q.num.natAbs from ⟨hn.out,by have:=dec_size hn.out HN3.out (by omega);omega⟩)
  have z2:n.size≤300:=dec_size hn.out HN3.out (by omega)
  have zd:d.size=0:=by rw [sizeL,hd'.out,if_pos HD.out];rfl
  have hB:Below w.heap.size w w1:=hB1
  clear hB1
  cases hmb:minusB q
  ·clear HMZ hmb
   go_wp2_with fail
   refine (rdigits_dec n _ hN.out).mono ?_
   rintro e w2 ⟨rfl,rfl⟩
   go_wp2_with fail
   go_ret
   exact ⟨rfl,hB⟩
  ·have h48:=dec_48 hn.out (HMZ.out hmb)
   clear HMZ hmb
   go_wp2_with fail
   refine (rdigits_dec n _ hN.out).mono ?_
   rintro e w2 ⟨rfl,rfl⟩
   go_wp2_with fail
   go_ret
   exact ⟨rfl,hB⟩
 ·have hsl:slashB q=true:=by unfold slashB;simp [hd]
  have HSL:=Lib.hid hsl
  have HD:=Lib.hid hd
  have hd1:q.den≠1:=hd
  clear hsl hd
  go_enter Tryz.func59,Tryz.ntmps59
  go_wp2_with fail
  refine (HSP.out _).mono ?_
  rintro e w1 ⟨n,d,hn,hd',rfl,hB1⟩
  rw [HSL.out]
  have hDL:d.data.toList=Lib.decDigits q.den:=by rw [hd'.out,if_neg HD.out]
  have z2:n.size≤300:=dec_size hn.out HN3.out (by omega)
  have z4:d.size≤300:=dec_size hDL HD3.out (by omega)
  have hN:=Lib.hid (show DigL n q.num.natAbs from ⟨hn.out,by omega⟩)
  have hDD:=Lib.hid (show DigL d q.den from ⟨hDL,by omega⟩)
  have g48:=dec_48 hDL (by omega)
  have g49:=dec_49 hDL hd1
  have hB:Below w.heap.size w w1:=hB1
  have HR:=Lib.hid (fun w hG=>R6.gcd6_ok n d w hG hn.out (by omega) hDL (by omega))
  have HR9:=Lib.hid (fun w (h:n.size≤9)=>rsmall_any n w hn.out h)
  have HD9:=Lib.hid (fun w (h:d.size≤9)=>rsmall_any d w hDL h)
  clear hB1 hd1
  cases hmb:minusB q
  ·clear HMZ hmb
   clear hDL
   go_wp2_with fail
   refine (rdigits_dec n _ hN.out).mono ?_
   rintro e w2 ⟨rfl,rfl⟩
   go_wp2_with fail
   refine (rdigits_dec d _ hDD.out).mono ?_
   rintro e w2 ⟨rfl,rfl⟩
   by_cases h9:n.size≤9∧d.size≤9
   ·obtain ⟨h9a,h9b⟩:=h9
    have b1:=hN.out.lt h9a
    have b2:=hDD.out.lt h9b
    go_wp2_with fail
    refine (HR9.out _ h9a).mono ?_
    rintro e w2 ⟨rfl,rfl⟩
    go_wp2_with fail
    refine (HD9.out _ h9b).mono ?_
    rintro e w2 ⟨rfl,rfl⟩
    go_wp2_with fail
    refine (rgcd_any q.num.natAbs q.den _ (by omega) (by omega)).mono ?_
    rintro e w2 ⟨rfl,nq,rfl⟩
    rw [HGCD.out]
    go_wp2_with fail
    go_ret
    exact ⟨rfl,qbl⟩
   ·have hcase:(9:Int) < (n.size:Int)∨((n.size:Int)≤9∧(9:Int) < (d.size:Int)):=by omega
    clear h9
    rcases hcase with h9a|⟨h9a,h9b⟩
    ·skip
     go_wp2_with fail
     refine (HR.out _ (HG.out.below hB)).mono ?_
     rintro e w10 ⟨r,hr,rfl,hB2⟩
     have hr0:(r.toList == [49])=true:=by rw [beq_iff_eq,Lib.toList_data,hr,HGCD.out];exact one_digits
     have hr1:(r.toList != [49])=false:=by rw [bne,hr0];rfl
     clear hr
     go_wp2_with fail
     go_ret
     exact ⟨rfl,qbl⟩
    ·skip
     go_wp2_with fail
     refine (HR.out _ (HG.out.below hB)).mono ?_
     rintro e w10 ⟨r,hr,rfl,hB2⟩
     have hr0:(r.toList == [49])=true:=by rw [beq_iff_eq,Lib.toList_data,hr,HGCD.out];exact one_digits
     have hr1:(r.toList != [49])=false:=by rw [bne,hr0];rfl
     clear hr
     go_wp2_with fail
     go_ret
     exact ⟨rfl,qbl⟩
  ·have h48:=dec_48 hn.out (HMZ.out hmb)
   clear HMZ hmb
   clear hDL
   go_wp2_with fail
   refine (rdigits_dec n _ hN.out).mono ?_
   rintro e w2 ⟨rfl,rfl⟩
   go_wp2_with fail
   refine (rdigits_dec d _ hDD.out).mono ?_
   rintro e w2 ⟨rfl,rfl⟩
   by_cases h9:n.size≤9∧d.size≤9
   ·obtain ⟨h9a,h9b⟩:=h9
    have b1:=hN.out.lt h9a
    have b2:=hDD.out.lt h9b
    go_wp2_with fail
    refine (HR9.out _ h9a).mono ?_
    rintro e w2 ⟨rfl,rfl⟩
    go_wp2_with fail
    refine (HD9.out _ h9b).mono ?_
    rintro e w2 ⟨rfl,rfl⟩
    go_wp2_with fail
    refine (rgcd_any q.num.natAbs q.den _ (by omega) (by omega)).mono ?_
    rintro e w2 ⟨rfl,nq,rfl⟩
    rw [HGCD.out]
    go_wp2_with fail
    go_ret
    exact ⟨rfl,qbl⟩
   ·have hcase:(9:Int) < (n.size:Int)∨((n.size:Int)≤9∧(9:Int) < (d.size:Int)):=by omega
    clear h9
    rcases hcase with h9a|⟨h9a,h9b⟩
    ·skip
     go_wp2_with fail
     refine (HR.out _ (HG.out.below hB)).mono ?_
     rintro e w10 ⟨r,hr,rfl,hB2⟩
     have hr0:(r.toList == [49])=true:=by rw [beq_iff_eq,Lib.toList_data,hr,HGCD.out];exact one_digits
     have hr1:(r.toList != [49])=false:=by rw [bne,hr0];rfl
     clear hr
     go_wp2_with fail
     go_ret
     exact ⟨rfl,qbl⟩
    ·skip
     go_wp2_with fail
     refine (HR.out _ (HG.out.below hB)).mono ?_
     rintro e w10 ⟨r,hr,rfl,hB2⟩
     have hr0:(r.toList == [49])=true:=by rw [beq_iff_eq,Lib.toList_data,hr,HGCD.out];exact one_digits
     have hr1:(r.toList != [49])=false:=by rw [bne,hr0];rfl
     clear hr
     go_wp2_with fail
     go_ret
     exact ⟨rfl,qbl⟩
theorem rcheck02_q {k m:Nat} {p q:Rat} (s t:ByteArray) (w:World) (hG:Glo w) (hs:s.data.toList=ratText p) (hp:Sz k p) (hk:k≤300) (ht:t.data.toList=ratText q) (hq:Sz m q) (hm:m≤300) :
  Calls Tryz.prog 114 #[.string s,.string t] w (RetB (.int .i64 0) w):=by
 have H1:=Lib.hid (fun W (hB:Below w.heap.size w W)=>rCheck02_q s W (hG.below hB) hs hp hk)
 have H2:=Lib.hid (fun W (hB:Below w.heap.size w W)=>rCheck02_q t W (hG.below hB) ht hq hm)
 clear hs ht hp hq hG
 go_enter Tryz.func114,Tryz.ntmps114
 go_wp2_with fail
 refine (H1.out _ (bw0 _ _)).mono ?_
 rintro e w1 ⟨rfl,hB1⟩
 go_wp2_with fail
 refine (H2.out _ hB1).mono ?_
 rintro e w2 ⟨rfl,hB2⟩
 go_wp2_with fail
 go_ret
 exact ⟨rfl,below_trans' hB1 hB2⟩
def RetInts (q:Rat) (w:World) (e:Ending) (w':World):Prop:=∃ b:Bool,((b=true∧e=.returned (.tuple #[.int .i64 q.num,.int .i64 q.den,.bool true])∧q.num.natAbs < 10 ^ 9∧q.den < 10 ^ 9)∨(b=false∧e=.returned (.tuple #[.int .i64 0,.int .i64 0,.bool false])))∧Below w.heap.size w w'
theorem rints_q {k:Nat} {q:Rat} (s:ByteArray) (w:World) (hs:s.data.toList=ratText q) (hq:Sz k q) (hk:k≤300) :
  Calls Tryz.prog 106 #[.string s] w (RetInts q w):=by
 have HSP:=Lib.hid (fun w=>split_q s w hs (by have:=txt_size hs hq hk;omega))
 have hm1:minusB q=true→-(q.num.natAbs:Int)=q.num:=fun h=>by have h1:q.num < 0:=of_decide_eq_true h;omega
 have hm2:minusB q=false→(q.num.natAbs:Int)=q.num:=fun h=>by have h1:¬ q.num < 0:=of_decide_eq_false h;omega
 have HM1:=Lib.hid hm1
 have HM2:=Lib.hid hm2
 have HN3:=Lib.hid (pow300 hq.1 hk)
 have HD3:=Lib.hid (pow300 hq.2 hk)
 clear hs hq hm1 hm2
 by_cases hd:q.den=1
 ·have hsl:slashB q=false:=by unfold slashB;simp [hd]
  have HSL:=Lib.hid hsl
  have HD:=Lib.hid hd
  clear hsl hd
  go_enter Tryz.func106,Tryz.ntmps106
  go_wp2_with fail
  refine (HSP.out _).mono ?_
  rintro e w1 ⟨n,d,hn,hd',rfl,hB1⟩
  rw [HSL.out]
  have z2:n.size≤300:=dec_size hn.out HN3.out (by omega)
  have zd:d.size=0:=by rw [sizeL,hd'.out,if_pos HD.out];rfl
  by_cases h9:n.size≤9
  ·have b1:q.num.natAbs < 10 ^ 9:=pow_le_of_lt (by rw [← hn.out];exact h9)
   have HS9:=Lib.hid (fun w=>rsmall_any n w hn.out h9)
   clear hn hd'
   cases hmb:minusB q
   ·have HM:=Lib.hid (HM2.out hmb)
    clear HM1 HM2 hmb
    go_wp2_with fail
    refine (HS9.out _).mono ?_
    rintro e w2 ⟨rfl,rfl⟩
    go_wp2_with fail
    go_ret3
    exact ⟨true,.inl ⟨rfl,by rw [HM.out,HD.out];rfl,by omega,by rw [HD.out];omega⟩,hB1⟩
   ·have HM:=Lib.hid (HM1.out hmb)
    clear HM1 HM2 hmb
    go_wp2_with fail
    refine (HS9.out _).mono ?_
    rintro e w2 ⟨rfl,rfl⟩
    go_wp2_with fail
    go_ret3
    exact ⟨true,.inl ⟨rfl,by rw [HM.out,HD.out];rfl,by omega,by rw [HD.out];omega⟩,hB1⟩
  ·have h9':(9:Int) < (n.size:Int):=by omega
   clear hn hd' HM1 HM2
   generalize minusB q=mb
   go_wp2_with fail
   go_ret3
   exact ⟨false,.inr ⟨rfl,rfl⟩,hB1⟩
 ·have hsl:slashB q=true:=by unfold slashB;simp [hd]
  have HSL:=Lib.hid hsl
  have HD:=Lib.hid hd
  clear hsl hd
  go_enter Tryz.func106,Tryz.ntmps106
  go_wp2_with fail
  refine (HSP.out _).mono ?_
  rintro e w1 ⟨n,d,hn,hd',rfl,hB1⟩
  rw [HSL.out]
  have hDL:d.data.toList=Lib.decDigits q.den:=by rw [hd'.out,if_neg HD.out]
  have z2:n.size≤300:=dec_size hn.out HN3.out (by omega)
  have z4:d.size≤300:=dec_size hDL HD3.out (by omega)
  by_cases h9:n.size≤9∧d.size≤9
  ·obtain ⟨h9a,h9b⟩:=h9
   have b1:q.num.natAbs < 10 ^ 9:=pow_le_of_lt (by rw [← hn.out];exact h9a)
   have b2:q.den < 10 ^ 9:=pow_le_of_lt (by rw [← hDL];exact h9b)
   have HS9:=Lib.hid (fun w=>rsmall_any n w hn.out h9a)
   have HT9:=Lib.hid (fun w=>rsmall_any d w hDL h9b)
   clear hn hd' hDL
   cases hmb:minusB q
   ·have HM:=Lib.hid (HM2.out hmb)
    clear HM1 HM2 hmb
    go_wp2_with fail
    refine (HS9.out _).mono ?_
    rintro e w2 ⟨rfl,rfl⟩
    go_wp2_with fail
    refine (HT9.out _).mono ?_
    rintro e w2 ⟨rfl,rfl⟩
    go_wp2_with fail
    go_ret3
    exact ⟨true,.inl ⟨rfl,by rw [HM.out];rfl,by omega,by omega⟩,hB1⟩
   ·have HM:=Lib.hid (HM1.out hmb)
    clear HM1 HM2 hmb
    go_wp2_with fail
    refine (HS9.out _).mono ?_
    rintro e w2 ⟨rfl,rfl⟩
    go_wp2_with fail
    refine (HT9.out _).mono ?_
    rintro e w2 ⟨rfl,rfl⟩
    go_wp2_with fail
    go_ret3
    exact ⟨true,.inl ⟨rfl,by rw [HM.out];rfl,by omega,by omega⟩,hB1⟩
  ·have hcase:(9:Int) < (n.size:Int)∨((n.size:Int)≤9∧(9:Int) < (d.size:Int)):=by omega
   clear hn hd' HM1 HM2 hDL h9
   generalize minusB q=mb
   rcases hcase with h9a|⟨h9a,h9b⟩
   ·go_wp2_with fail
    go_ret3
    exact ⟨false,.inr ⟨rfl,rfl⟩,hB1⟩
   ·go_wp2_with fail
    go_ret3
    exact ⟨false,.inr ⟨rfl,rfl⟩,hB1⟩
def RetParts (q:Rat) (w:World) (e:Ending) (w':World):Prop:=∃ a b:ByteArray,Hid (a.data.toList=Lib.itoa q.num)∧Hid (b.data.toList=Lib.decDigits q.den)∧e=.returned (.tuple #[.string a,.string b])∧Below w.heap.size w w'
theorem rparts_q {k:Nat} {q:Rat} (s:ByteArray) (w:World) (hs:s.data.toList=ratText q) (hq:Sz k q) (hk:k≤300) :
  Calls Tryz.prog 108 #[.string s] w (RetParts q w):=by
 have HSP:=Lib.hid (fun w=>split_q s w hs (by have:=txt_size hs hq hk;omega))
 have HM1:=Lib.hid (fun h:minusB q=true=>(show Lib.itoa q.num=45::Lib.decDigits q.num.natAbs from R6.neg_text (of_decide_eq_true h)))
 have HM2:=Lib.hid (fun h:minusB q=false=>(show Lib.itoa q.num=Lib.decDigits q.num.natAbs from R6.pos_text (by have h1:¬ q.num < 0:=of_decide_eq_false h;omega)))
 have HN3:=Lib.hid (pow300 hq.1 hk)
 have HD3:=Lib.hid (pow300 hq.2 hk)
 clear hs hq
 go_enter Tryz.func108,Tryz.ntmps108
 go_wp2_with fail
 refine (HSP.out _).mono ?_
 rintro e w1 ⟨n,d,hn,hd',rfl,hB1⟩
 have z2:n.size≤300:=dec_size hn.out HN3.out (by omega)
 cases hmb:minusB q
 ·have HM:=Lib.hid (HM2.out hmb)
  clear hmb HM1 HM2
  cases hsl:slashB q
  ·have HD:Hid (q.den=1):=Lib.hid (by unfold slashB at hsl;simpa using hsl)
   clear hsl
   go_wp2_with fail
   go_ret2
   exact ⟨n,⟨#[49]⟩,Lib.hid (by rw [HM.out,hn.out]),Lib.hid (by rw [HD.out];exact one_digits.symm),rfl,hB1⟩
  ·have HD:Hid (q.den≠1):=Lib.hid (by unfold slashB at hsl;simpa using hsl)
   clear hsl
   go_wp2_with fail
   go_ret2
   exact ⟨n,d,Lib.hid (by rw [HM.out,hn.out]),Lib.hid (by rw [hd'.out,if_neg HD.out]),rfl,hB1⟩
 ·have HM:=Lib.hid (HM1.out hmb)
  clear hmb HM1 HM2
  cases hsl:slashB q
  ·have HD:Hid (q.den=1):=Lib.hid (by unfold slashB at hsl;simpa using hsl)
   clear hsl
   go_wp2_with fail
   go_ret2
   exact ⟨_,⟨#[49]⟩,Lib.hid (by rw [HM.out,← hn.out];simp),Lib.hid (by rw [HD.out];exact one_digits.symm),rfl,hB1⟩
  ·have HD:Hid (q.den≠1):=Lib.hid (by unfold slashB at hsl;simpa using hsl)
   clear hsl
   go_wp2_with fail
   go_ret2
   exact ⟨_,d,Lib.hid (by rw [HM.out,← hn.out];simp),Lib.hid (by rw [hd'.out,if_neg HD.out]),rfl,hB1⟩
end Go.Proofs.YteepphiomcedfaaGreatDoor
namespace Go.Proofs.YteepphiomcedfaaGreatDoor
open Go.RowKit
def RetCkA (s:ByteArray) (w:World) (e:Ending) (w':World):Prop:=∃ c:Int,e=.returned (.int .i64 c)∧Hid ((c=0→IsNum s)∧(s.size≤20→c=0∨c=11))∧Below w.heap.size w w'
theorem one_lt300:(1:Nat) < 10 ^ 300:=Nat.lt_of_lt_of_le (show 1 < 10 ^ 1 by decide) (pow10_le (a:=1) (b:=300) (by decide))
theorem ck_oneA {s n:ByteArray} {m:Bool} (hs:s.data.toList=(if m then [45] else [])++(n.data.toList++[])) (h20:n.size≤300) (hn:n.data.toList=Lib.decDigits (dval n.data.toList)) (h48:m=true→(n.toList == [48])=false):IsNum s:=by
 refine text_num (a:=dval n.data.toList) (b:=1) m (by omega) (Nat.gcd_one_right _) (fun h e=>?_) (by rw [hs,← hn,if_pos rfl]) (bool_lt (k:=300) hn h20) one_lt300
 have h0:=h48 h
 rw [e] at hn
 rw [Lib.toList_data,hn,dec_zero_iff.2 rfl] at h0
 exact absurd h0 (by decide)
theorem ck_twoA {s n d:ByteArray} {m:Bool} (hs:s.data.toList=(if m then [45] else [])++(n.data.toList++47::d.data.toList)) (h20:n.size≤300) (hd20:d.size≤300) (hn:n.data.toList=Lib.decDigits (dval n.data.toList)) (hd:d.data.toList=Lib.decDigits (dval d.data.toList))
  (h48:m=true→(n.toList == [48])=false) (g48:(d.toList == [48])=false) (g49:(d.toList == [49])=false) (hg:Nat.gcd (dval n.data.toList) (dval d.data.toList)=1):IsNum s:=by
 have e0:dval d.data.toList≠0:=fun e=>by
  rw [e] at hd
  rw [Lib.toList_data,hd,dec_zero_iff.2 rfl] at g48
  exact absurd g48 (by decide)
 have e1:dval d.data.toList≠1:=fun e=>by
  rw [e] at hd
  rw [Lib.toList_data,hd,dec_one_iff.2 rfl] at g49
  exact absurd g49 (by decide)
 refine text_num (a:=dval n.data.toList) (b:=dval d.data.toList) m (by omega) hg (fun h e=>?_) (by rw [hs,← hn,if_neg e1,← hd]) (bool_lt (k:=300) hn h20) (bool_lt (k:=300) hd hd20)
 have h0:=h48 h
 rw [e] at hn
 rw [Lib.toList_data,hn,dec_zero_iff.2 rfl] at h0
 exact absurd h0 (by decide)
theorem rCheck02_allM (s:ByteArray) (w:World) (hG:Glo w) (hs:s.size≤9223372036854775807):Calls Tryz.prog 59 #[.string s] w (RetCkA s w):=by
 have HS:=Lib.hid (fun w=>split_any s w (by omega))
 have HG:=Lib.hid hG
 clear hG
 go_enter Tryz.func59,Tryz.ntmps59
 go_wp2_with fail
 refine (HS.out _).mono ?_
 rintro e w1 ⟨m,sl,n,d,HC,HD,rfl,hB⟩
 have hlen:n.size+(if sl then d.size+1 else 0)≤s.size:=by
  have h1:s.size=s.data.toList.length:=rfl
  have h2:n.size=n.data.toList.length:=rfl
  have h3:d.size=d.data.toList.length:=rfl
  rw [h1,HC.out,h2,h3]
  cases m<;>cases sl<;>simp<;>omega
 have hn20:n.size≤s.size:=by cases sl<;>simp at hlen<;>omega
 have HN:=Lib.hid (fun w=>rdigits_any n w (by omega))
 cases sl
 ·obtain rfl:=HD.out rfl
  have zd:(⟨#[]⟩:ByteArray).size=0:=rfl
  clear hlen HD
  cases m
  ·skip
   go_wp2_with fail
   refine (HN.out _).mono ?_
   rintro e w2 ⟨b,rfl,HB,rfl⟩
   cases b
   ·skip
    go_wp2_with fail
    go_ret
    exact ⟨11,rfl,Lib.hid ⟨(fun h=>by cases h),(fun _=>.inr rfl)⟩,qbl⟩
   ·by_cases h300:n.size≤300
    ·skip
     go_wp2_with fail
     go_ret
     exact ⟨0,rfl,Lib.hid ⟨(fun _=>ck_oneA (m:=false) HC.out h300 (HB.out (by trivial)) (fun h=>by cases h)),(fun _=>.inl rfl)⟩,qbl⟩
    ·have h300':(300:Int) < (n.size:Int):=by omega
     go_wp2_with fail
     go_ret
     exact ⟨4,rfl,Lib.hid ⟨(fun h=>by cases h),(fun h20=>by omega)⟩,qbl⟩
  ·obtain ⟨v48,h48⟩:∃ v,(n.toList == [48])=v:=⟨_,rfl⟩
   cases v48
   ·have Z48:=Lib.hid h48
    go_wp2_with fail
    refine (HN.out _).mono ?_
    rintro e w3 ⟨b,rfl,HB,rfl⟩
    cases b
    ·skip
     go_wp2_with fail
     go_ret
     exact ⟨11,rfl,Lib.hid ⟨(fun h=>by cases h),(fun _=>.inr rfl)⟩,qbl⟩
    ·by_cases h300:n.size≤300
     ·skip
      go_wp2_with fail
      go_ret
      exact ⟨0,rfl,Lib.hid ⟨(fun _=>ck_oneA (m:=true) HC.out h300 (HB.out (by trivial)) (fun _=>Z48.out)),(fun _=>.inl rfl)⟩,qbl⟩
     ·have h300':(300:Int) < (n.size:Int):=by omega
      go_wp2_with fail
      go_ret
      exact ⟨4,rfl,Lib.hid ⟨(fun h=>by cases h),(fun h20=>by omega)⟩,qbl⟩
   ·skip
    go_wp2_with fail
    refine (HN.out _).mono ?_
    rintro e w4 ⟨b,rfl,HB,rfl⟩
    cases b
    ·skip
     go_wp2_with fail
     go_ret
     exact ⟨11,rfl,Lib.hid ⟨(fun h=>by cases h),(fun _=>.inr rfl)⟩,qbl⟩
    ·skip
     go_wp2_with fail
     go_ret
     exact ⟨11,rfl,Lib.hid ⟨(fun h=>by cases h),(fun _=>.inr rfl)⟩,qbl⟩
 ·have hd20:d.size≤s.size:=by simp at hlen;omega
  have HDd:=Lib.hid (fun w=>rdigits_any d w (by omega))
  clear hlen HD
  cases m
  ·skip
   go_wp2_with fail
   refine (HN.out _).mono ?_
   rintro e w5 ⟨b,rfl,HB,rfl⟩
   cases b
   ·skip
    go_wp2_with fail
    go_ret
    exact ⟨11,rfl,Lib.hid ⟨(fun h=>by cases h),(fun _=>.inr rfl)⟩,qbl⟩
   ·skip
    go_wp2_with fail
    refine (HDd.out _).mono ?_
    rintro e w6 ⟨b2,rfl,HB2,rfl⟩
    cases b2
    ·skip
     go_wp2_with fail
     go_ret
     exact ⟨11,rfl,Lib.hid ⟨(fun h=>by cases h),(fun _=>.inr rfl)⟩,qbl⟩
    ·obtain ⟨v0,h0⟩:∃ v,(d.toList == [48])=v:=⟨_,rfl⟩
     obtain ⟨v1,h1⟩:∃ v,(d.toList == [49])=v:=⟨_,rfl⟩
     cases v0
     ·cases v1
      ·have G48:=Lib.hid h0
       have G49:=Lib.hid h1
       by_cases h300:n.size≤300∧d.size≤300
       ·obtain ⟨h300a,h300b⟩:=h300
        have hGc:=Lib.hid (fun hg=>ck_twoA (m:=false) HC.out h300a h300b (HB.out (by trivial)) (HB2.out (by trivial)) (fun h=>by cases h) G48.out G49.out hg)
        by_cases h9:n.size≤9∧d.size≤9
        ·obtain ⟨n9,d9⟩:=h9
         have L1:dval n.data.toList < 10 ^ 9:=bool_lt (HB.out (by trivial)) n9
         have L2:dval d.data.toList < 10 ^ 9:=bool_lt (HB2.out (by trivial)) d9
         have R1:=Lib.hid (fun w=>rsmall_any n w (HB.out (by trivial)) n9)
         have R2:=Lib.hid (fun w=>rsmall_any d w (HB2.out (by trivial)) d9)
         generalize dval n.data.toList=x at hGc L1 R1
         generalize dval d.data.toList=y at hGc L2 R2
         go_wp2_with fail
         refine (R1.out _).mono ?_
         rintro e w7 ⟨rfl,rfl⟩
         go_wp2_with fail
         refine (R2.out _).mono ?_
         rintro e w8 ⟨rfl,rfl⟩
         go_wp2_with fail
         refine (rgcd_any x y _ (by omega) (by omega)).mono ?_
         rintro e w9 ⟨rfl,nq,rfl⟩
         obtain ⟨g,hg⟩:∃ g,Nat.gcd x y=g:=⟨_,rfl⟩
         have HGG:=Lib.hid hg
         rw [hg]
         clear hg
         by_cases g1:g=1
         ·have HX:=Lib.hid (hGc.out (HGG.out.trans g1))
          subst g1
          go_wp2_with fail
          go_ret
          exact ⟨0,rfl,Lib.hid ⟨(fun _=>HX.out),(fun _=>.inl rfl)⟩,qbl⟩
         ·have hne:((g:Int) != 1)=true:=by simp;omega
          go_wp2_with fail
          go_ret
          exact ⟨11,rfl,Lib.hid ⟨(fun h=>by cases h),(fun _=>.inr rfl)⟩,qbl⟩
        ·have R:=Lib.hid (fun w hG=>R6.gcd6_ok n d w hG (HB.out (by trivial)) (by omega) (HB2.out (by trivial)) (by omega))
         have hcase:(9:Int) < (n.size:Int)∨((n.size:Int)≤9∧(9:Int) < (d.size:Int)):=by omega
         rcases hcase with h9a|⟨h9a,h9b⟩
         ·skip
          go_wp2_with fail
          refine (R.out _ (HG.out.below hB)).mono ?_
          rintro e w10 ⟨r,hr,rfl,hB2⟩
          obtain ⟨v,hv⟩:∃ v,(r.toList == [49])=v:=⟨_,rfl⟩
          have HX:=Lib.hid (fun h:v=true=>hGc.out (by rw [h,beq_iff_eq,Lib.toList_data,hr] at hv;have:=congrArg dval hv;rw [dval_decDigits] at this;exact this))
          clear hr
          have hv2:(r.toList != [49])=!v:=by rw [bne,hv]
          cases v
          ·simp only [Bool.not_false] at hv2
           clear HX
           go_wp2_with fail
           go_ret
           exact ⟨11,rfl,Lib.hid ⟨(fun h=>by cases h),(fun _=>.inr rfl)⟩,qbl⟩
          ·simp only [Bool.not_true] at hv2
           have HY:=Lib.hid (HX.out rfl)
           clear HX
           go_wp2_with fail
           go_ret
           exact ⟨0,rfl,Lib.hid ⟨(fun _=>HY.out),(fun _=>.inl rfl)⟩,qbl⟩
         ·skip
          go_wp2_with fail
          refine (R.out _ (HG.out.below hB)).mono ?_
          rintro e w11 ⟨r,hr,rfl,hB2⟩
          obtain ⟨v,hv⟩:∃ v,(r.toList == [49])=v:=⟨_,rfl⟩
          have HX:=Lib.hid (fun h:v=true=>hGc.out (by rw [h,beq_iff_eq,Lib.toList_data,hr] at hv;have:=congrArg dval hv;rw [dval_decDigits] at this;exact this))
          clear hr
          have hv2:(r.toList != [49])=!v:=by rw [bne,hv]
          cases v
          ·simp only [Bool.not_false] at hv2
           clear HX
           go_wp2_with fail
           go_ret
           exact ⟨11,rfl,Lib.hid ⟨(fun h=>by cases h),(fun _=>.inr rfl)⟩,qbl⟩
          ·simp only [Bool.not_true] at hv2
           have HY:=Lib.hid (HX.out rfl)
           clear HX
           go_wp2_with fail
           go_ret
           exact ⟨0,rfl,Lib.hid ⟨(fun _=>HY.out),(fun _=>.inl rfl)⟩,qbl⟩
       ·have hcase:(300:Int) < (n.size:Int)∨((n.size:Int)≤300∧(300:Int) < (d.size:Int)):=by omega
        clear h300
        rcases hcase with h3a|⟨h3a,h3b⟩
        ·skip
         go_wp2_with fail
         go_ret
         exact ⟨4,rfl,Lib.hid ⟨(fun h=>by cases h),(fun h20=>by omega)⟩,qbl⟩
        ·skip
         go_wp2_with fail
         go_ret
         exact ⟨4,rfl,Lib.hid ⟨(fun h=>by cases h),(fun h20=>by omega)⟩,qbl⟩
      ·skip
       go_wp2_with fail
       go_ret
       exact ⟨11,rfl,Lib.hid ⟨(fun h=>by cases h),(fun _=>.inr rfl)⟩,qbl⟩
     ·skip
      go_wp2_with fail
      go_ret
      exact ⟨11,rfl,Lib.hid ⟨(fun h=>by cases h),(fun _=>.inr rfl)⟩,qbl⟩
  ·skip
   go_wp2_with fail
   refine (HN.out _).mono ?_
   rintro e w12 ⟨b,rfl,HB,rfl⟩
   cases b
   ·skip
    go_wp2_with fail
    go_ret
    exact ⟨11,rfl,Lib.hid ⟨(fun h=>by cases h),(fun _=>.inr rfl)⟩,qbl⟩
   ·skip
    go_wp2_with fail
    refine (HDd.out _).mono ?_
    rintro e w13 ⟨b2,rfl,HB2,rfl⟩
    cases b2
    ·skip
     go_wp2_with fail
     go_ret
     exact ⟨11,rfl,Lib.hid ⟨(fun h=>by cases h),(fun _=>.inr rfl)⟩,qbl⟩
    ·obtain ⟨v0,h0⟩:∃ v,(d.toList == [48])=v:=⟨_,rfl⟩
     obtain ⟨v1,h1⟩:∃ v,(d.toList == [49])=v:=⟨_,rfl⟩
     cases v0
     ·cases v1
      ·have G48:=Lib.hid h0
       have G49:=Lib.hid h1
       obtain ⟨v48,h48⟩:∃ v,(n.toList == [48])=v:=⟨_,rfl⟩
       cases v48
       ·have Z48:=Lib.hid h48
        by_cases h300:n.size≤300∧d.size≤300
        ·obtain ⟨h300a,h300b⟩:=h300
         have hGc:=Lib.hid (fun hg=>ck_twoA (m:=true) HC.out h300a h300b (HB.out (by trivial)) (HB2.out (by trivial)) (fun _=>Z48.out) G48.out G49.out hg)
         by_cases h9:n.size≤9∧d.size≤9
         ·obtain ⟨n9,d9⟩:=h9
          have L1:dval n.data.toList < 10 ^ 9:=bool_lt (HB.out (by trivial)) n9
          have L2:dval d.data.toList < 10 ^ 9:=bool_lt (HB2.out (by trivial)) d9
          have R1:=Lib.hid (fun w=>rsmall_any n w (HB.out (by trivial)) n9)
          have R2:=Lib.hid (fun w=>rsmall_any d w (HB2.out (by trivial)) d9)
          generalize dval n.data.toList=x at hGc L1 R1
          generalize dval d.data.toList=y at hGc L2 R2
          go_wp2_with fail
          refine (R1.out _).mono ?_
          rintro e w14 ⟨rfl,rfl⟩
          go_wp2_with fail
          refine (R2.out _).mono ?_
          rintro e w15 ⟨rfl,rfl⟩
          go_wp2_with fail
          refine (rgcd_any x y _ (by omega) (by omega)).mono ?_
          rintro e w16 ⟨rfl,nq,rfl⟩
          obtain ⟨g,hg⟩:∃ g,Nat.gcd x y=g:=⟨_,rfl⟩
          have HGG:=Lib.hid hg
          rw [hg]
          clear hg
          by_cases g1:g=1
          ·have HX:=Lib.hid (hGc.out (HGG.out.trans g1))
           subst g1
           go_wp2_with fail
           go_ret
           exact ⟨0,rfl,Lib.hid ⟨(fun _=>HX.out),(fun _=>.inl rfl)⟩,qbl⟩
          ·have hne:((g:Int) != 1)=true:=by simp;omega
           go_wp2_with fail
           go_ret
           exact ⟨11,rfl,Lib.hid ⟨(fun h=>by cases h),(fun _=>.inr rfl)⟩,qbl⟩
         ·have R:=Lib.hid (fun w hG=>R6.gcd6_ok n d w hG (HB.out (by trivial)) (by omega) (HB2.out (by trivial)) (by omega))
          have hcase:(9:Int) < (n.size:Int)∨((n.size:Int)≤9∧(9:Int) < (d.size:Int)):=by omega
          rcases hcase with h9a|⟨h9a,h9b⟩
          ·skip
           go_wp2_with fail
           refine (R.out _ (HG.out.below hB)).mono ?_
           rintro e w17 ⟨r,hr,rfl,hB2⟩
           obtain ⟨v,hv⟩:∃ v,(r.toList == [49])=v:=⟨_,rfl⟩
           have HX:=Lib.hid (fun h:v=true=>hGc.out (by rw [h,beq_iff_eq,Lib.toList_data,hr] at hv;have:=congrArg dval hv;rw [dval_decDigits] at this;exact this))
           clear hr
           have hv2:(r.toList != [49])=!v:=by rw [bne,hv]
           cases v
           ·simp only [Bool.not_false] at hv2
            clear HX
            go_wp2_with fail
            go_ret
            exact ⟨11,rfl,Lib.hid ⟨(fun h=>by cases h),(fun _=>.inr rfl)⟩,qbl⟩
           ·simp only [Bool.not_true] at hv2
            have HY:=Lib.hid (HX.out rfl)
            clear HX
            go_wp2_with fail
            go_ret
            exact ⟨0,rfl,Lib.hid ⟨(fun _=>HY.out),(fun _=>.inl rfl)⟩,qbl⟩
          ·skip
           go_wp2_with fail
           refine (R.out _ (HG.out.below hB)).mono ?_
           rintro e w18 ⟨r,hr,rfl,hB2⟩
           obtain ⟨v,hv⟩:∃ v,(r.toList == [49])=v:=⟨_,rfl⟩
           have HX:=Lib.hid (fun h:v=true=>hGc.out (by rw [h,beq_iff_eq,Lib.toList_data,hr] at hv;have:=congrArg dval hv;rw [dval_decDigits] at this;exact this))
           clear hr
           have hv2:(r.toList != [49])=!v:=by rw [bne,hv]
           cases v
           ·simp only [Bool.not_false] at hv2
            clear HX
            go_wp2_with fail
            go_ret
            exact ⟨11,rfl,Lib.hid ⟨(fun h=>by cases h),(fun _=>.inr rfl)⟩,qbl⟩
           ·simp only [Bool.not_true] at hv2
            have HY:=Lib.hid (HX.out rfl)
            clear HX
            go_wp2_with fail
            go_ret
            exact ⟨0,rfl,Lib.hid ⟨(fun _=>HY.out),(fun _=>.inl rfl)⟩,qbl⟩
        ·have hcase:(300:Int) < (n.size:Int)∨((n.size:Int)≤300∧(300:Int) < (d.size:Int)):=by omega
         clear h300
         rcases hcase with h3a|⟨h3a,h3b⟩
         ·skip
          go_wp2_with fail
          go_ret
          exact ⟨4,rfl,Lib.hid ⟨(fun h=>by cases h),(fun h20=>by omega)⟩,qbl⟩
         ·skip
          go_wp2_with fail
          go_ret
          exact ⟨4,rfl,Lib.hid ⟨(fun h=>by cases h),(fun h20=>by omega)⟩,qbl⟩
       ·skip
        go_wp2_with fail
        go_ret
        exact ⟨11,rfl,Lib.hid ⟨(fun h=>by cases h),(fun _=>.inr rfl)⟩,qbl⟩
      ·skip
       go_wp2_with fail
       go_ret
       exact ⟨11,rfl,Lib.hid ⟨(fun h=>by cases h),(fun _=>.inr rfl)⟩,qbl⟩
     ·skip
      go_wp2_with fail
      go_ret
      exact ⟨11,rfl,Lib.hid ⟨(fun h=>by cases h),(fun _=>.inr rfl)⟩,qbl⟩
noncomputable def numC (s:ByteArray):Int:=open Classical in if IsNum s then 0 else 11
theorem rCheck02_codeM (s:ByteArray) (w:World) (hG:Glo w) (hs:s.size≤9223372036854775807):Calls Tryz.prog 59 #[.string s] w (fun e w'=>∃ c:Int,e=.returned (.int .i64 c)∧Hid ((c=0↔IsNum s)∧(s.size≤20→c=numC s))∧Below w.heap.size w w'):=by
 by_cases h:IsNum s
 ·obtain ⟨q,h1,h2⟩:=id h
  refine (rCheck02_q s w hG h1 h2 (by omega)).mono ?_
  rintro e w' ⟨rfl,hB⟩
  exact ⟨0,rfl,Lib.hid ⟨⟨fun _=>h,fun _=>rfl⟩,fun _=>by unfold numC;rw [if_pos h]⟩,hB⟩
 ·refine (rCheck02_allM s w hG hs).mono ?_
  rintro e w' ⟨c,rfl,HC,hB⟩
  obtain ⟨h1,h2⟩:=HC.out
  refine ⟨c,rfl,Lib.hid ⟨⟨h1,fun h'=>absurd h' h⟩,fun h20=>?_⟩,hB⟩
  unfold numC
  rw [if_neg h]
  rcases h2 h20 with h0|h0
  ·exact absurd (h1 h0) h
  ·exact h0
end Go.Proofs.YteepphiomcedfaaGreatDoor
namespace Go.Proofs.YteepphiomcedfaaGreatDoor.R6
open Go.RowKit Go.Shelf
theorem gcd6s_small {x y:Int} (s t:ByteArray) (w:World) (hG:Glo w) (hs:s.data.toList=Lib.itoa x) (hx:Fit x) (hl:s.size≤17) (ht:t.data.toList=Lib.itoa y) (hy:Fit y) (hm:t.size≤17) :
  Calls Tryz.prog 121 #[.string s,.string t] w (RetDec (Int.gcd x y) w):=by
 have bx:x.natAbs < 10 ^ 17:=itoa_lt (by rw [← hs];exact hl)
 have by':y.natAbs < 10 ^ 17:=itoa_lt (by rw [← ht];exact hm)
 have HB:=Lib.hid (fun W=>both6s s t W hs hx ht hy)
 have HT:=Lib.hid (fun W=>two6s s t W hs hl ht hm)
 have HG:=Lib.hid hG
 clear hs ht hG
 go_enter Tryz.func121,Tryz.ntmps121
 go_wp2_with fail
 refine (HB.out _).mono ?_
 rintro e w1 ⟨rfl,rfl⟩
 go_wp2_with fail
 refine (HT.out _).mono ?_
 rintro e w2 ⟨rfl,rfl⟩
 go_wp2_with fail
 go_loopw [7,8] (fun a b wr=>∃ p q:Int,a=.int .i64 p∧b=.int .i64 q∧p.natAbs < 10 ^ 17∧q.natAbs < 10 ^ 17∧Hid (Int.gcd p q=Int.gcd x y)∧Below w2.heap.size w2 wr) (fun _ b _=>(intOf b).natAbs)
 case atStart=>exact ⟨x,y,rfl,rfl,bx,by',Lib.hid rfl,bw0 _ _⟩
 case round =>
  clear bx by'
  obtain ⟨p,q,rfl,rfl,hp,hq,HGG,hBr⟩:=hrel
  by_cases h0:q=0
  ·subst h0
   have hgm:Hid (Int.gcd x y=p.natAbs):=Lib.hid (by rw [← HGG.out,Int.gcd_zero_right])
   have hw0:IntKind.i64.wrap (-p)=-p:=IntWalk.i64_in _ (by omega)
   have hmx:max p (-p)=(p.natAbs:Int):=by omega
   go_wp2_with fail
   refine (itoa_any (p.natAbs:Int) (by omega) (by omega) _ (HG.out.below hBr)).mono ?_
   rintro e w3 ⟨r,hr,rfl,hB3⟩
   have HR:Hid (r.data.toList=Lib.decDigits (Int.gcd x y)):=Lib.hid (by rw [hr,itoa_natCast,hgm.out])
   clear hr
   go_wp2_with fail
   go_ret2
   exact ⟨r,HR.out,rfl,hBr.trans (hB3.mono hBr.size)⟩
  ·have hne:(q != 0)=true:=by simp [h0]
   have hlt:(p.tmod q).natAbs < q.natAbs:=by rw [Int.natAbs_tmod];exact Nat.mod_lt _ (by omega)
   have hw:IntKind.i64.wrap (p.tmod q)=p.tmod q:=IntWalk.i64_in _ (by omega)
   have HQ:Hid (Int.gcd q (p.tmod q)=Int.gcd x y):=Lib.hid (by
    rw [← HGG.out]
    unfold Int.gcd
    rw [Int.natAbs_tmod,Nat.gcd_comm p.natAbs q.natAbs,Nat.gcd_rec q.natAbs p.natAbs,Nat.gcd_comm])
   obtain ⟨r,hr⟩:∃ r,p.tmod q=r:=⟨_,rfl⟩
   rw [hr] at hlt hw HQ
   go_wp2_with fail
   go_quiet (fail)
   go_wp2_with fail
   go_roundw
   case rel=>exact ⟨q,r,rfl,rfl,hq,by omega,HQ,qbl⟩
   case measure=>simp [intOf];omega
theorem gcd6s_long {x y:Int} (s t:ByteArray) (w:World) (hs:s.data.toList=Lib.itoa x) (hx:Fit x) (ht:t.data.toList=Lib.itoa y) (hy:Fit y) (hlong:¬ (s.size≤17∧t.size≤17)) :
  Calls Tryz.prog 121 #[.string s,.string t] w (RetDec (Int.gcd x y) w):=by
 have HB:=Lib.hid (fun W=>both6s s t W hs hx ht hy)
 have HT:=Lib.hid (fun W=>two6s_long s t W hs hlong)
 have HR1:=Lib.hid (fun W=>read6s s W hs (by have:=fits_size hs hx;omega))
 have HR2:=Lib.hid (fun W=>read6s t W ht (by have:=fits_size ht hy;omega))
 have z1:=fits_size hs hx
 have z2:=fits_size ht hy
 have hfd:=run_field6
 clear hs ht hlong
 go_enter Tryz.func121,Tryz.ntmps121
 go_wp2_with fail
 refine (HB.out _).mono ?_
 rintro e w1 ⟨rfl,rfl⟩
 go_wp2_with fail
 refine (HT.out _).mono ?_
 rintro e w2 ⟨⟨u1,u2,rfl⟩,rfl⟩
 go_wp2_with fail
 refine (HR1.out _).mono ?_
 rintro e w3 ⟨v1,rfl,i1,hB3⟩
 obtain ⟨a1,l1,c1,rfl,i1,d1,q1⟩:=i1
 have hb3:Below w2.heap.size w2 w3:=hB3
 have HI1:=Lib.hid i1
 generalize decide (x < 0)=b1 at *
 clear hB3 i1
 go_wp2_with fail
 refine (HR2.out _).mono ?_
 rintro e w4 ⟨v2,rfl,i2,hB4⟩
 obtain ⟨a2,l2,c2,rfl,i2,d2,q2⟩:=i2
 have hb4:Below w2.heap.size w2 w4:=below_trans' hb3 hB4
 have HI1':=Lib.hid (HI1.out.below hB4)
 have HI2:=Lib.hid i2
 have HD1:=Lib.hid d1
 have HD2:=Lib.hid d2
 have hq1:l1.length≤60:=by omega
 have hq2:l2.length≤60:=by omega
 generalize decide (y < 0)=b2 at *
 clear hB4 i2 d1 d2 HI1
 go_wp2_with fail
 go_loopg [10,11] (y.natAbs) (fun g a b wr=>∃ (la lb:List Int) (pa pb:Option Addr) (ca cb:Nat) (p q:Int),g=q.toNat∧a=.slice pa la.length ca∧b=.slice pb lb.length cb∧Hid (IsInts wr (.slice pa la.length ca) la)∧Hid (IsInts wr (.slice pb lb.length cb) lb)∧Hid (Num la p)∧Hid (Num lb q)∧la.length≤60∧lb.length≤60∧Hid (Int.gcd p q=Int.gcd x y)∧Below w2.heap.size w2 wr)
 case atStart=>exact ⟨l1,l2,a1,a2,c1,c2,x.natAbs,y.natAbs,rfl,rfl,rfl,HI1',HI2,HD1,HD2,hq1,hq2,Lib.hid (by rw [Int.gcd_natCast_natCast];rfl),hb4⟩
 case round =>
  clear hq1 hq2 HI1' HI2 HD1 HD2
  obtain ⟨la,lb,pa,pb,ca,cb,p,q,rfl,rfl,rfl,HIA,HIB,HDA,HDB,hla,hlb,HGG,hBr⟩:=hrel
  by_cases h0:lb.length=0
  ·have hn0:¬ (0:Int) < (lb.length:Int):=by omega
   have hq0:q=0:=HDB.out.zero.1 h0
   have hp0:=HDA.out.high.1
   have HZ:Hid (IsBig6 wr (.agg #[.bool false,.slice pa la.length ca]) p 60):=Lib.hid ⟨pa,la,ca,rfl,HIA.out,HDA.out,hla⟩
   have HPG:Hid (p.toNat=Int.gcd x y):=Lib.hid (by rw [← HGG.out,hq0,Int.gcd_zero_right];omega)
   clear hq0
   go_wp2_with fail
   refine (write6_ok _ _ HZ.out (by omega)).mono ?_
   rintro e w6 ⟨r,hr,rfl,hB6⟩
   have HR:Hid (r.data.toList=Lib.decDigits (Int.gcd x y)):=Lib.hid (by rw [hr,HPG.out])
   have hb6:=hBr.trans (hB6.mono hBr.size)
   clear hr hB6
   go_wp2_with fail
   go_ret2
   exact ⟨r,HR.out,rfl,hb6⟩
  ·have hn0:(0:Int) < (lb.length:Int):=by omega
   have hq0:0 < q:=by
    have h1:=HDB.out.low h0
    have h2:=pw_pos (lb.length - 1)
    omega
   have HDV:=Lib.hid (divide6_ok _ _ wr HIA.out HIB.out HDA.out HDB.out (by omega) (by omega) hq0)
   go_wp2_with fail
   refine HDV.out.mono ?_
   rintro e wd ⟨lq,vq,lr,vr,rfl,iq,ir,nq,nr,kq,kr,hBd⟩
   obtain ⟨qa,qc,rfl⟩:=iq.slice
   obtain ⟨ra,rc,rfl⟩:=ir.slice
   have HIR:=Lib.hid ir
   have HNR:=Lib.hid nr
   have HIB':=Lib.hid (HIB.out.below hBd)
   have hBw:=hBr.trans (hBd.mono hBr.size)
   have hlr:lr.length≤60:=by omega
   have hr1:p % q < q:=Int.emod_lt_of_pos _ hq0
   have hr0:0≤p % q:=Int.emod_nonneg _ (by omega)
   have HG2:Hid (Int.gcd q (p % q)=Int.gcd x y):=Lib.hid (by rw [← HGG.out];exact gcd_step HDA.out.high.1 (by omega))
   clear iq ir nq nr kq kr hBd
   go_wp2_with fail
   go_roundg ((p % q).toNat)
   case rel=>exact ⟨lb,lr,pb,ra,cb,rc,q,p % q,rfl,rfl,rfl,HIB',HIR,HDB,HNR,hlb,hlr,HG2,hBw⟩
   case measure=>omega
theorem Gcd6_ok {x y:Int} (s t:ByteArray) (w:World) (hG:Glo w) (hs:s.data.toList=Lib.itoa x) (hx:Fit x) (ht:t.data.toList=Lib.itoa y) (hy:Fit y) :
  Calls Tryz.prog 121 #[.string s,.string t] w (RetDec (Int.gcd x y) w):=by
 by_cases h:s.size≤17∧t.size≤17
 ·exact gcd6s_small s t w hG hs hx h.1 ht hy h.2
 ·exact gcd6s_long s t w hs hx ht hy h
end Go.Proofs.YteepphiomcedfaaGreatDoor.R6
namespace Go.Proofs.YteepphiomcedfaaGreatDoor
open Go.RowKit
theorem rsmall_18 {n:Nat} (s:ByteArray) (w:World) (hs:s.data.toList=Lib.decDigits n) (hl:s.size≤18):Calls Tryz.prog 120 #[.string s] w fun e w'=>e=.returned (.int .i64 n)∧w'=w:=by
 have HS:=Lib.hid (fun k hk=>R6.dec_dig (k:=k) hs hk)
 have HV:=Lib.hid (show dval (s.data.toList.take s.size)=n by rw [List.take_of_length_le (show s.data.toList.length≤s.size from Nat.le_refl _),hs,dval_decDigits])
 have HB:=Lib.hid (fun k (hk:k≤s.size)=>(show dval (s.data.toList.take k) < 10 ^ 18 from Nat.lt_of_lt_of_le (R6.dec_val_lt hs hk) (Nat.pow_le_pow_right (by omega) (by omega))))
 clear hs
 go_enter Tryz.func120,Tryz.ntmps120
 go_wp2_with fail
 go_loopw [3,4] (fun n i wr=>∃ k:Nat,k≤s.size∧i=.int .i64 k∧n=.int .i64 (dval (s.data.toList.take k):Nat)∧wr=w) (fun _ i _=>s.size - (intOf i).toNat)
 case atStart=>exact ⟨0,by omega,rfl,rfl,rfl⟩
 case round =>
  obtain ⟨k,hk,rfl,rfl,hwr⟩:=hrel
  subst wr
  by_cases hlt:k < s.size
  ·obtain ⟨d1,d2⟩:=HS.out k hlt
   have hv:=HB.out (k+1) hlt
   have HVS:dval (s.data.toList.take (k+1))=10 * dval (s.data.toList.take k)+(s[k].toNat - 48):=by
    rw [List.take_succ_eq_append_getElem hlt]
    exact dval_snoc _ _
   rw [HVS] at hv
   have HX:=Lib.hid HVS
   obtain ⟨V,hV⟩:∃ V,dval (s.data.toList.take k)=V:=⟨_,rfl⟩
   rw [hV] at hv ⊢
   have HVV:=Lib.hid hV
   have hv8:(V:Int)≤100000000000000000:=by omega
   have hv9:10 * (V:Int)+((s[k].toNat:Int) - 48) < 1000000000000000000:=by omega
   clear hv HVS hV
   go_wp2_with fail
   go_roundw
   case rel=>exact ⟨k+1,by omega,by go_num,ret_i64 (by rw [HX.out,HVV.out];omega),by trivial⟩
   case measure=>simp [intOf];omega
  ·have e:k=s.size:=by omega
   subst e
   rw [HV.out]
   go_wp2_with fail
   go_ret
   exact ⟨rfl,rfl⟩
theorem text_quick (n d:Int) (hd:0 < d):ratText (Rat.divInt n d)=(if n < 0 then [45] else [])++(Lib.decDigits (n.natAbs / Nat.gcd n.natAbs d.natAbs)++if d.natAbs / Nat.gcd n.natAbs d.natAbs=1 then [] else 47::Lib.decDigits (d.natAbs / Nat.gcd n.natAbs d.natAbs)):=by
 obtain ⟨a,b,g,hg,g0,ha,hb,hb0,hnum,hden,q1,q2⟩:=divInt_parts n d hd
 have hg':Nat.gcd n.natAbs d.natAbs=g:=by rw [hg];simp only [Int.gcd];congr 1;omega
 have e1:n.natAbs / g=a.natAbs:=by rw [ha,Int.natAbs_mul,Int.natAbs_natCast];exact Nat.mul_div_cancel _ g0
 have e2:d.natAbs / g=b.natAbs:=by rw [hb,Int.natAbs_mul,Int.natAbs_natCast];exact Nat.mul_div_cancel _ g0
 have ed:(Rat.divInt n d).den=b.natAbs:=by omega
 have en:a < 0↔n < 0:=by
  rw [ha]
  constructor
  ·intro h;exact Int.mul_neg_of_neg_of_pos h (by omega)
  ·intro h
   refine Int.not_le.1 fun h'=>?_
   have:=Int.mul_nonneg h' (show (0:Int)≤(g:Int) by omega)
   omega
 rw [ratText_own,hg',e1,e2]
 unfold tailTxt minusB
 rw [hnum,ed]
 by_cases h:n < 0
 ·rw [decide_eq_true (en.2 h),if_pos h,if_pos rfl]
 ·rw [decide_eq_false (fun h'=>h (en.1 h')),if_neg h,if_neg (by decide)]
end Go.Proofs.YteepphiomcedfaaGreatDoor
namespace Go.Proofs.YteepphiomcedfaaGreatDoor
open Go.RowKit
theorem decimal02_ok (N:Nat) (w:World) (hN:N≤9000000000000000000):Calls Tryz.prog 175 #[.int .i64 N] w (RetS (Lib.decDigits N) w):=by
 have hmk:=fun (W:World)=>R6.run_makeU W 20 (by omega) (20:Int) rfl
 have x0:R6.BlkU (w.alloc (.cells (Lib.byteCells (List.replicate 20 0)).toArray 5)) w.heap.size (List.replicate 20 0):=World.alloc_heap_new _ _
 have hb0:Below w.heap.size w (w.alloc (.cells (Lib.byteCells (List.replicate 20 0)).toArray 5)):=qbl
 have HO0:Hid (R6.OutAt N 20 0 (List.replicate 20 0)):=Lib.hid ⟨by simp,by simp [pad]⟩
 have HL0:=Lib.hid (show (List.replicate 20 (0:UInt8)).length=20 by simp)
 obtain ⟨z0,hz0⟩:∃ z,List.replicate 20 (0:UInt8)=z:=⟨_,rfl⟩
 rw [hz0] at hmk x0 hb0 HO0
 clear hz0 HL0
 go_enter Tryz.func175,Tryz.ntmps175
 go_wp2_with fail
 generalize w.alloc (.cells (Lib.byteCells z0).toArray 5)=W0 at *
 go_loopw [0,4] (fun nv iv wr=>∃ (k y:Nat) (o:List UInt8),k≤19∧iv=.int .i64 (20 - (k:Int))∧nv=.int .i64 (y:Int)∧Hid (y=N / 10 ^ k)∧Hid (0 < k→0 < y)∧R6.BlkU wr w.heap.size o∧Hid (R6.OutAt N 20 k o)∧Below w.heap.size w wr) (fun _ iv _=>(intOf iv).toNat)
 case atStart=>exact ⟨0,N,_,by omega,rfl,rfl,Lib.hid (by simp),Lib.hid (fun h=>by omega),x0,HO0,hb0⟩
 case round =>
  clear x0 hb0 HO0
  obtain ⟨k,y,o,hk,rfl,rfl,HY,HYP,hU,hO,hB⟩:=hrel
  have hyN:y≤N:=by rw [HY.out];exact Nat.div_le_self _ _
  obtain ⟨d,hd⟩:∃ d,y % 10=d:=⟨_,rfl⟩
  have hd9:d < 10:=by rw [← hd];exact Nat.mod_lt _ (by omega)
  have htm:((y:Int)).tmod 10=(d:Int):=by rw [Int.tmod_eq_emod_of_nonneg (by omega)];omega
  have htd:((y:Int)).tdiv 10=((y / 10:Nat):Int):=by rw [Int.tdiv_eq_ediv_of_nonneg (by omega)];omega
  have HDG:Hid (d=N / 10 ^ k % 10):=Lib.hid (by rw [← hd,HY.out])
  have HY2:Hid (y / 10=N / 10 ^ (k+1)):=Lib.hid (by rw [HY.out,Nat.div_div_eq_div_mul,← Nat.pow_succ])
  obtain ⟨ix,hix⟩:∃ ix:Nat,20 - k - 1=ix:=⟨_,rfl⟩
  have hwi:IntKind.i64.wrap ((20 - (k:Int)) - 1)=(ix:Int):=by
   rw [show (20 - (k:Int)) - 1=(ix:Int) by omega];exact IntWalk.i64_in _ (by omega)
  have hwd:IntKind.i64.wrap (d:Int)=(d:Int):=IntWalk.i64_in _ (by omega)
  have hwe:IntKind.i64.wrap (48+(d:Int))=48+(d:Int):=IntWalk.i64_in _ (by omega)
  have hwf:IntKind.u8.wrap (48+(d:Int))=48+(d:Int):=IntWalk.u8_in _ (by omega)
  have hwh:IntKind.i64.wrap ((y / 10:Nat):Int)=((y / 10:Nat):Int):=IntWalk.i64_in _ (by omega)
  have hixl:(ix:Int) < 20:=by omega
  have hix0:(0:Int)≤(ix:Int):=by omega
  have hixt:((ix:Int)).toNat=ix:=by omega
  obtain ⟨fv,f1⟩:∃ fv:Int,wr.cell? ⟨w.heap.size,ix,none⟩=some (.int .u8 fv):=⟨_,hU.cell (p:=ix) (by have:=hO.out.1;omega)⟩
  have g1:=hU.frozen ix
  have HST:Hid (R6.OutAt N 20 (k+1) (o.set ix (UInt8.ofNat (48+d)))):=Lib.hid (by
   have:=hO.out.step (by omega)
   rwa [hix,← HDG.out] at this)
  have hU2:R6.BlkU (wr.setCell ⟨w.heap.size,ix,none⟩ (.int .u8 (48+(d:Int)))) w.heap.size (o.set ix (UInt8.ofNat (48+d))):=by
   have h:=hU.set ix (UInt8.ofNat (48+d))
   have e:((UInt8.ofNat (48+d)).toNat:Int)=48+(d:Int):=by
    have:(UInt8.ofNat (48+d)).toNat=48+d:=by simp;omega
    omega
   rwa [e] at h
  have hSb:=sameBut_setCell wr w.heap.size ix (.int .u8 (48+(d:Int)))
  have hB2:=hSb.below hB (by omega)
  have HZ:=Lib.hid hU2
  obtain ⟨z,hz⟩:∃ z,y / 10=z:=⟨_,rfl⟩
  rw [hz] at htd hwh HY2
  have HZZ:=Lib.hid hz
  have hixk:ix+(k+1)=20:=by omega
  clear hd hix hSb hB hU hz
  by_cases hz0:z=0
  ·have hzb:((z:Int) == 0)=true:=by rw [hz0];rfl
   have hnl:(o.set ix (UInt8.ofNat (48+d))).length=20:=by rw [List.length_set];exact hO.out.1
   have HNL:=Lib.hid hnl
   have HFIN:Hid ((o.set ix (UInt8.ofNat (48+d))).drop ix=Lib.decDigits N):=Lib.hid (by
    have h:=HST.out.2
    rw [show 20 - (k+1)=ix by omega] at h
    rw [h]
    have hlt:N < 10 ^ (k+1):=by
     have h2:=HY2.out
     rw [hz0] at h2
     exact (Nat.div_eq_zero_iff_lt (Nat.pow_pos (by omega))).1 h2.symm
    rw [Nat.mod_eq_of_lt hlt,pad_eq hlt]
    have hdl:(Lib.decDigits N).length=k+1:=by
     refine Nat.le_antisymm ?_ ?_
     ·rw [Lib.decDigits_length];exact nDigits_le_of_lt hlt (by omega)
     ·refine Nat.not_lt.1 fun hh=>?_
      have h3:N < 10 ^ k:=pow_le_of_lt (by omega)
      have h4:y=0:=by rw [HY.out];exact Nat.div_eq_of_lt h3
      by_cases hk0:k=0
      ·have:=List.length_pos_iff.2 (decDigits_ne N);omega
      ·have:=HYP.out (by omega);omega
    rw [hdl,Nat.sub_self]
    rfl)
   generalize o.set ix (UInt8.ofNat (48+d))=o2 at *
   have hcv:=fun (W:World) (h:R6.BlkU W w.heap.size o2)=>Lib.run_convert_window (P:=Tryz.prog) W 236 5 9 Tryz.underlying236 Tryz.underlying5 Tryz.underlying9 w.heap.size 0 ⟨o2.toArray⟩ (fun i hi=>by
    rw [Nat.zero_add]
    exact h.cell hi) ix (20 - ix) (20 - ix) (by show _≤o2.toArray.size;have:=HNL.out;simp;omega)
   have hcw:=hcv _ hU2
   rw [Nat.zero_add] at hcw
   clear hcv hU2
   go_wp2_with fail
   go_ret
   refine ⟨_,?_,rfl,hB2⟩
   rw [Lib.extract_data,show ix+(20 - ix) - ix=20 - ix by omega]
   show (o2.drop ix).take _=_
   rw [List.take_of_length_le (by rw [List.length_drop];have:=HNL.out;omega)]
   exact HFIN.out
  ·have hzb:((z:Int) == 0)=false:=by simp;omega
   have hk19:k < 19:=by
    refine Nat.lt_of_not_le fun h=>hz0 ?_
    obtain rfl:k=19:=by omega
    rw [HY2.out]
    exact Nat.div_eq_of_lt (by omega)
   go_wp2_with fail
   go_roundw
   case rel=>exact ⟨k+1,z,_,by omega,ret_i64 (by omega),rfl,HY2,Lib.hid (fun _=>by omega),HZ.out,HST,hB2⟩
   case measure=>simp [intOf];omega
theorem quick02_ok (n d:Int) (w:World) (hd:0 < d) (hn:n.natAbs≤4000000000000000000) (hd':d≤4000000000000000000) :
  Calls Tryz.prog 107 #[.int .i64 n,.int .i64 d] w (RetS (ratText (Rat.divInt n d)) w):=by
 have HT:=Lib.hid (text_quick n d hd)
 obtain ⟨D,rfl⟩:∃ D:Nat,d=D:=⟨d.toNat,by omega⟩
 obtain ⟨N,hN⟩:∃ N,n.natAbs=N:=⟨_,rfl⟩
 rw [hN,Int.natAbs_natCast] at HT
 rw [hN] at hn
 obtain ⟨g,hg⟩:∃ g,Nat.gcd N D=g:=⟨_,rfl⟩
 have g0:0 < g:=by rw [← hg];exact Nat.gcd_pos_of_pos_right _ (by omega)
 have gD:g≤D:=by rw [← hg];exact Nat.gcd_le_right _ (by omega)
 have HGG:=Lib.hid hg
 rw [hg] at HT
 have q1:((N:Int)).tdiv (g:Int)=((N / g:Nat):Int):=by rw [Int.tdiv_eq_ediv_of_nonneg (by omega)];simp
 have q2:((D:Int)).tdiv (g:Int)=((D / g:Nat):Int):=by rw [Int.tdiv_eq_ediv_of_nonneg (by omega)];simp
 have l1:N / g≤N:=Nat.div_le_self _ _
 have l2:D / g≤D:=Nat.div_le_self _ _
 obtain ⟨A,hA⟩:∃ A,N / g=A:=⟨_,rfl⟩
 obtain ⟨B,hB⟩:∃ B,D / g=B:=⟨_,rfl⟩
 rw [hA] at HT q1 l1
 rw [hB] at HT q2 l2
 have hg0:¬ ((g:Nat):Int)=0:=by omega
 have w1:IntKind.i64.wrap ((A:Nat):Int)=(A:Int):=IntWalk.i64_in _ (by omega)
 have w2:IntKind.i64.wrap ((B:Nat):Int)=(B:Int):=IntWalk.i64_in _ (by omega)
 clear hg hA hB
 have D1:=Lib.hid (fun W=>decimal02_ok A W (by omega))
 have D2:=Lib.hid (fun W=>decimal02_ok B W (by omega))
 by_cases hneg:n < 0
 ·have hwn:IntKind.i64.wrap (-n)=(N:Int):=by rw [show -n=(N:Int) by omega];exact IntWalk.i64_in _ (by omega)
  rw [if_pos hneg] at HT
  clear hN
  go_enter Tryz.func107,Tryz.ntmps107
  go_wp2_with fail
  refine (rgcd_any N D _ (by omega) (by omega)).mono ?_
  rintro e w3 ⟨rfl,nq,rfl⟩
  rw [HGG.out]
  go_wp2_with fail
  refine (D1.out _).mono ?_
  rintro e w4 ⟨a,ha,rfl,hB4⟩
  have HA:=Lib.hid ha
  have sa:a.size≤20:=dec_size ha (show A < 10 ^ 20 by omega) (by omega)
  have hb4:Below w.heap.size w w4:=qbl
  clear ha hB4
  by_cases hb1:B=1
  ·have hbb:((B:Int) == 1)=true:=by rw [hb1];rfl
   rw [if_pos hb1,List.append_nil] at HT
   go_wp2_with fail
   go_ret
   refine ⟨_,?_,rfl,hb4⟩
   rw [HT.out,← HA.out]
   simp
  ·have hbb:((B:Int) == 1)=false:=by rw [beq_eq_false_iff_ne];omega
   rw [if_neg hb1] at HT
   go_wp2_with fail
   refine (D2.out _).mono ?_
   rintro e w5 ⟨b,hb,rfl,hB5⟩
   have HBB:=Lib.hid hb
   have sb:b.size≤20:=dec_size hb (show B < 10 ^ 20 by omega) (by omega)
   have hb5:=below_trans' hb4 hB5
   clear hb hB5 hb4
   go_wp2_with fail
   go_ret
   refine ⟨_,?_,rfl,hb5⟩
   rw [HT.out,← HA.out,← HBB.out]
   simp
 ·have hnN:n=(N:Int):=by omega
  rw [if_neg hneg,List.nil_append] at HT
  clear hN hneg
  subst hnN
  have hneg:¬ (N:Int) < 0:=by omega
  go_enter Tryz.func107,Tryz.ntmps107
  go_wp2_with fail
  refine (rgcd_any N D _ (by omega) (by omega)).mono ?_
  rintro e w3 ⟨rfl,nq,rfl⟩
  rw [HGG.out]
  go_wp2_with fail
  refine (D1.out _).mono ?_
  rintro e w4 ⟨a,ha,rfl,hB4⟩
  have HA:=Lib.hid ha
  have sa:a.size≤20:=dec_size ha (show A < 10 ^ 20 by omega) (by omega)
  have hb4:Below w.heap.size w w4:=qbl
  clear ha hB4
  by_cases hb1:B=1
  ·have hbb:((B:Int) == 1)=true:=by rw [hb1];rfl
   rw [if_pos hb1,List.append_nil] at HT
   go_wp2_with fail
   go_ret
   refine ⟨_,?_,rfl,hb4⟩
   rw [HT.out,← HA.out]
   simp
  ·have hbb:((B:Int) == 1)=false:=by rw [beq_eq_false_iff_ne];omega
   rw [if_neg hb1] at HT
   go_wp2_with fail
   refine (D2.out _).mono ?_
   rintro e w5 ⟨b,hb,rfl,hB5⟩
   have HBB:=Lib.hid hb
   have sb:b.size≤20:=dec_size hb (show B < 10 ^ 20 by omega) (by omega)
   have hb5:=below_trans' hb4 hB5
   clear hb hB5 hb4
   go_wp2_with fail
   go_ret
   refine ⟨_,?_,rfl,hb5⟩
   rw [HT.out,← HA.out,← HBB.out]
   simp
theorem make2_ok {n d:Int} (s t:ByteArray) (w:World) (hG:Glo w) (hs:s.data.toList=Lib.itoa n) (hx:Fit n) (ht:t.data.toList=Lib.itoa d) (hy:Fit d) (hd:0 < d) :
  Calls Tryz.prog 110 #[.string s,.string t] w (RetN (Rat.divInt n d) w):=by
 have z1:=R6.fits_size hs hx
 have z2:=R6.fits_size ht hy
 have ht':t.data.toList=Lib.decDigits d.natAbs:=by rw [ht,R6.pos_text (by omega)]
 have ht0:0 < t.size:=R6.dec_pos ht'
 have t45:((t[0].toNat:Int) == 45)=false:=R6.dec_no45 ht' ht0
 have htI:(0:Int) < (t.size:Int):=by omega
 by_cases h18:s.size≤18∧t.size≤18
 ·obtain ⟨h18a,h18b⟩:=h18
  have p1:n.natAbs < 10 ^ 18:=itoa_lt (by rw [← hs];exact h18a)
  have p2:d.natAbs < 10 ^ 18:=itoa_lt (by rw [← ht];exact h18b)
  have HT:=Lib.hid (fun W=>rsmall_18 t W ht' h18b)
  have hdn:((d.natAbs:Nat):Int)=d:=by omega
  rw [hdn] at HT
  have HQ:=Lib.hid (fun W=>quick02_ok n d W hd (by omega) (by omega))
  by_cases hneg:n < 0
  ·have hst:=hs
   rw [R6.neg_text hneg] at hst
   have hs0:0 < s.size:=by rw [R6.neg_size hst];omega
   have s45:=R6.neg_zero hst hs0
   have hsI:(0:Int) < (s.size:Int):=by omega
   have HS:=Lib.hid (fun W=>rsmall_18 (n:=n.natAbs) (s.extract 1 s.size) W (by rw [extract_drop,hst];simp) (by
    have:=R6.neg_size hst
    have e:(s.extract 1 s.size).size=(Lib.decDigits n.natAbs).length:=by rw [sizeL,extract_drop,hst];simp
    omega))
   have hwn:IntKind.i64.wrap (-((n.natAbs:Nat):Int))=n:=by rw [show -((n.natAbs:Nat):Int)=n by omega];exact IntWalk.i64_in _ (by omega)
   clear hs ht hx hy hst ht'
   go_enter Tryz.func110,Tryz.ntmps110
   go_wp2_with fail
   refine (HS.out _).mono ?_
   rintro e w1 ⟨rfl,rfl⟩
   go_wp2_with fail
   refine (HT.out _).mono ?_
   rintro e w2 ⟨rfl,rfl⟩
   go_wp2_with fail
   refine (HQ.out _).mono ?_
   rintro e w3 ⟨r,hr,rfl,hB3⟩
   have HR:=Lib.hid hr
   clear hr
   go_wp2_with fail
   go_ret2
   exact ⟨r,HR.out,rfl,hB3⟩
  ·have hst:=hs
   rw [R6.pos_text (by omega)] at hst
   have hs0:0 < s.size:=R6.dec_pos hst
   have s45:=R6.dec_no45 hst hs0
   have hsI:(0:Int) < (s.size:Int):=by omega
   have HS:=Lib.hid (fun W=>rsmall_18 s W hst h18a)
   have hnn:((n.natAbs:Nat):Int)=n:=by omega
   rw [hnn] at HS
   clear hs ht hx hy hst ht'
   go_enter Tryz.func110,Tryz.ntmps110
   go_wp2_with fail
   refine (HS.out _).mono ?_
   rintro e w1 ⟨rfl,rfl⟩
   go_wp2_with fail
   refine (HT.out _).mono ?_
   rintro e w2 ⟨rfl,rfl⟩
   go_wp2_with fail
   refine (HQ.out _).mono ?_
   rintro e w3 ⟨r,hr,rfl,hB3⟩
   have HR:=Lib.hid hr
   clear hr
   go_wp2_with fail
   go_ret2
   exact ⟨r,HR.out,rfl,hB3⟩
 ·obtain ⟨a,b,g,hg,g0,ha,hb,hb0,hnum,hden,q1,q2⟩:=divInt_parts n d hd
  have hg':Int.gcd n d=g:=by rw [hg];simp only [Int.gcd];congr 1;omega
  have e1:n / (g:Int)=a:=by rw [ha];exact Int.mul_ediv_cancel _ (by omega)
  have e2:d / (g:Int)=b:=by rw [hb];exact Int.mul_ediv_cancel _ (by omega)
  have r1:n % (g:Int)=0:=by rw [ha];exact Int.mul_emod_left _ _
  have r2:d % (g:Int)=0:=by rw [hb];exact Int.mul_emod_left _ _
  have gd:g≤d.natAbs:=by
   have:(g:Int) ∣ d:=⟨b,by rw [Int.mul_comm];exact hb⟩
   have:=Int.le_of_dvd hd this
   omega
  have han:a.natAbs≤n.natAbs:=by rw [← q1,Int.natAbs_tdiv];exact Nat.div_le_self _ _
  have hbn:b.natAbs≤d.natAbs:=by rw [← q2,Int.natAbs_tdiv];exact Nat.div_le_self _ _
  have FG:=fit_le (a:=(g:Int)) (by omega) hy
  have HFA:=Lib.hid (fit_le han hx)
  have HFB:=Lib.hid (fit_le hbn hy)
  have HN:=Lib.hid hnum
  have HD:=Lib.hid hden
  have HB0:=Lib.hid hb0
  have HGC:=Lib.hid (fun W (hB:Below w.heap.size w W)=>R6.Gcd6_ok s t W (hG.below hB) hs hx ht hy)
  have HD1:=Lib.hid (fun (c:ByteArray) W (hB:Below w.heap.size w W) hc=>R6.Divide6_ok (x:=n) (y:=g) s c W (hG.below hB) hs hx hc FG (by omega) r1)
  have HD2:=Lib.hid (fun (c:ByteArray) W (hB:Below w.heap.size w W) hc=>R6.Divide6_ok (x:=d) (y:=g) t c W (hG.below hB) ht hy hc FG (by omega) r2)
  rw [hg'] at HGC
  rw [e1] at HD1
  rw [e2] at HD2
  have hcase:(18:Int) < (s.size:Int)∨((s.size:Int)≤18∧(18:Int) < (t.size:Int)):=by omega
  clear hs hx ht hy hG hg g0 ha hb hnum hden q1 q2 hg' e1 e2 r1 r2 gd han hbn FG h18 ht' hd
  go_enter Tryz.func110,Tryz.ntmps110
  rcases hcase with h18|⟨h18a,h18b⟩
  ·go_wp2_with fail
   refine (HGC.out _ (bw0 _ _)).mono ?_
   rintro e w1 ⟨c,hc,rfl,hB1⟩
   have HC:=Lib.hid (show c.data.toList=Lib.itoa (g:Int) by rw [hc,itoa_natCast])
   clear hc
   go_wp2_with fail
   refine (HD1.out c _ hB1 HC.out).mono ?_
   rintro e w2 ⟨s',r',hs',hr',rfl,hB2⟩
   have NH:=Lib.hid hs'
   have hb2:=below_trans' hB1 hB2
   clear hr' hB1 hB2
   go_wp2_with fail
   refine (HD2.out c _ hb2 HC.out).mono ?_
   rintro e w3 ⟨t',r'',ht',hr'',rfl,hB3⟩
   have DH:=Lib.hid ht'
   have hb3:=below_trans' hb2 hB3
   have ht2:t'.data.toList=Lib.decDigits b.natAbs:=by rw [ht',R6.pos_text (by have:=HB0.out;omega)]
   have dz:t'.size≤300:=by rw [sizeL,ht2];exact HFB.out
   clear hr'' hB3 hb2 ht' ht2
   by_cases hneg:a < 0
   ·have hst:=hs'
    rw [R6.neg_text hneg] at hst
    have hs0:0 < s'.size:=by rw [R6.neg_size hst];omega
    have s45:=R6.neg_zero hst hs0
    have hsI:(0:Int) < (s'.size:Int):=by omega
    have sz:s'.size≤301:=by rw [R6.neg_size hst];have:=HFA.out;unfold Fit at this;omega
    clear hs' hst
    by_cases hb1:b=1
    ·have hz:=eq_of_list (s:=t') (m:=[49]) (by rw [DH.out,hb1];exact itoa_one)
     have HT2:Hid (ratText (Rat.divInt n d)=Lib.itoa a):=Lib.hid (by
      have h2:=HD.out
      rw [ratText,if_pos (by omega),HN.out])
     clear hb1
     go_wp2_with fail
     go_ret2
     exact ⟨s',by rw [NH.out,HT2.out],rfl,hb3⟩
    ·have hz:=ne_of_list (s:=t') (m:=[49]) DH.out (itoa_ne1 hb1)
     have HT2:Hid (ratText (Rat.divInt n d)=Lib.itoa a++47::Lib.itoa b):=Lib.hid (by
      have h2:=HD.out
      rw [ratText,if_neg (by omega),HN.out,← h2,Lib.itoa_nonneg])
     clear hb1
     go_wp2_with fail
     go_ret2
     refine ⟨_,?_,rfl,hb3⟩
     rw [HT2.out,← NH.out,← DH.out]
     simp
   ·have hst:=hs'
    rw [R6.pos_text (by omega)] at hst
    have hs0:0 < s'.size:=R6.dec_pos hst
    have s45:=R6.dec_no45 hst hs0
    have hsI:(0:Int) < (s'.size:Int):=by omega
    have sz:s'.size≤300:=by rw [sizeL,hst];exact HFA.out
    clear hs' hst
    by_cases hb1:b=1
    ·have hz:=eq_of_list (s:=t') (m:=[49]) (by rw [DH.out,hb1];exact itoa_one)
     have HT2:Hid (ratText (Rat.divInt n d)=Lib.itoa a):=Lib.hid (by
      have h2:=HD.out
      rw [ratText,if_pos (by omega),HN.out])
     clear hb1
     go_wp2_with fail
     go_ret2
     exact ⟨s',by rw [NH.out,HT2.out],rfl,hb3⟩
    ·have hz:=ne_of_list (s:=t') (m:=[49]) DH.out (itoa_ne1 hb1)
     have HT2:Hid (ratText (Rat.divInt n d)=Lib.itoa a++47::Lib.itoa b):=Lib.hid (by
      have h2:=HD.out
      rw [ratText,if_neg (by omega),HN.out,← h2,Lib.itoa_nonneg])
     clear hb1
     go_wp2_with fail
     go_ret2
     refine ⟨_,?_,rfl,hb3⟩
     rw [HT2.out,← NH.out,← DH.out]
     simp
  ·go_wp2_with fail
   refine (HGC.out _ (bw0 _ _)).mono ?_
   rintro e w1 ⟨c,hc,rfl,hB1⟩
   have HC:=Lib.hid (show c.data.toList=Lib.itoa (g:Int) by rw [hc,itoa_natCast])
   clear hc
   go_wp2_with fail
   refine (HD1.out c _ hB1 HC.out).mono ?_
   rintro e w2 ⟨s',r',hs',hr',rfl,hB2⟩
   have NH:=Lib.hid hs'
   have hb2:=below_trans' hB1 hB2
   clear hr' hB1 hB2
   go_wp2_with fail
   refine (HD2.out c _ hb2 HC.out).mono ?_
   rintro e w3 ⟨t',r'',ht',hr'',rfl,hB3⟩
   have DH:=Lib.hid ht'
   have hb3:=below_trans' hb2 hB3
   have ht2:t'.data.toList=Lib.decDigits b.natAbs:=by rw [ht',R6.pos_text (by have:=HB0.out;omega)]
   have dz:t'.size≤300:=by rw [sizeL,ht2];exact HFB.out
   clear hr'' hB3 hb2 ht' ht2
   by_cases hneg:a < 0
   ·have hst:=hs'
    rw [R6.neg_text hneg] at hst
    have hs0:0 < s'.size:=by rw [R6.neg_size hst];omega
    have s45:=R6.neg_zero hst hs0
    have hsI:(0:Int) < (s'.size:Int):=by omega
    have sz:s'.size≤301:=by rw [R6.neg_size hst];have:=HFA.out;unfold Fit at this;omega
    clear hs' hst
    by_cases hb1:b=1
    ·have hz:=eq_of_list (s:=t') (m:=[49]) (by rw [DH.out,hb1];exact itoa_one)
     have HT2:Hid (ratText (Rat.divInt n d)=Lib.itoa a):=Lib.hid (by
      have h2:=HD.out
      rw [ratText,if_pos (by omega),HN.out])
     clear hb1
     go_wp2_with fail
     go_ret2
     exact ⟨s',by rw [NH.out,HT2.out],rfl,hb3⟩
    ·have hz:=ne_of_list (s:=t') (m:=[49]) DH.out (itoa_ne1 hb1)
     have HT2:Hid (ratText (Rat.divInt n d)=Lib.itoa a++47::Lib.itoa b):=Lib.hid (by
      have h2:=HD.out
      rw [ratText,if_neg (by omega),HN.out,← h2,Lib.itoa_nonneg])
     clear hb1
     go_wp2_with fail
     go_ret2
     refine ⟨_,?_,rfl,hb3⟩
     rw [HT2.out,← NH.out,← DH.out]
     simp
   ·have hst:=hs'
    rw [R6.pos_text (by omega)] at hst
    have hs0:0 < s'.size:=R6.dec_pos hst
    have s45:=R6.dec_no45 hst hs0
    have hsI:(0:Int) < (s'.size:Int):=by omega
    have sz:s'.size≤300:=by rw [sizeL,hst];exact HFA.out
    clear hs' hst
    by_cases hb1:b=1
    ·have hz:=eq_of_list (s:=t') (m:=[49]) (by rw [DH.out,hb1];exact itoa_one)
     have HT2:Hid (ratText (Rat.divInt n d)=Lib.itoa a):=Lib.hid (by
      have h2:=HD.out
      rw [ratText,if_pos (by omega),HN.out])
     clear hb1
     go_wp2_with fail
     go_ret2
     exact ⟨s',by rw [NH.out,HT2.out],rfl,hb3⟩
    ·have hz:=ne_of_list (s:=t') (m:=[49]) DH.out (itoa_ne1 hb1)
     have HT2:Hid (ratText (Rat.divInt n d)=Lib.itoa a++47::Lib.itoa b):=Lib.hid (by
      have h2:=HD.out
      rw [ratText,if_neg (by omega),HN.out,← h2,Lib.itoa_nonneg])
     clear hb1
     go_wp2_with fail
     go_ret2
     refine ⟨_,?_,rfl,hb3⟩
     rw [HT2.out,← NH.out,← DH.out]
     simp
end Go.Proofs.YteepphiomcedfaaGreatDoor
namespace Go.Proofs.YteepphiomcedfaaGreatDoor
open Go.RowKit
def RetI2 (x y:Int) (w:World) (e:Ending) (w':World):Prop:=∃ r t:ByteArray,r.data.toList=Lib.itoa x∧t.data.toList=Lib.itoa y∧e=.returned (.tuple #[.string r,.string t,.int .i64 0])∧Below w.heap.size w w'
theorem products_ok {a b c d:Int} (s1 s2 s3 s4:ByteArray) (w:World) (hG:Glo w) (h1:s1.data.toList=Lib.itoa a) (h2:s2.data.toList=Lib.itoa b) (h3:s3.data.toList=Lib.itoa c) (h4:s4.data.toList=Lib.itoa d) (f1:Fit a) (f2:Fit b) (f3:Fit c) (f4:Fit d) (fab:Fit (a * b)) (fcd:Fit (c * d)) :
  Calls Tryz.prog 140 #[.string s1,.string s2,.string s3,.string s4] w (RetI2 (a * b) (c * d) w):=by
 have H1:=Lib.hid (fun W (hB:Below w.heap.size w W)=>R6.Mul6_ok s1 s2 W (hG.below hB) h1 f1 h2 f2 fab)
 have H2:=Lib.hid (fun W (hB:Below w.heap.size w W)=>R6.Mul6_ok s3 s4 W (hG.below hB) h3 f3 h4 f4 fcd)
 clear h1 h2 h3 h4 f1 f2 f3 f4 fab fcd hG
 go_enter Tryz.func140,Tryz.ntmps140
 go_wp2_with fail
 refine (H1.out _ (bw0 _ _)).mono ?_
 rintro e w1 ⟨r,hr,rfl,hB1⟩
 have HR:=Lib.hid hr
 clear hr
 go_wp2_with fail
 refine (H2.out _ hB1).mono ?_
 rintro e w2 ⟨t,ht,rfl,hB2⟩
 have HT:=Lib.hid ht
 clear ht
 have hb2:=below_trans' hB1 hB2
 go_wp2_with fail
 go_ret3
 exact ⟨r,t,HR.out,HT.out,rfl,hb2⟩
theorem den_text {q:Rat} {s:ByteArray} (h:s.data.toList=Lib.decDigits q.den):s.data.toList=Lib.itoa (q.den:Int):=by rw [h,itoa_natCast]
theorem fit_one:Fit (1:Int):=fit_of_lt (pow300 (n:=1) (k:=1) (by omega) (by omega))
theorem radd_q {a b:Nat} {p q:Rat} (s t:ByteArray) (w:World) (hG:Glo w) (hs:s.data.toList=ratText p) (hp:Sz a p) (ht:t.data.toList=ratText q) (hq:Sz b q) (hab:a+b+1≤300) :
  Calls Tryz.prog 115 #[.string s,.string t] w (RetN (p+q) w):=by
 have f1:=fit_mul (x:=p.num) (y:=(q.den:Int)) hp.1 (by rw [den_nat];exact hq.2) (show a+b≤300 by omega)
 have f2:=fit_mul (x:=q.num) (y:=(p.den:Int)) hq.1 (by rw [den_nat];exact hp.2) (show b+a≤300 by omega)
 have f3:Fit (p.num * q.den+q.num * p.den):=fit_of_lt (pow300 (sum_lt hp hq) hab)
 have f4:Fit ((p.den:Int) * q.den):=fit_of_lt (pow300 (dens_lt hp hq) (by omega))
 have hpn:=hp.fn (show a≤300 by omega)
 have hpd:=hp.fd (show a≤300 by omega)
 have hqn:=hq.fn (show b≤300 by omega)
 have hqd:=hq.fd (show b≤300 by omega)
 have HI1:=Lib.hid (fun W=>rints_q s W hs hp (by omega))
 have HI2:=Lib.hid (fun W=>rints_q t W ht hq (by omega))
 have HP1:=Lib.hid (fun W=>rparts_q s W hs hp (by omega))
 have HP2:=Lib.hid (fun W=>rparts_q t W ht hq (by omega))
 have HQ:=Lib.hid (fun W (hn:(p.num * q.den+q.num * p.den).natAbs≤4000000000000000000) (hd:(p.den:Int) * q.den≤4000000000000000000)=>(quick02_ok (p.num * q.den+q.num * p.den) ((p.den:Int) * q.den) W (den_pos' p q) hn hd))
 have HPR:=Lib.hid (fun (u v x y:ByteArray) W (hB:Below w.heap.size w W) h1 h2 h3 h4=>products_ok (a:=p.num) (b:=q.den) (c:=q.num) (d:=p.den) u y x v W (hG.below hB) h1 (den_text h4) h3 (den_text h2) hpn hqd hqn hpd f1 f2)
 have HPD:=Lib.hid (fun (v y:ByteArray) W (hB:Below w.heap.size w W) h2 h4=>products_ok (a:=p.den) (b:=q.den) (c:=1) (d:=1) v y ⟨#[49]⟩ ⟨#[49]⟩ W (hG.below hB) (den_text h2) (den_text h4) itoa_one.symm itoa_one.symm hpd hqd fit_one fit_one f4 fit_one)
 have HAD:=Lib.hid (fun (x y:ByteArray) W (hB:Below w.heap.size w W) h1 h2=>R6.Add6_ok (x:=p.num * q.den) (y:=q.num * p.den) x y W (hG.below hB) h1 f1 h2 f2 f3)
 have HMK:=Lib.hid (fun (x y:ByteArray) W (hB:Below w.heap.size w W) h1 h2=>make2_ok (n:=p.num * q.den+q.num * p.den) (d:=(p.den:Int) * q.den) x y W (hG.below hB) h1 f3 h2 f4 (den_pos' p q))
 have HRA:=Lib.hid (rat_add p q)
 clear hs ht hp hq hG f1 f2 f3 f4 hpn hpd hqn hqd
 go_enter Tryz.func115,Tryz.ntmps115
 go_wp2_with fail
 refine (HI1.out _).mono ?_
 rintro e w1 ⟨b1,hc1,hB1⟩
 have LONG:∀ w2,Below w.heap.size w w2→True:=fun _ _=>trivial
 clear LONG
 rcases hc1 with ⟨rfl,rfl,p1,p2⟩|⟨rfl,rfl⟩
 ·go_wp2_with fail
  refine (HI2.out _).mono ?_
  rintro e w2 ⟨b2,hc2,hB2⟩
  have hb2:=below_trans' hB1 hB2
  clear hB1 hB2
  rcases hc2 with ⟨rfl,rfl,q1,q2⟩|⟨rfl,rfl⟩
  ·have m1:(p.num * q.den).natAbs < 10 ^ 18:=mul_lt (a:=9) (b:=9) p1 (by rw [den_nat];exact q2)
   have m2:(q.num * p.den).natAbs < 10 ^ 18:=mul_lt (a:=9) (b:=9) q1 (by rw [den_nat];exact p2)
   have m3:((p.den:Int) * q.den).natAbs < 10 ^ 18:=mul_lt (a:=9) (b:=9) (by rw [den_nat];exact p2) (by rw [den_nat];exact q2)
   have e1:IntKind.i64.wrap (p.num * q.den)=p.num * q.den:=IntWalk.i64_in _ (by omega)
   have e2:IntKind.i64.wrap (q.num * p.den)=q.num * p.den:=IntWalk.i64_in _ (by omega)
   have e3:IntKind.i64.wrap (p.num * q.den+q.num * p.den)=p.num * q.den+q.num * p.den:=IntWalk.i64_in _ (by omega)
   have e4:IntKind.i64.wrap ((p.den:Int) * q.den)=(p.den:Int) * q.den:=IntWalk.i64_in _ (by omega)
   go_wp2_with fail
   refine (HQ.out _ (by omega) (by omega)).mono ?_
   rintro e w3 ⟨r,hr,rfl,hB3⟩
   rw [HRA.out] at hr
   have HR:=Lib.hid hr
   have hb3:=below_trans' hb2 hB3
   clear hr hB3 m1 m2 m3 e1 e2 e3 e4
   go_wp2_with fail
   go_ret2
   exact ⟨r,HR.out,rfl,hb3⟩
  ·clear p1 p2
   go_wp2_with fail
   refine (HP1.out _).mono ?_
   rintro e w3 ⟨u,v,hu,hv,rfl,hB3⟩
   have hb3:=below_trans' hb2 hB3
   clear hB3 hb2
   go_wp2_with fail
   refine (HP2.out _).mono ?_
   rintro e w4 ⟨x,y,hx,hy,rfl,hB4⟩
   have hb4:=below_trans' hb3 hB4
   clear hB4 hb3
   go_wp2_with fail
   refine (HPR.out u v x y _ hb4 hu.out hv.out hx.out hy.out).mono ?_
   rintro e w5 ⟨m,n,hm,hn,rfl,hB5⟩
   have HM:=Lib.hid hm
   have HN:=Lib.hid hn
   have hb5:=below_trans' hb4 hB5
   clear hm hn hB5 hb4
   go_wp2_with fail
   refine (HPD.out v y _ hb5 hv.out hy.out).mono ?_
   rintro e w6 ⟨z,o,hz,ho,rfl,hB6⟩
   have HZ:=Lib.hid hz
   have ho0:(o.toList == [49])=true:=eq_of_list (m:=[49]) (by rw [ho];exact itoa_one)
   have ho1:(o.toList != [49])=false:=by rw [bne,ho0];rfl
   have hb6:=below_trans' hb5 hB6
   clear hz ho hB6 hb5
   go_wp2_with fail
   refine (HAD.out m n _ hb6 HM.out HN.out).mono ?_
   rintro e w7 ⟨k,hk,rfl,hB7⟩
   have HK:=Lib.hid hk
   have hb7:=below_trans' hb6 hB7
   clear hk hB7 hb6
   go_wp2_with fail
   refine (HMK.out k z _ hb7 HK.out HZ.out).mono ?_
   rintro e w8 ⟨r,hr,rfl,hB8⟩
   rw [HRA.out] at hr
   have HR:=Lib.hid hr
   have hb8:=below_trans' hb7 hB8
   clear hr hB8 hb7
   go_wp2_with fail
   go_ret2
   exact ⟨r,HR.out,rfl,hb8⟩
 ·go_wp2_with fail
  refine (HI2.out _).mono ?_
  rintro e w2 ⟨b2,hc2,hB2⟩
  have hb2:=below_trans' hB1 hB2
  clear hB1 hB2
  obtain ⟨i1,i2,rfl⟩:∃ i1 i2:Int,e=.returned (.tuple #[.int .i64 i1,.int .i64 i2,.bool b2]):=by
   rcases hc2 with ⟨rfl,rfl,_,_⟩|⟨rfl,rfl⟩
   ·exact ⟨_,_,rfl⟩
   ·exact ⟨_,_,rfl⟩
  clear hc2
  go_wp2_with fail
  refine (HP1.out _).mono ?_
  rintro e w3 ⟨u,v,hu,hv,rfl,hB3⟩
  have hb3:=below_trans' hb2 hB3
  clear hB3 hb2
  go_wp2_with fail
  refine (HP2.out _).mono ?_
  rintro e w4 ⟨x,y,hx,hy,rfl,hB4⟩
  have hb4:=below_trans' hb3 hB4
  clear hB4 hb3
  go_wp2_with fail
  refine (HPR.out u v x y _ hb4 hu.out hv.out hx.out hy.out).mono ?_
  rintro e w5 ⟨m,n,hm,hn,rfl,hB5⟩
  have HM:=Lib.hid hm
  have HN:=Lib.hid hn
  have hb5:=below_trans' hb4 hB5
  clear hm hn hB5 hb4
  go_wp2_with fail
  refine (HPD.out v y _ hb5 hv.out hy.out).mono ?_
  rintro e w6 ⟨z,o,hz,ho,rfl,hB6⟩
  have HZ:=Lib.hid hz
  have ho0:(o.toList == [49])=true:=eq_of_list (m:=[49]) (by rw [ho];exact itoa_one)
  have ho1:(o.toList != [49])=false:=by rw [bne,ho0];rfl
  have hb6:=below_trans' hb5 hB6
  clear hz ho hB6 hb5
  go_wp2_with fail
  refine (HAD.out m n _ hb6 HM.out HN.out).mono ?_
  rintro e w7 ⟨k,hk,rfl,hB7⟩
  have HK:=Lib.hid hk
  have hb7:=below_trans' hb6 hB7
  clear hk hB7 hb6
  go_wp2_with fail
  refine (HMK.out k z _ hb7 HK.out HZ.out).mono ?_
  rintro e w8 ⟨r,hr,rfl,hB8⟩
  rw [HRA.out] at hr
  have HR:=Lib.hid hr
  have hb8:=below_trans' hb7 hB8
  clear hr hB8 hb7
  go_wp2_with fail
  go_ret2
  exact ⟨r,HR.out,rfl,hb8⟩
theorem RAdd02_q {a b:Nat} {p q:Rat} (s t:ByteArray) (w:World) (hG:Glo w) (hs:s.data.toList=ratText p) (hp:Sz a p) (ht:t.data.toList=ratText q) (hq:Sz b q) (hab:a+b+1≤300) :
  Calls Tryz.prog 56 #[.string s,.string t] w (RetN (p+q) w):=by
 have H1:=Lib.hid (fun W (hB:Below w.heap.size w W)=>rcheck02_q s t W (hG.below hB) hs hp (by omega) ht hq (by omega))
 have H2:=Lib.hid (fun W (hB:Below w.heap.size w W)=>radd_q s t W (hG.below hB) hs hp ht hq hab)
 clear hs ht hp hq hG
 go_enter Tryz.func56,Tryz.ntmps56
 go_wp2_with fail
 refine (H1.out _ (bw0 _ _)).mono ?_
 rintro e w1 ⟨rfl,hB1⟩
 go_wp2_with fail
 refine (H2.out _ hB1).mono ?_
 rintro e w2 ⟨r,hr,rfl,hB2⟩
 have HR:=Lib.hid hr
 have hb2:=below_trans' hB1 hB2
 clear hr hB1 hB2
 go_wp2_with fail
 go_ret2
 exact ⟨r,HR.out,rfl,hb2⟩
theorem ratText_neg {q:Rat} (h:q.num < 0):ratText q=45::ratText (-q):=by
 have h1:minusB q=true:=by unfold minusB;simpa using h
 have h2:minusB (-q)=false:=by unfold minusB;rw [Rat.neg_num];simp;omega
 rw [ratText_own q,ratText_own (-q),h1,h2]
 unfold tailTxt
 rw [Rat.neg_num,Rat.neg_den,Int.natAbs_neg]
 rfl
theorem Sz.neg {k:Nat} {q:Rat} (h:Sz k q):Sz k (-q):=⟨by rw [Rat.neg_num,Int.natAbs_neg];exact h.1,by rw [Rat.neg_den];exact h.2⟩
theorem rnegative_q {k:Nat} {q:Rat} (s:ByteArray) (w:World) (hs:s.data.toList=ratText q) (hq:Sz k q) (hk:k≤300) :
  Calls Tryz.prog 116 #[.string s] w (RetS (ratText (-q)) w):=by
 have hz:=txt_size hs hq hk
 rcases Int.lt_trichotomy q.num 0 with h|h|h
 ·have ht:=ratText_neg h
  rw [← hs] at ht
  have h0:0 < s.size:=by rw [sizeL,ht];simp
  have h45:((s[0].toNat:Int) == 45)=true:=headq45' h0 (by rw [ht];rfl)
  have h48:(s.toList == [48])=false:=by rw [Lib.toList_data,ht];rfl
  have HT:=Lib.hid ht
  have hI:(0:Int) < (s.size:Int):=by omega
  clear hs ht h hq
  go_enter Tryz.func116,Tryz.ntmps116
  go_wp2_with fail
  go_ret
  refine ⟨_,?_,rfl,qbl⟩
  rw [extract_drop,HT.out]
  rfl
 ·have hq0:q=0:=Rat.num_eq_zero.1 h
  subst hq0
  have h48:(s.toList == [48])=true:=by rw [Lib.toList_data,hs];decide +kernel
  have HS:Hid (s.data.toList=ratText (-0)):=Lib.hid (by rw [hs,Rat.neg_zero])
  clear hs h hq
  go_enter Tryz.func116,Tryz.ntmps116
  go_wp2_with fail
  go_ret
  exact ⟨s,HS.out,rfl,qbl⟩
 ·have ht:ratText (-q)=45::ratText q:=by
   have:=ratText_neg (q:=-q) (by rw [Rat.neg_num];omega)
   rwa [Rat.neg_neg] at this
  have h48:(s.toList == [48])=false:=ne_of_list hs (ratText_ne48 (fun e=>by rw [e] at h;simp at h))
  have h0:0 < s.size:=by rw [sizeL,hs];exact List.length_pos_iff.2 (ratText_ne_nil q)
  have h45:((s[0].toNat:Int) == 45)=false:=by
   refine Bool.eq_false_iff.2 fun h'=>?_
   have:=headq45 h0 h'
   rw [hs] at this
   exact ratText_head (by omega) this
  have HT:Hid (ratText (-q)=45::s.data.toList):=Lib.hid (by rw [ht,hs])
  have hI:(0:Int) < (s.size:Int):=by omega
  clear hs ht h hq
  go_enter Tryz.func116,Tryz.ntmps116
  go_wp2_with fail
  go_ret
  refine ⟨_,?_,rfl,qbl⟩
  rw [HT.out]
  simp
theorem RSub02_q {a b:Nat} {p q:Rat} (s t:ByteArray) (w:World) (hG:Glo w) (hs:s.data.toList=ratText p) (hp:Sz a p) (ht:t.data.toList=ratText q) (hq:Sz b q) (hab:a+b+1≤300) :
  Calls Tryz.prog 55 #[.string s,.string t] w (RetN (p - q) w):=by
 have H1:=Lib.hid (fun W (hB:Below w.heap.size w W)=>rcheck02_q s t W (hG.below hB) hs hp (by omega) ht hq (by omega))
 have H3:=Lib.hid (fun W=>rnegative_q t W ht hq (by omega))
 have H2:=Lib.hid (fun (u:ByteArray) W (hB:Below w.heap.size w W) hu=>radd_q (q:=-q) s u W (hG.below hB) hs hp hu hq.neg hab)
 have HE:=Lib.hid (Rat.sub_eq_add_neg p q)
 clear hs ht hp hq hG
 go_enter Tryz.func55,Tryz.ntmps55
 go_wp2_with fail
 refine (H1.out _ (bw0 _ _)).mono ?_
 rintro e w1 ⟨rfl,hB1⟩
 go_wp2_with fail
 refine (H3.out _).mono ?_
 rintro e w2 ⟨u,hu,rfl,hB2⟩
 have HU:=Lib.hid hu
 have hb2:=below_trans' hB1 hB2
 clear hu hB1 hB2
 go_wp2_with fail
 refine (H2.out u _ hb2 HU.out).mono ?_
 rintro e w3 ⟨r,hr,rfl,hB3⟩
 rw [← HE.out] at hr
 have HR:=Lib.hid hr
 have hb3:=below_trans' hb2 hB3
 clear hr hB3
 go_wp2_with fail
 go_ret2
 exact ⟨r,HR.out,rfl,hb3⟩
theorem rmul_q {n d m c:Int} (s1 s2 s3 s4:ByteArray) (w:World) (hG:Glo w) (h1:s1.data.toList=Lib.itoa n) (h2:s2.data.toList=Lib.itoa d) (h3:s3.data.toList=Lib.itoa m) (h4:s4.data.toList=Lib.itoa c) (f1:Fit n) (f2:Fit d) (f3:Fit m) (f4:Fit c) (fnm:Fit (n * m)) (fdc:Fit (d * c)) (hpos:0 < d * c) :
  Calls Tryz.prog 139 #[.string s1,.string s2,.string s3,.string s4] w (RetN (Rat.divInt (n * m) (d * c)) w):=by
 have HP:=Lib.hid (fun W (hB:Below w.heap.size w W)=>products_ok s1 s3 s2 s4 W (hG.below hB) h1 h3 h2 h4 f1 f3 f2 f4 fnm fdc)
 have HM:=Lib.hid (fun (x y:ByteArray) W (hB:Below w.heap.size w W) h1 h2=>make2_ok (n:=n * m) (d:=d * c) x y W (hG.below hB) h1 fnm h2 fdc hpos)
 clear h1 h2 h3 h4 f1 f2 f3 f4 fnm fdc hpos hG
 go_enter Tryz.func139,Tryz.ntmps139
 go_wp2_with fail
 refine (HP.out _ (bw0 _ _)).mono ?_
 rintro e w1 ⟨x,y,hx,hy,rfl,hB1⟩
 have HX:=Lib.hid hx
 have HY:=Lib.hid hy
 clear hx hy
 go_wp2_with fail
 refine (HM.out x y _ hB1 HX.out HY.out).mono ?_
 rintro e w2 ⟨r,hr,rfl,hB2⟩
 have HR:=Lib.hid hr
 have hb2:=below_trans' hB1 hB2
 clear hr hB1 hB2
 go_wp2_with fail
 go_ret2
 exact ⟨r,HR.out,rfl,hb2⟩
theorem RDiv02_q {a b:Nat} {p q:Rat} (s t:ByteArray) (w:World) (hG:Glo w) (hs:s.data.toList=ratText p) (hp:Sz a p) (ht:t.data.toList=ratText q) (hq:Sz b q) (hab:a+b≤300) (h0:0 < q.num) :
  Calls Tryz.prog 77 #[.string s,.string t] w (RetN (p / q) w):=by
 have HCK:=Lib.hid (fun W (hB:Below w.heap.size w W)=>rcheck02_q s t W (hG.below hB) hs hp (by omega) ht hq (by omega))
 have HI1:=Lib.hid (fun W=>rints_q s W hs hp (by omega))
 have HI2:=Lib.hid (fun W=>rints_q t W ht hq (by omega))
 have HP1:=Lib.hid (fun W=>rparts_q s W hs hp (by omega))
 have HP2:=Lib.hid (fun W=>rparts_q t W ht hq (by omega))
 have hpn:=hp.fn (show a≤300 by omega)
 have hpd:=hp.fd (show a≤300 by omega)
 have hqn:=hq.fn (show b≤300 by omega)
 have hqd:=hq.fd (show b≤300 by omega)
 have fn:=fit_mul (x:=p.num) (y:=(q.den:Int)) hp.1 (by rw [den_nat];exact hq.2) hab
 have fd:Fit ((p.den:Int) * q.num):=fit_mul (x:=(p.den:Int)) (y:=q.num) (by rw [den_nat];exact hp.2) hq.1 hab
 have hpos:0 < (p.den:Int) * q.num:=Int.mul_pos (by have:=p.den_pos;omega) h0
 have hq0:q≠0:=fun h=>by rw [h] at h0;simp at h0
 have hne:(t.toList == [48])=false:=ne_of_list ht (ratText_ne48 hq0)
 have HML:=Lib.hid (fun (u v x y:ByteArray) W (hB:Below w.heap.size w W) h1 h2 h3 h4=>rmul_q (n:=p.num) (d:=p.den) (m:=q.den) (c:=q.num) u v y x W (hG.below hB) h1 (den_text h2) (den_text h4) h3 hpn hpd hqd hqn fn fd hpos)
 have HQ:=Lib.hid (fun W (hn:(p.num * q.den).natAbs≤4000000000000000000) (hd:(p.den:Int) * q.num≤4000000000000000000)=>(quick02_ok (p.num * q.den) ((p.den:Int) * q.num) W hpos hn hd))
 have HRA:=Lib.hid (show Rat.divInt (p.num * q.den) ((p.den:Int) * q.num)=p / q by rw [Int.mul_comm (p.den:Int)];exact rat_div p q)
 have hn0:¬ q.num < 0:=by omega
 clear hs ht hp hq hG fn fd hpn hpd hqn hqd hq0 hpos
 go_enter Tryz.func77,Tryz.ntmps77
 go_wp2_with fail
 refine (HCK.out _ (bw0 _ _)).mono ?_
 rintro e w0 ⟨rfl,hB0⟩
 go_wp2_with fail
 refine (HI1.out _).mono ?_
 rintro e w1 ⟨b1,hc1,hB1⟩
 have hb1:=below_trans' hB0 hB1
 clear hB0 hB1
 rcases hc1 with ⟨rfl,rfl,p1,p2⟩|⟨rfl,rfl⟩
 ·go_wp2_with fail
  refine (HI2.out _).mono ?_
  rintro e w2 ⟨b2,hc2,hB2⟩
  have hb2:=below_trans' hb1 hB2
  clear hb1 hB2
  rcases hc2 with ⟨rfl,rfl,q1,q2⟩|⟨rfl,rfl⟩
  ·have m1:(p.num * q.den).natAbs < 10 ^ 18:=mul_lt (a:=9) (b:=9) p1 (by rw [den_nat];exact q2)
   have m3:((p.den:Int) * q.num).natAbs < 10 ^ 18:=mul_lt (a:=9) (b:=9) (by rw [den_nat];exact p2) q1
   have e1:IntKind.i64.wrap (p.num * q.den)=p.num * q.den:=IntWalk.i64_in _ (by omega)
   have e4:IntKind.i64.wrap ((p.den:Int) * q.num)=(p.den:Int) * q.num:=IntWalk.i64_in _ (by omega)
   go_wp2_with fail
   refine (HQ.out _ (by omega) (by omega)).mono ?_
   rintro e w5 ⟨r,hr,rfl,hB5⟩
   rw [HRA.out] at hr
   have HR:=Lib.hid hr
   have hb5:=below_trans' hb2 hB5
   clear hr hB5
   go_wp2_with fail
   go_ret2
   exact ⟨r,HR.out,rfl,hb5⟩
  ·clear p1 p2
   go_wp2_with fail
   refine (HP1.out _).mono ?_
   rintro e w3 ⟨u,v,hu,hv,rfl,hB3⟩
   have hb3:=below_trans' hb2 hB3
   clear hB3 hb2
   go_wp2_with fail
   refine (HP2.out _).mono ?_
   rintro e w4 ⟨x,y,hx,hy,rfl,hB4⟩
   have hb4:=below_trans' hb3 hB4
   clear hB4 hb3
   go_wp2_with fail
   refine (HML.out u v x y _ hb4 hu.out hv.out hx.out hy.out).mono ?_
   rintro e w5 ⟨r,hr,rfl,hB5⟩
   rw [HRA.out] at hr
   have HR:=Lib.hid hr
   have hb5:=below_trans' hb4 hB5
   clear hr hB5
   go_wp2_with fail
   go_ret2
   exact ⟨r,HR.out,rfl,hb5⟩
 ·go_wp2_with fail
  refine (HI2.out _).mono ?_
  rintro e w2 ⟨b2,hc2,hB2⟩
  have hb2:=below_trans' hb1 hB2
  clear hb1 hB2
  obtain ⟨i1,i2,rfl⟩:∃ i1 i2:Int,e=.returned (.tuple #[.int .i64 i1,.int .i64 i2,.bool b2]):=by
   rcases hc2 with ⟨rfl,rfl,_,_⟩|⟨rfl,rfl⟩
   ·exact ⟨_,_,rfl⟩
   ·exact ⟨_,_,rfl⟩
  clear hc2
  go_wp2_with fail
  refine (HP1.out _).mono ?_
  rintro e w3 ⟨u,v,hu,hv,rfl,hB3⟩
  have hb3:=below_trans' hb2 hB3
  clear hB3 hb2
  go_wp2_with fail
  refine (HP2.out _).mono ?_
  rintro e w4 ⟨x,y,hx,hy,rfl,hB4⟩
  have hb4:=below_trans' hb3 hB4
  clear hB4 hb3
  go_wp2_with fail
  refine (HML.out u v x y _ hb4 hu.out hv.out hx.out hy.out).mono ?_
  rintro e w5 ⟨r,hr,rfl,hB5⟩
  rw [HRA.out] at hr
  have HR:=Lib.hid hr
  have hb5:=below_trans' hb4 hB5
  clear hr hB5
  go_wp2_with fail
  go_ret2
  exact ⟨r,HR.out,rfl,hb5⟩
theorem RCompare02_q {a b:Nat} {p q:Rat} (s t:ByteArray) (w:World) (hG:Glo w) (hs:s.data.toList=ratText p) (hp:Sz a p) (ht:t.data.toList=ratText q) (hq:Sz b q) (hab:a+b≤300) :
  Calls Tryz.prog 80 #[.string s,.string t] w (RetB (.tuple #[.int .i64 (Lib.compareInt (p.num * q.den) (q.num * p.den)),.int .i64 0]) w):=by
 have HCK:=Lib.hid (fun W (hB:Below w.heap.size w W)=>rcheck02_q s t W (hG.below hB) hs hp (by omega) ht hq (by omega))
 have HI1:=Lib.hid (fun W=>rints_q s W hs hp (by omega))
 have HI2:=Lib.hid (fun W=>rints_q t W ht hq (by omega))
 have HP1:=Lib.hid (fun W=>rparts_q s W hs hp (by omega))
 have HP2:=Lib.hid (fun W=>rparts_q t W ht hq (by omega))
 have hpn:=hp.fn (show a≤300 by omega)
 have hpd:=hp.fd (show a≤300 by omega)
 have hqn:=hq.fn (show b≤300 by omega)
 have hqd:=hq.fd (show b≤300 by omega)
 have f1:=fit_mul (x:=p.num) (y:=(q.den:Int)) hp.1 (by rw [den_nat];exact hq.2) hab
 have f2:=fit_mul (x:=q.num) (y:=(p.den:Int)) hq.1 (by rw [den_nat];exact hp.2) (show b+a≤300 by omega)
 have HPR:=Lib.hid (fun (u v x y:ByteArray) W (hB:Below w.heap.size w W) h1 h2 h3 h4=>products_ok (a:=p.num) (b:=q.den) (c:=q.num) (d:=p.den) u y x v W (hG.below hB) h1 (den_text h4) h3 (den_text h2) hpn hqd hqn hpd f1 f2)
 have HCM:=Lib.hid (fun (x y:ByteArray) W (hB:Below w.heap.size w W) h1 h2=>R6.Compare6_ok (x:=p.num * q.den) (y:=q.num * p.den) x y W (hG.below hB) h1 f1 h2 f2)
 clear hs ht hp hq hG f1 f2 hpn hpd hqn hqd
 go_enter Tryz.func80,Tryz.ntmps80
 go_wp2_with fail
 refine (HCK.out _ (bw0 _ _)).mono ?_
 rintro e w0 ⟨rfl,hB0⟩
 go_wp2_with fail
 refine (HI1.out _).mono ?_
 rintro e w1 ⟨b1,hc1,hB1⟩
 have hb1:=below_trans' hB0 hB1
 clear hB0 hB1
 rcases hc1 with ⟨rfl,rfl,p1,p2⟩|⟨rfl,rfl⟩
 ·go_wp2_with fail
  refine (HI2.out _).mono ?_
  rintro e w2 ⟨b2,hc2,hB2⟩
  have hb2:=below_trans' hb1 hB2
  clear hb1 hB2
  rcases hc2 with ⟨rfl,rfl,q1,q2⟩|⟨rfl,rfl⟩
  ·have m1:(p.num * q.den).natAbs < 10 ^ 18:=mul_lt (a:=9) (b:=9) p1 (by rw [den_nat];exact q2)
   have m2:(q.num * p.den).natAbs < 10 ^ 18:=mul_lt (a:=9) (b:=9) q1 (by rw [den_nat];exact p2)
   have e1:IntKind.i64.wrap (p.num * q.den)=p.num * q.den:=IntWalk.i64_in _ (by omega)
   have e2:IntKind.i64.wrap (q.num * p.den)=q.num * p.den:=IntWalk.i64_in _ (by omega)
   by_cases h1:p.num * (q.den:Int) < q.num * (p.den:Int)
   ·have HC:=Lib.hid (show Lib.compareInt (p.num * (q.den:Int)) (q.num * (p.den:Int))=-1 by unfold Lib.compareInt;rw [if_pos h1])
    go_wp2_with fail
    go_ret2
    exact ⟨by rw [HC.out];rfl,hb2⟩
   ·by_cases h2:q.num * (p.den:Int) < p.num * (q.den:Int)
    ·have HC:=Lib.hid (show Lib.compareInt (p.num * (q.den:Int)) (q.num * (p.den:Int))=1 by unfold Lib.compareInt;rw [if_neg h1,if_pos h2])
     go_wp2_with fail
     go_ret2
     exact ⟨by rw [HC.out];rfl,hb2⟩
    ·have HC:=Lib.hid (show Lib.compareInt (p.num * (q.den:Int)) (q.num * (p.den:Int))=0 by unfold Lib.compareInt;rw [if_neg h1,if_neg h2])
     go_wp2_with fail
     go_ret2
     exact ⟨by rw [HC.out];rfl,hb2⟩
  ·clear p1 p2
   go_wp2_with fail
   refine (HP1.out _).mono ?_
   rintro e w3 ⟨u,v,hu,hv,rfl,hB3⟩
   have hb3:=below_trans' hb2 hB3
   clear hB3 hb2
   go_wp2_with fail
   refine (HP2.out _).mono ?_
   rintro e w4 ⟨x,y,hx,hy,rfl,hB4⟩
   have hb4:=below_trans' hb3 hB4
   clear hB4 hb3
   go_wp2_with fail
   refine (HPR.out u v x y _ hb4 hu.out hv.out hx.out hy.out).mono ?_
   rintro e w5 ⟨m,n,hm,hn,rfl,hB5⟩
   have HM:=Lib.hid hm
   have HN:=Lib.hid hn
   have hb5:=below_trans' hb4 hB5
   clear hm hn hB5 hb4
   go_wp2_with fail
   refine (HCM.out m n _ hb5 HM.out HN.out).mono ?_
   rintro e w6 ⟨rfl,hB6⟩
   have hb6:=below_trans' hb5 hB6
   clear hB6 hb5
   generalize Lib.compareInt (p.num * (q.den:Int)) (q.num * (p.den:Int))=cc at *
   go_wp2_with fail
   go_ret2
   exact ⟨rfl,hb6⟩
 ·go_wp2_with fail
  refine (HI2.out _).mono ?_
  rintro e w2 ⟨b2,hc2,hB2⟩
  have hb2:=below_trans' hb1 hB2
  clear hb1 hB2
  obtain ⟨i1,i2,rfl⟩:∃ i1 i2:Int,e=.returned (.tuple #[.int .i64 i1,.int .i64 i2,.bool b2]):=by
   rcases hc2 with ⟨rfl,rfl,_,_⟩|⟨rfl,rfl⟩
   ·exact ⟨_,_,rfl⟩
   ·exact ⟨_,_,rfl⟩
  clear hc2
  go_wp2_with fail
  refine (HP1.out _).mono ?_
  rintro e w3 ⟨u,v,hu,hv,rfl,hB3⟩
  have hb3:=below_trans' hb2 hB3
  clear hB3 hb2
  go_wp2_with fail
  refine (HP2.out _).mono ?_
  rintro e w4 ⟨x,y,hx,hy,rfl,hB4⟩
  have hb4:=below_trans' hb3 hB4
  clear hB4 hb3
  go_wp2_with fail
  refine (HPR.out u v x y _ hb4 hu.out hv.out hx.out hy.out).mono ?_
  rintro e w5 ⟨m,n,hm,hn,rfl,hB5⟩
  have HM:=Lib.hid hm
  have HN:=Lib.hid hn
  have hb5:=below_trans' hb4 hB5
  clear hm hn hB5 hb4
  go_wp2_with fail
  refine (HCM.out m n _ hb5 HM.out HN.out).mono ?_
  rintro e w6 ⟨rfl,hB6⟩
  have hb6:=below_trans' hb5 hB6
  clear hB6 hb5
  generalize Lib.compareInt (p.num * (q.den:Int)) (q.num * (p.den:Int))=cc at *
  go_wp2_with fail
  go_ret2
  exact ⟨rfl,hb6⟩
end Go.Proofs.YteepphiomcedfaaGreatDoor
