/- Joined texts: WCutAny, WReadAny, W6i, W6j, W6k, W6l, W6m, W6n, W02d, W02h, WCodes, WRightS, WCheckF, WTerms, WTRow, SurdPlain, SurdStep, GathPlain, WBox2, ValPlain, ValSign. -/
import Derived.Test.YthihcjgmlbnapaaGreatDoorJ10
import Derived.Test.YthihcjgmlbnapaaGreatDoorJ09
import Derived.Test.YthihcjgmlbnapaaGreatDoorJ05
import Derived.OwnWalk
import Derived.Maps.AppendAt
import Derived.Test.YthihcjgmlbnapaaGreatDoorJ01
import Derived.Laws.Tables
import Derived.Great.BuildSlice
set_option maxRecDepth 100000
set_option linter.unusedVariables false
set_option linter.unusedSimpArgs false
set_option maxHeartbeats 12800000
namespace Go.Proofs.YthihcjgmlbnapaaGreatDoor
open Go.RowKit
def Form (s:ByteArray) (m:Bool) (x y:Nat):Prop:=s.data.toList=(if m then [45] else [])++(Lib.decDigits x++if y=1 then [] else 47::Lib.decDigits y)∧1≤y∧(m=true→x≠0)
def RetForm (s:ByteArray) (w:World) (e:Ending) (w':World):Prop:=(e=.returned (.tuple #[.agg #[.string ⟨#[]⟩,.string ⟨#[]⟩],.bool false])∨∃ (m:Bool) (x y:Nat) (a b:ByteArray),Hid (Form s m x y)∧Hid (a.data.toList=(if m then [45] else [])++Lib.decDigits x)∧Hid (b.data.toList=Lib.decDigits y)∧e=.returned (.tuple #[.agg #[.string a,.string b],.bool true]))∧Below w.heap.size w w'
theorem cut_gen (s:ByteArray) (w:World) (hG:Glo w) (hl:s.size≤1000):Calls Tryz.prog 99 #[.string s] w (RetForm s w):=by
 have HG:=Lib.hid hG
 obtain ⟨A,B,c,hc,hs⟩:=cut_spec s.data.toList
 obtain ⟨O,n,ht,hp,hA⟩:=minus_spec A
 have hAl:A.length+(if c then B.length+1 else 0)=s.size:=by
  have e:s.size=s.data.toList.length:=rfl
  rw [e]
  conv=>rhs;rw [hs]
  cases c<;>simp
 have hOl:O.length≤A.length:=by rw [hA];simp
 have HC:=Lib.hid hc
 have HS:=Lib.hid hs
 have HT:=Lib.hid ht
 have HP:=Lib.hid hp
 have HA:=Lib.hid hA
 clear hG hc hs ht hp hA
 go_enter Tryz.func99,Tryz.ntmps99
 go_wp2_with fail
 refine (cut_any _ _ _ (HG.out.below qbl) (by omega) HC.out).mono ?_
 rintro e w1 ⟨a,b,ha,hb,rfl,n1,rfl⟩
 have hx:=HT.out
 have hy:=HP.out
 rw [← ha.out] at hx hy
 have HX:=Lib.hid hx
 have HY:=Lib.hid hy
 have hasz:a.size=A.length:=by rw [← ha.out];rfl
 have hbsz:b.size=B.length:=by rw [← hb.out];rfl
 clear hx hy
 go_wp2_with fail
 refine (cutPrefix_any a _ _ HX.out HY.out).mono ?_
 rintro e w2 ⟨o,ho,rfl,rfl⟩
 have hosz:o.size=O.length:=by rw [← ho.out];rfl
 obtain ⟨k,hk⟩:∃ k,digs o.data.toList=k:=⟨_,rfl⟩
 have HDO:=Lib.hid (fun W=>digits_any o W (by unfold maxLen;cases c<;>simp at hAl<;>omega))
 rw [hk] at HDO
 have HK:=Lib.hid hk
 have hkle:k≤o.size:=by rw [← hk];exact digs_le _
 clear hk
 go_wp2_with fail
 refine (HDO.out _).mono ?_
 rintro e w3 ⟨rfl,n2,rfl⟩
 by_cases hk0:k=0
 ·subst hk0
  go_wp2_with fail
  refine bodyPost_ret (v:=.tuple #[.agg #[.string ⟨#[]⟩,.string ⟨#[]⟩],.bool false]) (by simp [results,Tryz.results99,go_sem]) rfl ⟨.inl rfl,qbl⟩
 ·have hkz:((k:Int) == 0)=false:=by rw [beq_eq_false_iff_ne];omega
  by_cases hkl:k < o.size
  ·have hkI:(k:Int) < (o.size:Int):=by omega
   go_wp2_with fail
   refine bodyPost_ret (v:=.tuple #[.agg #[.string ⟨#[]⟩,.string ⟨#[]⟩],.bool false]) (by simp [results,Tryz.results99,go_sem]) rfl ⟨.inl rfl,qbl⟩
  ·have hkI:¬ (k:Int) < (o.size:Int):=by omega
   have HO:Hid (o.data.toList=Lib.decDigits (dval o.data.toList)):=Lib.hid (dec_of_digs (by rw [HK.out];exact hk0) (by rw [HK.out];exact hkl)).symm
   obtain ⟨z,hz⟩:∃ z,(o.toList == [48])=z:=⟨_,rfl⟩
   have HZ:=Lib.hid hz
   have hAD:Hid (a.data.toList=(if n then [45] else [])++Lib.decDigits (dval o.data.toList)):=Lib.hid (by rw [← HO.out,ho.out,ha.out];exact HA.out)
   by_cases hnz:n=true∧z=true
   ·obtain ⟨rfl,rfl⟩:=hnz
    go_wp2_with fail
    refine bodyPost_ret (v:=.tuple #[.agg #[.string ⟨#[]⟩,.string ⟨#[]⟩],.bool false]) (by simp [results,Tryz.results99,go_sem]) rfl ⟨.inl rfl,qbl⟩
   ·have HM:Hid (n=true→dval o.data.toList≠0):=Lib.hid (fun hn h0=>hnz ⟨hn,by rw [← HZ.out,beq_iff_eq,Lib.toList_data,HO.out,h0];exact dec_zero_iff.2 rfl⟩)
    have hcase:(n=false)∨(n=true∧z=false):=by
     cases n
     ·exact .inl rfl
     ·cases z
      ·exact .inr ⟨rfl,rfl⟩
      ·exact absurd ⟨rfl,rfl⟩ hnz
    clear hnz
    cases c
    ·have HF:Hid (Form s n (dval o.data.toList) 1):=Lib.hid ⟨by rw [HS.out,if_neg (by decide),List.append_nil,if_pos rfl,List.append_nil,← hAD.out,ha.out],by omega,HM.out⟩
     rcases hcase with rfl|⟨rfl,rfl⟩
     ·go_wp2_with fail
      refine bodyPost_ret (v:=.tuple #[.agg #[.string a,.string ⟨#[49]⟩],.bool true]) (by simp [results,Tryz.results99,go_sem]) rfl ⟨.inr ⟨_,_,_,a,⟨#[49]⟩,HF,hAD,Lib.hid one_digits.symm,rfl⟩,qbl⟩
     ·go_wp2_with fail
      refine bodyPost_ret (v:=.tuple #[.agg #[.string a,.string ⟨#[49]⟩],.bool true]) (by simp [results,Tryz.results99,go_sem]) rfl ⟨.inr ⟨_,_,_,a,⟨#[49]⟩,HF,hAD,Lib.hid one_digits.symm,rfl⟩,qbl⟩
    ·have HDB:=Lib.hid (fun W=>digits_any b W (by unfold maxLen;simp at hAl;omega))
     obtain ⟨k2,hk2⟩:∃ k,digs b.data.toList=k:=⟨_,rfl⟩
     rw [hk2] at HDB
     have HK2:=Lib.hid hk2
     have hkle2:k2≤b.size:=by rw [← hk2];exact digs_le _
     have hbl:b.size≤1000:=by simp at hAl;omega
     obtain ⟨z0,hz0⟩:∃ z,(b.toList == [48])=z:=⟨_,rfl⟩
     obtain ⟨z1,hz1⟩:∃ z,(b.toList == [49])=z:=⟨_,rfl⟩
     have HZ0:=Lib.hid hz0
     have HZ1:=Lib.hid hz1
     have HF:Hid (k2≠0→¬ k2 < b.size→z0=false→z1=false→Form s n (dval o.data.toList) (dval b.data.toList)∧b.data.toList=Lib.decDigits (dval b.data.toList)):=Lib.hid (fun h1 h2 h3 h4=>by
      have hB:b.data.toList=Lib.decDigits (dval b.data.toList):=(dec_of_digs (by rw [HK2.out];exact h1) (by rw [HK2.out];exact h2)).symm
      have n0:dval b.data.toList≠0:=fun h0=>by
       have:=HZ0.out
       rw [h3,Lib.toList_data,hB,h0,dec_zero_iff.2 rfl] at this
       exact absurd this (by decide)
      have n1:dval b.data.toList≠1:=fun h0=>by
       have:=HZ1.out
       rw [h4,Lib.toList_data,hB,h0,dec_one_iff.2 rfl] at this
       exact absurd this (by decide)
      exact ⟨⟨by rw [HS.out,if_pos rfl,if_neg n1,← hB,hb.out,← List.append_assoc,← hAD.out,ha.out],by omega,HM.out⟩,hB⟩)
     clear hk2
     rcases hcase with rfl|⟨rfl,rfl⟩
     ·go_wp2_with fail
      refine (HDB.out _).mono ?_
      rintro e w4 ⟨rfl,n3,rfl⟩
      by_cases hk0:k2=0
      ·subst hk0
       go_wp2_with fail
       refine bodyPost_ret (v:=.tuple #[.agg #[.string ⟨#[]⟩,.string ⟨#[]⟩],.bool false]) (by simp [results,Tryz.results99,go_sem]) rfl ⟨.inl rfl,qbl⟩
      ·have hkz2:((k2:Int) == 0)=false:=by rw [beq_eq_false_iff_ne];omega
       by_cases hkl2:k2 < b.size
       ·have hkI2:(k2:Int) < (b.size:Int):=by omega
        go_wp2_with fail
        refine bodyPost_ret (v:=.tuple #[.agg #[.string ⟨#[]⟩,.string ⟨#[]⟩],.bool false]) (by simp [results,Tryz.results99,go_sem]) rfl ⟨.inl rfl,qbl⟩
       ·have hkI2:¬ (k2:Int) < (b.size:Int):=by omega
        cases z0
        ·cases z1
         ·obtain ⟨hF,hB⟩:=HF.out hk0 hkl2 rfl rfl
          have HFF:=Lib.hid hF
          have HBB:=Lib.hid hB
          clear hF hB
          go_wp2_with fail
          refine bodyPost_ret (v:=.tuple #[.agg #[.string a,.string b],.bool true]) (by simp [results,Tryz.results99,go_sem]) rfl ⟨.inr ⟨_,_,_,a,b,HFF,hAD,HBB,rfl⟩,qbl⟩
         ·go_wp2_with fail
          refine bodyPost_ret (v:=.tuple #[.agg #[.string ⟨#[]⟩,.string ⟨#[]⟩],.bool false]) (by simp [results,Tryz.results99,go_sem]) rfl ⟨.inl rfl,qbl⟩
        ·go_wp2_with fail
         refine bodyPost_ret (v:=.tuple #[.agg #[.string ⟨#[]⟩,.string ⟨#[]⟩],.bool false]) (by simp [results,Tryz.results99,go_sem]) rfl ⟨.inl rfl,qbl⟩
     ·go_wp2_with fail
      refine (HDB.out _).mono ?_
      rintro e w4 ⟨rfl,n3,rfl⟩
      by_cases hk0:k2=0
      ·subst hk0
       go_wp2_with fail
       refine bodyPost_ret (v:=.tuple #[.agg #[.string ⟨#[]⟩,.string ⟨#[]⟩],.bool false]) (by simp [results,Tryz.results99,go_sem]) rfl ⟨.inl rfl,qbl⟩
      ·have hkz2:((k2:Int) == 0)=false:=by rw [beq_eq_false_iff_ne];omega
       by_cases hkl2:k2 < b.size
       ·have hkI2:(k2:Int) < (b.size:Int):=by omega
        go_wp2_with fail
        refine bodyPost_ret (v:=.tuple #[.agg #[.string ⟨#[]⟩,.string ⟨#[]⟩],.bool false]) (by simp [results,Tryz.results99,go_sem]) rfl ⟨.inl rfl,qbl⟩
       ·have hkI2:¬ (k2:Int) < (b.size:Int):=by omega
        cases z0
        ·cases z1
         ·obtain ⟨hF,hB⟩:=HF.out hk0 hkl2 rfl rfl
          have HFF:=Lib.hid hF
          have HBB:=Lib.hid hB
          clear hF hB
          go_wp2_with fail
          refine bodyPost_ret (v:=.tuple #[.agg #[.string a,.string b],.bool true]) (by simp [results,Tryz.results99,go_sem]) rfl ⟨.inr ⟨_,_,_,a,b,HFF,hAD,HBB,rfl⟩,qbl⟩
         ·go_wp2_with fail
          refine bodyPost_ret (v:=.tuple #[.agg #[.string ⟨#[]⟩,.string ⟨#[]⟩],.bool false]) (by simp [results,Tryz.results99,go_sem]) rfl ⟨.inl rfl,qbl⟩
        ·go_wp2_with fail
         refine bodyPost_ret (v:=.tuple #[.agg #[.string ⟨#[]⟩,.string ⟨#[]⟩],.bool false]) (by simp [results,Tryz.results99,go_sem]) rfl ⟨.inl rfl,qbl⟩
end Go.Proofs.YthihcjgmlbnapaaGreatDoor
namespace Go.Proofs.YthihcjgmlbnapaaGreatDoor
open Go.RowKit
theorem trim_sign {m:Bool} {x:Nat}:Lib.trimPrefix ((if m then [45] else [])++Lib.decDigits x) [45]=Lib.decDigits x:=by
 cases m
 ·have h:=decDigits_no45 x []
  rw [List.append_nil] at h
  rw [if_neg (by decide),List.nil_append]
  unfold Lib.trimPrefix Lib.hasPrefix
  cases hd:Lib.decDigits x with
  | nil=>rfl
  | cons a t =>
   rw [hd] at h
   rw [if_neg]
   simp [List.isPrefixOf]
   exact fun h'=>h (by rw [← h'];rfl)
 ·rw [if_pos rfl]
  simp [Lib.trimPrefix,Lib.hasPrefix,List.isPrefixOf]
theorem signed_itoa {m:Bool} {x:Nat} (h:m=true→x≠0):(if m then [45] else [])++Lib.decDigits x=Lib.itoa (if m then -(x:Int) else x):=by
 cases m
 ·rw [if_neg (by decide),if_neg (by decide),itoa_natCast];rfl
 ·have:=h rfl
  rcases itoa_cases (-(x:Int)) with ⟨h1,h2⟩|⟨h1,h2⟩
  ·rw [if_pos rfl,if_pos rfl,h2,Int.natAbs_neg];rfl
  ·omega
def RetBad (s:ByteArray) (w:World) (e:Ending) (w':World):Prop:=∃ c:Int,e=.returned (.tuple #[.agg #[.string ⟨#[]⟩,.string ⟨#[]⟩],.int .i64 c])∧c≠0∧(s.size≤20→c=11)∧Below w.heap.size w w'
theorem read_bad (s:ByteArray) (w:World) (hG:Glo w) (hs:s.size≤1000) (hno:¬ IsNum s) :
  Calls Tryz.prog 54 #[.string s] w (RetBad s w):=by
 have hn:natOf s.data.toList=none:=by
  cases h:natOf s.data.toList with
  | none=>rfl
  | some p=>exact absurd (natOf_num h) hno
 have HN:=Lib.hid hn
 have HNO:=Lib.hid hno
 have HG:=Lib.hid hG
 clear hn hno hG
 go_enter Tryz.func54,Tryz.ntmps54
 go_wp2_with fail
 refine (cut_gen s _ (HG.out.below qbl) hs).mono ?_
 rintro e w1 ⟨hcase,hB1⟩
 have c0:w1.cell? ⟨w.heap.size,0,none⟩=some (.string ⟨#[]⟩):=keep hB1 (by simp [go_sem])
 have c1:w1.cell? ⟨w.heap.size,1,none⟩=some (.string ⟨#[]⟩):=keep hB1 (by simp [go_sem])
 have g0:w1.frozen? ⟨w.heap.size,0,none⟩=false:=keepf hB1 (v:=.string ⟨#[]⟩) (by simp [go_sem]) (by simp [go_sem])
 have g1:w1.frozen? ⟨w.heap.size,1,none⟩=false:=keepf hB1 (v:=.string ⟨#[]⟩) (by simp [go_sem]) (by simp [go_sem])
 have z1:=lt_of_cell c0
 rcases hcase with rfl|⟨m,x,y,a,b,hF,ha,hb,rfl⟩
 ·go_wp2_with fail
  refine bodyPost_ret (v:=.tuple #[.agg #[.string ⟨#[]⟩,.string ⟨#[]⟩],.int .i64 11]) (by simp [results,Tryz.results54,go_sem,c0,c1,z1]) rfl ⟨11,rfl,by omega,fun _=>rfl,qbl⟩
 ·have hal:a.size+b.size≤s.size+1:=by
   have h1:s.size=s.data.toList.length:=rfl
   have h2:a.size=a.data.toList.length:=rfl
   have h3:b.size=b.data.toList.length:=rfl
   rw [h1,h2,h3,ha.out,hb.out,hF.out.1]
   by_cases hy:y=1
   ·subst hy;rw [if_pos rfl,one_digits];simp
   ·rw [if_neg hy];simp;omega
  go_wp2_with fail
  refine (nativeOf_none s _ (by omega) HN.out).mono ?_
  rintro e w2 ⟨rfl,hB2⟩
  have c0':w2.cell? ⟨w.heap.size,0,none⟩=some (.string ⟨#[]⟩):=keep hB2 (keep (bw4 (bw0 _ _) _) c0)
  have c1':w2.cell? ⟨w.heap.size,1,none⟩=some (.string ⟨#[]⟩):=keep hB2 (keep (bw4 (bw0 _ _) _) c1)
  have g0':w2.frozen? ⟨w.heap.size,0,none⟩=false:=keepf hB2 (keep (bw4 (bw0 _ _) _) c0) (keepf (bw4 (bw0 _ _) _) c0 g0)
  have g1':w2.frozen? ⟨w.heap.size,1,none⟩=false:=keepf hB2 (keep (bw4 (bw0 _ _) _) c1) (keepf (bw4 (bw0 _ _) _) c1 g1)
  have c2:w2.cell? ⟨w1.heap.size,0,none⟩=some (.string a):=keep hB2 (by simp [go_sem])
  have c3:w2.cell? ⟨w1.heap.size,1,none⟩=some (.string b):=keep hB2 (by simp [go_sem])
  have z2:=lt_of_cell c0'
  have z3:=lt_of_cell c2
  have hx:Lib.trimPrefix a.data.toList [45]=Lib.decDigits x:=by rw [ha.out];exact trim_sign
  have HX:=Lib.hid hx
  have hb2:Below w.heap.size w w2:=qbl
  clear hx c0 c1 g0 g1 hB1 hB2
  go_wp2_with fail
  refine (trimPrefix_any a _ _ HX.out).mono ?_
  rintro e w3 ⟨o,ho,rfl,rfl⟩
  have hoa:o.size≤a.size:=by
   have h2:a.size=a.data.toList.length:=rfl
   have h3:o.size=o.data.toList.length:=rfl
   rw [h2,h3,ha.out,ho.out];simp
  by_cases h300:o.size≤300∧b.size≤300
  ·obtain ⟨hoI,hbI⟩:=h300
   have hxl:x < 10 ^ 300:=pow_le_of_lt (k:=300) (by rw [← ho.out];exact hoI)
   have hyl:y < 10 ^ 300:=pow_le_of_lt (k:=300) (by rw [← hb.out];exact hbI)
   have hy1:y≠1:=fun h=>HNO.out (text_num (a:=x) (b:=1) m (by omega) (Nat.gcd_one_right _) hF.out.2.2 (by have:=hF.out.1;rwa [h] at this) hxl (by omega))
   have hg1:Nat.gcd x y≠1:=fun h=>HNO.out (text_num m hF.out.2.1 h hF.out.2.2 hF.out.1 hxl hyl)
   have hbb:(b.toList == [49])=false:=by
    rw [Lib.toList_data,hb.out]
    have:Lib.decDigits y≠[49]:=fun h=>hy1 (dec_one_iff.1 h)
    simpa using this
   obtain ⟨z,hz⟩:∃ z:Int,(if m then -(x:Int) else (x:Int))=z:=⟨_,rfl⟩
   have hzx:z.natAbs=x:=by rw [← hz];cases m<;>simp
   have HAZ:Hid (a.data.toList=Lib.itoa z):=Lib.hid (by rw [ha.out,← hz];exact signed_itoa hF.out.2.2)
   have HBZ:Hid (b.data.toList=Lib.itoa (y:Int)):=Lib.hid (by rw [hb.out,itoa_natCast])
   have FZ:Fit z:=fit_of_lt (by rw [hzx];exact hxl)
   have FY:Fit (y:Int):=fit_of_lt (by rw [Int.natAbs_natCast];exact hyl)
   have hgz:Int.gcd z (y:Int)=Nat.gcd x y:=by unfold Int.gcd;rw [hzx];rfl
   have HGZ:=Lib.hid hgz
   have FG:Fit ((Nat.gcd x y:Nat):Int):=fit_of_lt (by rw [Int.natAbs_natCast];exact Nat.lt_of_le_of_lt (Nat.gcd_le_right x (Nat.lt_of_lt_of_le Nat.zero_lt_one hF.out.2.1)) hyl)
   have HG1:=Lib.hid hg1
   clear hg1 hy1 hz hzx hgz hxl hyl
   go_wp2_with fail
   refine (IGcd_ok z y a b _ (HG.out.below qbl) HAZ.out FZ HBZ.out FY).mono ?_
   intro e w4 hrx
   rw [HGZ.out] at hrx
   obtain ⟨g,hg,rfl,hB4⟩:=hrx.1 FG
   have hgg:(g.toList == [49])=false:=by
    refine ne_of_list hg (itoa_ne1 ?_)
    have:=HG1.out;omega
   have d0:=keep hB4 (keep (bw4 (bw0 w2.heap.size w2) _) c0')
   have d1:=keep hB4 (keep (bw4 (bw0 w2.heap.size w2) _) c1')
   have f0:=keepf hB4 (keep (bw4 (bw0 w2.heap.size w2) _) c0') (keepf (bw4 (bw0 w2.heap.size w2) _) c0' g0')
   have f1:=keepf hB4 (keep (bw4 (bw0 w2.heap.size w2) _) c1') (keepf (bw4 (bw0 w2.heap.size w2) _) c1' g1')
   have y2:=lt_of_cell d0
   have hb4:Below w.heap.size w w4:=qbl
   clear hg hrx hB4 c0' c1' c2 c3 g0' g1' z2 z3
   go_wp2_with fail
   refine bodyPost_ret (v:=.tuple #[.agg #[.string ⟨#[]⟩,.string ⟨#[]⟩],.int .i64 11]) (by simp [results,Tryz.results54,go_sem,d0,d1,y2]) rfl ⟨11,rfl,by omega,fun _=>rfl,qbl⟩
  ·have hcase:(300:Int) < (o.size:Int)∨((o.size:Int)≤300∧(300:Int) < (b.size:Int)):=by omega
   clear h300
   rcases hcase with h3|⟨h3,h3b⟩
   ·go_wp2_with fail
    refine bodyPost_ret (v:=.tuple #[.agg #[.string ⟨#[]⟩,.string ⟨#[]⟩],.int .i64 4]) (by simp [results,Tryz.results54,go_sem,c0',c1',z2]) rfl ⟨4,rfl,by omega,fun h=>by omega,qbl⟩
   ·go_wp2_with fail
    refine bodyPost_ret (v:=.tuple #[.agg #[.string ⟨#[]⟩,.string ⟨#[]⟩],.int .i64 4]) (by simp [results,Tryz.results54,go_sem,c0',c1',z2]) rfl ⟨4,rfl,by omega,fun h=>by omega,qbl⟩
theorem RCheck_bad (s:ByteArray) (w:World) (hG:Glo w) (hs:s.size≤1000) (hno:¬ IsNum s) :
  Calls Tryz.prog 23 #[.string s] w (fun e w'=>∃ c:Int,e=.returned (.int .i64 c)∧c≠0∧(s.size≤20→c=11)∧Below w.heap.size w w'):=by
 have H:=Lib.hid (fun W (hB:Below w.heap.size w W)=>read_bad s W (hG.below hB) hs hno)
 clear hG hno
 go_enter Tryz.func23,Tryz.ntmps23
 go_wp2_with fail
 refine (H.out _ qbl).mono ?_
 rintro e w1 ⟨c,rfl,h1,h2,hB1⟩
 have hb1:Below w.heap.size w w1:=qbl
 go_wp2_with fail
 go_ret
 exact ⟨c,rfl,h1,h2,qbl⟩
end Go.Proofs.YthihcjgmlbnapaaGreatDoor
namespace Go.Proofs.YthihcjgmlbnapaaGreatDoor.R6
open Go.RowKit Go.Shelf
end Go.Proofs.YthihcjgmlbnapaaGreatDoor.R6
namespace Go.Proofs.YthihcjgmlbnapaaGreatDoor.R6
open Go.RowKit Go.Shelf
def IsBigG (b:Bool) (w:World) (v:Value) (n:Int) (k:Nat):Prop:=∃ (a:Option Addr) (l:List Int) (c:Nat),v=.agg #[.bool b,.slice a l.length c]∧IsInts w (.slice a l.length c) l∧Num l n∧l.length≤k
theorem IsBigG.below {b:Bool} {w w':World} {v:Value} {n:Int} {k:Nat} (h:IsBigG b w v n k) (hB:Below w.heap.size w w'):IsBigG b w' v n k:=by
 obtain ⟨a,l,c,e,hi,hn,hl⟩:=h
 exact ⟨a,l,c,e,hi.below hB,hn,hl⟩
def IsBigS (w:World) (v:Value) (x:Int) (k:Nat):Prop:=IsBigG (decide (x < 0)) w v (x.natAbs:Int) k
end Go.Proofs.YthihcjgmlbnapaaGreatDoor.R6
namespace Go.Proofs.YthihcjgmlbnapaaGreatDoor.R6
open Go.RowKit Go.Shelf
end Go.Proofs.YthihcjgmlbnapaaGreatDoor.R6
namespace Go.Proofs.YthihcjgmlbnapaaGreatDoor.R6
open Go.RowKit Go.Shelf
def RetBigV (b:Bool) (n:Int) (k:Nat) (w:World) (e:Ending) (w':World):Prop:=∃ v,e=.returned v∧((n=0∧IsBigG false w' v n k)∨(n≠0∧IsBigG b w' v n k))∧Below w.heap.size w w'
end Go.Proofs.YthihcjgmlbnapaaGreatDoor.R6
namespace Go.Proofs.YthihcjgmlbnapaaGreatDoor.R6
open Go.RowKit Go.Shelf
theorem IsBigS.below {w w':World} {v:Value} {x:Int} {k:Nat} (h:IsBigS w v x k) (hB:Below w.heap.size w w'):IsBigS w' v x k:=IsBigG.below h hB
theorem IsBigS.len {w:World} {v:Value} {x:Int} {k j:Nat} (h:IsBigS w v x k) (hx:x.natAbs < 10 ^ (6 * j)):IsBigS w v x j:=by
 obtain ⟨a,l,c,e,hi,hn,hl⟩:=h
 exact ⟨a,l,c,e,hi,hn,hn.length_le (by rw [pw_six];omega)⟩
theorem IsBigS.of {w:World} {v:Value} {x n:Int} {b:Bool} {k:Nat} (h:IsBigG b w v n k) (hb:b=decide (x < 0)) (hn:n=(x.natAbs:Int)):IsBigS w v x k:=by
 subst hb;subst hn;exact h
def RetBig6 (x:Int) (k:Nat) (w:World) (e:Ending) (w':World):Prop:=∃ v,e=.returned v∧IsBigS w' v x k∧Below w.heap.size w w'
theorem RetBigV.s {b:Bool} {n x:Int} {k:Nat} {w:World} {e:Ending} {w':World} (h:RetBigV b n k w e w') (hn:n=(x.natAbs:Int)) (hb:x≠0→b=decide (x < 0)):RetBig6 x k w e w':=by
 obtain ⟨v,he,hc,hB⟩:=h
 refine ⟨v,he,?_,hB⟩
 rcases hc with ⟨h0,hg⟩|⟨h0,hg⟩
 ·obtain rfl:x=0:=by omega
  exact IsBigS.of hg rfl hn
 ·exact IsBigS.of hg (hb (by omega)) hn
end Go.Proofs.YthihcjgmlbnapaaGreatDoor.R6
namespace Go.Proofs.YthihcjgmlbnapaaGreatDoor.R6
open Go.RowKit Go.Shelf
theorem IsBigG.row {b b':Bool} {w:World} {a:Option Addr} {n c:Nat} {x:Int} {k:Nat} (h:IsBigG b w (.agg #[.bool b',.slice a n c]) x k):∃ l,l.length=n∧IsInts w (.slice a n c) l∧Num l x∧n≤k:=by
 obtain ⟨a',l,c',e,hi,hn,hl⟩:=h
 injection e with e
 simp at e
 obtain ⟨_,rfl,rfl,rfl⟩:=e
 exact ⟨l,rfl,hi,hn,hl⟩
end Go.Proofs.YthihcjgmlbnapaaGreatDoor.R6
namespace Go.Proofs.YthihcjgmlbnapaaGreatDoor
open Go.RowKit
def DigL (s:ByteArray) (n:Nat):Prop:=s.data.toList=Lib.decDigits n∧s.size≤1000
theorem DigL.sz {s:ByteArray} {n:Nat} (h:DigL s n):1≤s.size∧s.size≤1000:=by
 refine ⟨?_,h.2⟩
 rw [sizeL,h.1]
 exact List.length_pos_iff.2 (decDigits_ne n)
theorem DigL.lt {s:ByteArray} {n k:Nat} (h:DigL s n) (hk:s.size≤k):n < 10 ^ k:=pow_le_of_lt (by rw [← h.1];exact hk)
end Go.Proofs.YthihcjgmlbnapaaGreatDoor
namespace Go.Proofs.YthihcjgmlbnapaaGreatDoor
open Go.RowKit
noncomputable def numC (s:ByteArray):Int:=open Classical in if IsNum s then 0 else 11
end Go.Proofs.YthihcjgmlbnapaaGreatDoor
namespace Go.Proofs.YthihcjgmlbnapaaGreatDoor
open Go.RowKit
theorem RCheck_code (s:ByteArray) (w:World) (hG:Glo w) (hs:s.size≤1000):Calls Tryz.prog 23 #[.string s] w (fun e w'=>∃ c:Int,e=.returned (.int .i64 c)∧Hid ((c=0↔IsNum s)∧(s.size≤20→c=numC s))∧Below w.heap.size w w'):=by
 by_cases h:IsNum s
 ·obtain ⟨q,h1,h2⟩:=id h
  refine (RCheck_ok s w hG h1 h2 (by omega)).mono ?_
  rintro e w' ⟨rfl,hB⟩
  exact ⟨0,rfl,Lib.hid ⟨⟨fun _=>h,fun _=>rfl⟩,fun _=>by unfold numC;rw [if_pos h]⟩,hB⟩
 ·refine (RCheck_bad s w hG hs h).mono ?_
  rintro e w' ⟨c,rfl,h1,h2,hB⟩
  refine ⟨c,rfl,Lib.hid ⟨⟨fun h'=>absurd h' h1,fun h'=>absurd h' h⟩,fun h20=>?_⟩,hB⟩
  unfold numC
  rw [if_neg h]
  exact h2 h20
end Go.Proofs.YthihcjgmlbnapaaGreatDoor
namespace Go.Proofs.YthihcjgmlbnapaaGreatDoor
open Go.RowKit
theorem no47 {l:List UInt8} (h:∀ x ∈ l,isDig x=true∨x=45):¬ 0≤Lib.indexByte l 47:=by
 intro h0
 obtain ⟨o,ho⟩:∃ o:Nat,Lib.indexByte l 47=(o:Int):=⟨(Lib.indexByte l 47).toNat,by omega⟩
 have h1:=(Lib.indexByte_some ho).1
 rcases h _ (List.mem_of_getElem? h1) with h2|h2
 ·exact absurd h2 (by decide)
 ·exact absurd h2 (by decide)
theorem has47 {l:List UInt8} (h:(47:UInt8) ∈ l):0≤Lib.indexByte l 47:=by
 refine Int.not_lt.1 fun h0=>?_
 have h1:=Lib.indexByte_ge l 47
 have h2:Lib.indexByte l 47=-1:=by omega
 obtain ⟨k,hk,e⟩:=List.mem_iff_getElem.1 h
 exact Lib.indexByte_none h2 k (by rw [List.getElem?_eq_getElem hk,e])
theorem slash_text (q:Rat):decide (0≤Lib.indexByte (ratText q) 47)=decide (q.den≠1):=by
 rw [decide_eq_decide,ratText_parts]
 by_cases hd:q.den=1
 ·rw [if_pos hd,List.append_nil]
  refine ⟨fun h=>absurd h (no47 fun x hx=>?_),fun h=>absurd hd h⟩
  rcases List.mem_append.1 hx with h1|h1
  ·split at h1
   ·simp at h1;exact .inr h1
   ·cases h1
  ·exact .inl (decDigits_isDig _ x h1)
 ·rw [if_neg hd]
  exact ⟨fun _=>hd,fun _=>has47 (by simp)⟩
theorem lenSz {n k:Nat} (h:(Lib.decDigits n).length≤k):n < 10 ^ k:=pow_le_of_lt h
theorem termOk_iff {c r:ByteArray} {q p:Rat} (hc:c.data.toList=ratText q) (hr:r.data.toList=ratText p) :
  (∃ q' m,TermOk c r q' m)↔(q≠0∧longD q≤60∧longD p≤40∧0 < p.num∧p.den=1∧(p=1∨normalN p.num.toNat=(1,p.num.toNat))):=by
 constructor
 ·rintro ⟨q',m,h⟩
  have hq:q'=q:=ratText_injP (h.c.symm.trans hc)
  subst hq
  have hp:p=((m:Int):Rat):=ratText_injP (by rw [text_natR,← hr,h.r])
  subst hp
  have hn:(((m:Int):Rat)).num=(m:Int):=rfl
  have hd:(((m:Int):Rat)).den=1:=rfl
  have h1:(Lib.decDigits 1).length=1:=by decide +kernel
  refine ⟨h.q0,?_,?_,by rw [hn];have:=h.m1;omega,hd,?_⟩
  ·unfold longD;have:=h.cn;have:=h.cd;omega
  ·unfold longD;rw [hn,hd,Int.natAbs_natCast,h1];have:=h.rn;omega
  ·rw [hn,Int.toNat_natCast]
   rcases h.nm with h2|h2
   ·left;rw [h2];rfl
   ·exact .inr h2
 ·rintro ⟨h1,h2,h3,h4,h5,h6⟩
  unfold longD at h2 h3
  refine ⟨q,p.num.toNat,hc,?_,h1,by omega,by omega,by omega,?_,?_⟩
  ·have hp:p=((p.num.toNat:Int):Rat):=Rat.ext (by show p.num=(p.num.toNat:Int);omega) h5
   rw [hr,← text_natR,← hp]
  ·have e:p.num.toNat=p.num.natAbs:=by omega
   rw [e];omega
  ·rcases h6 with h6|h6
   ·left;rw [h6];rfl
   ·exact .inr h6
theorem text_eq0 (q:Rat):(ratText q == [48])=decide (q=0):=by
 have h0:ratText 0=[48]:=by decide +kernel
 by_cases h:q=0
 ·rw [h,h0];decide
 ·rw [decide_eq_false h]
  refine beq_eq_false_iff_ne.2 fun e=>h (ratText_injP (by rw [h0];exact e))
theorem text_eq1 (q:Rat):(ratText q == [49])=decide (q=1):=by
 have h0:ratText 1=[49]:=by decide +kernel
 by_cases h:q=1
 ·rw [h,h0];decide
 ·rw [decide_eq_false h]
  refine beq_eq_false_iff_ne.2 fun e=>h (ratText_injP (by rw [h0];exact e))
def RetC0 (C:Prop) (w:World) (e:Ending) (w':World):Prop:=∃ k:Int,e=.returned (.int .i64 k)∧Hid (k=0↔C)∧Below w.heap.size w w'
theorem isNum_of_termOk {c r:ByteArray} {q:Rat} {m:Nat} (h:TermOk c r q m):IsNum c∧IsNum r:=by
 refine ⟨⟨q,h.c,Nat.lt_of_lt_of_le (lenSz h.cn) (pow10_le (a:=60) (b:=300) (by decide)),Nat.lt_of_lt_of_le (lenSz h.cd) (pow10_le (a:=60) (b:=300) (by decide))⟩,⟨((m:Int):Rat),by rw [text_natR,h.r],sz_natR (Nat.lt_of_lt_of_le (lenSz h.rn) (pow10_le (a:=40) (b:=300) (by decide))) (by decide)⟩⟩
theorem right_ok (c r:ByteArray) (w:World) (hG:Glo w) (hP:Pri w) (hcs:c.size≤1000) (hrs:r.size≤1000) :
  Calls Tryz.prog 96 #[.agg #[.string c,.string r]] w (RetC0 (∃ q m,TermOk c r q m) w):=by
 have HC:=Lib.hid (fun W hG=>RCheck_code c W hG hcs)
 have HR:=Lib.hid (fun W hG=>RCheck_code r W hG hrs)
 have HG:=Lib.hid hG
 have HP:=Lib.hid hP
 have HI1:=Lib.hid (fun (h:¬ IsNum c)=>(show ¬ ∃ q m,TermOk c r q m from fun ⟨q,m,h1⟩=>h (isNum_of_termOk h1).1))
 have HI2:=Lib.hid (fun (h:¬ IsNum r)=>(show ¬ ∃ q m,TermOk c r q m from fun ⟨q,m,h1⟩=>h (isNum_of_termOk h1).2))
 have HIF:=Lib.hid (fun (q p:Rat) (hc:c.data.toList=ratText q) (hr:r.data.toList=ratText p)=>termOk_iff hc hr)
 generalize (∃ q m,TermOk c r q m)=C at *
 clear hG hP hcs hrs
 go_enter Tryz.func96,Tryz.ntmps96
 go_wp2_with fail
 have hb0:Below w.heap.size w (w.alloc (.cells #[.string c,.string r] 49)):=bw4 (bw0 _ _) _
 refine (HC.out _ (HG.out.below hb0)).mono ?_
 rintro e w1 ⟨k1,rfl,hk1,hB1⟩
 have hb1:=below_trans' hb0 hB1
 have c1:w1.cell? ⟨w.heap.size,1,none⟩=some (.string r):=keep hB1 (by simp [go_sem])
 have c0:w1.cell? ⟨w.heap.size,0,none⟩=some (.string c):=keep hB1 (by simp [go_sem])
 clear hb0 hB1 HC
 rcases (Decidable.em (k1=0)).symm with hz1|hz1
 ·have HNC:=Lib.hid (HI1.out (fun h=>hz1 (hk1.out.1.2 h)))
  clear hk1 HI1 HI2 HIF HR
  go_wp2_with fail
  go_ret
  exact ⟨k1,rfl,Lib.hid ⟨fun h=>absurd h hz1,fun h=>absurd h HNC.out⟩,hb1⟩
 obtain ⟨q,hq⟩:=hk1.out.1.1 hz1
 subst hz1
 have HQ:=Lib.hid hq
 clear hq hk1 HI1
 go_wp2_with fail
 refine (HR.out _ (HG.out.below hb1)).mono ?_
 rintro e w2 ⟨k2,rfl,hk2,hB2⟩
 have hb2:=below_trans' hb1 hB2
 have d1:=keep hB2 c1
 have d0:=keep hB2 c0
 clear hb1 hB2 HR c0 c1
 rcases (Decidable.em (k2=0)).symm with hz2|hz2
 ·have HNC:=Lib.hid (HI2.out (fun h=>hz2 (hk2.out.1.2 h)))
  clear hk2 HI2 HIF
  go_wp2_with fail
  go_ret
  exact ⟨k2,rfl,Lib.hid ⟨fun h=>absurd h hz2,fun h=>absurd h HNC.out⟩,hb2⟩
 obtain ⟨p,hp⟩:=hk2.out.1.1 hz2
 subst hz2
 have HPP:=Lib.hid hp
 have HIFF:=Lib.hid (HIF.out q p HQ.out.1 hp.1)
 clear hp hk2 HI2 HIF
 have hq0:(c.toList == [48])=decide (q=0):=by rw [Lib.toList_data,HQ.out.1,text_eq0]
 have hr1:(r.toList == [49])=decide (p=1):=by rw [Lib.toList_data,HPP.out.1,text_eq1]
 have hr0:(r.toList == [48])=decide (p=0):=by rw [Lib.toList_data,HPP.out.1,text_eq0]
 by_cases g1:q=0
 ·have HNC:=Lib.hid (show ¬ C from fun h=>(HIFF.out.1 h).1 g1)
  rw [decide_eq_true g1] at hq0
  clear HIFF hr1 hr0 g1
  go_wp2_with fail
  go_ret
  exact ⟨12,rfl,Lib.hid ⟨fun h=>absurd h (by decide),fun h=>absurd h HNC.out⟩,hb2⟩
 rw [decide_eq_false g1] at hq0
 have HLC:=Lib.hid (fun W hG=>longest_ok (k:=300) c W hG HQ.out.1 HQ.out.2 (by decide))
 have HLR:=Lib.hid (fun W hG=>longest_ok (k:=300) r W hG HPP.out.1 HPP.out.2 (by decide))
 obtain ⟨X,hX⟩:∃ X,longD q=X:=⟨_,rfl⟩
 obtain ⟨Y,hY⟩:∃ Y,longD p=Y:=⟨_,rfl⟩
 rw [hX] at HLC
 rw [hY] at HLR
 have HXY:=Lib.hid (And.intro hX hY)
 clear hX hY
 by_cases g2:60 < X
 ·have HNC:=Lib.hid (show ¬ C from fun h=>by have h1:=(HIFF.out.1 h).2.1;rw [HXY.out.1] at h1;omega)
  have g2':(60:Int) < (X:Int):=by omega
  clear HIFF hr1 hr0 g1 g2 HLR
  go_wp2_with fail
  refine (HLC.out _ (HG.out.below hb2)).mono ?_
  rintro e w3 ⟨rfl,hB3⟩
  have hb3:=below_trans' hb2 hB3
  clear hB3 hb2 HLC
  go_wp2_with fail
  go_ret
  exact ⟨4,rfl,Lib.hid ⟨fun h=>absurd h (by decide),fun h=>absurd h HNC.out⟩,hb3⟩
 have g2':¬ (60:Int) < (X:Int):=by omega
 by_cases g3:40 < Y
 ·have HNC:=Lib.hid (show ¬ C from fun h=>by have h1:=(HIFF.out.1 h).2.2.1;rw [HXY.out.2] at h1;omega)
  have g3':(40:Int) < (Y:Int):=by omega
  clear HIFF hr1 hr0 g2 g3
  go_wp2_with fail
  refine (HLC.out _ (HG.out.below hb2)).mono ?_
  rintro e w3 ⟨rfl,hB3⟩
  have hb3:=below_trans' hb2 hB3
  have f1:=keep hB3 d1
  clear hB3 hb2 HLC d1 d0
  go_wp2_with fail
  refine (HLR.out _ (HG.out.below hb3)).mono ?_
  rintro e w4 ⟨rfl,hB4⟩
  have hb4:=below_trans' hb3 hB4
  clear hB4 hb3 HLR
  go_wp2_with fail
  go_ret
  exact ⟨4,rfl,Lib.hid ⟨fun h=>absurd h (by decide),fun h=>absurd h HNC.out⟩,hb4⟩
 have g3':¬ (40:Int) < (Y:Int):=by omega
 have HX60:=Lib.hid (show longD q≤60 from by rw [HXY.out.1];omega)
 have HY40:=Lib.hid (show longD p≤40 from by rw [HXY.out.2];omega)
 clear g2 g3
 by_cases g4:p=1
 ·have HYC:=Lib.hid (show C from HIFF.out.2 ⟨g1,HX60.out,HY40.out,by rw [g4];decide,by rw [g4];rfl,.inl g4⟩)
  rw [decide_eq_true g4] at hr1
  clear HIFF hr0 g1 g4
  go_wp2_with fail
  refine (HLC.out _ (HG.out.below hb2)).mono ?_
  rintro e w3 ⟨rfl,hB3⟩
  have hb3:=below_trans' hb2 hB3
  have f1:=keep hB3 d1
  clear hB3 hb2 HLC d1 d0
  go_wp2_with fail
  refine (HLR.out _ (HG.out.below hb3)).mono ?_
  rintro e w4 ⟨rfl,hB4⟩
  have hb4:=below_trans' hb3 hB4
  have f2:=keep hB4 f1
  clear hB4 hb3 HLR f1
  go_wp2_with fail
  go_ret
  exact ⟨0,rfl,Lib.hid ⟨fun _=>HYC.out,fun _=>rfl⟩,hb4⟩
 rw [decide_eq_false g4] at hr1
 have HHP:=Lib.hid (fun W=>hasPrefix_any r ⟨#[45]⟩ W (hasMinus HPP.out.1))
 have HCN:=Lib.hid (fun W=>Tryz.strings_Contains_one r 47 W)
 have hsl:=slash_text p
 rw [← HPP.out.1] at hsl
 rw [hsl] at HCN
 go_wp2_with fail
 refine (HLC.out _ (HG.out.below hb2)).mono ?_
 rintro e w3 ⟨rfl,hB3⟩
 have hb3:=below_trans' hb2 hB3
 have f1:=keep hB3 d1
 clear hB3 hb2 HLC d1 d0
 go_wp2_with fail
 refine (HLR.out _ (HG.out.below hb3)).mono ?_
 rintro e w4 ⟨rfl,hB4⟩
 have hb4:=below_trans' hb3 hB4
 have f2:=keep hB4 f1
 clear hB4 hb3 HLR f1 hsl
 go_wp2_with fail
 refine (HHP.out _).mono ?_
 rintro e w5 ⟨rfl,rfl⟩
 clear HHP
 by_cases g5:p.num < 0
 ·have HNC:=Lib.hid (show ¬ C from fun h=>by have h1:=(HIFF.out.1 h).2.2.2.1;omega)
  rw [decide_eq_true g5]
  clear HIFF g5 HCN
  go_wp2_with fail
  go_ret
  exact ⟨8,rfl,Lib.hid ⟨fun h=>absurd h (by decide),fun h=>absurd h HNC.out⟩,hb4⟩
 rw [decide_eq_false g5]
 by_cases g6:p=0
 ·have HNC:=Lib.hid (show ¬ C from fun h=>by have h1:=(HIFF.out.1 h).2.2.2.1;rw [g6] at h1;exact absurd h1 (by decide))
  rw [decide_eq_true g6] at hr0
  clear HIFF g6 HCN
  go_wp2_with fail
  go_ret
  exact ⟨8,rfl,Lib.hid ⟨fun h=>absurd h (by decide),fun h=>absurd h HNC.out⟩,hb4⟩
 rw [decide_eq_false g6] at hr0
 go_wp2_with fail
 refine (HCN.out _).mono ?_
 rintro e w6 ⟨rfl,rfl⟩
 clear HCN
 rcases (Decidable.em (p.den=1)).symm with g7|g7
 ·have HNC:=Lib.hid (show ¬ C from fun h=>g7 (HIFF.out.1 h).2.2.2.2.1)
  rw [decide_eq_true (show p.den≠1 from g7)]
  clear HIFF g7
  go_wp2_with fail
  go_ret
  exact ⟨8,rfl,Lib.hid ⟨fun h=>absurd h (by decide),fun h=>absurd h HNC.out⟩,hb4⟩
 rw [decide_eq_false (show ¬ p.den≠1 from fun h=>h g7)]
 have hn0:0 < p.num:=by
  rcases Int.lt_trichotomy p.num 0 with h|h|h
  ·omega
  ·exact absurd (Rat.num_eq_zero.1 h) g6
  ·exact h
 have hz90:Sz 90 p:=by
  have h1:=HY40.out
  unfold longD at h1
  exact ⟨Nat.lt_of_lt_of_le (lenSz (show (Lib.decDigits p.num.natAbs).length≤40 by omega)) (Nat.pow_le_pow_right (by decide) (by decide)),Nat.lt_of_lt_of_le (lenSz (show (Lib.decDigits p.den).length≤40 by omega)) (Nat.pow_le_pow_right (by decide) (by decide))⟩
 have hrn:r=numS p:=numS_of HPP.out.1
 have HNO:=Lib.hid (fun W hG hP=>(show Calls Tryz.prog 56 #[.string (numS p)] W (RetB (.tuple #[.string (numS (normQ p).1),.string (decS (normQ p).2),.int .i64 0]) W) from Normal_ok p W hG hP hz90 (by omega)))
 rw [← hrn] at HNO
 obtain ⟨n,hn⟩:∃ n,p.num.toNat=n:=⟨_,rfl⟩
 have hpn:p=((n:Int):Rat):=Rat.ext (by show p.num=(n:Int);omega) g7
 have hNQ:normQ p=(((((normalN n).1:Nat):Int):Rat),(normalN n).2):=by
  unfold normQ
  rw [if_neg (by omega),hn,g7,Nat.mul_one,Rat.divInt_ofNat,Rat.mkRat_one]
 rw [hNQ] at HNO
 dsimp only at HNO
 have hrd:r=decS n:=by
  refine decS_of ?_
  rw [HPP.out.1,hpn,text_natR]
 have HIFG:=Lib.hid (show C↔normalN n=(1,n) from by
  rw [HIFF.out,hn]
  exact ⟨fun h=>h.2.2.2.2.2.resolve_left g4,fun h=>⟨g1,HX60.out,HY40.out,hn0,g7,.inr h⟩⟩)
 obtain ⟨A,hA⟩:∃ A,(normalN n).1=A:=⟨_,rfl⟩
 obtain ⟨B,hB⟩:∃ B,(normalN n).2=B:=⟨_,rfl⟩
 have hNN:normalN n=(A,B):=by rw [← hA,← hB]
 rw [hNN] at HIFG HNO
 dsimp only at HNO
 have hx:((numS ((A:Int):Rat)).toList == [49])=decide (A=1):=by
  rw [Lib.toList_data,numS_list,text_eq1,decide_eq_decide]
  constructor
  ·intro h
   have h2:(((A:Int):Rat)).num=(1:Rat).num:=by rw [h]
   have h3:(A:Int)=1:=h2
   omega
  ·rintro rfl
   rfl
 generalize numS ((A:Int):Rat)=x at *
 clear hA hB hNN hNQ HIFF HX60 HY40 HXY g1 g4 hz90 hpn hn
 by_cases g8:A=1
 ·rw [decide_eq_true g8] at hx
  by_cases g9:B=n
  ·have HYC:=Lib.hid (HIFG.out.2 (by rw [g8,g9]))
   subst g9
   rw [← hrd] at HNO
   clear HIFG hrd hn0 g5 g6 g7 g8 hrn hr0 hr1 hq0
   go_wp2_with fail
   refine (HNO.out _ (HG.out.below hb4) (HP.out.below hb4)).mono ?_
   rintro e w7 ⟨rfl,hB7⟩
   have hb7:=below_trans' hb4 hB7
   have f7:=keep hB7 f2
   clear hB7 HNO
   go_wp2_with fail
   go_ret
   exact ⟨0,rfl,Lib.hid ⟨fun _=>HYC.out,fun _=>rfl⟩,hb7⟩
  ·have HNC:=Lib.hid (show ¬ C from fun h=>g9 (by have h1:=HIFG.out.1 h;exact (Prod.mk.inj h1).2))
   have hyr:¬ decS B=r:=fun h=>g9 (by
    have h1:(decS B).data.toList=(decS n).data.toList:=by rw [h,hrd]
    rw [decS_list,decS_list] at h1
    exact dec_inj h1)
   generalize decS B=y at *
   have hyl:(y.toList == r.toList)=false:=beq_eq_false_iff_ne.2 (fun h=>hyr (by
    rw [Lib.toList_data,Lib.toList_data] at h
    exact ByteArray.ext (Array.toList_inj.1 h)))
   clear HIFG hrd hn0 g5 g6 g7 g8 g9 hrn hr0 hr1 hq0
   go_wp2_with fail
   refine (HNO.out _ (HG.out.below hb4) (HP.out.below hb4)).mono ?_
   rintro e w7 ⟨rfl,hB7⟩
   have hb7:=below_trans' hb4 hB7
   have f7:=keep hB7 f2
   clear hB7 HNO
   go_wp2_with fail
   go_ret
   exact ⟨8,rfl,Lib.hid ⟨fun h=>absurd h (by decide),fun h=>absurd h HNC.out⟩,hb7⟩
 ·have HNC:=Lib.hid (show ¬ C from fun h=>g8 (by have h1:=HIFG.out.1 h;exact (Prod.mk.inj h1).1))
  rw [decide_eq_false g8] at hx
  generalize decS B=y at *
  clear HIFG hrd hn0 g5 g6 g7 g8 hrn hr0 hr1 hq0
  go_wp2_with fail
  refine (HNO.out _ (HG.out.below hb4) (HP.out.below hb4)).mono ?_
  rintro e w7 ⟨rfl,hB7⟩
  have hb7:=below_trans' hb4 hB7
  have f7:=keep hB7 f2
  clear hB7 HNO
  go_wp2_with fail
  go_ret
  exact ⟨8,rfl,Lib.hid ⟨fun h=>absurd h (by decide),fun h=>absurd h HNC.out⟩,hb7⟩
end Go.Proofs.YthihcjgmlbnapaaGreatDoor
namespace Go.Proofs.YthihcjgmlbnapaaGreatDoor
open Go.RowKit
theorem checkF_ok (m k b:Nat) (c s t:ByteArray) (w:World) (hG:Glo w) (ht:w.cell? ⟨b,1,none⟩=some (.string t)) (hs':s.data.toList=Lib.decDigits k) (ht':t.data.toList=Lib.decDigits m) (hm:m < 10 ^ 90) (hk:k < 10 ^ 90) (hk0:0 < k) :
  Calls Tryz.prog 98 #[.agg #[.string c,.string s],.pointer (some ⟨b,0,none⟩)] w (RetB (.bool (ratioB m k)) w):=by
 have HRA:=Lib.hid (fun W hG=>Ratio_ok m k t s W hG ht' hs' hm hk hk0)
 have HG:=Lib.hid hG
 have hb0:Below w.heap.size w (w.alloc (.cells #[.string c,.string s] 49)):=bw4 (bw0 _ _) _
 have ht2:=keep hb0 ht
 have hlt:=lt_of_cell ht
 generalize ratioB m k=B at *
 generalize ratioQ m k=Q at *
 clear hG hs' ht' hm hk hk0
 go_enter Tryz.func98,Tryz.ntmps98
 go_wp2_with fail
 refine (HRA.out _ (HG.out.below hb0)).mono ?_
 rintro e w1 ⟨r,rfl,hr,hB1⟩
 have hb1:=below_trans' hb0 hB1
 clear hr hB1 HRA hb0
 cases B
 ·go_wp2_with fail
  go_ret
  exact ⟨rfl,hb1⟩
 ·go_wp2_with fail
  go_ret
  exact ⟨rfl,hb1⟩
end Go.Proofs.YthihcjgmlbnapaaGreatDoor
namespace Go.Proofs.YthihcjgmlbnapaaGreatDoor
open Go.RowKit
def TermAt (w:World) (b off:Nat) (x:ByteArray × ByteArray):Prop:=w.cell? ⟨b,off,none⟩=some (.string x.1)∧w.cell? ⟨b,off+1,none⟩=some (.string x.2)
theorem TermAt.below {w w':World} {b off:Nat} {x:ByteArray × ByteArray} (h:TermAt w b off x) (hB:Below w.heap.size w w'):TermAt w' b off x:=⟨keep hB h.1,keep hB h.2⟩
def termV (x:ByteArray × ByteArray):Value:=.agg #[.string x.1,.string x.2]
def IsTerms (w:World) (v:Value) (L:TTexts):Prop:=∃ (a:Option Addr) (cap:Nat),v=.slice a L.length cap∧L.length≤cap∧(L≠[]→∃ b off,a=some ⟨b,off,none⟩∧∀ k,k < L.length→TermAt w b (off+k * 2) (tt L k))
theorem IsTerms.below {w w':World} {v:Value} {L:TTexts} (h:IsTerms w v L) (hB:Below w.heap.size w w'):IsTerms w' v L:=by
 obtain ⟨a,cap,e,hcap,hc⟩:=h
 refine ⟨a,cap,e,hcap,fun hn=>?_⟩
 obtain ⟨b,off,e2,hk⟩:=hc hn
 exact ⟨b,off,e2,fun k hl=>(hk k hl).below hB⟩
def RetIdxT (n:Nat) (g:Nat→Bool) (w:World) (e:Ending) (w':World):Prop:=∃ i:Int,e=.returned (.int .i64 i)∧-1≤i∧i≤100000∧Hid (i < 0↔∀ k,k < n→g k=false)∧Below w.heap.size w w'
theorem indexTerm_any (F:Nat) (cap0:Array Value) (L:TTexts) (g:Nat→Bool) (v:Value) (w:World) (hv:IsTerms w v L) (hl:L.length≤100000)
  (hE:∀ args w,(callFunc F args).run Tryz.prog w=.ok (.enter F args) w)
  (hF:∀ k,k < L.length→∀ W,Below w.heap.size w W→Calls Tryz.prog F (#[termV (tt L k)]++cap0) W (RetB (.bool (g k)) W)) :
  Calls Tryz.prog 153 #[v,.func (.func F) #[] cap0] w (RetIdxT L.length g w):=by
 obtain ⟨a,cap,rfl,hcap,h⟩:=hv
 have HC:=Lib.hid h
 have HF:=Lib.hid hF
 clear h hF
 go_enter Tryz.func153,Tryz.ntmps153
 go_wp2_with fail
 go_loopw [8] (fun i wr=>∃ k:Nat,k≤L.length∧i=.int .i64 k∧Below w.heap.size w wr∧Hid (∀ j,j < k→g j=false)) (fun i _=>L.length - (intOf i).toNat)
 case atStart=>exact ⟨0,by omega,rfl,bw0 _ _,Lib.hid (by intro j h;omega)⟩
 case round =>
  obtain ⟨k,hk,rfl,hB,hno⟩:=hrel
  by_cases hlt:k < L.length
  ·obtain ⟨b,off,rfl,hc⟩:=HC.out (fun h=>by rw [h] at hlt;simp at hlt)
   obtain ⟨d0,d1⟩:=(hc k hlt).below (w':=wr) hB
   have hf:=Lib.hid (HF.out k hlt wr hB)
   unfold termV at hf
   clear hc
   by_cases hg:g k=true
   ·have HNG:=Lib.hid (show ¬ ∀ j,j < L.length→g j=false from fun h=>by have:=h k hlt;rw [hg] at this;cases this)
    rw [hg] at hf
    clear hg
    go_wp2_with fail
    refine hf.out.mono ?_
    rintro e w1 ⟨rfl,hB1⟩
    have hB2:Below w.heap.size w w1:=below_trans' hB hB1
    clear hB1 d0 d1
    go_wp2_with fail
    go_ret
    exact ⟨k,rfl,by omega,by omega,Lib.hid ⟨fun h=>by omega,fun h=>absurd h HNG.out⟩,hB2⟩
   ·have hg':g k=false:=by simpa using hg
    have hno':Hid (∀ j,j < k+1→g j=false):=Lib.hid (fun j hj=>by
     by_cases h:j < k
     ·exact hno.out j h
     ·obtain rfl:j=k:=by omega
      exact hg')
    rw [hg'] at hf
    clear hg hg'
    go_wp2_with fail
    refine hf.out.mono ?_
    rintro e w1 ⟨rfl,hB1⟩
    have hB2:Below w.heap.size w w1:=below_trans' hB hB1
    clear hB1 d0 d1
    go_wp2_with fail
    go_roundw
    case rel=>exact ⟨k+1,hlt,by go_num,hB2,hno'⟩
    case measure=>simp [intOf];omega
  ·have e:k=L.length:=by omega
   subst e
   go_wp2_with fail
   go_ret
   exact ⟨-1,rfl,by omega,by omega,Lib.hid ⟨fun _=>hno.out,fun _=>by omega⟩,hB⟩
theorem containsTerm_any (F:Nat) (cap0:Array Value) (L:TTexts) (g:Nat→Bool) (v:Value) (w:World) (hv:IsTerms w v L) (hl:L.length≤100000)
  (hE:∀ args w,(callFunc F args).run Tryz.prog w=.ok (.enter F args) w)
  (hF:∀ k,k < L.length→∀ W,Below w.heap.size w W→Calls Tryz.prog F (#[termV (tt L k)]++cap0) W (RetB (.bool (g k)) W)) :
  Calls Tryz.prog 97 #[v,.func (.func F) #[] cap0] w (fun e w'=>∃ b:Bool,e=.returned (.bool b)∧Hid (b=false↔∀ k,k < L.length→g k=false)∧Below w.heap.size w w'):=by
 have HI:=Lib.hid (indexTerm_any F cap0 L g v w hv hl hE hF)
 clear hF hv
 go_enter Tryz.func97,Tryz.ntmps97
 go_wp2_with fail
 refine HI.out.mono ?_
 rintro e w1 ⟨n,rfl,h1,h2,hno,hB⟩
 by_cases hn:n < 0
 ·have HN2:=Lib.hid (hno.out.1 hn)
  have hd:decide (0≤n)=false:=by simp;omega
  clear hno
  go_wp2_with fail
  go_ret
  exact ⟨false,rfl,Lib.hid ⟨fun _=>HN2.out,fun _=>rfl⟩,hB⟩
 ·have HN2:=Lib.hid (fun h=>hn (hno.out.2 h))
  have hd:decide (0≤n)=true:=by simp;omega
  clear hno
  go_wp2_with fail
  go_ret
  exact ⟨true,rfl,Lib.hid ⟨(fun h=>by cases h),fun h=>absurd h HN2.out⟩,hB⟩
end Go.Proofs.YthihcjgmlbnapaaGreatDoor
namespace Go.Proofs.YthihcjgmlbnapaaGreatDoor
open Go.RowKit
def termCell (x:ByteArray × ByteArray):List Value:=[.string x.1,.string x.2]
def termCells (L:TTexts):List Value:=L.flatMap termCell
theorem termCells_append (l m:TTexts):termCells (l++m)=termCells l++termCells m:=by simp [termCells]
theorem termCells_length (l:TTexts):(termCells l).length=l.length * 2:=by
 induction l with
 | nil=>rfl
 | cons s l ih=>simp only [termCells,List.flatMap_cons,List.length_append] at ih ⊢;rw [ih];simp [termCell];omega
theorem termCells_one {l:TTexts}:∀ u ∈ termCells l,u.oneCell'=true:=by
 intro u hu
 obtain ⟨s,_,hs⟩:=List.mem_flatMap.1 hu
 simp only [termCell,List.mem_cons,List.not_mem_nil,or_false] at hs
 rcases hs with rfl|rfl<;>rfl
theorem termCells_get:∀ (l:TTexts) {k f:Nat},k < l.length→f < 2→(termCells l)[k * 2+f]?=(termCell (tt l k))[f]?:=by
 intro l
 induction l with
 | nil=>intro k f h;simp at h
 | cons s l ih =>
  intro k f hk hf
  cases k with
  | zero =>
   have e:termCells (s::l)=termCell s++termCells l:=rfl
   rw [e,Nat.zero_mul,Nat.zero_add,List.getElem?_append_left (by simpa [termCell] using hf)];rfl
  | succ k =>
   have e:termCells (s::l)=termCell s++termCells l:=rfl
   have hl:(termCell s).length=2:=rfl
   rw [e,List.getElem?_append_right (by rw [hl];omega),hl,show (k+1) * 2+f - 2=k * 2+f by omega,ih (by simpa using hk) hf]
   rfl
theorem addr_addT (b off j:Nat):Addr.add ⟨b,off,none⟩ j=⟨b,off+j,none⟩:=by
 unfold Addr.add
 by_cases h:j=0
 ·simp [h]
 ·simp [h]
theorem term_cell {w:World} {b off:Nat} {l:TTexts} (h:∀ k,k < l.length→TermAt w b (off+k * 2) (tt l k)):∀ j u,(termCells l)[j]?=some u→w.cell? (Addr.add ⟨b,off,none⟩ j)=some u:=by
 intro j u hj
 have hlt:j < l.length * 2:=by
  rw [← termCells_length];exact (List.getElem?_eq_some_iff.1 hj).1
 have hk:j / 2 < l.length:=by omega
 have hg:=termCells_get l hk (show j % 2 < 2 by omega)
 rw [show j / 2 * 2+j % 2=j by omega,hj] at hg
 obtain ⟨h0,h1⟩:=h _ hk
 rw [addr_addT]
 have e:off+j=off+j / 2 * 2+j % 2:=by omega
 have hf:j % 2=0∨j % 2=1:=by omega
 rw [e]
 rcases hf with e1|e1<;>rw [e1] at hg ⊢<;>simp only [termCell,List.getElem?_cons_succ,List.getElem?_cons_zero,Option.some.injEq] at hg<;>subst hg<;>assumption
theorem isTerms_row {w:World} {B:Nat} {v:Value} {l:TTexts} {t:TypeId} (h:w.ownsRow B t 2 v l.length (termCells l)):IsTerms w v l:=by
 rcases h.2 with ⟨rfl,hl⟩|⟨g,cap,cur,rfl,_,hg,h1,_,hs,ht⟩
 ·obtain rfl:l=[]:=List.length_eq_zero_iff.1 hl
  exact ⟨none,0,rfl,Nat.le_refl _,fun h=>absurd rfl h⟩
 ·refine ⟨some ⟨g,0,none⟩,cap,rfl,h1,fun _=>⟨g,0,rfl,fun k hk=>?_⟩⟩
  have key:∀ f,f < 2→∀ u,(termCell (tt l k))[f]?=some u→w.cell? ⟨g,0+k * 2+f,none⟩=some u:=by
   intro f hf u hu
   rw [← termCells_get l hk hf] at hu
   have h3:(cur.toList.take (l.length * 2))[k * 2+f]?=(termCells l)[k * 2+f]?:=by rw [ht]
   rw [List.getElem?_take_of_lt (by omega),hu] at h3
   have h4:cur[k * 2+f]?=some u:=by simpa using h3
   simp [World.cell?,hg,h4]
  exact ⟨key 0 (by omega) _ rfl,key 1 (by omega) _ rfl⟩
theorem Tryz.infoTerm:(Tryz.prog.info? 49).map (fun i=>(i.zero,i.size,i.bytes))=some (some (.agg #[.string ⟨#[]⟩,.string ⟨#[]⟩]),2,32):=by kernel_rfl
theorem rowT_shape {w:World} {B e size n:Nat} {v:Value} {xs:List Value} (h:w.ownsRow B e size v n xs):∃ sa sc,v=.slice sa n sc∧∀ b,(Value.slice sa n sc).ownBlock=some b→B≤b:=by
 rcases h.2 with ⟨rfl,rfl⟩|⟨g,cap,cur,rfl,hb,_⟩
 ·exact ⟨none,0,rfl,fun b h=>by cases h⟩
 ·exact ⟨_,_,rfl,fun b h=>by cases h;exact hb⟩
theorem cell_two_new (w:World) (x y:Value) (t:TypeId):∀ j u,[x,y][j]?=some u→(w.alloc (.cells #[x,y] t)).cell? ((⟨w.heap.size,0,none⟩:Addr).add j)=some u:=by
 intro j u hj
 rw [addr_addT]
 match j,hj with
 | 0,hj=>simp at hj;subst hj;simp
 | 1,hj=>simp at hj;subst hj;simp
theorem cell_two_at (w:World) (x y:Value) (t:TypeId) {n:Nat} (hn:w.heap.size=n):∀ j u,[x,y][j]?=some u→(w.alloc (.cells #[x,y] t)).cell? ((⟨n,0,none⟩:Addr).add j)=some u:=by
 subst hn;exact cell_two_new w x y t
end Go.Proofs.YthihcjgmlbnapaaGreatDoor
namespace Go.Proofs.YthihcjgmlbnapaaGreatDoor
open Go
theorem strip_free {p:Nat} (hp:2≤p):∀ {f c m:Nat},0 < m→m≤f→(strip p f c m).2 % (p * p)≠0:=by
 intro f
 induction f with
 | zero=>intro c m h0 h1;omega
 | succ f ih =>
  intro c m h0 h1
  unfold strip
  split
  ·rename_i h
   have:=div_lt_sq hp h0
   exact ih (div_pos_sq hp h0 h) (by omega)
  ·rename_i h
   exact h
theorem strip_dvd {p:Nat}:∀ {f c m:Nat},(strip p f c m).2 ∣ m:=by
 intro f
 induction f with
 | zero=>intro c m;exact Nat.dvd_refl _
 | succ f ih =>
  intro c m
  unfold strip
  split
  ·rename_i h
   exact Nat.dvd_trans ih (Nat.div_dvd_of_dvd (Nat.dvd_of_mod_eq_zero h))
  ·exact Nat.dvd_refl _
theorem norms_dvd:∀ {ps:List Nat} {c m:Nat},(norms ps c m).2 ∣ m
 | [],_,_=>Nat.dvd_refl _
 | p::ps,c,m=>Nat.dvd_trans (norms_dvd (ps:=ps)) strip_dvd
theorem norms_free:∀ {ps:List Nat} {c m:Nat},(∀ p ∈ ps,2≤p)→0 < m→0 < c→∀ p ∈ ps,(norms ps c m).2 % (p * p)≠0
 | [],_,_,_,_,_=>fun p hp=>by cases hp
 | a::ps,c,m,hps,hm,hc=>by
  obtain ⟨_,s2,s3,_⟩:=stripped_inv (hps a (by simp)) hm hc
  intro p hp
  rcases List.mem_cons.1 hp with rfl|h
  ·intro h0
   have h1:(stripped p c m).2 % (p * p)≠0:=strip_free (hps p (by simp)) hm (Nat.le_refl _)
   exact h1 (Nat.mod_eq_zero_of_dvd (Nat.dvd_trans (Nat.dvd_of_mod_eq_zero h0) (norms_dvd (ps:=ps))))
  ·exact norms_free (fun q hq=>hps q (by simp [hq])) s3 s2 p h
theorem norms_keep:∀ {ps:List Nat} {c m:Nat},0 < m→(∀ p ∈ ps,m % (p * p)≠0)→norms ps c m=(c,m)
 | [],_,_,_,_=>rfl
 | a::ps,c,m,hm,h=>by
  rw [norms,stripped_end hm (h a (by simp))]
  exact norms_keep hm (fun p hp=>h p (by simp [hp]))
theorem normalN_one:normalN 1=(1,1):=normalN_sq (by decide) rfl
theorem normalN_idem {m:Nat} (hm:0 < m):normalN (normalN m).2=(1,(normalN m).2):=by
 obtain ⟨i1,i2,i3,i4⟩:=norms_inv (c:=1) primes25_two hm (by decide)
 have hf:=norms_free (c:=1) primes25_two hm (by decide)
 have e:(normalN m)=squared (norms primes25 1 m):=rfl
 rw [e]
 generalize norms primes25 1 m=r at *
 unfold squared
 by_cases h:rootN r.2 * rootN r.2=r.2
 ·rw [if_pos h]
  exact normalN_one
 ·rw [if_neg h]
  unfold normalN
  rw [norms_keep i3 hf]
  unfold squared
  rw [if_neg h]
theorem normQ_val {q:Rat} (h:0 < q.num):(normQ q).1 * (normQ q).1 * (((normQ q).2:Nat):Rat)=q∧0 < (normQ q).1∧0 < (normQ q).2:=by
 have h0:¬ q.num=0:=by omega
 have hm:0 < q.num.toNat * q.den:=Nat.mul_pos (by omega) q.den_pos
 obtain ⟨i1,i2,i3,_⟩:=normalN_inv hm
 unfold normQ
 rw [if_neg h0]
 generalize normalN (q.num.toNat * q.den)=r at *
 obtain ⟨c,n⟩:=r
 have hd:((q.den:Nat):Rat)≠0:=by rw [Ne,Rat.natCast_eq_zero_iff];exact q.den_nz
 have hd0:(0:Rat) < ((q.den:Nat):Rat):=Rat.natCast_pos.2 q.den_pos
 have e1:Rat.divInt ((c:Nat):Int) ((q.den:Nat):Int)=(c:Rat) / (q.den:Rat):=Rat.divInt_eq_div _ _
 have hq:q=(q.num.toNat:Rat) / (q.den:Rat):=by
  have h1:=Rat.num_divInt_den q
  rw [Rat.divInt_eq_div] at h1
  have h2:((q.num:Int):Rat)=((q.num.toNat:Nat):Rat):=by
   have:q.num=((q.num.toNat:Nat):Int):=by omega
   conv=>lhs;rw [this]
   rfl
  rw [h2] at h1
  exact h1.symm
 have hv:(c:Rat) * (c:Rat) * (n:Rat)=(q.num.toNat:Rat) * (q.den:Rat):=by
  have h3:((c * c * n:Nat):Rat)=((q.num.toNat * q.den:Nat):Rat):=by rw [i1]
  simpa [Rat.natCast_mul] using h3
 dsimp only
 rw [e1]
 refine ⟨?_,?_,i3⟩
 ·conv=>rhs;rw [hq]
  generalize ((q.den:Nat):Rat)=d at *
  generalize ((q.num.toNat:Nat):Rat)=x at *
  generalize ((c:Nat):Rat)=y at *
  generalize ((n:Nat):Rat)=z at *
  clear hq i1 e1
  grind
 ·rw [Rat.div_def]
  exact Rat.mul_pos (Rat.natCast_pos.2 i2) (Rat.inv_pos.2 hd0)
theorem normQ_sq {q x:Rat} (hx:0 < x) (h:q=x * x):normQ q=(x,1):=by
 have h2:q=x ^ 2:=by rw [h,Rat.pow_succ,Rat.pow_one]
 have hn:q.num=x.num ^ 2:=by rw [h2];rfl
 have hd:q.den=x.den ^ 2:=by rw [h2];rfl
 have hx0:0 < x.num:=by
  have h3:=(Rat.lt_iff 0 x).1 hx
  simpa using h3
 have hq0:¬ q.num=0:=by rw [hn];exact Int.ne_of_gt (Int.pow_pos hx0)
 have hm:q.num.toNat * q.den=(x.num.toNat * x.den) * (x.num.toNat * x.den):=by
  have e:q.num.toNat=x.num.toNat * x.num.toNat:=by
   rw [hn]
   obtain ⟨k,hk⟩:∃ k:Nat,x.num=(k:Int):=⟨x.num.toNat,by omega⟩
   rw [hk,← Int.natCast_pow,Int.toNat_natCast,Int.toNat_natCast,Nat.pow_two]
  rw [e,hd,Nat.pow_two]
  simp [Nat.mul_assoc,Nat.mul_comm,Nat.mul_left_comm]
 have hpos:0 < q.num.toNat * q.den:=Nat.mul_pos (by
  have:0 < q.num:=by rw [hn];exact Int.pow_pos hx0
  omega) q.den_pos
 unfold normQ
 rw [if_neg hq0,normalN_sq hpos hm]
 refine Prod.ext ?_ rfl
 show Rat.divInt ((x.num.toNat * x.den:Nat):Int) ((q.den:Nat):Int)=x
 rw [hd,Nat.pow_two,Int.natCast_mul,Int.natCast_mul,Rat.divInt_mul_right (by have:=x.den_pos;omega)]
 have e:((x.num.toNat:Nat):Int)=x.num:=by omega
 rw [e]
 exact Rat.num_divInt_den x
end Go.Proofs.YthihcjgmlbnapaaGreatDoor
namespace Go.Proofs.YthihcjgmlbnapaaGreatDoor
open Go
theorem tt_take {L:TTexts} {n k:Nat} (h:k < n):tt (L.take n) k=tt L k:=by
 simp [tt,List.getD_eq_getElem?_getD,List.getElem?_take,h]
theorem tq_take {T:Terms} {n k:Nat} (h:k < n):tq (T.take n) k=tq T k:=by
 simp [tq,List.getD_eq_getElem?_getD,List.getElem?_take,h]
theorem tq_append {T S:Terms} {k:Nat} (h:k < T.length):tq (T++S) k=tq T k:=by
 simp [tq,List.getD_eq_getElem?_getD,List.getElem?_append_left h]
theorem tq_last {T:Terms} {x:Rat × Nat} {k:Nat} (h:T.length=k):tq (T++[x]) k=x:=by
 subst h
 simp [tq]
theorem SurdIs.take {L:TTexts} {T:Terms} (h:SurdIs L T) (n:Nat):SurdIs (L.take n) (T.take n):=by
 have hl:(L.take n).length≤L.length:=by rw [List.length_take];omega
 have hn:(L.take n).length≤n:=by rw [List.length_take];omega
 refine ⟨Nat.le_trans hl h.len,by rw [List.length_take,List.length_take,h.same],fun k hk=>?_,fun k hk=>?_,fun i k hik hk=>?_⟩
 ·rw [tt_take (by omega),tq_take (by omega)]
  exact h.ok k (by omega)
 ·rw [tq_take (by omega),tq_take (by omega)]
  exact h.asc k (by omega)
 ·rw [tq_take (by omega),tq_take (by omega)]
  exact h.apart i k hik (by omega)
theorem SurdIs.nil:SurdIs [] []:=⟨by decide,rfl,fun k hk=>absurd hk (by simp),fun k hk=>absurd hk (by simp),fun i k _ hk=>absurd hk (by simp)⟩
theorem step_iff {L:TTexts} {T:Terms} {k:Nat} (h:SurdIs (L.take k) T) (hk:k < L.length) (h16:L.length≤16) :
  SurdOk (L.take (k+1))↔∃ q m,TermOk (tt L k).1 (tt L k).2 q m∧(0 < k→(tq T (k - 1)).2 < m)∧∀ i,i < k→ratioB m (tq T i).2=false:=by
 have hTk:T.length=k:=by rw [h.same,List.length_take];omega
 have hlk:(L.take (k+1)).length=k+1:=by rw [List.length_take];omega
 have hlk0:(L.take k).length=k:=by rw [List.length_take];omega
 constructor
 ·rintro ⟨T',h'⟩
  have h2:=h'.take k
  rw [List.take_take,Nat.min_eq_left (by omega)] at h2
  have hT:T'.take k=T:=h2.uniq h
  have hq:∀ i,i < k→tq T i=tq T' i:=fun i hi=>by rw [← hT,tq_take hi]
  refine ⟨(tq T' k).1,(tq T' k).2,?_,fun h0=>?_,fun i hi=>?_⟩
  ·have:=h'.ok k (by omega)
   rwa [tt_take (by omega)] at this
  ·rw [hq _ (by omega)]
   have:=h'.asc (k - 1) (by omega)
   rwa [show k - 1+1=k by omega] at this
  ·rw [hq i hi]
   exact h'.apart i k hi (by omega)
 ·rintro ⟨q,m,h1,h2,h3⟩
  refine ⟨T++[(q,m)],by omega,by rw [hlk];simp [hTk],fun j hj=>?_,fun j hj=>?_,fun i j hij hj=>?_⟩
  ·rw [tt_take (by omega)]
   by_cases hjk:j=k
   ·subst hjk
    rw [tq_last hTk]
    exact h1
   ·rw [tq_append (by omega)]
    have:=h.ok j (by omega)
    rwa [tt_take (by omega)] at this
  ·by_cases hjk:j+1=k
   ·rw [hjk,tq_last hTk,tq_append (by omega)]
    have:=h2 (by omega)
    rwa [show k - 1=j by omega] at this
   ·rw [tq_append (by omega),tq_append (by omega)]
    exact h.asc j (by omega)
  ·by_cases hjk:j=k
   ·subst hjk
    rw [tq_last hTk,tq_append (by omega)]
    exact h3 i hij
   ·rw [tq_append (by omega),tq_append (by omega)]
    exact h.apart i j hij (by omega)
end Go.Proofs.YthihcjgmlbnapaaGreatDoor
namespace Go.Proofs.YthihcjgmlbnapaaGreatDoor
open Go
abbrev Raws:=List (Rat × Rat)
def rq (Q:Raws) (k:Nat):Rat × Rat:=Q.getD k (0,0)
def nzB (x:Rat × Rat):Bool:=decide (x.1≠0) && decide (x.2≠0)
def tv (x:Rat × Rat):Rat:=if nzB x=true then x.1 * (normQ x.2).1 else 0
def gsum (Q:Raws):Rat:=Q.foldl (fun s x=>s+tv x) 0
theorem gsum_snoc (Q:Raws) (x:Rat × Rat):gsum (Q++[x])=gsum Q+tv x:=by simp [gsum]
theorem gsum_none:∀ {Q:Raws},Q.any nzB=false→gsum Q=0:=by
 intro Q
 unfold gsum
 suffices h:∀ (Q:Raws) (s:Rat),Q.any nzB=false→Q.foldl (fun s x=>s+tv x) s=s from h Q 0
 intro Q
 induction Q with
 | nil=>intro s _;rfl
 | cons x Q ih =>
  intro s h
  simp only [List.any_cons,Bool.or_eq_false_iff] at h
  rw [List.foldl_cons,ih _ h.2]
  unfold tv
  rw [if_neg (by rw [h.1];decide),Rat.add_zero]
def gst (n:Nat) (Q:Raws):Option (Rat × Nat):=if Q.any nzB=true then some (gsum Q,n) else none
theorem gst_zero {n:Nat} {Q:Raws} {x:Rat × Rat} (h:nzB x=false):gst n (Q++[x])=gst n Q:=by
 have e:(Q++[x]).any nzB=Q.any nzB:=by simp [h]
 have e2:tv x=0:=by unfold tv;rw [h];rfl
 unfold gst
 rw [e,gsum_snoc,e2,Rat.add_zero]
theorem gst_more {n:Nat} {Q:Raws} {x:Rat × Rat} (h:nzB x=true):gst n (Q++[x])=some (gsum Q+tv x,n):=by
 unfold gst
 rw [gsum_snoc]
 simp [h]
theorem gst_some {n m:Nat} {Q:Raws} {S:Rat} (h:gst n Q=some (S,m)):S=gsum Q∧m=n:=by
 unfold gst at h
 split at h
 ·cases h;exact ⟨rfl,rfl⟩
 ·cases h
theorem gst_none {n:Nat} {Q:Raws} (h:gst n Q=none):gsum Q=0:=by
 unfold gst at h
 split at h
 ·cases h
 ·rename_i h2;exact gsum_none (by simpa using h2)
theorem rq_take {Q:Raws} {k:Nat} (h:k < Q.length):Q.take (k+1)=Q.take k++[rq Q k]:=by
 rw [List.take_succ_eq_append_getElem h]
 simp [rq,h]
structure OneC (Q:Raws) (n:Nat):Prop where
 len:Q.length≤256
 sq:∀ k,k < Q.length→Sz 90 (rq Q k).1
 sr:∀ k,k < Q.length→Sz 90 (rq Q k).2
 r0:∀ k,k < Q.length→0≤(rq Q k).2.num
 cls:∀ k,k < Q.length→nzB (rq Q k)=true→(normQ (rq Q k).2).2=n
 st:∀ k,k≤Q.length→Sz 90 (gsum (Q.take k))
 n1:1≤n
 n40:(Lib.decDigits n).length≤40
 nm:n=1∨normalN n=(1,n)
 fin:longD (gsum Q)≤60
def oneT (S:Rat) (n:Nat):Terms:=if S=0 then [] else [(S,n)]
def oneL (S:Rat) (n:Nat):TTexts:=if S=0 then [] else [(numS S,decS n)]
theorem oneL_is {S:Rat} {n:Nat} (h1:1≤n) (h2:(Lib.decDigits n).length≤40) (h3:n=1∨normalN n=(1,n)) (h4:longD S≤60):SurdIs (oneL S n) (oneT S n):=by
 unfold oneL oneT
 by_cases h0:S=0
 ·rw [if_pos h0,if_pos h0];exact SurdIs.nil
 ·rw [if_neg h0,if_neg h0]
  unfold longD at h4
  refine ⟨by simp,rfl,fun k hk=>?_,fun k hk=>?_,fun i k hik hk=>?_⟩
  ·obtain rfl:k=0:=by simpa using hk
   have e1:(tq [(S,n)] 0)=(S,n):=rfl
   have e2:(tt [(numS S,decS n)] 0)=(numS S,decS n):=rfl
   rw [e1,e2]
   exact ⟨numS_list S,decS_list n,h0,by dsimp only;omega,by dsimp only;omega,h1,h2,h3⟩
  ·simp at hk
  ·simp at hk;omega
theorem OneC.is {Q:Raws} {n:Nat} (h:OneC Q n):SurdIs (oneL (gsum Q) n) (oneT (gsum Q) n):=oneL_is h.n1 h.n40 h.nm h.fin
def IsRaw (L:TTexts) (Q:Raws):Prop:=L.length=Q.length∧∀ k,k < Q.length→(tt L k).1.data.toList=ratText (rq Q k).1∧(tt L k).2.data.toList=ratText (rq Q k).2
theorem normQ_one:normQ 1=(1,1):=normQ_sq (by decide +kernel) (Rat.mul_one 1).symm
theorem normQ_zero:normQ 0=(0,1):=rfl
theorem sq_lt_pow {c n m k:Nat} (h:c * c * n=m) (hn:0 < n) (hm:m < 10 ^ (k+k)):c < 10 ^ k:=by
 refine Nat.lt_of_not_le fun h2=>?_
 have h3:10 ^ k * 10 ^ k≤c * c:=Nat.mul_le_mul h2 h2
 have h4:c * c≤c * c * n:=Nat.le_mul_of_pos_right _ hn
 rw [Nat.pow_add] at hm
 omega
theorem normQ_sz {k:Nat} {q:Rat} (h0:0 < q.num) (h:Sz k q):Sz k (normQ q).1∧(normQ q).2 < 10 ^ (k+k):=by
 have hm:0 < q.num.toNat * q.den:=Nat.mul_pos (by omega) q.den_pos
 obtain ⟨i1,i2,i3,i4⟩:=normalN_inv hm
 have hlt:q.num.toNat * q.den < 10 ^ (k+k):=by
  rw [Nat.pow_add]
  have:q.num.toNat=q.num.natAbs:=by omega
  rw [this]
  exact Nat.mul_lt_mul'' h.1 h.2
 have hc:=sq_lt_pow i1 i3 hlt
 have hd:(0:Int) < (q.den:Int):=by have:=q.den_pos;omega
 have e:normQ q=(Rat.divInt ((normalN (q.num.toNat * q.den)).1:Nat) (q.den:Nat),(normalN (q.num.toNat * q.den)).2):=by unfold normQ;rw [if_neg (by omega)]
 rw [e]
 generalize normalN (q.num.toNat * q.den)=r at *
 obtain ⟨c,l⟩:=r
 dsimp only at *
 obtain ⟨a,b,g,_,hg,ha,hb,_,e1,e2,_⟩:=divInt_parts (c:Int) (q.den:Int) hd
 refine ⟨⟨?_,?_⟩,Nat.lt_of_le_of_lt i4 hlt⟩
 ·rw [e1]
  refine Nat.lt_of_le_of_lt ?_ hc
  have h3:(c:Int).natAbs=a.natAbs * g:=by rw [ha,Int.natAbs_mul];rfl
  rw [Int.natAbs_natCast] at h3
  rw [h3]
  exact Nat.le_mul_of_pos_right _ hg
 ·have h4:(q.den:Int).natAbs=b.natAbs * g:=by rw [hb,Int.natAbs_mul];rfl
  rw [Int.natAbs_natCast] at h4
  refine Nat.lt_of_le_of_lt ?_ h.2
  have h5:b.natAbs≤q.den:=by rw [h4];exact Nat.le_mul_of_pos_right _ hg
  omega
end Go.Proofs.YthihcjgmlbnapaaGreatDoor
namespace Go.Proofs.YthihcjgmlbnapaaGreatDoor
open Go.RowKit
def BoxT2 (t:TypeId) (W:World) (b:Nat) (x y:Value):Prop:=W.heap[b]?=some (.cells #[x,y] t (0,0))
theorem BoxT2.lt {t:TypeId} {W:World} {b:Nat} {x y:Value} (h:BoxT2 t W b x y):b < W.heap.size:=(Array.getElem?_eq_some_iff.1 h).1
theorem BoxT2.below {t:TypeId} {w w':World} {b:Nat} {x y:Value} (h:BoxT2 t w b x y) (hB:Below w.heap.size w w'):BoxT2 t w' b x y:=(hB.block b h.lt).trans h
theorem BoxT2.c0 {t:TypeId} {W:World} {b:Nat} {x y:Value} (h:BoxT2 t W b x y):W.cell? ⟨b,0,none⟩=some x:=by simp only [World.cell?,show W.heap[b]?=_ from h];rfl
theorem BoxT2.c1 {t:TypeId} {W:World} {b:Nat} {x y:Value} (h:BoxT2 t W b x y):W.cell? ⟨b,1,none⟩=some y:=by simp only [World.cell?,show W.heap[b]?=_ from h];rfl
theorem BoxT2.new {t:TypeId} {X:World} {n:Nat} {x y:Value} (h:X.heap.size=n):BoxT2 t (X.alloc (.cells #[x,y] t)) n x y:=by subst h;exact World.alloc_heap_new _ _
theorem BoxT2.but {t:TypeId} {W W':World} {b c:Nat} {x y:Value} (h:BoxT2 t W b x y) (hs:SameBut c W W') (hne:b≠c):BoxT2 t W' b x y:=(hs.block b hne).trans h
theorem wpList_store2 {P:Program} {ops:Array Oper} {rest:List Oper} {o:Oper} {a:Act} {w:World} {Q:Exit→Act→World→Prop} (hgd:o.guard=none) (ty:TypeId) (p x:Operand) (ho:o.op=.store ty p x)
  {b:Nat} {x0 y0 x1 y1:Value} (hA:BoxT2 ty w b x0 y0) (hi:(P.info? ty).map (·.size)=some 2) (h1:x1.oneCell'=true) (h2:y1.oneCell'=true) (hp:a.eval p=.pointer (some ⟨b,0,none⟩)) (hx:a.eval x=.agg #[x1,y1])
  (h:∀ W,SameBut b w W→BoxT2 ty W b x1 y1→wpList P ops Q rest (a.put o.dst undef) W):wpList P ops Q (o::rest) a w :=
 wpList_store_row hgd ty p x ho b #[x1,y1] hp hx ty #[x0,y0] hA hi rfl (by simp [h1,h2]) (h _ (setRow_sameBut _ _ _) (setRow_at hA))
def BoxT1 (t:TypeId) (W:World) (b:Nat) (x:Value):Prop:=W.heap[b]?=some (.cells #[x] t (0,0))
theorem BoxT1.lt {t:TypeId} {W:World} {b:Nat} {x:Value} (h:BoxT1 t W b x):b < W.heap.size:=(Array.getElem?_eq_some_iff.1 h).1
theorem BoxT1.below {t:TypeId} {w w':World} {b:Nat} {x:Value} (h:BoxT1 t w b x) (hB:Below w.heap.size w w'):BoxT1 t w' b x:=(hB.block b h.lt).trans h
theorem BoxT1.c0 {t:TypeId} {W:World} {b:Nat} {x:Value} (h:BoxT1 t W b x):W.cell? ⟨b,0,none⟩=some x:=by simp only [World.cell?,show W.heap[b]?=_ from h];rfl
theorem BoxT1.new {t:TypeId} {X:World} {n:Nat} {x:Value} (h:X.heap.size=n):BoxT1 t (X.alloc (.cells #[x] t)) n x:=by subst h;exact World.alloc_heap_new _ _
theorem BoxT1.but {t:TypeId} {W W':World} {b c:Nat} {x:Value} (h:BoxT1 t W b x) (hs:SameBut c W W') (hne:b≠c):BoxT1 t W' b x:=(hs.block b hne).trans h
theorem Tryz.infoClass:(Tryz.prog.info? 78).map (·.size)=some 2:=by kernel_rfl
theorem Tryz.infoClass3:(Tryz.prog.info? 78).map (fun i=>(i.zero,i.size,i.bytes))=some (some (.agg #[.string ⟨#[]⟩,.string ⟨#[]⟩]),2,32):=by kernel_rfl
theorem ratio_self {n:Nat} (h:1≤n):ratioB n n=true∧ratioQ n n=1:=by
 have e:n / Nat.gcd n n=1:=by rw [Nat.gcd_self];exact Nat.div_self h
 have h1:rootN 1=1:=rootN_sq 1
 unfold ratioB ratioQ isSqN
 rw [e,h1]
 exact ⟨by decide,by decide +kernel⟩
theorem Tryz.infoClasses:(Tryz.prog.info? 72).map (·.size)=some 1:=by kernel_rfl
theorem two_cells {t:TypeId} {W:World} {b:Nat} {x y:Value} (h:BoxT2 t W b x y):∀ j u,[x,y][j]?=some u→W.cell? ((⟨b,0,none⟩:Addr).add j)=some u:=by
 intro j u hj
 rw [addr_addT]
 match j,hj with
 | 0,hj=>simp at hj;subst hj;exact h.c0
 | 1,hj=>simp at hj;subst hj;exact h.c1
theorem wp_store1 {P:Program} {o:Oper} {a:Act} {Q:Exit→Act→World→Prop} {K:Act→World→Prop} (ty T:TypeId) (p x:Operand) (ho:o.op=.store ty p x) {w:World} {b:Nat} {v0 v1:Value} (hA:BoxT1 T w b v0)
  (hi:(P.info? ty).map (·.size)=some 1) (h1:v1.oneCell'=true) (hp:a.eval p=.pointer (some ⟨b,0,none⟩)) (hx:a.eval x=v1) (h:∀ W,SameBut b w W→BoxT1 T W b v1→K (a.put o.dst undef) W):o.wp P a w K Q:=by
 have hrow:=run_storeVar_one (P:=P) w b T ty v0 v1 hA hi h1
 unfold Oper.wp execOp
 rw [ho]
 simp only [hp,hx,Sem.run_bind,Instr.storeAt,Instr.sureAddr,Sem.run_pure,Result.andThen_ok,hrow]
 exact h _ (setRow_sameBut _ _ _) (setRow_at hA)
end Go.Proofs.YthihcjgmlbnapaaGreatDoor
namespace Go.Proofs.YthihcjgmlbnapaaGreatDoor
open Go
def uP (P:Nat):Rat:=1 / ((10 ^ P:Nat):Rat)
theorem tenR_pos (P:Nat):(0:Rat) < ((10 ^ P:Nat):Rat):=Rat.natCast_pos.2 (Nat.pow_pos (by decide))
theorem uP_mul (P:Nat):uP P * ((10 ^ P:Nat):Rat)=1:=by
 have h:=tenR_pos P
 unfold uP
 exact Rat.div_mul_cancel (fun h2=>by rw [h2] at h;exact Rat.lt_irrefl h)
theorem uP_pos (P:Nat):0 < uP P:=by
 unfold uP
 rw [Rat.div_def,Rat.one_mul]
 exact Rat.inv_pos.2 (tenR_pos P)
def xr (P n:Nat):Rat:=((rootN (n * (10 ^ P * 10 ^ P)):Nat):Rat) * uP P
theorem sq_lt_of {a b:Rat} (ha:0≤a) (hb:0≤b) (h:a * a≤b * b):a≤b:=by
 refine Rat.not_lt.1 fun h2=>?_
 have:0 < (a - b) * (a+b):=Rat.mul_pos (by grind) (by grind)
 grind
theorem lt_of_sq {a b:Rat} (hb:0≤b) (h:a * a < b * b):a < b:=by
 refine Rat.not_le.1 fun h2=>?_
 have:0≤(a - b) * (a+b):=Rat.mul_nonneg (by grind) (by grind)
 grind
theorem xr_nonneg (P n:Nat):0≤xr P n:=Rat.mul_nonneg Rat.natCast_nonneg (Rat.le_of_lt (uP_pos P))
theorem xr_sq (P n:Nat):xr P n * xr P n≤((n:Nat):Rat)∧((n:Nat):Rat) < (xr P n+uP P) * (xr P n+uP P):=by
 obtain ⟨h1,h2⟩:=rootN_spec (n * (10 ^ P * 10 ^ P))
 have hu:=uP_pos P
 have hm:=uP_mul P
 unfold xr
 have g1:((rootN (n * (10 ^ P * 10 ^ P)):Nat):Rat) * ((rootN (n * (10 ^ P * 10 ^ P)):Nat):Rat)≤((n:Nat):Rat) * (((10 ^ P:Nat):Rat) * ((10 ^ P:Nat):Rat)):=by
  rw [← Rat.natCast_mul,← Rat.natCast_mul,← Rat.natCast_mul]
  exact Rat.natCast_le_natCast.2 h1
 have g2:((n:Nat):Rat) * (((10 ^ P:Nat):Rat) * ((10 ^ P:Nat):Rat)) < (((rootN (n * (10 ^ P * 10 ^ P)):Nat):Rat)+1) * (((rootN (n * (10 ^ P * 10 ^ P)):Nat):Rat)+1):=by
  have e:(((rootN (n * (10 ^ P * 10 ^ P)):Nat):Rat)+1)=((rootN (n * (10 ^ P * 10 ^ P))+1:Nat):Rat):=by rw [Rat.natCast_add];rfl
  rw [e,← Rat.natCast_mul,← Rat.natCast_mul,← Rat.natCast_mul]
  exact Rat.natCast_lt_natCast.2 h2
 generalize ((rootN (n * (10 ^ P * 10 ^ P)):Nat):Rat)=r at *
 generalize ((10 ^ P:Nat):Rat)=t at *
 generalize ((n:Nat):Rat)=m at *
 generalize uP P=u at *
 clear h1 h2
 have huu:0 < u * u:=Rat.mul_pos hu hu
 have k1:=Rat.mul_le_mul_of_nonneg_left g1 (Rat.le_of_lt huu)
 have k2:=Rat.mul_lt_mul_of_pos_left g2 huu
 have e1:u * u * (m * (t * t))=m:=by
  have:u * u * (m * (t * t))=m * (u * t) * (u * t):=by grind
  rw [this,hm];grind
 rw [e1] at k1 k2
 constructor
 ·grind
 ·grind
def Near0 (f:Nat→Rat):Prop:=∃ C:Rat,0≤C∧∀ P,-(C * uP P)≤f P∧f P≤C * uP P
def PosF (f:Nat→Rat):Prop:=∃ e C:Rat,0 < e∧0≤C∧∀ P,e - C * uP P≤f P
theorem Near0.zero {f:Nat→Rat} (h:∀ P,f P=0):Near0 f:=⟨0,Rat.le_refl,fun P=>by rw [h P];grind⟩
theorem Near0.add {f g h:Nat→Rat} (hf:Near0 f) (hg:Near0 g) (e:∀ P,h P=f P+g P):Near0 h:=by
 obtain ⟨C,c0,hC⟩:=hf
 obtain ⟨D,d0,hD⟩:=hg
 refine ⟨C+D,by grind,fun P=>?_⟩
 have h1:=hC P
 have h2:=hD P
 rw [e P]
 grind
theorem Near0.mul {f h:Nat→Rat} {k:Rat} (hf:Near0 f) (e:∀ P,h P=k * f P):Near0 h:=by
 obtain ⟨C,c0,hC⟩:=hf
 by_cases hk:0≤k
 ·refine ⟨k * C,Rat.mul_nonneg hk c0,fun P=>?_⟩
  obtain ⟨h1,h2⟩:=hC P
  have k1:=Rat.mul_le_mul_of_nonneg_left h1 hk
  have k2:=Rat.mul_le_mul_of_nonneg_left h2 hk
  rw [e P]
  grind
 ·have hk':0≤-k:=by grind
  refine ⟨-k * C,Rat.mul_nonneg hk' c0,fun P=>?_⟩
  obtain ⟨h1,h2⟩:=hC P
  have k1:=Rat.mul_le_mul_of_nonneg_left h1 hk'
  have k2:=Rat.mul_le_mul_of_nonneg_left h2 hk'
  rw [e P]
  grind
theorem PosF.near {f g h:Nat→Rat} (hf:PosF f) (hg:Near0 g) (e:∀ P,h P=f P+g P):PosF h:=by
 obtain ⟨a,C,a0,c0,hC⟩:=hf
 obtain ⟨D,d0,hD⟩:=hg
 refine ⟨a,C+D,a0,by grind,fun P=>?_⟩
 have h1:=hC P
 have h2:=hD P
 rw [e P]
 grind
theorem PosF.add {f g h:Nat→Rat} (hf:PosF f) (hg:PosF g) (e:∀ P,h P=f P+g P):PosF h:=by
 obtain ⟨a,C,a0,c0,hC⟩:=hf
 obtain ⟨b,D,b0,d0,hD⟩:=hg
 refine ⟨a+b,C+D,by grind,by grind,fun P=>?_⟩
 have h1:=hC P
 have h2:=hD P
 rw [e P]
 grind
theorem PosF.mul {f h:Nat→Rat} {k:Rat} (hf:PosF f) (hk:0 < k) (e:∀ P,h P=k * f P):PosF h:=by
 obtain ⟨a,C,a0,c0,hC⟩:=hf
 refine ⟨k * a,k * C,Rat.mul_pos hk a0,Rat.mul_nonneg (Rat.le_of_lt hk) c0,fun P=>?_⟩
 have h1:=Rat.mul_le_mul_of_nonneg_left (hC P) (Rat.le_of_lt hk)
 rw [e P]
 grind
theorem PosF.const {f:Nat→Rat} {c:Rat} (hc:0 < c) (e:∀ P,f P=c):PosF f:=⟨c,0,hc,Rat.le_refl,fun P=>by rw [e P];grind⟩
theorem lt_ten (P:Nat):P < 10 ^ P:=by
 induction P with
 | zero=>decide
 | succ n ih=>rw [Nat.pow_succ];omega
theorem not_pos_zero {f:Nat→Rat} (hf:PosF f) (e:∀ P,f P=0):False:=by
 obtain ⟨a,C,a0,c0,hC⟩:=hf
 have h:∀ P,a * ((10 ^ P:Nat):Rat)≤C:=fun P=>by
  have h1:=hC P
  rw [e P] at h1
  have h2:=Rat.mul_le_mul_of_nonneg_left h1 (Rat.le_of_lt (tenR_pos P))
  have h3:=uP_mul P
  generalize ((10 ^ P:Nat):Rat)=t at *
  generalize uP P=u at *
  have h4:t * (a - C * u)=a * t - C * (u * t):=by grind
  rw [h4,h3] at h2
  grind
 have hq:0≤C / a:=by rw [Rat.div_def];exact Rat.mul_nonneg c0 (Rat.le_of_lt (Rat.inv_pos.2 a0))
 have hfl:=Rat.lt_floor_add_one (C / a)
 have hf0:0≤(C / a).floor:=Rat.le_floor_iff.2 (by simpa using hq)
 obtain ⟨m,hm⟩:∃ m:Nat,(C / a).floor+1=(m:Int):=⟨((C / a).floor+1).toNat,by omega⟩
 rw [hm] at hfl
 have h5:=h m
 have h6:((m:Int):Rat) < ((10 ^ m:Nat):Rat):=Rat.natCast_lt_natCast.2 (lt_ten m)
 have h7:=Rat.mul_lt_mul_of_pos_left hfl a0
 have h8:a * (C / a)=C:=by rw [Rat.mul_comm];exact Rat.div_mul_cancel (fun h=>by rw [h] at a0;exact Rat.lt_irrefl a0)
 rw [h8] at h7
 have h9:=Rat.mul_lt_mul_of_pos_left h6 a0
 grind
theorem PosF.notNear {f:Nat→Rat} (hf:PosF f) (hg:Near0 f):False :=
 not_pos_zero (f:=fun _=>0) (PosF.near (h:=fun _=>0) hf (hg.mul (h:=fun P=>-1 * f P) fun _=>rfl) (fun P=>by grind)) fun _=>rfl
theorem PosF.notNeg {f g:Nat→Rat} (hf:PosF f) (hg:PosF g) (e:∀ P,g P=- f P):False :=
 not_pos_zero (f:=fun _=>0) (PosF.add (h:=fun _=>0) hf hg (fun P=>by rw [e P];grind)) fun _=>rfl
def valT:Terms→Nat→Rat
 | [],_=>0
 | x::T,P=>x.1 * xr P x.2+valT T P
theorem valT_append (T S:Terms) (P:Nat):valT (T++S) P=valT T P+valT S P:=by
 induction T with
 | nil=>simp only [List.nil_append,valT];grind
 | cons x T ih=>simp only [List.cons_append,valT,ih];grind
theorem valT_perm {T S:Terms} (h:T.Perm S) (P:Nat):valT T P=valT S P:=by
 induction h with
 | nil=>rfl
 | cons x _ ih=>simp only [valT,ih]
 | swap x y l=>simp only [valT];grind
 | trans _ _ h1 h2=>rw [h1,h2]
def nt (x:Rat × Rat):Rat × Nat:=(x.1 * (normQ x.2).1,(normQ x.2).2)
def valQ (Q:Raws):Nat→Rat:=valT (Q.map nt)
theorem xr_one (P:Nat):xr P 1=1:=by
 unfold xr
 rw [Nat.one_mul,rootN_sq,Rat.mul_comm]
 exact uP_mul P
theorem valT_unit (c:Rat) (P:Nat):valT [(c,1)] P=c:=by
 simp only [valT,xr_one];grind
theorem valT_oneT (c:Rat) (P:Nat):valT (oneT c 1) P=c:=by
 unfold oneT
 split
 ·rename_i h;rw [h];rfl
 ·exact valT_unit c P
theorem xr_ratio {h l:Nat} {k:Rat} (hk:0 < k) (e:k * k * ((l:Nat):Rat)=((h:Nat):Rat)):Near0 (fun P=>xr P h - k * xr P l):=by
 refine ⟨1+k,by grind,fun P=>?_⟩
 obtain ⟨a1,a2⟩:=xr_sq P h
 obtain ⟨b1,b2⟩:=xr_sq P l
 have hu:=uP_pos P
 have x0:=xr_nonneg P h
 have y0:=xr_nonneg P l
 rw [← e] at a1 a2
 dsimp only
 generalize xr P h=x at *
 generalize xr P l=y at *
 generalize uP P=u at *
 generalize ((l:Nat):Rat)=n at *
 have hk0:=Rat.le_of_lt hk
 have hkk:0 < k * k:=Rat.mul_pos hk hk
 -- (k y)^2 <= k k n < (x+u)^2
 have c1:k * y < x+u:=by
  refine lt_of_sq (by grind) ?_
  have:=Rat.mul_le_mul_of_nonneg_left b1 (Rat.le_of_lt hkk)
  grind
 have c2:x < k * (y+u):=by
  refine lt_of_sq (Rat.mul_nonneg hk0 (by grind)) ?_
  have:=Rat.mul_lt_mul_of_pos_left b2 hkk
  grind
 have c3:0≤k * u:=Rat.mul_nonneg hk0 (Rat.le_of_lt hu)
 grind
end Go.Proofs.YthihcjgmlbnapaaGreatDoor
namespace Go.Proofs.YthihcjgmlbnapaaGreatDoor
open Go
def flI (c:Rat) (m p:Nat):Int :=
 let s:=c.num.natAbs * c.num.natAbs * m * (10 ^ p * 10 ^ p)
 let r:=rootN s
 if c.num < 0 then -(((r / c.den+(if r * r=s∧r % c.den=0 then 0 else 1):Nat)):Int) else ((r / c.den:Nat):Int)
theorem below_by {B Y:Rat} (hB:0 < B) (h:Y < B * B) (hY:0≤Y):∃ e:Rat,0 < e∧∀ z,0≤z→z * z≤Y→z≤B - e:=by
 have h2:0 < 2 * B:=by grind
 have hn:(2 * B)≠0:=fun h=>by rw [h] at h2;exact Rat.lt_irrefl h2
 obtain ⟨e,he⟩:∃ e,(B * B - Y) / (2 * B)=e:=⟨_,rfl⟩
 have e1:e * (2 * B)=B * B - Y:=by rw [← he];exact Rat.div_mul_cancel hn
 have e0:0 < e:=by rw [← he,Rat.div_def];exact Rat.mul_pos (by grind) (Rat.inv_pos.2 h2)
 refine ⟨e,e0,fun z hz h3=>?_⟩
 have hBe:0≤B - e:=by
  refine Rat.not_lt.1 fun h4=>?_
  have:0 < (e - B) * (2 * B):=Rat.mul_pos (by grind) h2
  have:0 < B * B:=Rat.mul_pos hB hB
  grind
 have hee:0≤e * e:=Rat.le_of_lt (Rat.mul_pos e0 e0)
 exact sq_lt_of hz hBe (by grind)
theorem above_by {B Y:Rat} (hB:0≤B) (h:B * B < Y):∃ e:Rat,0 < e∧∀ z,0≤z→Y≤z * z→B+e≤z:=by
 have h2:0 < 2 * B+1+(Y - B * B):=by grind
 have hn:(2 * B+1+(Y - B * B))≠0:=fun h=>by rw [h] at h2;exact Rat.lt_irrefl h2
 obtain ⟨e,he⟩:∃ e,(Y - B * B) / (2 * B+1+(Y - B * B))=e:=⟨_,rfl⟩
 have e1:e * (2 * B+1+(Y - B * B))=Y - B * B:=by rw [← he];exact Rat.div_mul_cancel hn
 have e0:0 < e:=by rw [← he,Rat.div_def];exact Rat.mul_pos (by grind) (Rat.inv_pos.2 h2)
 have e2:e≤1:=by
  refine Rat.not_lt.1 fun h4=>?_
  have:0 < (e - 1) * (2 * B+1+(Y - B * B)):=Rat.mul_pos (by grind) h2
  grind
 refine ⟨e,e0,fun z hz h3=>?_⟩
 have k1:0≤e * (1 - e):=Rat.mul_nonneg (Rat.le_of_lt e0) (by grind)
 have k2:0≤e * (Y - B * B):=Rat.mul_nonneg (Rat.le_of_lt e0) (by grind)
 exact sq_lt_of (by grind) hz (by grind)
theorem scale_le {g d N m T:Nat} {u K:Rat} (hd:1≤d) (hT:1≤T) (hu:u * ((T:Nat):Rat)=1) (hK:K * ((d:Nat):Rat)=((N:Nat):Rat)) :
  ((g * d) * (g * d)≤N * N * m * (T * T)→(((g:Nat):Rat) * u) * (((g:Nat):Rat) * u)≤K * K * ((m:Nat):Rat))∧(N * N * m * (T * T) < (g * d) * (g * d)→K * K * ((m:Nat):Rat) < (((g:Nat):Rat) * u) * (((g:Nat):Rat) * u))
  ∧ ((g * d) * (g * d) < N * N * m * (T * T)→(((g:Nat):Rat) * u) * (((g:Nat):Rat) * u) < K * K * ((m:Nat):Rat))∧(N * N * m * (T * T)≤(g * d) * (g * d)→K * K * ((m:Nat):Rat)≤(((g:Nat):Rat) * u) * (((g:Nat):Rat) * u)):=by
 have hd0:(0:Rat) < ((d:Nat):Rat):=Rat.natCast_pos.2 hd
 have hT0:(0:Rat) < ((T:Nat):Rat):=Rat.natCast_pos.2 hT
 have c1:(((g * d) * (g * d):Nat):Rat)=((g:Nat):Rat) * ((d:Nat):Rat) * (((g:Nat):Rat) * ((d:Nat):Rat)):=by rw [Rat.natCast_mul,Rat.natCast_mul]
 have c2:((N * N * m * (T * T):Nat):Rat)=((N:Nat):Rat) * ((N:Nat):Rat) * ((m:Nat):Rat) * (((T:Nat):Rat) * ((T:Nat):Rat)):=by rw [Rat.natCast_mul,Rat.natCast_mul,Rat.natCast_mul,Rat.natCast_mul]
 have l1:((g * d) * (g * d)≤N * N * m * (T * T))→(((g * d) * (g * d):Nat):Rat)≤((N * N * m * (T * T):Nat):Rat):=Rat.natCast_le_natCast.2
 have l2:((g * d) * (g * d) < N * N * m * (T * T))→(((g * d) * (g * d):Nat):Rat) < ((N * N * m * (T * T):Nat):Rat):=Rat.natCast_lt_natCast.2
 have l3:(N * N * m * (T * T)≤(g * d) * (g * d))→((N * N * m * (T * T):Nat):Rat)≤(((g * d) * (g * d):Nat):Rat):=Rat.natCast_le_natCast.2
 have l4:(N * N * m * (T * T) < (g * d) * (g * d))→((N * N * m * (T * T):Nat):Rat) < (((g * d) * (g * d):Nat):Rat):=Rat.natCast_lt_natCast.2
 rw [c1,c2] at l1 l2 l3 l4
 generalize ((g:Nat):Rat)=G at *
 generalize ((m:Nat):Rat)=M at *
 generalize ((N:Nat):Rat)=R at *
 generalize ((d:Nat):Rat)=D at *
 generalize ((T:Nat):Rat)=W at *
 have hDW:0 < D * W:=Rat.mul_pos hd0 hT0
 have hq:0 < D * W * (D * W):=Rat.mul_pos hDW hDW
 have f1:D * W * (D * W) * (G * u * (G * u))=G * D * (G * D):=by
  have:D * W * (D * W) * (G * u * (G * u))=G * D * (G * D) * (u * W) * (u * W):=by grind
  rw [this,hu];grind
 have f2:D * W * (D * W) * (K * K * M)=R * R * M * (W * W):=by
  have:D * W * (D * W) * (K * K * M)=(K * D) * (K * D) * M * (W * W):=by grind
  rw [this,hK]
 have key1:∀ a b:Rat,D * W * (D * W) * a≤D * W * (D * W) * b→a≤b:=fun a b h=>Rat.not_lt.1 fun h2=>by
  have:=Rat.mul_lt_mul_of_pos_left h2 hq
  grind
 have key2:∀ a b:Rat,D * W * (D * W) * a < D * W * (D * W) * b→a < b:=fun a b h=>Rat.not_le.1 fun h2=>by
  have:=Rat.mul_le_mul_of_nonneg_left h2 (Rat.le_of_lt hq)
  grind
 refine ⟨fun h=>key1 _ _ ?_,fun h=>key2 _ _ ?_,fun h=>key2 _ _ ?_,fun h=>key1 _ _ ?_⟩
 ·rw [f1,f2];exact l1 h
 ·rw [f1,f2];exact l4 h
 ·rw [f1,f2];exact l2 h
 ·rw [f1,f2];exact l3 h
theorem fl_bounds {c:Rat} {m:Nat} (p:Nat) (hc:c≠0) (hm:1≤m):∃ A e:Rat,0≤A∧0 < e∧∀ P,(flI c m p:Rat) * uP p - A * uP P≤c * xr P m∧c * xr P m≤((flI c m p:Rat)+1) * uP p - e+A * uP P:=by
 have hd:=c.den_pos
 have hT:1≤10 ^ p:=Nat.pow_pos (by decide)
 obtain ⟨K,hK⟩:∃ K:Rat,Rat.divInt ((c.num.natAbs:Nat):Int) ((c.den:Nat):Int)=K:=⟨_,rfl⟩
 have hdn:((c.den:Nat):Rat)≠0:=by rw [Ne,Rat.natCast_eq_zero_iff];omega
 have hKd:K * ((c.den:Nat):Rat)=((c.num.natAbs:Nat):Rat):=by
  rw [← hK,Rat.divInt_eq_div]
  exact Rat.div_mul_cancel hdn
 have hN:1≤c.num.natAbs:=by
  have:c.num≠0:=fun h=>hc (Rat.num_eq_zero.1 h)
  omega
 have hK0:0 < K:=by
  refine Rat.not_le.1 fun h=>?_
  have h1:(0:Rat) < ((c.num.natAbs:Nat):Rat):=Rat.natCast_pos.2 hN
  have h2:=Rat.mul_le_mul_of_nonneg_left h (show (0:Rat)≤((c.den:Nat):Rat) from Rat.natCast_nonneg)
  rw [← hKd] at h1
  grind
 have hcK:c=if c.num < 0 then -K else K:=by
  have e1:c * ((c.den:Nat):Rat)=((c.num:Int):Rat):=by
   have h1:=Rat.num_divInt_den c
   rw [Rat.divInt_eq_div] at h1
   conv=>lhs;lhs;rw [← h1]
   exact Rat.div_mul_cancel hdn
  have inj:∀ a b:Rat,a * ((c.den:Nat):Rat)=b * ((c.den:Nat):Rat)→a=b:=fun a b h=>by grind
  refine inj _ _ ?_
  rw [e1]
  split
  ·rename_i h
   have h3:c.num=-((c.num.natAbs:Nat):Int):=by omega
   have h4:((c.num:Int):Rat)=-((c.num.natAbs:Nat):Rat):=by
    conv=>lhs;rw [h3]
    rw [Rat.intCast_neg];rfl
   rw [h4,← hKd];grind
  ·rename_i h
   have h3:c.num=((c.num.natAbs:Nat):Int):=by omega
   rw [hKd]
   conv=>lhs;rw [h3]
   rfl
 have hu:uP p * ((10 ^ p:Nat):Rat)=1:=uP_mul p
 have hup:=uP_pos p
 have hY:0≤K * K * ((m:Nat):Rat):=Rat.mul_nonneg (Rat.le_of_lt (Rat.mul_pos hK0 hK0)) Rat.natCast_nonneg
 have bds:∀ P,0≤K * xr P m∧(K * xr P m) * (K * xr P m)≤K * K * ((m:Nat):Rat)∧0≤K * (xr P m+uP P)∧K * K * ((m:Nat):Rat)≤(K * (xr P m+uP P)) * (K * (xr P m+uP P)):=fun P=>by
  obtain ⟨a1,a2⟩:=xr_sq P m
  have x0:=xr_nonneg P m
  have v0:=uP_pos P
  have hkk:0 < K * K:=Rat.mul_pos hK0 hK0
  have k1:=Rat.mul_le_mul_of_nonneg_left a1 (Rat.le_of_lt hkk)
  have k2:=Rat.mul_lt_mul_of_pos_left a2 hkk
  refine ⟨Rat.mul_nonneg (Rat.le_of_lt hK0) x0,by grind,Rat.mul_nonneg (Rat.le_of_lt hK0) (by grind),by grind⟩
 have h0:0≤K * K * ((m:Nat):Rat):=hY
 have hs1:1≤c.num.natAbs * c.num.natAbs * m * (10 ^ p * 10 ^ p):=Nat.mul_pos (Nat.mul_pos (Nat.mul_pos hN hN) hm) (Nat.mul_pos hT hT)
 unfold flI
 dsimp only
 have SC:=fun g=>scale_le (g:=g) (N:=c.num.natAbs) (m:=m) hd hT hu hKd
 generalize c.num.natAbs * c.num.natAbs * m * (10 ^ p * 10 ^ p)=s at *
 obtain ⟨r1,r2⟩:=rootN_spec s
 generalize rootN s=r at *
 have q1:=Nat.div_add_mod r c.den
 have q2:=Nat.mod_lt r hd
 generalize hq:r / c.den=q at *
 generalize r % c.den=t at *
 have hqd:q * c.den+t=r:=by rw [Nat.mul_comm];exact q1
 generalize c.den=d at *
 generalize K * K * ((m:Nat):Rat)=Y at *
 generalize uP p=u at *
 have g1:q * d≤r:=by omega
 have g2:r+1≤(q+1) * d:=by rw [Nat.add_mul,Nat.one_mul];omega
 have m1:(q * d) * (q * d)≤r * r:=Nat.mul_le_mul g1 g1
 have m2:(r+1) * (r+1)≤((q+1) * d) * ((q+1) * d):=Nat.mul_le_mul g2 g2
 by_cases hn:c.num < 0
 ·rw [if_pos hn] at hcK ⊢
  obtain ⟨g,hg,ha,hb,hc1⟩:∃ g:Nat,(q+(if r * r=s∧t=0 then 0 else 1))=g∧1≤g∧s≤(g * d) * (g * d)∧((g - 1) * d) * ((g - 1) * d) < s:=by
   by_cases hx:r * r=s∧t=0
   ·rw [if_pos hx]
    obtain ⟨hx1,hx2⟩:=hx
    have hqr:q * d=r:=by omega
    have hr1:1≤r:=by
     rcases Nat.eq_zero_or_pos r with h|h
     ·rw [h] at hx1;omega
     ·exact h
    have hq1:1≤q:=by
     rcases Nat.eq_zero_or_pos q with h|h
     ·rw [h,Nat.zero_mul] at hqr;omega
     ·exact h
    refine ⟨q,rfl,hq1,by rw [hqr];omega,?_⟩
    have h3:(q - 1) * d < r:=by
     rw [← hqr]
     exact Nat.mul_lt_mul_of_pos_right (by omega) hd
    rw [← hx1]
    exact Nat.mul_lt_mul'' h3 h3
   ·rw [if_neg hx]
    refine ⟨q+1,rfl,by omega,by omega,?_⟩
    rw [Nat.add_sub_cancel]
    by_cases hx1:r * r=s
    ·have ht:t≠0:=fun h=>hx ⟨hx1,h⟩
     have h3:q * d < r:=by omega
     rw [← hx1]
     exact Nat.mul_lt_mul'' h3 h3
    ·omega
  rw [hg]
  have f1:=(SC g).2.2.2 hb
  have f2:=(SC (g - 1)).2.2.1 hc1
  have hgi:((g - 1:Nat):Rat)=((g:Nat):Rat) - 1:=by
   have h3:((g - 1:Nat):Rat)+1=((g:Nat):Rat):=by
    have:((g - 1+1:Nat):Rat)=((g - 1:Nat):Rat)+1:=Rat.natCast_add _ _
    rw [← this,Nat.sub_add_cancel ha]
   grind
  have hg0:(0:Rat)≤((g - 1:Nat):Rat):=Rat.natCast_nonneg
  have hgn:(0:Rat)≤((g:Nat):Rat):=Rat.natCast_nonneg
  obtain ⟨e,e0,he⟩:=above_by (B:=((g - 1:Nat):Rat) * u) (Y:=Y) (Rat.mul_nonneg hg0 (Rat.le_of_lt hup)) f2
  refine ⟨K,e,Rat.le_of_lt hK0,e0,fun P=>?_⟩
  obtain ⟨b1,b2,b3,b4⟩:=bds P
  have k1:=sq_lt_of b1 (Rat.mul_nonneg hgn (Rat.le_of_lt hup)) (Rat.le_trans b2 f1)
  have k2:=he _ b3 b4
  rw [hgi] at k2
  have hci:(((-((g:Nat):Int)):Int):Rat)=-((g:Nat):Rat):=by rw [Rat.intCast_neg];rfl
  have hvp:0≤K * uP P:=Rat.mul_nonneg (Rat.le_of_lt hK0) (Rat.le_of_lt (uP_pos P))
  rw [hci,hcK]
  constructor
  ·grind
  ·grind
 ·rw [if_neg hn] at hcK ⊢
  have f1:=(SC q).1 (Nat.le_trans m1 r1)
  have f2:=(SC (q+1)).2.1 (Nat.lt_of_lt_of_le r2 m2)
  have hqi:((q+1:Nat):Rat)=((q:Nat):Rat)+1:=Rat.natCast_add _ _
  have hq0:(0:Rat)≤((q:Nat):Rat):=Rat.natCast_nonneg
  obtain ⟨e,e0,he⟩:=below_by (B:=((q+1:Nat):Rat) * u) (Y:=Y) (Rat.mul_pos (Rat.natCast_pos.2 (by omega)) hup) f2 hY
  refine ⟨K,e,Rat.le_of_lt hK0,e0,fun P=>?_⟩
  obtain ⟨b1,b2,b3,b4⟩:=bds P
  have k1:=sq_lt_of (Rat.mul_nonneg hq0 (Rat.le_of_lt hup)) b3 (Rat.le_trans f1 b4)
  have k2:=he _ b1 b2
  rw [hqi] at k2
  have hci:(((q:Nat):Int):Rat)=((q:Nat):Rat):=rfl
  have hvp:0≤K * uP P:=Rat.mul_nonneg (Rat.le_of_lt hK0) (Rat.le_of_lt (uP_pos P))
  rw [hci,hcK]
  constructor
  ·grind
  ·grind
def flS (p:Nat):Terms→Int
 | []=>0
 | x::T=>flI x.1 x.2 p+flS p T
def TermsOk (T:Terms):Prop:=∀ x ∈ T,x.1≠0∧1≤x.2
theorem fls_bounds (p:Nat):∀ {T:Terms},TermsOk T→∃ A:Rat,0≤A∧(∀ P,(flS p T:Rat) * uP p - A * uP P≤valT T P)∧(T≠[]→∃ e:Rat,0 < e∧∀ P,valT T P≤((flS p T:Rat)+((T.length:Nat):Rat)) * uP p - e+A * uP P)
 | [],_=>⟨0,Rat.le_refl,fun P=>by simp only [flS,valT];have:((0:Int):Rat)=0:=rfl;rw [this];grind,fun h=>absurd rfl h⟩
 | x::T,h=>by
  obtain ⟨A,e,a0,e0,hx⟩:=fl_bounds p (h x (by simp)).1 (h x (by simp)).2
  obtain ⟨B,b0,l1,l2⟩:=fls_bounds p (T:=T) (fun y hy=>h y (by simp [hy]))
  have hc:((flS p (x::T):Int):Rat)=(flI x.1 x.2 p:Rat)+(flS p T:Rat):=by rw [flS,Rat.intCast_add]
  refine ⟨A+B,by grind,fun P=>?_,fun _=>?_⟩
  ·rw [hc]
   have h1:=(hx P).1
   have h2:=l1 P
   simp only [valT]
   grind
  ·have hl:(((x::T).length:Nat):Rat)=((T.length:Nat):Rat)+1:=by rw [List.length_cons];exact Rat.natCast_add _ _
   by_cases hT:T=[]
   ·subst hT
    refine ⟨e,e0,fun P=>?_⟩
    rw [hc,hl]
    have h1:=(hx P).2
    have z1:((flS p []:Int):Rat)=0:=rfl
    have z2:(([]:Terms).length:Rat)=0:=rfl
    have hv:0≤B * uP P:=Rat.mul_nonneg b0 (Rat.le_of_lt (uP_pos P))
    simp only [valT]
    rw [z1,z2]
    grind
   ·obtain ⟨f,f0,hf⟩:=l2 hT
    refine ⟨e+f,by grind,fun P=>?_⟩
    rw [hc,hl]
    have h1:=(hx P).2
    have h2:=hf P
    simp only [valT]
    grind
def SgnIs (f:Nat→Rat) (s:Int):Prop:=(s=1∧PosF f)∨(s=-1∧PosF fun P=>- f P)∨(s=0∧Near0 f)
theorem sgn_pos {T:Terms} {p:Nat} (h:TermsOk T) (hs:0 < flS p T):PosF (valT T):=by
 obtain ⟨A,a0,h1,_⟩:=fls_bounds p h
 have h2:(1:Rat)≤(flS p T:Rat):=by
  have:((1:Int):Rat)≤((flS p T:Int):Rat):=Rat.intCast_le_intCast.2 (by omega)
  exact this
 refine ⟨uP p,A,uP_pos p,a0,fun P=>?_⟩
 have h3:=h1 P
 have h4:=Rat.mul_le_mul_of_nonneg_left h2 (Rat.le_of_lt (uP_pos p))
 grind
theorem sgn_neg {T:Terms} {p:Nat} (h:TermsOk T) (hT:T≠[]) (hs:flS p T+(T.length:Int)≤0):PosF fun P=>- valT T P:=by
 obtain ⟨A,a0,_,h1⟩:=fls_bounds p h
 obtain ⟨e,e0,h2⟩:=h1 hT
 have h3:(flS p T:Rat)+((T.length:Nat):Rat)≤0:=by
  have:((flS p T+(T.length:Int):Int):Rat)≤((0:Int):Rat):=Rat.intCast_le_intCast.2 hs
  rw [Rat.intCast_add] at this
  exact this
 refine ⟨e,A,e0,a0,fun P=>?_⟩
 have h4:=h2 P
 have h5:=Rat.mul_le_mul_of_nonneg_left h3 (Rat.le_of_lt (uP_pos p))
 grind
def sgnL:List Nat→Terms→Int × Int
 | [],_=>(0,4)
 | p::ps,T=>if 0 < flS p T then (1,0) else if flS p T+(T.length:Int) < 0∨(flS p T+(T.length:Int)=0∧ps=[]) then (-1,0) else sgnL ps T
def sgnF (T:Terms):Int × Int:=if T=[] then (0,0) else sgnL [4,16,64] T
theorem sgnL_is {T:Terms} (h:TermsOk T) (hT:T≠[]):∀ {ps:List Nat} {s:Int},sgnL ps T=(s,0)→SgnIs (valT T) s
 | [],s,e=>by cases e
 | p::ps,s,e=>by
  unfold sgnL at e
  split at e
  ·rename_i h1
   cases e
   exact .inl ⟨rfl,sgn_pos h h1⟩
  ·split at e
   ·rename_i h1
    cases e
    exact .inr (.inl ⟨rfl,sgn_neg (p:=p) h hT (by omega)⟩)
   ·exact sgnL_is h hT e
theorem sgnF_is {T:Terms} {s:Int} (h:TermsOk T) (e:sgnF T=(s,0)):SgnIs (valT T) s:=by
 unfold sgnF at e
 split at e
 ·rename_i h1
  cases e
  exact .inr (.inr ⟨rfl,Near0.zero fun P=>by rw [h1];rfl⟩)
 ·rename_i h1
  exact sgnL_is h h1 e
theorem SgnIs.range {f:Nat→Rat} {s:Int} (h:SgnIs f s):s=1∨s=-1∨s=0:=by
 rcases h with ⟨h,_⟩|⟨h,_⟩|⟨h,_⟩<;>simp [h]
theorem SgnIs.of_pos {f:Nat→Rat} {s:Int} (h:SgnIs f s) (g:PosF f):s=1:=by
 rcases h with ⟨h,_⟩|⟨_,h⟩|⟨_,h⟩
 ·exact h
 ·exact (g.notNeg h fun _=>rfl).elim
 ·exact (g.notNear h).elim
theorem SgnIs.of_neg {f:Nat→Rat} {s:Int} (h:SgnIs f s) (g:PosF fun P=>- f P):s=-1:=by
 rcases h with ⟨_,h⟩|⟨h,_⟩|⟨_,h⟩
 ·exact (h.notNeg g fun _=>rfl).elim
 ·exact h
 ·exact (g.notNear (h.mul (k:=-1) fun P=>by grind)).elim
end Go.Proofs.YthihcjgmlbnapaaGreatDoor
