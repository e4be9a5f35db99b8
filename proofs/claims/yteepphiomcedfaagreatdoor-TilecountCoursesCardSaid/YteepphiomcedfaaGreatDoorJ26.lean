/- Joined texts: WCutAny, WReadAny, WCodes. -/
import Derived.Test.YteepphiomcedfaaGreatDoorJ25
import Derived.Test.YteepphiomcedfaaGreatDoorJ20
set_option maxRecDepth 100000
set_option linter.unusedVariables false
set_option linter.unusedSimpArgs false
set_option maxHeartbeats 6400000
namespace Go.Proofs.YteepphiomcedfaaGreatDoor
open Go.RowKit
def Form (s:ByteArray) (m:Bool) (x y:Nat):Prop:=s.data.toList=(if m then [45] else [])++(Lib.decDigits x++if y=1 then [] else 47::Lib.decDigits y)∧1≤y∧(m=true→x≠0)
def RetForm (s:ByteArray) (w:World) (e:Ending) (w':World):Prop:=(e=.returned (.tuple #[.agg #[.string ⟨#[]⟩,.string ⟨#[]⟩],.bool false])∨∃ (m:Bool) (x y:Nat) (a b:ByteArray),Hid (Form s m x y)∧Hid (a.data.toList=(if m then [45] else [])++Lib.decDigits x)∧Hid (b.data.toList=Lib.decDigits y)∧e=.returned (.tuple #[.agg #[.string a,.string b],.bool true]))∧Below w.heap.size w w'
theorem cut_gen (s:ByteArray) (w:World) (hG:Glo w) (hl:s.size≤1000):Calls Tryz.prog 136 #[.string s] w (RetForm s w):=by
 have HG:=Lib.hid hG
 obtain ⟨A,B,c,hc,hs⟩:=cut_spec s.data.toList
 obtain ⟨O,n,ht,hp,hA⟩:=minus_spec A
 have hAl:A.length+(if c then B.length+1 else 0)=s.size:=by
  have e:s.size=s.data.toList.length:=rfl
  rw [e]
  conv=>rhs;rw [hs]
  cases c<;>simp
 have hOl:O.length≤A.length:=by rw [hA];simp
 have HC:=Lib.hid hc
 have HS:=Lib.hid hs
 have HT:=Lib.hid ht
 have HP:=Lib.hid hp
 have HA:=Lib.hid hA
 clear hG hc hs ht hp hA
 go_enter Tryz.func136,Tryz.ntmps136
 go_wp2_with fail
 refine (cut_any _ _ _ (HG.out.below qbl) (by omega) HC.out).mono ?_
 rintro e w1 ⟨a,b,ha,hb,rfl,n1,rfl⟩
 have hx:=HT.out
 have hy:=HP.out
 rw [← ha.out] at hx hy
 have HX:=Lib.hid hx
 have HY:=Lib.hid hy
 have hasz:a.size=A.length:=by rw [← ha.out];rfl
 have hbsz:b.size=B.length:=by rw [← hb.out];rfl
 clear hx hy
 go_wp2_with fail
 refine (cutPrefix_any a _ _ HX.out HY.out).mono ?_
 rintro e w2 ⟨o,ho,rfl,rfl⟩
 have hosz:o.size=O.length:=by rw [← ho.out];rfl
 obtain ⟨k,hk⟩:∃ k,digs o.data.toList=k:=⟨_,rfl⟩
 have HDO:=Lib.hid (fun W=>digits_any o W (by unfold maxLen;cases c<;>simp at hAl<;>omega))
 rw [hk] at HDO
 have HK:=Lib.hid hk
 have hkle:k≤o.size:=by rw [← hk];exact digs_le _
 clear hk
 go_wp2_with fail
 refine (HDO.out _).mono ?_
 rintro e w3 ⟨rfl,n2,rfl⟩
 by_cases hk0:k=0
 ·subst hk0
  go_wp2_with fail
  refine bodyPost_ret (v:=.tuple #[.agg #[.string ⟨#[]⟩,.string ⟨#[]⟩],.bool false]) (by simp [results,Tryz.results136,go_sem]) rfl ⟨.inl rfl,qbl⟩
 ·have hkz:((k:Int) == 0)=false:=by rw [beq_eq_false_iff_ne];omega
  by_cases hkl:k < o.size
  ·have hkI:(k:Int) < (o.size:Int):=by omega
   go_wp2_with fail
   refine bodyPost_ret (v:=.tuple #[.agg #[.string ⟨#[]⟩,.string ⟨#[]⟩],.bool false]) (by simp [results,Tryz.results136,go_sem]) rfl ⟨.inl rfl,qbl⟩
  ·have hkI:¬ (k:Int) < (o.size:Int):=by omega
   have HO:Hid (o.data.toList=Lib.decDigits (dval o.data.toList)):=Lib.hid (dec_of_digs (by rw [HK.out];exact hk0) (by rw [HK.out];exact hkl)).symm
   obtain ⟨z,hz⟩:∃ z,(o.toList == [48])=z:=⟨_,rfl⟩
   have HZ:=Lib.hid hz
   have hAD:Hid (a.data.toList=(if n then [45] else [])++Lib.decDigits (dval o.data.toList)):=Lib.hid (by rw [← HO.out,ho.out,ha.out];exact HA.out)
   by_cases hnz:n=true∧z=true
   ·obtain ⟨rfl,rfl⟩:=hnz
    go_wp2_with fail
    refine bodyPost_ret (v:=.tuple #[.agg #[.string ⟨#[]⟩,.string ⟨#[]⟩],.bool false]) (by simp [results,Tryz.results136,go_sem]) rfl ⟨.inl rfl,qbl⟩
   ·have HM:Hid (n=true→dval o.data.toList≠0):=Lib.hid (fun hn h0=>hnz ⟨hn,by rw [← HZ.out,beq_iff_eq,Lib.toList_data,HO.out,h0];exact dec_zero_iff.2 rfl⟩)
    have hcase:(n=false)∨(n=true∧z=false):=by
     cases n
     ·exact .inl rfl
     ·cases z
      ·exact .inr ⟨rfl,rfl⟩
      ·exact absurd ⟨rfl,rfl⟩ hnz
    clear hnz
    cases c
    ·have HF:Hid (Form s n (dval o.data.toList) 1):=Lib.hid ⟨by rw [HS.out,if_neg (by decide),List.append_nil,if_pos rfl,List.append_nil,← hAD.out,ha.out],by omega,HM.out⟩
     rcases hcase with rfl|⟨rfl,rfl⟩
     ·go_wp2_with fail
      refine bodyPost_ret (v:=.tuple #[.agg #[.string a,.string ⟨#[49]⟩],.bool true]) (by simp [results,Tryz.results136,go_sem]) rfl ⟨.inr ⟨_,_,_,a,⟨#[49]⟩,HF,hAD,Lib.hid one_digits.symm,rfl⟩,qbl⟩
     ·go_wp2_with fail
      refine bodyPost_ret (v:=.tuple #[.agg #[.string a,.string ⟨#[49]⟩],.bool true]) (by simp [results,Tryz.results136,go_sem]) rfl ⟨.inr ⟨_,_,_,a,⟨#[49]⟩,HF,hAD,Lib.hid one_digits.symm,rfl⟩,qbl⟩
    ·have HDB:=Lib.hid (fun W=>digits_any b W (by unfold maxLen;simp at hAl;omega))
     obtain ⟨k2,hk2⟩:∃ k,digs b.data.toList=k:=⟨_,rfl⟩
     rw [hk2] at HDB
     have HK2:=Lib.hid hk2
     have hkle2:k2≤b.size:=by rw [← hk2];exact digs_le _
     have hbl:b.size≤1000:=by simp at hAl;omega
     obtain ⟨z0,hz0⟩:∃ z,(b.toList == [48])=z:=⟨_,rfl⟩
     obtain ⟨z1,hz1⟩:∃ z,(b.toList == [49])=z:=⟨_,rfl⟩
     have HZ0:=Lib.hid hz0
     have HZ1:=Lib.hid hz1
     have HF:Hid (k2≠0→¬ k2 < b.size→z0=false→z1=false→Form s n (dval o.data.toList) (dval b.data.toList)∧b.data.toList=Lib.decDigits (dval b.data.toList)):=Lib.hid (fun h1 h2 h3 h4=>by
      have hB:b.data.toList=Lib.decDigits (dval b.data.toList):=(dec_of_digs (by rw [HK2.out];exact h1) (by rw [HK2.out];exact h2)).symm
      have n0:dval b.data.toList≠0:=fun h0=>by
       have:=HZ0.out
       rw [h3,Lib.toList_data,hB,h0,dec_zero_iff.2 rfl] at this
       exact absurd this (by decide)
      have n1:dval b.data.toList≠1:=fun h0=>by
       have:=HZ1.out
       rw [h4,Lib.toList_data,hB,h0,dec_one_iff.2 rfl] at this
       exact absurd this (by decide)
      exact ⟨⟨by rw [HS.out,if_pos rfl,if_neg n1,← hB,hb.out,← List.append_assoc,← hAD.out,ha.out],by omega,HM.out⟩,hB⟩)
     clear hk2
     rcases hcase with rfl|⟨rfl,rfl⟩
     ·go_wp2_with fail
      refine (HDB.out _).mono ?_
      rintro e w4 ⟨rfl,n3,rfl⟩
      by_cases hk0:k2=0
      ·subst hk0
       go_wp2_with fail
       refine bodyPost_ret (v:=.tuple #[.agg #[.string ⟨#[]⟩,.string ⟨#[]⟩],.bool false]) (by simp [results,Tryz.results136,go_sem]) rfl ⟨.inl rfl,qbl⟩
      ·have hkz2:((k2:Int) == 0)=false:=by rw [beq_eq_false_iff_ne];omega
       by_cases hkl2:k2 < b.size
       ·have hkI2:(k2:Int) < (b.size:Int):=by omega
        go_wp2_with fail
        refine bodyPost_ret (v:=.tuple #[.agg #[.string ⟨#[]⟩,.string ⟨#[]⟩],.bool false]) (by simp [results,Tryz.results136,go_sem]) rfl ⟨.inl rfl,qbl⟩
       ·have hkI2:¬ (k2:Int) < (b.size:Int):=by omega
        cases z0
        ·cases z1
         ·obtain ⟨hF,hB⟩:=HF.out hk0 hkl2 rfl rfl
          have HFF:=Lib.hid hF
          have HBB:=Lib.hid hB
          clear hF hB
          go_wp2_with fail
          refine bodyPost_ret (v:=.tuple #[.agg #[.string a,.string b],.bool true]) (by simp [results,Tryz.results136,go_sem]) rfl ⟨.inr ⟨_,_,_,a,b,HFF,hAD,HBB,rfl⟩,qbl⟩
         ·go_wp2_with fail
          refine bodyPost_ret (v:=.tuple #[.agg #[.string ⟨#[]⟩,.string ⟨#[]⟩],.bool false]) (by simp [results,Tryz.results136,go_sem]) rfl ⟨.inl rfl,qbl⟩
        ·go_wp2_with fail
         refine bodyPost_ret (v:=.tuple #[.agg #[.string ⟨#[]⟩,.string ⟨#[]⟩],.bool false]) (by simp [results,Tryz.results136,go_sem]) rfl ⟨.inl rfl,qbl⟩
     ·go_wp2_with fail
      refine (HDB.out _).mono ?_
      rintro e w4 ⟨rfl,n3,rfl⟩
      by_cases hk0:k2=0
      ·subst hk0
       go_wp2_with fail
       refine bodyPost_ret (v:=.tuple #[.agg #[.string ⟨#[]⟩,.string ⟨#[]⟩],.bool false]) (by simp [results,Tryz.results136,go_sem]) rfl ⟨.inl rfl,qbl⟩
      ·have hkz2:((k2:Int) == 0)=false:=by rw [beq_eq_false_iff_ne];omega
       by_cases hkl2:k2 < b.size
       ·have hkI2:(k2:Int) < (b.size:Int):=by omega
        go_wp2_with fail
        refine bodyPost_ret (v:=.tuple #[.agg #[.string ⟨#[]⟩,.string ⟨#[]⟩],.bool false]) (by simp [results,Tryz.results136,go_sem]) rfl ⟨.inl rfl,qbl⟩
       ·have hkI2:¬ (k2:Int) < (b.size:Int):=by omega
        cases z0
        ·cases z1
         ·obtain ⟨hF,hB⟩:=HF.out hk0 hkl2 rfl rfl
          have HFF:=Lib.hid hF
          have HBB:=Lib.hid hB
          clear hF hB
          go_wp2_with fail
          refine bodyPost_ret (v:=.tuple #[.agg #[.string a,.string b],.bool true]) (by simp [results,Tryz.results136,go_sem]) rfl ⟨.inr ⟨_,_,_,a,b,HFF,hAD,HBB,rfl⟩,qbl⟩
         ·go_wp2_with fail
          refine bodyPost_ret (v:=.tuple #[.agg #[.string ⟨#[]⟩,.string ⟨#[]⟩],.bool false]) (by simp [results,Tryz.results136,go_sem]) rfl ⟨.inl rfl,qbl⟩
        ·go_wp2_with fail
         refine bodyPost_ret (v:=.tuple #[.agg #[.string ⟨#[]⟩,.string ⟨#[]⟩],.bool false]) (by simp [results,Tryz.results136,go_sem]) rfl ⟨.inl rfl,qbl⟩
end Go.Proofs.YteepphiomcedfaaGreatDoor
namespace Go.Proofs.YteepphiomcedfaaGreatDoor
open Go.RowKit
theorem trim_sign {m:Bool} {x:Nat}:Lib.trimPrefix ((if m then [45] else [])++Lib.decDigits x) [45]=Lib.decDigits x:=by
 cases m
 ·have h:=decDigits_no45 x []
  rw [List.append_nil] at h
  rw [if_neg (by decide),List.nil_append]
  unfold Lib.trimPrefix Lib.hasPrefix
  cases hd:Lib.decDigits x with
  | nil=>rfl
  | cons a t =>
   rw [hd] at h
   rw [if_neg]
   simp [List.isPrefixOf]
   exact fun h'=>h (by rw [← h'];rfl)
 ·rw [if_pos rfl]
  simp [Lib.trimPrefix,Lib.hasPrefix,List.isPrefixOf]
theorem signed_itoa {m:Bool} {x:Nat} (h:m=true→x≠0):(if m then [45] else [])++Lib.decDigits x=Lib.itoa (if m then -(x:Int) else x):=by
 cases m
 ·rw [if_neg (by decide),if_neg (by decide),itoa_natCast];rfl
 ·have:=h rfl
  rcases itoa_cases (-(x:Int)) with ⟨h1,h2⟩|⟨h1,h2⟩
  ·rw [if_pos rfl,if_pos rfl,h2,Int.natAbs_neg];rfl
  ·omega
def RetBad (s:ByteArray) (w:World) (e:Ending) (w':World):Prop:=∃ c:Int,e=.returned (.tuple #[.agg #[.string ⟨#[]⟩,.string ⟨#[]⟩],.int .i64 c])∧c≠0∧(s.size≤20→c=11)∧Below w.heap.size w w'
theorem read_bad (s:ByteArray) (w:World) (hG:Glo w) (hs:s.size≤1000) (hno:¬ IsNum s) :
  Calls Tryz.prog 72 #[.string s] w (RetBad s w):=by
 have hn:natOf s.data.toList=none:=by
  cases h:natOf s.data.toList with
  | none=>rfl
  | some p=>exact absurd (natOf_num h) hno
 have HN:=Lib.hid hn
 have HNO:=Lib.hid hno
 have HG:=Lib.hid hG
 clear hn hno hG
 go_enter Tryz.func72,Tryz.ntmps72
 go_wp2_with fail
 refine (cut_gen s _ (HG.out.below qbl) hs).mono ?_
 rintro e w1 ⟨hcase,hB1⟩
 have c0:w1.cell? ⟨w.heap.size,0,none⟩=some (.string ⟨#[]⟩):=keep hB1 (by simp [go_sem])
 have c1:w1.cell? ⟨w.heap.size,1,none⟩=some (.string ⟨#[]⟩):=keep hB1 (by simp [go_sem])
 have g0:w1.frozen? ⟨w.heap.size,0,none⟩=false:=keepf hB1 (v:=.string ⟨#[]⟩) (by simp [go_sem]) (by simp [go_sem])
 have g1:w1.frozen? ⟨w.heap.size,1,none⟩=false:=keepf hB1 (v:=.string ⟨#[]⟩) (by simp [go_sem]) (by simp [go_sem])
 have z1:=lt_of_cell c0
 rcases hcase with rfl|⟨m,x,y,a,b,hF,ha,hb,rfl⟩
 ·go_wp2_with fail
  refine bodyPost_ret (v:=.tuple #[.agg #[.string ⟨#[]⟩,.string ⟨#[]⟩],.int .i64 11]) (by simp [results,Tryz.results72,go_sem,c0,c1,z1]) rfl ⟨11,rfl,by omega,fun _=>rfl,qbl⟩
 ·have hal:a.size+b.size≤s.size+1:=by
   have h1:s.size=s.data.toList.length:=rfl
   have h2:a.size=a.data.toList.length:=rfl
   have h3:b.size=b.data.toList.length:=rfl
   rw [h1,h2,h3,ha.out,hb.out,hF.out.1]
   by_cases hy:y=1
   ·subst hy;rw [if_pos rfl,one_digits];simp
   ·rw [if_neg hy];simp;omega
  go_wp2_with fail
  refine (nativeOf_none s _ (by omega) HN.out).mono ?_
  rintro e w2 ⟨rfl,hB2⟩
  have c0':w2.cell? ⟨w.heap.size,0,none⟩=some (.string ⟨#[]⟩):=keep hB2 (keep (bw4 (bw0 _ _) _) c0)
  have c1':w2.cell? ⟨w.heap.size,1,none⟩=some (.string ⟨#[]⟩):=keep hB2 (keep (bw4 (bw0 _ _) _) c1)
  have g0':w2.frozen? ⟨w.heap.size,0,none⟩=false:=keepf hB2 (keep (bw4 (bw0 _ _) _) c0) (keepf (bw4 (bw0 _ _) _) c0 g0)
  have g1':w2.frozen? ⟨w.heap.size,1,none⟩=false:=keepf hB2 (keep (bw4 (bw0 _ _) _) c1) (keepf (bw4 (bw0 _ _) _) c1 g1)
  have c2:w2.cell? ⟨w1.heap.size,0,none⟩=some (.string a):=keep hB2 (by simp [go_sem])
  have c3:w2.cell? ⟨w1.heap.size,1,none⟩=some (.string b):=keep hB2 (by simp [go_sem])
  have z2:=lt_of_cell c0'
  have z3:=lt_of_cell c2
  have hx:Lib.trimPrefix a.data.toList [45]=Lib.decDigits x:=by rw [ha.out];exact trim_sign
  have HX:=Lib.hid hx
  have hb2:Below w.heap.size w w2:=qbl
  clear hx c0 c1 g0 g1 hB1 hB2
  go_wp2_with fail
  refine (trimPrefix_any a _ _ HX.out).mono ?_
  rintro e w3 ⟨o,ho,rfl,rfl⟩
  have hoa:o.size≤a.size:=by
   have h2:a.size=a.data.toList.length:=rfl
   have h3:o.size=o.data.toList.length:=rfl
   rw [h2,h3,ha.out,ho.out];simp
  by_cases h300:o.size≤300∧b.size≤300
  ·obtain ⟨hoI,hbI⟩:=h300
   have hxl:x < 10 ^ 300:=pow_le_of_lt (k:=300) (by rw [← ho.out];exact hoI)
   have hyl:y < 10 ^ 300:=pow_le_of_lt (k:=300) (by rw [← hb.out];exact hbI)
   have hy1:y≠1:=fun h=>HNO.out (text_num (a:=x) (b:=1) m (by omega) (Nat.gcd_one_right _) hF.out.2.2 (by have:=hF.out.1;rwa [h] at this) hxl (by omega))
   have hg1:Nat.gcd x y≠1:=fun h=>HNO.out (text_num m hF.out.2.1 h hF.out.2.2 hF.out.1 hxl hyl)
   have hbb:(b.toList == [49])=false:=by
    rw [Lib.toList_data,hb.out]
    have:Lib.decDigits y≠[49]:=fun h=>hy1 (dec_one_iff.1 h)
    simpa using this
   obtain ⟨z,hz⟩:∃ z:Int,(if m then -(x:Int) else (x:Int))=z:=⟨_,rfl⟩
   have hzx:z.natAbs=x:=by rw [← hz];cases m<;>simp
   have HAZ:Hid (a.data.toList=Lib.itoa z):=Lib.hid (by rw [ha.out,← hz];exact signed_itoa hF.out.2.2)
   have HBZ:Hid (b.data.toList=Lib.itoa (y:Int)):=Lib.hid (by rw [hb.out,itoa_natCast])
   have FZ:Fit z:=fit_of_lt (by rw [hzx];exact hxl)
   have FY:Fit (y:Int):=fit_of_lt (by rw [Int.natAbs_natCast];exact hyl)
   have hgz:Int.gcd z (y:Int)=Nat.gcd x y:=by unfold Int.gcd;rw [hzx];rfl
   have HGZ:=Lib.hid hgz
   have FG:Fit ((Nat.gcd x y:Nat):Int):=fit_of_lt (by rw [Int.natAbs_natCast];exact Nat.lt_of_le_of_lt (Nat.gcd_le_right x (Nat.lt_of_lt_of_le Nat.zero_lt_one hF.out.2.1)) hyl)
   have HG1:=Lib.hid hg1
   clear hg1 hy1 hz hzx hgz hxl hyl
   go_wp2_with fail
   refine (IGcd_ok z y a b _ (HG.out.below qbl) HAZ.out FZ HBZ.out FY).mono ?_
   intro e w4 hrx
   rw [HGZ.out] at hrx
   obtain ⟨g,hg,rfl,hB4⟩:=hrx.1 FG
   have hgg:(g.toList == [49])=false:=by
    refine ne_of_list hg (itoa_ne1 ?_)
    have:=HG1.out;omega
   have d0:=keep hB4 (keep (bw4 (bw0 w2.heap.size w2) _) c0')
   have d1:=keep hB4 (keep (bw4 (bw0 w2.heap.size w2) _) c1')
   have f0:=keepf hB4 (keep (bw4 (bw0 w2.heap.size w2) _) c0') (keepf (bw4 (bw0 w2.heap.size w2) _) c0' g0')
   have f1:=keepf hB4 (keep (bw4 (bw0 w2.heap.size w2) _) c1') (keepf (bw4 (bw0 w2.heap.size w2) _) c1' g1')
   have y2:=lt_of_cell d0
   have hb4:Below w.heap.size w w4:=qbl
   clear hg hrx hB4 c0' c1' c2 c3 g0' g1' z2 z3
   go_wp2_with fail
   refine bodyPost_ret (v:=.tuple #[.agg #[.string ⟨#[]⟩,.string ⟨#[]⟩],.int .i64 11]) (by simp [results,Tryz.results72,go_sem,d0,d1,y2]) rfl ⟨11,rfl,by omega,fun _=>rfl,qbl⟩
  ·have hcase:(300:Int) < (o.size:Int)∨((o.size:Int)≤300∧(300:Int) < (b.size:Int)):=by omega
   clear h300
   rcases hcase with h3|⟨h3,h3b⟩
   ·go_wp2_with fail
    refine bodyPost_ret (v:=.tuple #[.agg #[.string ⟨#[]⟩,.string ⟨#[]⟩],.int .i64 4]) (by simp [results,Tryz.results72,go_sem,c0',c1',z2]) rfl ⟨4,rfl,by omega,fun h=>by omega,qbl⟩
   ·go_wp2_with fail
    refine bodyPost_ret (v:=.tuple #[.agg #[.string ⟨#[]⟩,.string ⟨#[]⟩],.int .i64 4]) (by simp [results,Tryz.results72,go_sem,c0',c1',z2]) rfl ⟨4,rfl,by omega,fun h=>by omega,qbl⟩
end Go.Proofs.YteepphiomcedfaaGreatDoor
namespace Go.Proofs.YteepphiomcedfaaGreatDoor
open Go.RowKit
end Go.Proofs.YteepphiomcedfaaGreatDoor
