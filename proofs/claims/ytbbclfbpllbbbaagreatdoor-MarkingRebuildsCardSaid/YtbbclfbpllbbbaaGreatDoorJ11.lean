/- Joined texts: WMText, ReadPlain, WMSurd, WMake, OpsPlain, WScaled, WConcatT, WSMul, WCalc. -/
import Derived.Test.YtbbclfbpllbbbaaGreatDoorJ10
import Derived.Test.YtbbclfbpllbbbaaGreatDoorJ05
import Derived.Test.YtbbclfbpllbbbaaGreatDoorJ09
import Derived.Lib.AppendZeros
set_option maxRecDepth 100000
set_option linter.unusedVariables false
set_option linter.unusedSimpArgs false
set_option maxHeartbeats 12800000
namespace Go.Proofs.YtbbclfbpllbbbaaGreatDoor
open Go.RowKit
def RetTx (L:TTexts) (w:World) (e:Ending) (w':World):Prop:=∃ (s:ByteArray) (k:Int),e=.returned (.tuple #[.string s,.int .i64 k])∧Hid ((∃ T,SurdIs L T∧k=0∧s.data.toList=surdT T)∨(¬ SurdOk L∧k≠0∧s=⟨#[]⟩))∧Below w.heap.size w w'
theorem textT_snoc:∀ (A:Terms) (first:Bool) (q:Rat) (m:Nat),textT first (A++[(q,m)])=textT first A++((if (first=true∧A=[])∨q.num < 0 then [] else [43])++termT q m)
 | [],first,q,m=>by simp [textT]
 | (p,n)::A,first,q,m=>by
  rw [List.cons_append,textT,textT_snoc A false q m,textT]
  simp
theorem take_snoc {T:Terms} {k:Nat} (h:k < T.length):T.take (k+1)=T.take k++[((tq T k).1,(tq T k).2)]:=by
 have e:tq T k=T[k]:=by simp [tq,h]
 rw [e]
 exact List.take_succ_eq_append_getElem h
theorem text_step {T:Terms} {k:Nat} (h:k < T.length):textT true (T.take (k+1))=textT true (T.take k)++((if k=0∨(tq T k).1.num < 0 then [] else [43])++(ratText (tq T k).1++(if (tq T k).2=1 then [] else 114::Lib.decDigits (tq T k).2))):=by
 rw [take_snoc h,textT_snoc]
 have e:(T.take k=[])↔k=0:=by
  rw [← List.length_eq_zero_iff,List.length_take]
  omega
 simp only [true_and,e,termT]
theorem ratText_minus {q:Rat} {c:ByteArray} (h:c.data.toList=ratText q) (h0:0 < c.size):((c[0].toNat:Int) == 45)=decide (q.num < 0):=by
 by_cases hn:q.num < 0
 ·rw [decide_eq_true hn]
  refine headq45' h0 ?_
  rw [h,ratText_parts,if_pos hn]
  rfl
 ·rw [decide_eq_false hn]
  refine Bool.eq_false_iff.2 fun h2=>?_
  have h3:=headq45 h0 h2
  rw [h,ratText_parts,if_neg hn,List.nil_append] at h3
  exact decDigits_no45 _ _ h3
theorem ratText_pos {q:Rat} {c:ByteArray} (h:c.data.toList=ratText q):0 < c.size:=by
 have e:c.size=(ratText q).length:=by rw [← h];rfl
 rw [e]
 refine Nat.pos_of_ne_zero fun h0=>?_
 have h1:=List.length_eq_zero_iff.1 h0
 rw [ratText_parts] at h1
 have h2:=(List.append_eq_nil_iff.1 (List.append_eq_nil_iff.1 h1).2).1
 exact decDigits_ne _ h2
theorem boxT2_others {W W':World} {b B:Nat} {e t:TypeId} {x y:Value} (h:Lib.OthersKept e (some B) W W') (hb:BoxT2 t W b x y) (hne:b≠B) (ht:t≠e):BoxT2 t W' b x y :=
 h b _ hb (fun e=>hne (by injection e)) (fun c fz e=>by injection e with _ e _;exact ht e)
theorem mText_ok (L:TTexts) (v:Value) (w:World) (hG:Glo w) (hP:Pri w) (hv:IsTerms w v L) (hsz:∀ k,k < L.length→(tt L k).1.size≤1000∧(tt L k).2.size≤1000) :
  Calls Tryz.prog 11 #[v] w (RetTx L w):=by
 have HCK:=Lib.hid (sCheck_ok L v w hG hP hv hsz)
 obtain ⟨a,cap,rfl,hcap,h⟩:=hv
 have HC:=Lib.hid h
 have HS:=Lib.hid hsz
 clear h hG hP hsz
 by_cases hok:SurdOk L
 ·obtain ⟨T,hT⟩:=hok
  have HT:=Lib.hid hT
  have h16:L.length≤16:=hT.len
  have hTl:T.length=L.length:=hT.same
  clear hT
  by_cases hl0:L.length=0
  ·have hlz:((L.length:Int) == 0)=true:=by rw [hl0];decide
   have HTX:Hid (([48]:List UInt8)=surdT T):=Lib.hid (by
    have e:T=[]:=List.length_eq_zero_iff.1 (by omega)
    subst e;rfl)
   clear hTl hl0
   go_enter Tryz.func11,Tryz.ntmps11
   go_wp2_with fail
   refine HCK.out.mono ?_
   rintro e w1 ⟨k1,rfl,hk1,hB1⟩
   obtain rfl:k1=0:=hk1.out.2 ⟨T,HT.out⟩
   clear hk1
   go_wp2_with fail
   refine bodyPost_ret (v:=.tuple #[.string ⟨#[48]⟩,.int .i64 0]) (by simp [results,Tryz.results11,go_sem]) rfl ?_
   exact ⟨_,0,rfl,Lib.hid (.inl ⟨T,HT.out,rfl,HTX.out⟩),hB1⟩
  have hlz:((L.length:Int) == 0)=false:=by rw [beq_eq_false_iff_ne];omega
  obtain ⟨b,off,rfl,hc⟩:=HC.out (fun h=>by rw [h] at hl0;exact hl0 rfl)
  have HCC:=Lib.hid hc
  have hbw:=lt_of_cell (hc 0 (by omega)).1
  clear hc
  go_enter Tryz.func11,Tryz.ntmps11
  go_wp2_with fail
  refine HCK.out.mono ?_
  rintro e w1 ⟨k1,rfl,hk1,hB1⟩
  obtain rfl:k1=0:=hk1.out.2 ⟨T,HT.out⟩
  clear hk1
  go_wp2_with fail
  have hb0:Below w.heap.size w (w1.alloc (.cells #[.pointer none,.slice none 0 0] 77)):=bw4 hB1 _
  have hbld:Lib.IsBuilderF 77 5 w1.heap.size w1.heap.size (Lib.byteCells []) (w1.alloc (.cells #[.pointer none,.slice none 0 0] 77)):=.inl ⟨Nat.le_refl _,.slice none 0 0,World.alloc_heap_new w1 (.cells #[.pointer none,.slice none 0 0] 77),⟨rfl,.inl ⟨rfl,rfl⟩⟩,by simp [Value.ownBlock]⟩
  have hz0:w1.heap.size < (w1.alloc (.cells #[.pointer none,.slice none 0 0] 77)).heap.size:=by simp
  have hz1:=hB1.size
  generalize w1.alloc (.cells #[.pointer none,.slice none 0 0] 77)=W0 at *
  generalize w1.heap.size=B at *
  clear hB1 HCK
  go_loopw [15] (fun i wr=>∃ k:Nat,k≤L.length∧i=.int .i64 k∧Below w.heap.size w wr∧B < wr.heap.size∧∃ out:List UInt8,Lib.IsBuilderF 77 5 B B (Lib.byteCells out) wr∧out.length≤2002 * k∧Hid (out=textT true (T.take k))) (fun i _=>L.length - (intOf i).toNat)
  case atStart=>exact ⟨0,by omega,rfl,hb0,hz0,[],hbld,by simp,Lib.hid rfl⟩
  case round =>
   obtain ⟨k,hk,rfl,hB,hzr,out,hbl,hol,hout⟩:=hrel
   by_cases hlt:k < L.length
   ·obtain ⟨d0,d1⟩:=(HCC.out k hlt).below (w':=wr) hB
    have hokk:=HT.out.ok k hlt
    obtain ⟨s0,s1⟩:=HS.out k hlt
    have hstep:=text_step (T:=T) (k:=k) (by omega)
    rw [← hout.out] at hstep
    obtain ⟨c,hcc⟩:∃ c,(tt L k).1=c:=⟨_,rfl⟩
    obtain ⟨r,hrr⟩:∃ r,(tt L k).2=r:=⟨_,rfl⟩
    obtain ⟨q,hq⟩:∃ q,(tq T k).1=q:=⟨_,rfl⟩
    obtain ⟨m,hm⟩:∃ m,(tq T k).2=m:=⟨_,rfl⟩
    rw [hcc,hrr,hq,hm] at hokk
    rw [hcc] at d0 s0
    rw [hrr] at d1 s1
    rw [hq,hm,← hokk.c,← hokk.r] at hstep
    have hc0:0 < c.size:=ratText_pos hokk.c
    have hcm:=ratText_minus hokk.c hc0
    have hr1:(r.toList == [49])=decide (m=1):=by
     rw [Lib.toList_data,hokk.r,← text_natR,text_eq1,decide_eq_decide]
     constructor
     ·intro h
      have h2:(((m:Int):Rat)).num=(1:Rat).num:=by rw [h]
      have h3:(m:Int)=1:=h2
      omega
     ·rintro rfl
      rfl
    have hltI:(k:Int) < (L.length:Int):=by omega
    have hk1:IntKind.i64.wrap ((k:Int)+1)=((k+1:Nat):Int):=IntWalk.i64_in _ (by omega)
    have HST:=Lib.hid hstep
    have HBL:=Lib.hid hbl
    have hc0I:(0:Int) < (c.size:Int):=by omega
    clear hstep hokk hcc hrr hq hm hout hbl
    have hb1:Below w.heap.size w (wr.alloc (.cells #[.string c,.string r] 70)):=bw4 hB _
    have y0:BoxT2 70 (wr.alloc (.cells #[.string c,.string r] 70)) wr.heap.size (.string c) (.string r):=BoxT2.new rfl
    have HBL1:=Lib.hid (builderF_below HBL.out (bw4 (bw0 _ _) (.cells #[.string c,.string r] 70)))
    have hzr1:wr.heap.size < (wr.alloc (.cells #[.string c,.string r] 70)).heap.size:=by simp
    have hBb:B≠wr.heap.size:=by omega
    by_cases hp:¬ (k=0∨q.num < 0)
    ·have hcf:((c[0].toNat:Int) == 45)=false:=by rw [hcm,decide_eq_false (fun h=>hp (.inr h))]
     have hk0:(0:Int) < (k:Int):=by omega
     have HP1:Hid (textT true (T.take (k+1))=(out++[43])++(c.data.toList++(if m=1 then [] else 114::r.data.toList))):=Lib.hid (by rw [HST.out,if_neg hp,List.append_assoc])
     clear hcm hp HST
     go_wp2_with fail
     generalize wr.alloc (.cells #[.string c,.string r] 70)=W1 at *
     refine (writeByte_k B B _ 43 _ HBL1.out (by rw [Lib.byteCells_length];omega) (by omega)).mono ?_
     rintro e wb ⟨rfl,hbb,hBb1,hOb⟩
     have HBL2:Hid (Lib.IsBuilderF 77 5 B B (Lib.byteCells (out++[43])) wb):=Lib.hid (by rw [byteCells_append];exact .inr hbb)
     replace y0:=boxT2_others hOb y0 (fun e=>hBb e.symm) (by decide)
     have hb2:Below w.heap.size w wb:=hb1.trans (hBb1.mono (by omega))
     replace hzr1:=Nat.lt_of_lt_of_le hzr1 hBb1.size
     have hol2:(out++[43]).length≤2002 * k+1:=by simp;omega
     clear hbb hBb1 hOb HBL1 HBL hb1
     generalize out++[43]=out2 at *
     have e0:=y0.c0
     go_wp2_with fail
     refine (writeString_k B B _ c _ HBL2.out (by rw [Lib.byteCells_length];omega) (by omega)).mono ?_
     rintro e wc ⟨rfl,hbb,hBb1,hOb⟩
     have HBL3:Hid (Lib.IsBuilderF 77 5 B B (Lib.byteCells (out2++c.data.toList)) wc):=Lib.hid (by rw [byteCells_append,← strCells_of (s:=c) rfl];exact .inr hbb)
     replace y0:=boxT2_others hOb y0 (fun e=>hBb e.symm) (by decide)
     have hb3:Below w.heap.size w wc:=hb2.trans (hBb1.mono (by omega))
     replace hzr1:=Nat.lt_of_lt_of_le hzr1 hBb1.size
     have hol3:(out2++c.data.toList).length≤2002 * k+1001:=by rw [List.length_append];have e1:c.size=c.data.toList.length:=rfl;omega
     clear hbb hBb1 hOb HBL2 hb2 e0
     have e1:=y0.c1
     by_cases hm1:m=1
     ·have HP2:Hid (textT true (T.take (k+1))=out2++c.data.toList):=Lib.hid (by rw [HP1.out,if_pos hm1,List.append_nil])
      rw [decide_eq_true hm1] at hr1
      clear HP1
      go_wp2_with fail
      go_roundw
      case rel=>exact ⟨k+1,by omega,by go_num,hb3,by omega,_,HBL3.out,by omega,Lib.hid HP2.out.symm⟩
      case measure=>simp [intOf];omega
     ·have HP2:Hid (textT true (T.take (k+1))=(out2++c.data.toList)++(⟨#[114]⟩++r:ByteArray).data.toList):=Lib.hid (by rw [HP1.out,if_neg hm1];simp [ByteArray.data_append])
      rw [decide_eq_false hm1] at hr1
      clear HP1
      go_wp2_with fail
      refine (writeString_k B B _ _ _ HBL3.out (by rw [Lib.byteCells_length,ByteArray.size_append];show _+(1+r.size)≤_;omega) (by omega)).mono ?_
      rintro e wd ⟨rfl,hbb,hBb1,hOb⟩
      have HBL4:Hid (Lib.IsBuilderF 77 5 B B (Lib.byteCells ((out2++c.data.toList)++(⟨#[114]⟩++r:ByteArray).data.toList)) wd):=Lib.hid (by rw [byteCells_append,← strCells_of (s:=(⟨#[114]⟩++r:ByteArray)) rfl];exact .inr hbb)
      have hb4:Below w.heap.size w wd:=hb3.trans (hBb1.mono (by omega))
      replace hzr1:=Nat.lt_of_lt_of_le hzr1 hBb1.size
      have hol4:((out2++c.data.toList)++(⟨#[114]⟩++r:ByteArray).data.toList).length≤2002 * k+2002:=by rw [List.length_append];have e1:(⟨#[114]⟩++r:ByteArray).data.toList.length=(⟨#[114]⟩++r:ByteArray).size:=rfl;rw [e1,ByteArray.size_append];have e2:(⟨#[114]⟩:ByteArray).size=1:=rfl;rw [e2];omega
      clear hbb hBb1 hOb HBL3 hb3 e1
      go_wp2_with fail
      go_roundw
      case rel=>exact ⟨k+1,by omega,by go_num,hb4,by omega,_,HBL4.out,by omega,Lib.hid HP2.out.symm⟩
      case measure=>simp [intOf];omega          
    ·have HP1:Hid (textT true (T.take (k+1))=out++(c.data.toList++(if m=1 then [] else 114::r.data.toList))):=Lib.hid (by rw [HST.out,if_pos (Decidable.not_not.1 hp),List.nil_append])
     have hb2:=hb1
     have HBL2:=HBL1
     have hol2:out.length≤2002 * k+1:=by omega
     by_cases hk0:k=0
     ·have hk0':¬ (0:Int) < (k:Int):=by omega
      clear hcm hp HST hk0
      go_wp2_with fail
      generalize wr.alloc (.cells #[.string c,.string r] 70)=W1 at *
      generalize out=out2 at *
      clear HBL HBL1 hb1
      have e0:=y0.c0
      refine (writeString_k B B _ c _ HBL2.out (by rw [Lib.byteCells_length];omega) (by omega)).mono ?_
      rintro e wc ⟨rfl,hbb,hBb1,hOb⟩
      have HBL3:Hid (Lib.IsBuilderF 77 5 B B (Lib.byteCells (out2++c.data.toList)) wc):=Lib.hid (by rw [byteCells_append,← strCells_of (s:=c) rfl];exact .inr hbb)
      replace y0:=boxT2_others hOb y0 (fun e=>hBb e.symm) (by decide)
      have hb3:Below w.heap.size w wc:=hb2.trans (hBb1.mono (by omega))
      replace hzr1:=Nat.lt_of_lt_of_le hzr1 hBb1.size
      have hol3:(out2++c.data.toList).length≤2002 * k+1001:=by rw [List.length_append];have e1:c.size=c.data.toList.length:=rfl;omega
      clear hbb hBb1 hOb HBL2 hb2 e0
      have e1:=y0.c1
      by_cases hm1:m=1
      ·have HP2:Hid (textT true (T.take (k+1))=out2++c.data.toList):=Lib.hid (by rw [HP1.out,if_pos hm1,List.append_nil])
       rw [decide_eq_true hm1] at hr1
       clear HP1
       go_wp2_with fail
       go_roundw
       case rel=>exact ⟨k+1,by omega,by go_num,hb3,by omega,_,HBL3.out,by omega,Lib.hid HP2.out.symm⟩
       case measure=>simp [intOf];omega
      ·have HP2:Hid (textT true (T.take (k+1))=(out2++c.data.toList)++(⟨#[114]⟩++r:ByteArray).data.toList):=Lib.hid (by rw [HP1.out,if_neg hm1];simp [ByteArray.data_append])
       rw [decide_eq_false hm1] at hr1
       clear HP1
       go_wp2_with fail
       refine (writeString_k B B _ _ _ HBL3.out (by rw [Lib.byteCells_length,ByteArray.size_append];show _+(1+r.size)≤_;omega) (by omega)).mono ?_
       rintro e wd ⟨rfl,hbb,hBb1,hOb⟩
       have HBL4:Hid (Lib.IsBuilderF 77 5 B B (Lib.byteCells ((out2++c.data.toList)++(⟨#[114]⟩++r:ByteArray).data.toList)) wd):=Lib.hid (by rw [byteCells_append,← strCells_of (s:=(⟨#[114]⟩++r:ByteArray)) rfl];exact .inr hbb)
       have hb4:Below w.heap.size w wd:=hb3.trans (hBb1.mono (by omega))
       replace hzr1:=Nat.lt_of_lt_of_le hzr1 hBb1.size
       have hol4:((out2++c.data.toList)++(⟨#[114]⟩++r:ByteArray).data.toList).length≤2002 * k+2002:=by rw [List.length_append];have e1:(⟨#[114]⟩++r:ByteArray).data.toList.length=(⟨#[114]⟩++r:ByteArray).size:=rfl;rw [e1,ByteArray.size_append];have e2:(⟨#[114]⟩:ByteArray).size=1:=rfl;rw [e2];omega
       clear hbb hBb1 hOb HBL3 hb3 e1
       go_wp2_with fail
       go_roundw
       case rel=>exact ⟨k+1,by omega,by go_num,hb4,by omega,_,HBL4.out,by omega,Lib.hid HP2.out.symm⟩
       case measure=>simp [intOf];omega
     ·have hk0':(0:Int) < (k:Int):=by omega
      have hcf:((c[0].toNat:Int) == 45)=true:=by rw [hcm,decide_eq_true];rcases Decidable.not_not.1 hp with h|h;exact absurd h hk0;exact h
      clear hcm hp HST hk0
      go_wp2_with fail
      generalize wr.alloc (.cells #[.string c,.string r] 70)=W1 at *
      generalize out=out2 at *
      clear HBL HBL1 hb1
      have e0:=y0.c0
      refine (writeString_k B B _ c _ HBL2.out (by rw [Lib.byteCells_length];omega) (by omega)).mono ?_
      rintro e wc ⟨rfl,hbb,hBb1,hOb⟩
      have HBL3:Hid (Lib.IsBuilderF 77 5 B B (Lib.byteCells (out2++c.data.toList)) wc):=Lib.hid (by rw [byteCells_append,← strCells_of (s:=c) rfl];exact .inr hbb)
      replace y0:=boxT2_others hOb y0 (fun e=>hBb e.symm) (by decide)
      have hb3:Below w.heap.size w wc:=hb2.trans (hBb1.mono (by omega))
      replace hzr1:=Nat.lt_of_lt_of_le hzr1 hBb1.size
      have hol3:(out2++c.data.toList).length≤2002 * k+1001:=by rw [List.length_append];have e1:c.size=c.data.toList.length:=rfl;omega
      clear hbb hBb1 hOb HBL2 hb2 e0
      have e1:=y0.c1
      by_cases hm1:m=1
      ·have HP2:Hid (textT true (T.take (k+1))=out2++c.data.toList):=Lib.hid (by rw [HP1.out,if_pos hm1,List.append_nil])
       rw [decide_eq_true hm1] at hr1
       clear HP1
       go_wp2_with fail
       go_roundw
       case rel=>exact ⟨k+1,by omega,by go_num,hb3,by omega,_,HBL3.out,by omega,Lib.hid HP2.out.symm⟩
       case measure=>simp [intOf];omega
      ·have HP2:Hid (textT true (T.take (k+1))=(out2++c.data.toList)++(⟨#[114]⟩++r:ByteArray).data.toList):=Lib.hid (by rw [HP1.out,if_neg hm1];simp [ByteArray.data_append])
       rw [decide_eq_false hm1] at hr1
       clear HP1
       go_wp2_with fail
       refine (writeString_k B B _ _ _ HBL3.out (by rw [Lib.byteCells_length,ByteArray.size_append];show _+(1+r.size)≤_;omega) (by omega)).mono ?_
       rintro e wd ⟨rfl,hbb,hBb1,hOb⟩
       have HBL4:Hid (Lib.IsBuilderF 77 5 B B (Lib.byteCells ((out2++c.data.toList)++(⟨#[114]⟩++r:ByteArray).data.toList)) wd):=Lib.hid (by rw [byteCells_append,← strCells_of (s:=(⟨#[114]⟩++r:ByteArray)) rfl];exact .inr hbb)
       have hb4:Below w.heap.size w wd:=hb3.trans (hBb1.mono (by omega))
       replace hzr1:=Nat.lt_of_lt_of_le hzr1 hBb1.size
       have hol4:((out2++c.data.toList)++(⟨#[114]⟩++r:ByteArray).data.toList).length≤2002 * k+2002:=by rw [List.length_append];have e1:(⟨#[114]⟩++r:ByteArray).data.toList.length=(⟨#[114]⟩++r:ByteArray).size:=rfl;rw [e1,ByteArray.size_append];have e2:(⟨#[114]⟩:ByteArray).size=1:=rfl;rw [e2];omega
       clear hbb hBb1 hOb HBL3 hb3 e1
       go_wp2_with fail
       go_roundw
       case rel=>exact ⟨k+1,by omega,by go_num,hb4,by omega,_,HBL4.out,by omega,Lib.hid HP2.out.symm⟩
       case measure=>simp [intOf];omega
   ·have e:k=L.length:=by omega
    subst e
    have HTX:Hid (out=surdT T):=Lib.hid (by
     have hT0:T≠[]:=fun h=>by rw [h] at hTl;exact hl0 hTl.symm
     rw [hout.out,List.take_of_length_le (by omega)]
     unfold surdT
     rw [if_neg hT0])
    have HBL:=Lib.hid hbl
    clear hout hbl
    go_wp2_with fail
    refine (Tryz.Builder_String_any_k B B out _ HBL.out (by omega)).mono ?_
    rintro e wz ⟨rfl,_,hBz,hOz⟩
    have hBw:Below w.heap.size w wz:=hB.trans (hBz.mono (by omega))
    clear hBz hOz
    go_wp2_with fail
    refine bodyPost_ret (v:=.tuple #[.string ⟨out.toArray⟩,.int .i64 0]) (by simp [results,Tryz.results11,go_sem]) rfl ?_
    exact ⟨_,0,rfl,Lib.hid (.inl ⟨T,HT.out,rfl,by rw [← HTX.out]⟩),hBw⟩
 ·go_enter Tryz.func11,Tryz.ntmps11
  go_wp2_with fail
  refine HCK.out.mono ?_
  rintro e w1 ⟨k1,rfl,hk1,hB1⟩
  have hz1:¬ k1=0:=fun h=>hok (hk1.out.1 h)
  have HOK:=Lib.hid hok
  clear hk1 hok
  go_wp2_with fail
  refine bodyPost_ret (v:=.tuple #[.string ⟨#[]⟩,.int .i64 1]) (by simp [results,Tryz.results11,go_sem]) rfl ?_
  exact ⟨_,1,rfl,Lib.hid (.inr ⟨HOK.out,by decide,rfl⟩),hB1⟩
end Go.Proofs.YtbbclfbpllbbbaaGreatDoor
namespace Go.Proofs.YtbbclfbpllbbbaaGreatDoor
open Go
theorem goodDig_pos {l:List UInt8} (h:goodDig l=true):1≤nDig l:=by
 unfold goodDig at h
 simp only [Bool.or_eq_true,Bool.and_eq_true,decide_eq_true_eq] at h
 rcases h with h|h<;>omega
theorem signF_len {l l1 sg:List UInt8} {first:Bool} (h:signF l first=some (sg,l1)):sg.length+l1.length≤l.length:=by
 unfold signF at h
 split at h
 ·rename_i hd
  cases l with
  | nil=>cases hd
  | cons a t=>cases h;simp;omega
 ·split at h
  ·rename_i hd
   cases l with
   | nil=>cases hd.1
   | cons a t=>cases h;simp
  ·split at h
   ·cases h;simp
   ·cases h
theorem fracF_len {c l c2 l2:List UInt8} (h:fracF c l=some (c2,l2)):c2.length+l2.length≤c.length+l.length∧l2.length≤l.length:=by
 unfold fracF at h
 split at h
 ·rename_i hd
  split at h
  ·cases l with
   | nil=>cases hd
   | cons a t =>
    cases h
    have:=nDig_le t
    simp [tkD,drD]
    omega
  ·cases h
 ·cases h;exact ⟨Nat.le_refl _,Nat.le_refl _⟩
theorem rootF_len {l r l2:List UInt8} (h:rootF l=some (r,l2)):r.length≤max 1 l.length∧l2.length≤l.length:=by
 unfold rootF at h
 split at h
 ·rename_i hd
  split at h
  ·cases l with
   | nil=>cases hd
   | cons a t =>
    cases h
    have:=nDig_le t
    simp [tkD,drD]
    omega
  ·cases h
 ·cases h;simp;omega
theorem termF_len {l c r rest:List UInt8} {first:Bool} (h:termF l first=some (c,r,rest)):c.length≤l.length∧r.length≤l.length∧rest.length < l.length:=by
 unfold termF at h
 split at h
 ·cases h
 ·rename_i sg l1 hs
  have h1:=signF_len hs
  split at h
  ·rename_i hg
   have h2:=goodDig_pos hg
   have h3:=nDig_le l1
   split at h
   ·cases h
   ·rename_i c2 l2 hf
    obtain ⟨h4,h6⟩:=fracF_len hf
    split at h
    ·cases h
    ·rename_i r2 l3 hr
     have h5:=rootF_len hr
     cases h
     have e1:(tkD l1).length=nDig l1:=by simp [tkD];omega
     have e2:(drD l1).length=l1.length - nDig l1:=by simp [drD]
     rw [List.length_append,e1,e2] at h4
     rw [e2] at h6
     omega
  ·cases h
def ReadTo (s:List UInt8) (L:TTexts) (r:List UInt8):Prop:=∀ L' T,SurdIs L' T→T≠[]→s=textT true T→L=L'.take L.length∧L.length≤T.length∧r=textT (decide (L.length=0)) (T.drop L.length)
theorem ReadTo.start (s:List UInt8):ReadTo s [] s:=fun L' T _ _ h=>⟨by simp,by simp,by simpa using h⟩
theorem drop_of {T:Terms} {j:Nat} (h:T.drop j≠[]):j < T.length∧T.drop j=((tq T j).1,(tq T j).2)::T.drop (j+1):=by
 have hj:j < T.length:=by
  refine Nat.lt_of_not_le fun h2=>h (List.drop_eq_nil_of_le h2)
 refine ⟨hj,?_⟩
 have e:tq T j=T[j]:=by simp [tq,hj]
 rw [e]
 exact List.drop_eq_getElem_cons hj
theorem ReadTo.step {s r c x rest:List UInt8} {L:TTexts} {cb xb:ByteArray} (h:ReadTo s L r) (hr:r≠[]) (ht:termF r (decide (L.length=0))=some (c,x,rest)) (hc:cb.data.toList=c) (hx:xb.data.toList=x) :
  ReadTo s (L++[(cb,xb)]) rest:=by
 intro L' T h1 h2 h3
 obtain ⟨e1,e2,e3⟩:=h L' T h1 h2 h3
 have hd:T.drop L.length≠[]:=fun h0=>hr (by rw [e3,h0];unfold textT;rfl)
 obtain ⟨hj,hd2⟩:=drop_of hd
 rw [e3,hd2,termF_textT] at ht
 cases ht
 have hl:(L++[(cb,xb)]).length=L.length+1:=by simp
 have hj':L.length < L'.length:=by rw [← h1.same];exact hj
 rw [hl]
 refine ⟨?_,by omega,?_⟩
 ·rw [List.take_succ_eq_append_getElem hj',← e1]
  congr 1
  have hok:=h1.ok _ hj'
  have g:tt L' L.length=L'[L.length]:=by simp [tt,hj']
  rw [g] at hok
  have e4:cb=L'[L.length].1:=ByteArray.ext (Array.toList_inj.1 (hc.trans hok.c.symm))
  have e5:xb=L'[L.length].2:=ByteArray.ext (Array.toList_inj.1 (hx.trans hok.r.symm))
  rw [e4,e5]
 ·simp
theorem ReadTo.stuck {s r:List UInt8} {L:TTexts} (h:ReadTo s L r) (hr:r≠[]) (ht:termF r (decide (L.length=0))=none):¬ ∃ L' T,SurdIs L' T∧T≠[]∧s=textT true T:=by
 rintro ⟨L',T,h1,h2,h3⟩
 obtain ⟨e1,e2,e3⟩:=h L' T h1 h2 h3
 have hd:T.drop L.length≠[]:=fun h0=>hr (by rw [e3,h0];unfold textT;rfl)
 obtain ⟨hj,hd2⟩:=drop_of hd
 rw [e3,hd2,termF_textT] at ht
 cases ht
theorem ReadTo.all {s:List UInt8} {L L':TTexts} {T:Terms} (h:ReadTo s L []) (h1:SurdIs L' T) (h2:T≠[]) (h3:s=textT true T):L=L':=by
 obtain ⟨e1,e2,e3⟩:=h L' T h1 h2 h3
 have hd:T.drop L.length=[]:=by
  cases hx:T.drop L.length with
  | nil=>rfl
  | cons a l=>rw [hx] at e3;exact absurd e3.symm textT_ne
 have hl:=List.drop_eq_nil_iff.1 hd
 rw [e1,List.take_of_length_le (by rw [← h1.same];omega)]
def NoText (s:List UInt8):Prop:=¬ ∃ L T,SurdIs L T∧s=surdT T
theorem noText_of {s:List UInt8} (h0:s≠[48]) (h:¬ ∃ L' T,SurdIs L' T∧T≠[]∧s=textT true T):NoText s:=by
 rintro ⟨L,T,h1,h2⟩
 unfold surdT at h2
 by_cases hT:T=[]
 ·rw [if_pos hT] at h2;exact h0 h2
 ·rw [if_neg hT] at h2;exact h ⟨L,T,h1,hT,h2⟩
theorem noText_nil:NoText []:=noText_of (by decide) (fun ⟨L,T,h1,h2,h3⟩=>by
 cases T with
 | nil=>exact h2 rfl
 | cons a l=>exact absurd h3.symm textT_ne)
end Go.Proofs.YtbbclfbpllbbbaaGreatDoor
namespace Go.Proofs.YtbbclfbpllbbbaaGreatDoor
open Go.RowKit
def RetSu (s:ByteArray) (w:World) (e:Ending) (w':World):Prop:=∃ (v:Value) (k:Int),e=.returned (.tuple #[v,.int .i64 k])∧Hid ((k=0∧∃ L T,SurdIs L T∧s.data.toList=surdT T∧IsTerms w' v L)∨(k≠0∧v=.slice none 0 0∧NoText s.data.toList))∧Below w.heap.size w w'
def strLen:Value→Nat
 | .string b=>b.size
 | _=>0
theorem rowKpB {W W':World} {B:Nat} {e:TypeId} {size n:Nat} {v:Value} {xs:List Value} (h:W.ownsRow B e size v n xs) (hB:Below W.heap.size W W'):W'.ownsRow B e size v n xs:=by
 refine ⟨h.1,?_⟩
 rcases h.2 with h1|⟨g',cap',cur,h1,h2,h3,h4⟩
 ·exact .inl h1
 ·exact .inr ⟨g',cap',cur,h1,h2,(hB.block g' (Array.getElem?_eq_some_iff.1 h3).1).trans h3,h4⟩
theorem tt_ends {L:TTexts} {x:ByteArray × ByteArray} {P:ByteArray × ByteArray→Prop} (h:∀ k,k < L.length→P (tt L k)) (hx:P x):∀ k,k < (L++[x]).length→P (tt (L++[x]) k):=by
 intro k hk
 by_cases h1:k < L.length
 ·rw [tt_append h1];exact h k h1
 ·have e:L.length=k:=by simp at hk;omega
  rw [tt_last e];exact hx
theorem mSurd_ok (s:ByteArray) (w:World) (hG:Glo w) (hP:Pri w) (hl:s.size≤1000) :
  Calls Tryz.prog 10 #[.string s] w (RetSu s w):=by
 obtain ⟨i0,hi0,hz0,hz1,hz2⟩:=info_parts Tryz.infoTerm
 have HG:=Lib.hid hG
 have HP:=Lib.hid hP
 have hln:s.data.toList.length=s.size:=rfl
 have hlI:¬ (4096:Int) < (s.size:Int):=by omega
 clear hG hP
 by_cases h0:s.data.toList=[48]
 ·have hz:(s.toList == [48])=true:=by rw [Lib.toList_data,h0];decide
  have HS0:=Lib.hid h0
  clear h0
  go_enter Tryz.func10,Tryz.ntmps10
  go_wp2_with fail
  refine bodyPost_ret (v:=.tuple #[.slice none 0 0,.int .i64 0]) (by simp [results,Tryz.results10,go_sem]) rfl ?_
  exact ⟨_,0,rfl,Lib.hid (.inl ⟨rfl,[],[],SurdIs.nil,by rw [HS0.out];rfl,none,0,rfl,Nat.le_refl _,fun h=>absurd rfl h⟩),qbl⟩
 have hz:(s.toList == [48])=false:=by rw [Lib.toList_data];exact beq_eq_false_iff_ne.2 h0
 by_cases he:s.size=0
 ·have HS0:=Lib.hid (show s.data.toList=[] from List.length_eq_zero_iff.1 (by omega))
  have hem:s.toList=[]:=toList_nil he
  clear h0
  go_enter Tryz.func10,Tryz.ntmps10
  go_wp2_with fail
  refine bodyPost_ret (v:=.tuple #[.slice none 0 0,.int .i64 3]) (by simp [results,Tryz.results10,go_sem]) rfl ?_
  exact ⟨_,3,rfl,Lib.hid (.inr ⟨by decide,rfl,by rw [HS0.out];exact noText_nil⟩),qbl⟩
 have hem:(s.toList.isEmpty)=false:=toList_isEmpty he
 have hem':¬ s.toList=[]:=toList_ne he
 have HN0:=Lib.hid h0
 clear h0
 go_enter Tryz.func10,Tryz.ntmps10
 go_wp2_with fail
 go_loopw [4,5] (fun o r wr=>∃ (Lk:TTexts) (rb:ByteArray) (sa:Option Addr) (sc:Nat),o=.slice sa Lk.length sc∧r=.string rb∧wr.ownsRow w.heap.size 70 2 (.slice sa Lk.length sc) Lk.length (termCells Lk)∧Below w.heap.size w wr∧rb.size+Lk.length≤s.size∧Hid (∀ k,k < Lk.length→(tt Lk k).1.size≤1000∧(tt Lk k).2.size≤1000)∧Hid (ReadTo s.data.toList Lk rb.data.toList)) (fun _ r _=>strLen r)
 case atStart=>exact ⟨[],s,none,0,rfl,rfl,World.ownsRow_nil _ _ _ _,bw0 _ _,by simp,Lib.hid (fun k hk=>by simp at hk),Lib.hid (ReadTo.start _)⟩
 case round =>
  obtain ⟨Lk,rb,sa,sc,rfl,rfl,hrow,hB,hsz,HSZ,HRT⟩:=hrel
  clear hem hem'
  by_cases hr0:rb.size=0
  ·have hem:rb.toList=[]:=toList_nil hr0
   have HRT2:=Lib.hid (show ReadTo s.data.toList Lk [] from by have:=HRT.out;rwa [data_nil hr0] at this)
   have HIT:=Lib.hid (show IsTerms wr (.slice sa Lk.length sc) Lk from isTerms_row hrow)
   have HCK:=Lib.hid (sCheck_ok Lk _ wr (HG.out.below hB) (HP.out.below hB) HIT.out HSZ.out)
   have HTX:=Lib.hid (fun W hW=>mText_ok Lk (.slice sa Lk.length sc) W (HG.out.below (below_trans' hB hW)) (HP.out.below (below_trans' hB hW)) (HIT.out.below hW) HSZ.out)
   have HNT:=Lib.hid (fun (h:¬ ∃ T,SurdIs Lk T∧T≠[]∧s.data.toList=textT true T)=>show NoText s.data.toList from noText_of HN0.out (fun ⟨L',T,h1,h2,h3⟩=>h ⟨T,by rw [HRT2.out.all h1 h2 h3];exact h1,h2,h3⟩))
   clear hr0 HRT
   go_wp2_with fail
   refine HCK.out.mono ?_
   rintro e w1 ⟨k1,rfl,hk1,hB1⟩
   have hb1:=below_trans' hB hB1
   rcases (Decidable.em (k1=0)).symm with hz1|hz1
   ·have HNN:=Lib.hid (HNT.out (fun ⟨T,h1,_⟩=>hz1 (hk1.out.2 ⟨T,h1⟩)))
    clear hk1 HNT
    go_wp2_with fail
    refine bodyPost_ret (v:=.tuple #[.slice none 0 0,.int .i64 k1]) (by simp [results,Tryz.results10,go_sem]) rfl ?_
    exact ⟨_,k1,rfl,Lib.hid (.inr ⟨hz1,rfl,HNN.out⟩),hb1⟩
   have HOK:=Lib.hid (hk1.out.1 hz1)
   subst hz1
   clear hk1
   go_wp2_with fail
   refine (HTX.out _ hB1).mono ?_
   rintro e w2 ⟨x,k2,rfl,hx,hB2⟩
   have hb2:=below_trans' hb1 hB2
   have HIT2:=Lib.hid ((HIT.out.below hB1).below hB2)
   rcases hx.out with ⟨T,hT,rfl,hxT⟩|⟨hno,_⟩
   ·by_cases hxs:x=s
    ·have HY:=Lib.hid (show ∃ L T,SurdIs L T∧s.data.toList=surdT T∧IsTerms w2 (.slice sa Lk.length sc) L from ⟨Lk,T,hT,by rw [← hxs];exact hxT,HIT2.out⟩)
     have hxl:(x.toList == s.toList)=true:=by rw [hxs];simp
     clear hx hxT hT
     go_wp2_with fail
     refine bodyPost_ret (v:=.tuple #[.slice sa Lk.length sc,.int .i64 0]) (by simp [results,Tryz.results10,go_sem]) rfl ?_
     exact ⟨_,0,rfl,Lib.hid (.inl ⟨rfl,HY.out⟩),hb2⟩
    ·have HNN:=Lib.hid (HNT.out (fun ⟨T',h1,h2,h3⟩=>hxs (by
      have e1:=h1.uniq hT
      subst e1
      refine ByteArray.ext (Array.toList_inj.1 ?_)
      rw [hxT,h3]
      unfold surdT
      rw [if_neg h2])))
     have hxl:(x.toList == s.toList)=false:=beq_eq_false_iff_ne.2 (fun h=>hxs (by
      rw [Lib.toList_data,Lib.toList_data] at h
      exact ByteArray.ext (Array.toList_inj.1 h)))
     clear hx hxT hT HNT
     go_wp2_with fail
     refine bodyPost_ret (v:=.tuple #[.slice none 0 0,.int .i64 3]) (by simp [results,Tryz.results10,go_sem]) rfl ?_
     exact ⟨_,3,rfl,Lib.hid (.inr ⟨by decide,rfl,HNN.out⟩),hb2⟩
   ·exact absurd HOK.out hno
  ·have hem:(rb.toList.isEmpty)=false:=toList_isEmpty hr0
   have hem':¬ rb.toList=[]:=toList_ne hr0
   have hrl:rb.data.toList≠[]:=fun h=>hem' (by rw [Lib.toList_data];exact h)
   obtain ⟨first,hfi⟩:∃ f:Bool,((Lk.length:Int) == 0)=f:=⟨_,rfl⟩
   have hfd:first=decide (Lk.length=0):=by
    rw [← hfi]
    by_cases h:Lk.length=0
    ·rw [h];rfl
    ·rw [decide_eq_false h];exact beq_eq_false_iff_ne.2 (by omega)
   have HTM:=Lib.hid (fun W=>mterm_ok rb first W (by omega))
   have HFD:=Lib.hid hfd
   have HRL:=Lib.hid hrl
   have HROW:=Lib.hid hrow
   clear hfd hrl hrow hr0
   go_wp2_with fail
   refine (HTM.out _).mono ?_
   rintro e w1 ⟨hcase,hB1⟩
   have hb1:=below_trans' hB hB1
   rcases hcase with ⟨hno,rfl⟩|⟨c,x,r2,hsome,rfl⟩
   ·have HNN:=Lib.hid (show NoText s.data.toList from noText_of HN0.out (HRT.out.stuck HRL.out (by rw [← HFD.out];exact hno.out)))
    clear hno
    go_wp2_with fail
    refine bodyPost_ret (v:=.tuple #[.slice none 0 0,.int .i64 3]) (by simp [results,Tryz.results10,go_sem]) rfl ?_
    exact ⟨_,3,rfl,Lib.hid (.inr ⟨by decide,rfl,HNN.out⟩),bw4 hb1 _⟩
   ·obtain ⟨l1,l2,l3⟩:=termF_len hsome.out
    have HST:=Lib.hid (HRT.out.step HRL.out (by rw [← HFD.out];exact hsome.out) (cb:=c) (xb:=x) rfl rfl)
    have HS2:=Lib.hid (tt_ends (P:=fun y=>y.1.size≤1000∧y.2.size≤1000) HSZ.out (x:=(c,x)) ⟨by show c.data.toList.length≤1000;have e1:rb.data.toList.length=rb.size:=rfl;omega,by show x.data.toList.length≤1000;have e1:rb.data.toList.length=rb.size:=rfl;omega⟩)
    have hr2:r2.size < rb.size:=l3
    have HROW1:=Lib.hid (rowKpB HROW.out hB1)
    have HCE:=Lib.hid (show termCells (Lk++[(c,x)])=termCells Lk++[.string c,.string x] from by rw [termCells_append];rfl)
    have HLN:=Lib.hid (show (Lk++[(c,x)]).length=Lk.length+1 from by simp)
    have M1:Lk.length+1≤maxLen:=by unfold maxLen;omega
    have HOB:=Lib.hid (fun k (hk:(Value.slice sa Lk.length sc).ownBlock=some k)=>(by obtain ⟨x,y,e,h⟩:=rowT_shape HROW.out;cases e;exact h k hk:w.heap.size≤k))
    have hzz:=hb1.size
    clear hsome l1 l2 l3
    go_wp2_with (at_builtin;refine wpList_append_own _ rfl _ _ 25 rfl w.heap.size 70 i0 (.agg #[.string ⟨#[]⟩,.string ⟨#[]⟩]) 2 32 Tryz.underlying25 hi0 hz0 hz1 hz2 rfl (by decide) _ Lk.length _ rfl ((HROW1.out.alloc _).alloc _) ⟨w1.heap.size+1,0,none⟩ 1 1 [.string c,.string x] rfl rfl (cell_two_at (w1.alloc (.cells #[.string c,.string x] 70)) _ _ _ (by simp)) (by simp [Value.oneCell']) M1 (by omega) (by simp;omega) ?_;intro v' w3 hown' hgrow3 hnil3;have HROW2:=Lib.hid hown';have hB5:=Lib.hid (Below.grown (bw4 (bw4 hb1 _) _) hgrow3 (by simp;omega) HOB.out);clear hown' hgrow3 hnil3;obtain ⟨sa2,sc2,rfl,_⟩:=rowT_shape HROW2.out)
    go_roundw
    case rel=>exact ⟨Lk++[(c,x)],r2,sa2,sc2,by rw [HLN.out],rfl,by rw [HLN.out,HCE.out];exact HROW2.out,hB5.out,by rw [HLN.out];omega,HS2,HST⟩
    case measure=>simp [strLen];omega
end Go.Proofs.YtbbclfbpllbbbaaGreatDoor
namespace Go.Proofs.YtbbclfbpllbbbaaGreatDoor
open Go.RowKit Go.Shelf
def RetSd (L:TTexts) (w:World) (e:Ending) (w':World):Prop:=∃ u,e=.returned (.tuple #[u,.int .i64 0])∧IsTerms w' u L∧Below w.heap.size w w'
theorem longN_le {n k:Nat} (h:(Lib.decDigits n).length≤k) (hk:1≤k):longD ((n:Int):Rat)≤k:=by
 unfold longD
 have e1:(((n:Int):Rat)).num=(n:Int):=rfl
 have e2:(((n:Int):Rat)).den=1:=rfl
 have h1:(Lib.decDigits 1).length=1:=by decide +kernel
 rw [e1,e2,Int.natAbs_natCast,h1];omega
theorem isTerms_nil {w:World}:IsTerms w (.slice none 0 0) []:=⟨none,0,rfl,Nat.le_refl _,fun h=>absurd rfl h⟩
theorem Make_ok (Q:Raws) (n:Nat) (L:TTexts) (v:Value) (w:World) (hG:Glo w) (hP:Pri w) (h:OneC Q n) (hL:IsRaw L Q) (hv:IsTerms w v L) :
  Calls Tryz.prog 15 #[v] w (RetSd (oneL (gsum Q) n) w):=by
 obtain ⟨i0,hi0,hz0,hz1,hz2⟩:=info_parts Tryz.infoTerm
 have HVI:=Lib.hid (fun b W hW hb hwb=>visit_ok Q n L b v w W hG hP h hL hv hW hb hwb)
 obtain ⟨hLl,hLt⟩:=hL
 have hlen:L.length≤256:=by have:=h.len;omega
 have HLL:=Lib.hid hLl
 have HO:=Lib.hid h
 have HG:=Lib.hid hG
 have HLT:=Lib.hid hLt
 have h12:=hG.2.2
 obtain ⟨a,cap,rfl,hcap,hc⟩:=hv
 have HC:=Lib.hid hc
 have hlenI:¬ (256:Int) < (L.length:Int):=by omega
 clear hG hP hLt hLl hc h
 go_enter Tryz.func15,Tryz.ntmps15
 go_wp2_with fail
 go_loopw [18] (fun i wr=>∃ k:Nat,k≤L.length∧i=.int .i64 k∧Below w.heap.size w wr) (fun i _=>L.length - (intOf i).toNat)
 case atStart=>exact ⟨0,by omega,rfl,bw0 _ _⟩
 case round =>
  obtain ⟨k,hk,rfl,hB⟩:=hrel
  by_cases hlt:k < L.length
  ·obtain ⟨bt,off,rfl,hcell⟩:=HC.out (fun h=>by rw [h] at hlt;simp at hlt)
   obtain ⟨d0,d1⟩:=(hcell k hlt).below (w':=wr) hB
   have hkq:k < Q.length:=by have:=HLL.out;omega
   obtain ⟨t0,t1⟩:=HLT.out k hkq
   have hsq:=HO.out.sq k hkq
   have hsp:=HO.out.sr k hkq
   have hp0:=HO.out.r0 k hkq
   obtain ⟨q,hq⟩:∃ q,(rq Q k).1=q:=⟨_,rfl⟩
   obtain ⟨p,hp⟩:∃ p,(rq Q k).2=p:=⟨_,rfl⟩
   rw [hq] at hsq t0
   rw [hp] at hsp hp0 t1
   obtain ⟨c,hcc⟩:∃ c,(tt L k).1=c:=⟨_,rfl⟩
   obtain ⟨r,hrr⟩:∃ r,(tt L k).2=r:=⟨_,rfl⟩
   rw [hcc] at t0 d0
   rw [hrr] at t1 d1
   have hltI:(k:Int) < (L.length:Int):=by omega
   have hk1:IntKind.i64.wrap ((k:Int)+1)=((k+1:Nat):Int):=IntWalk.i64_in _ (by omega)
   have HCC:=Lib.hid (fun W hG=>RCheck_ok c W hG t0 hsq (by decide))
   have HCR:=Lib.hid (fun W hG=>RCheck_ok r W hG t1 hsp (by decide))
   have HHP:=Lib.hid (fun W=>hasPrefix_any r ⟨#[45]⟩ W (hasMinus t1))
   rw [decide_eq_false (show ¬ p.num < 0 by omega)] at HHP
   have hb1:Below w.heap.size w (wr.alloc (.cells #[.string c,.string r] 70)):=bw4 hB _
   have y0:BoxT2 70 (wr.alloc (.cells #[.string c,.string r] 70)) wr.heap.size (.string c) (.string r):=BoxT2.new rfl
   clear hcell hcc hrr hq hp t0 t1 hsq hsp hp0
   go_wp2_with fail
   generalize wr.alloc (.cells #[.string c,.string r] 70)=W1 at *
   refine (HCC.out _ (HG.out.below hb1)).mono ?_
   rintro e w2 ⟨rfl,hB2⟩
   have hb2:=below_trans' hb1 hB2
   replace y0:=y0.below hB2
   have e1:=y0.c1
   clear hB2 hb1 HCC
   go_wp2_with fail
   refine (HCR.out _ (HG.out.below hb2)).mono ?_
   rintro e w3 ⟨rfl,hB3⟩
   have hb3:=below_trans' hb2 hB3
   replace y0:=y0.below hB3
   have e2:=y0.c1
   clear hB3 hb2 HCR e1
   go_wp2_with fail
   refine (HHP.out _).mono ?_
   rintro e w4 ⟨rfl,rfl⟩
   go_wp2_with fail
   go_roundw
   case rel=>exact ⟨k+1,by omega,by go_num,hb3⟩
   case measure=>simp [intOf];omega
  ·have e:k=L.length:=by omega
   subst e
   go_wp2_with fail
   have hb1:Below w.heap.size w (wr.alloc (.cells #[.slice none 0 0] 94)):=bw4 hB _
   have x0:GNone (wr.alloc (.cells #[.slice none 0 0] 94)) wr.heap.size:=BoxT1.new rfl
   have hwb:=hB.size
   generalize wr.alloc (.cells #[.slice none 0 0] 94)=W1 at *
   generalize wr.heap.size=b at *
   refine (HVI.out b W1 hb1 x0 hwb).mono ?_
   rintro e w2 ⟨rfl,hst,hB2⟩
   have hb2:Below w.heap.size w w2:=hb1.trans (hB2.mono hwb)
   clear hB2 hb1 x0 HVI
   obtain ⟨S,hS⟩:∃ S,gsum Q=S:=⟨_,rfl⟩
   have HSS:=Lib.hid hS
   cases hg:gst n Q with
   | none =>
    rw [hg] at hst
    have c0:=BoxT1.c0 hst
    have HON:Hid (oneL (gsum Q) n=[]):=Lib.hid (by rw [gst_none hg];rfl)
    clear hst hg hS
    go_wp2_with fail
    go_loopw [10,47] (fun o i wr=>o=.slice none 0 0∧i=.int .i64 0∧wr=w2) (fun _ _ _=>0)
    case atStart=>exact ⟨rfl,rfl,rfl⟩
    case round =>
     obtain ⟨rfl,rfl,hwr⟩:=hrel
     subst wr
     go_wp2_with fail
     refine (sort1_ok 0 none 0 w2 (by omega)).mono ?_
     rintro e w3 ⟨rfl,hB3⟩
     have hb3:=below_trans' hb2 hB3
     clear hB3
     go_wp2_with fail
     refine bodyPost_ret (v:=.tuple #[.slice none 0 0,.int .i64 0]) (by simp [results,Tryz.results15,go_sem]) rfl ?_
     exact ⟨_,rfl,by rw [HON.out];exact isTerms_nil,hb3⟩
   | some y =>
    obtain ⟨S',m⟩:=y
    obtain ⟨e1,rfl⟩:=gst_some hg
    rw [hS] at e1
    subst e1
    rw [hg] at hst
    obtain ⟨g,cg,hx,hrow⟩:=hst
    obtain ⟨d0,d1⟩:=GOne.cells hrow
    have c0:=BoxT1.c0 hx
    have hcg:(1:Int)≤(cg:Int):=by have:=(row_block hrow).choose_spec.2.2.1;omega
    have hsS:Sz 90 S':=by have h1:=HO.out.st Q.length (Nat.le_refl _);rwa [List.take_length,hS] at h1
    have hn40:=HO.out.n40
    have hfin:=HO.out.fin
    rw [hS] at hfin
    have hn90:m < 10 ^ 90:=Nat.lt_of_lt_of_le (lenSz hn40) (Nat.pow_le_pow_right (by decide) (by decide))
    have HLS:=Lib.hid (fun W hG=>longest_ok (k:=90) (numS S') W hG (numS_list S') hsS (by decide))
    have HLN:=Lib.hid (fun W hG=>longest_ok (k:=90) (decS m) W hG (by rw [text_natR];exact decS_list m) (sz_natR hn90 (by decide)) (by decide))
    have hD:=longN_le hn40 (by decide)
    generalize longD ((m:Int):Rat)=D at *
    generalize longD S'=E at *
    have hDI:¬ (40:Int) < (D:Int):=by omega
    have hEI:¬ (60:Int) < (E:Int):=by omega
    have hz:((numS S').toList == [48])=decide (S'=0):=by rw [Lib.toList_data,numS_list,text_eq0]
    have HOL:Hid (oneL (gsum Q) m=if S'=0 then [] else [(numS S',decS m)]):=Lib.hid (by rw [HSS.out];rfl)
    clear hx hrow hg hS hsS hn40 hfin hn90 hD
    generalize numS S'=sS at *
    generalize decS m=sn at *
    have hl1:(if S'=0 then ([]:TTexts) else [(sS,sn)]).length≤1:=by split<;>simp
    obtain ⟨R,hR⟩:∃ R:TTexts,(if S'=0 then ([]:TTexts) else [(sS,sn)])=R:=⟨_,rfl⟩
    have HR:=Lib.hid hR
    rw [hR] at hl1
    clear hR
    go_wp2_with fail
    go_loopw [10,47] (fun o i wr=>Below w2.heap.size w2 wr∧((o=.slice none 0 0∧i=.int .i64 0)∨(i=.int .i64 1∧∃ sa sc,o=.slice sa R.length sc∧Hid (IsTerms wr (.slice sa R.length sc) R)))) (fun _ i _=>1 - (intOf i).toNat)
    case atStart=>exact ⟨bw0 _ _,.inl ⟨rfl,rfl⟩⟩
    case round =>
     obtain ⟨hB3,⟨rfl,rfl⟩|⟨rfl,sa,sc,rfl,hT⟩⟩:=hrel
     ·replace d0:=keep hB3 d0
      replace d1:=keep hB3 d1
      have hb3:=below_trans' hb2 hB3
      have hb4:Below w.heap.size w (wr.alloc (.cells #[.string sS,.string sn] 97)):=bw4 hb3 _
      have hB4:Below w2.heap.size w2 (wr.alloc (.cells #[.string sS,.string sn] 97)):=bw4 hB3 _
      have y0:BoxT2 97 (wr.alloc (.cells #[.string sS,.string sn] 97)) wr.heap.size (.string sS) (.string sn):=BoxT2.new rfl
      by_cases hS0:S'=0
      ·have HR0:Hid (R=[]):=Lib.hid (by rw [← HR.out,if_pos hS0])
       rw [decide_eq_true hS0] at hz
       clear hS0
       go_wp2_with fail
       go_roundw
       case rel=>exact ⟨hB4,.inr ⟨rfl,none,0,by rw [HR0.out];rfl,Lib.hid (by rw [HR0.out];exact isTerms_nil)⟩⟩
       case measure=>simp [intOf]
      ·have HR0:Hid (R=[(sS,sn)]):=Lib.hid (by rw [← HR.out,if_neg hS0])
       rw [decide_eq_false hS0] at hz
       clear hS0
       go_wp2_with fail
       generalize wr.alloc (.cells #[.string sS,.string sn] 97)=W3 at *
       refine (HLS.out _ (HG.out.below hb4)).mono ?_
       rintro e w5 ⟨rfl,hB5⟩
       have hb5:=below_trans' hb4 hB5
       replace hB4:=below_trans' hB4 hB5
       replace y0:=y0.below hB5
       have e1:=y0.c1
       clear hB5 hb4 HLS
       go_wp2_with fail
       refine (HLN.out _ (HG.out.below hb5)).mono ?_
       rintro e w6 ⟨rfl,hB6⟩
       have hb6:=below_trans' hb5 hB6
       replace hB4:=below_trans' hB4 hB6
       replace y0:=y0.below hB6
       have f0:=y0.c0
       have f1:=y0.c1
       have hz6:=hB4.size
       clear hB6 hb5 HLN e1
       go_wp2_with (at_builtin;refine wpList_append_own _ rfl _ _ 25 rfl w2.heap.size 70 i0 (.agg #[.string ⟨#[]⟩,.string ⟨#[]⟩]) 2 32 Tryz.underlying25 hi0 hz0 hz1 hz2 rfl (by decide) (.slice none 0 0) 0 [] rfl (World.ownsRow_nil _ _ _ _) ⟨w6.heap.size,0,none⟩ 1 1 [.string sS,.string sn] rfl rfl (cell_two_at w6 _ _ _ rfl) (by simp [Value.oneCell']) (by decide) (by decide) (by simp;omega) ?_;intro v' w7 hown' hgrow3 hnil3;have HROW2:=Lib.hid hown';have hB5:=Lib.hid (Below.grown (bw4 hB4 _) hgrow3 (by simp;omega) (fun k hk=>by cases hk));clear hown' hgrow3 hnil3;obtain ⟨sa2,sc2,rfl,_⟩:=rowT_shape HROW2.out)
       go_roundw
       case rel=>exact ⟨hB5.out,.inr ⟨rfl,sa2,sc2,by rw [HR0.out];rfl,Lib.hid (by rw [HR0.out];exact isTerms_row (l:=[(sS,sn)]) HROW2.out)⟩⟩
       case measure=>simp [intOf]
     ·have hb3:=below_trans' hb2 hB3
      have hRI:¬ (16:Int) < (R.length:Int):=by omega
      have HRS:=Lib.hid (sort1_ok R.length sa sc wr hl1)
      clear hl1
      go_wp2_with fail
      refine HRS.out.mono ?_
      rintro e w3 ⟨rfl,hB4⟩
      have hb4:=below_trans' hb3 hB4
      have HT2:=Lib.hid (hT.out.below hB4)
      clear hB4 hT
      go_wp2_with fail
      refine bodyPost_ret (v:=.tuple #[.slice sa R.length sc,.int .i64 0]) (by simp [results,Tryz.results15,go_sem]) rfl ?_
      exact ⟨_,rfl,by rw [HOL.out,HR.out];exact HT2.out,hb4⟩
end Go.Proofs.YtbbclfbpllbbbaaGreatDoor
namespace Go.Proofs.YtbbclfbpllbbbaaGreatDoor
open Go
def rawL (Q:Raws):TTexts:=Q.map fun x=>(numS x.1,numS x.2)
theorem rawL_length (Q:Raws):(rawL Q).length=Q.length:=by simp [rawL]
theorem rawL_is (Q:Raws):IsRaw (rawL Q) Q:=by
 refine ⟨rawL_length Q,fun k hk=>?_⟩
 have e:tt (rawL Q) k=(numS (rq Q k).1,numS (rq Q k).2):=by simp [tt,rawL,rq,hk]
 rw [e]
 exact ⟨numS_list _,numS_list _⟩
theorem rawL_snoc (Q:Raws) (x:Rat × Rat):rawL (Q++[x])=rawL Q++[(numS x.1,numS x.2)]:=by simp [rawL]
def toQ (T:Terms):Raws:=T.map fun x=>(x.1,((x.2:Int):Rat))
def scaledQ (T:Terms) (c:Rat):Raws:=T.map fun x=>(x.1 * c,((x.2:Int):Rat))
def rowQ (x:Rat × Nat) (T:Terms):Raws:=T.map fun y=>(x.1 * y.1,((x.2:Int):Rat) * ((y.2:Int):Rat))
def prodQ (T S:Terms):Raws:=T.flatMap fun x=>rowQ x S
theorem decS_num (n:Nat):decS n=numS ((n:Int):Rat):=by
 refine (decS_of ?_).symm
 rw [numS_list,text_natR]
theorem termsTake {T:Terms} {k:Nat} (h:k < T.length):T.take (k+1)=T.take k++[tq T k]:=by
 have e:tq T k=T[k]:=by simp [tq,h]
 rw [e]
 exact List.take_succ_eq_append_getElem h
theorem scaledQ_snoc (T:Terms) (x:Rat × Nat) (c:Rat):scaledQ (T++[x]) c=scaledQ T c++[(x.1 * c,((x.2:Int):Rat))]:=by simp [scaledQ]
theorem rowQ_snoc (x:Rat × Nat) (T:Terms) (y:Rat × Nat):rowQ x (T++[y])=rowQ x T++[(x.1 * y.1,((x.2:Int):Rat) * ((y.2:Int):Rat))]:=by simp [rowQ]
theorem prodQ_snoc (T S:Terms) (x:Rat × Nat):prodQ (T++[x]) S=prodQ T S++rowQ x S:=by simp [prodQ]
theorem rowQ_length (x:Rat × Nat) (T:Terms):(rowQ x T).length=T.length:=by simp [rowQ]
theorem prodQ_length (T S:Terms):(prodQ T S).length=T.length * S.length:=by
 induction T with
 | nil=>simp [prodQ]
 | cons x T ih =>
  have e:prodQ (x::T) S=rowQ x S++prodQ T S:=rfl
  rw [e,List.length_append,rowQ_length,ih,List.length_cons,Nat.succ_mul];omega
theorem SurdIs.raw {L:TTexts} {T:Terms} (h:SurdIs L T):L=rawL (toQ T):=by
 refine List.ext_getElem (by simp [rawL,toQ,h.same]) fun i h1 h2=>?_
 have a:=h.ok i h1
 have g1:tt L i=L[i]:=by simp [tt,h1]
 have hi:i < T.length:=by rw [h.same];exact h1
 have g2:tq T i=T[i]:=by simp [tq,hi]
 rw [g1,g2] at a
 have e1:=numS_of a.c
 have e2:L[i].2=numS ((T[i].2:Int):Rat):=by rw [← decS_num];exact decS_of a.r
 simp only [rawL,toQ,List.getElem_map]
 exact Prod.ext e1 e2
theorem TermOk.sz {c r:ByteArray} {q:Rat} {m:Nat} (h:TermOk c r q m):Sz 60 q∧Sz 40 ((m:Int):Rat) :=
 ⟨⟨lenSz h.cn,lenSz h.cd⟩,sz_natR (lenSz h.rn) (by decide)⟩
theorem IsTerms.raw {w:World} {v:Value} {L:TTexts} {T:Terms} (h:IsTerms w v L) (hT:SurdIs L T):IsTerms w v (rawL (toQ T)):=by
 rw [← hT.raw];exact h
theorem rawL_append (Q R:Raws):rawL (Q++R)=rawL Q++rawL R:=by simp [rawL]
end Go.Proofs.YtbbclfbpllbbbaaGreatDoor
namespace Go.Proofs.YtbbclfbpllbbbaaGreatDoor
open Go.RowKit Go.Shelf
theorem scaled_ok (T:Terms) (c:Rat) (L:TTexts) (v:Value) (cs:ByteArray) (w:World) (hG:Glo w) (hv:IsTerms w v L) (hT:SurdIs L T) (hc:cs.data.toList=ratText c) (hsc:Sz 90 c) :
  Calls Tryz.prog 55 #[v,.string cs] w (RetSd (rawL (scaledQ T c)) w):=by
 obtain ⟨i0,hi0,hz0,hz1,hz2⟩:=info_parts Tryz.infoTerm
 have hlen:=hT.len
 have HTT:=Lib.hid hT
 have HTL:=Lib.hid hT.same
 obtain ⟨a,cap,rfl,hcap,h⟩:=hv
 have HC:=Lib.hid h
 have HG:=Lib.hid hG
 have HMU:=Lib.hid (fun (q:Rat) (x:ByteArray) (hx:x.data.toList=ratText q) (hs:Sz 60 q) W hG=>RMul_ok (a:=60) (b:=90) x cs W hG hx hs hc hsc (by decide))
 clear h hG hT hc hsc
 go_enter Tryz.func55,Tryz.ntmps55
 go_wp2_with fail
 go_loopw [6,13] (fun o i wr=>∃ (k:Nat) (sa:Option Addr) (sc:Nat),k≤L.length∧i=.int .i64 k∧o=.slice sa k sc∧wr.ownsRow w.heap.size 70 2 (.slice sa k sc) k (termCells (rawL (scaledQ (T.take k) c)))∧Below w.heap.size w wr) (fun _ i _=>L.length - (intOf i).toNat)
 case atStart=>exact ⟨0,none,0,by omega,rfl,rfl,World.ownsRow_nil _ _ _ _,bw0 _ _⟩
 case round =>
  obtain ⟨k,sa,sc,hk,rfl,rfl,hrow,hB⟩:=hrel
  by_cases hlt:k < L.length
  ·obtain ⟨b,off,rfl,hcell⟩:=HC.out (fun h=>by rw [h] at hlt;simp at hlt)
   obtain ⟨d0,d1⟩:=(hcell k hlt).below (w':=wr) hB
   have hok:=HTT.out.ok k hlt
   have hst:=scaledQ_snoc (T.take k) (tq T k) c
   rw [← termsTake (by rw [HTL.out];exact hlt)] at hst
   obtain ⟨x,hxx⟩:∃ c,(tt L k).1=c:=⟨_,rfl⟩
   obtain ⟨r,hrr⟩:∃ r,(tt L k).2=r:=⟨_,rfl⟩
   obtain ⟨q,hq⟩:∃ q,(tq T k).1=q:=⟨_,rfl⟩
   obtain ⟨m,hm⟩:∃ m,(tq T k).2=m:=⟨_,rfl⟩
   rw [hxx,hrr,hq,hm] at hok
   rw [hxx] at d0
   rw [hrr] at d1
   rw [hq,hm] at hst
   have HM:=Lib.hid (HMU.out q x hok.c hok.sz.1)
   have hrm:r=numS ((m:Int):Rat):=by rw [← decS_num];exact decS_of hok.r
   have HST:Hid (termCells (rawL (scaledQ (T.take (k+1)) c))=termCells (rawL (scaledQ (T.take k) c))++[.string (numS (q * c)),.string r]):=Lib.hid (by rw [hst,rawL_snoc,termCells_append,hrm];rfl)
   have hltI:(k:Int) < (L.length:Int):=by omega
   have hk1:IntKind.i64.wrap ((k:Int)+1)=((k+1:Nat):Int):=IntWalk.i64_in _ (by omega)
   have HROW:=Lib.hid hrow
   have HOB:=Lib.hid (fun j (hk:(Value.slice sa k sc).ownBlock=some j)=>(by obtain ⟨x,y,e,h⟩:=rowT_shape hrow;cases e;exact h j hk:w.heap.size≤j))
   have hb1:Below w.heap.size w (wr.alloc (.cells #[.string x,.string r] 70)):=bw4 hB _
   have y0:BoxT2 70 (wr.alloc (.cells #[.string x,.string r] 70)) wr.heap.size (.string x) (.string r):=BoxT2.new rfl
   have HROW1:=Lib.hid (HROW.out.alloc (.cells #[.string x,.string r] 70))
   have M1:k+1≤maxLen:=by unfold maxLen;omega
   clear hcell hok hst hxx hrr hq hm hrm hrow
   go_wp2_with fail
   generalize wr.alloc (.cells #[.string x,.string r] 70)=W1 at *
   refine (HM.out _ (HG.out.below hb1)).mono ?_
   rintro e w2 ⟨z,hz,rfl,hB2⟩
   obtain rfl:=numS_of hz
   have hb2:=below_trans' hb1 hB2
   replace y0:=y0.below hB2
   have HROW2:=Lib.hid (rowKpB HROW1.out hB2)
   have e1:=y0.c1
   have hz2':=hb2.size
   clear hB2 hb1 HM hz HROW1 HROW
   generalize numS (q * c)=z at *
   go_wp2_with (at_builtin;refine wpList_append_own _ rfl _ _ 22 rfl w.heap.size 70 i0 (.agg #[.string ⟨#[]⟩,.string ⟨#[]⟩]) 2 32 Tryz.underlying22 hi0 hz0 hz1 hz2 rfl (by decide) _ k _ rfl (HROW2.out.alloc _) ⟨w2.heap.size,0,none⟩ 1 1 [.string z,.string r] rfl rfl (cell_two_at w2 _ _ _ rfl) (by simp [Value.oneCell']) M1 (by omega) (by simp;omega) ?_;intro v' w3 hown' hgrow3 hnil3;have HROW3:=Lib.hid hown';have hB5:=Lib.hid (Below.grown (bw4 hb2 _) hgrow3 (by simp;omega) HOB.out);clear hown' hgrow3 hnil3;obtain ⟨sa2,sc2,rfl,_⟩:=rowT_shape HROW3.out)
   go_roundw
   case rel=>exact ⟨k+1,sa2,sc2,by omega,by go_num,rfl,by rw [HST.out];exact HROW3.out,hB5.out⟩
   case measure=>simp [intOf];omega
  ·have e:k=L.length:=by omega
   subst e
   have HRT:=Lib.hid (show IsTerms wr (.slice sa L.length sc) (rawL (scaledQ T c)) from isTerms_row (B:=w.heap.size) (t:=70) (by
    have h1:=hrow
    rw [List.take_of_length_le (by rw [HTL.out];exact Nat.le_refl _)] at h1
    have h2:(rawL (scaledQ T c)).length=L.length:=by simp [rawL,scaledQ,HTL.out]
    rw [h2];exact h1))
   clear hrow
   go_wp2_with fail
   refine bodyPost_ret (v:=.tuple #[.slice sa L.length sc,.int .i64 0]) (by simp [results,Tryz.results55,go_sem]) rfl ?_
   exact ⟨_,rfl,HRT.out,hB⟩
theorem SurdIs.sizes {L:TTexts} {T:Terms} (h:SurdIs L T):∀ k,k < L.length→(tt L k).1.size≤1000∧(tt L k).2.size≤1000:=by
 intro k hk
 have a:=h.ok k hk
 refine ⟨?_,?_⟩
 ·have e:(tt L k).1.size=(tt L k).1.data.toList.length:=rfl
  rw [e,a.c,ratText_parts]
  have h1:=a.cn
  have h2:=a.cd
  simp only [List.length_append]
  split<;>split<;>simp<;>omega
 ·have e:(tt L k).2.size=(tt L k).2.data.toList.length:=rfl
  rw [e,a.r]
  have:=a.rn
  omega
theorem sCheck_yes (L:TTexts) (T:Terms) (v:Value) (w:World) (hG:Glo w) (hP:Pri w) (hv:IsTerms w v L) (h:SurdIs L T) :
  Calls Tryz.prog 12 #[v] w (RetB (.int .i64 0) w):=by
 refine (sCheck_ok L v w hG hP hv h.sizes).mono ?_
 rintro e w' ⟨k,rfl,hk,hB⟩
 obtain rfl:k=0:=hk.out.2 ⟨T,h⟩
 exact ⟨rfl,hB⟩
theorem sboth_ok (L M:TTexts) (T S:Terms) (u v:Value) (w:World) (hG:Glo w) (hP:Pri w) (hu:IsTerms w u L) (hv:IsTerms w v M) (h:SurdIs L T) (k:SurdIs M S) :
  Calls Tryz.prog 67 #[u,v] w (RetB (.bool true) w):=by
 have H1:=Lib.hid (sCheck_yes L T u w hG hP hu h)
 have H2:=Lib.hid (fun W hB=>sCheck_yes M S v W (hG.below hB) (hP.below hB) (hv.below hB) k)
 clear hG hP hu hv h k
 go_enter Tryz.func67,Tryz.ntmps67
 go_wp2_with fail
 refine H1.out.mono ?_
 rintro e w1 ⟨rfl,hB1⟩
 go_wp2_with fail
 refine (H2.out _ hB1).mono ?_
 rintro e w2 ⟨rfl,hB2⟩
 have hb2:=below_trans' hB1 hB2
 clear hB1 hB2
 go_wp2_with fail
 go_ret
 exact ⟨rfl,hb2⟩
theorem Scale_ok (T:Terms) (c:Rat) (n:Nat) (L:TTexts) (v:Value) (cs:ByteArray) (w:World) (hG:Glo w) (hP:Pri w) (hv:IsTerms w v L) (hT:SurdIs L T) (hc:cs.data.toList=ratText c) (hsc:Sz 90 c) (h1:OneC (scaledQ T c) n) :
  Calls Tryz.prog 18 #[v,.string cs] w (RetSd (oneL (gsum (scaledQ T c)) n) w):=by
 have H1:=Lib.hid (sCheck_yes L T v w hG hP hv hT)
 have H2:=Lib.hid (fun W hG=>RCheck_ok cs W hG hc hsc (by decide))
 have H3:=Lib.hid (fun W hB=>scaled_ok T c L v cs W (hG.below hB) (hv.below hB) hT hc hsc)
 have H4:=Lib.hid (fun W u hG hP (hu:IsTerms W u (rawL (scaledQ T c)))=>Make_ok (scaledQ T c) n _ u W hG hP h1 (rawL_is _) hu)
 have HG:=Lib.hid hG
 have HP:=Lib.hid hP
 clear hG hP hv hT hc hsc h1
 go_enter Tryz.func18,Tryz.ntmps18
 go_wp2_with fail
 refine H1.out.mono ?_
 rintro e w1 ⟨rfl,hB1⟩
 go_wp2_with fail
 refine (H2.out _ (HG.out.below hB1)).mono ?_
 rintro e w2 ⟨rfl,hB2⟩
 have hb2:=below_trans' hB1 hB2
 clear hB1 hB2
 go_wp2_with fail
 refine (H3.out _ hb2).mono ?_
 rintro e w3 ⟨u,rfl,hu,hB3⟩
 have hb3:=below_trans' hb2 hB3
 have H5:=Lib.hid (H4.out w3 u (HG.out.below hb3) (HP.out.below hb3) hu)
 obtain ⟨ua,uc,rfl,_⟩:=hu
 clear hB3 hb2
 go_wp2_with fail
 refine H5.out.mono ?_
 rintro e w4 ⟨x,rfl,hx,hB4⟩
 have hb4:=below_trans' hb3 hB4
 have HX:=Lib.hid hx
 obtain ⟨xa,xc,rfl,_⟩:=hx
 clear hB4
 go_wp2_with fail
 refine bodyPost_ret (v:=.tuple #[.slice xa (oneL (gsum (scaledQ T c)) n).length xc,.int .i64 0]) (by simp [results,Tryz.results18,go_sem]) rfl ?_
 exact ⟨_,rfl,HX.out,hb4⟩
end Go.Proofs.YtbbclfbpllbbbaaGreatDoor
namespace Go.Proofs.YtbbclfbpllbbbaaGreatDoor
open Go.RowKit Go.Shelf
theorem run_append_none {P:Program} (w:World) (t ty e:TypeId) (i:TypeInfo) (ht:P.underlying t=some (.slice e)) (hi:P.info? e=some i) (b:Option Addr) (n c:Nat) (x:Option Addr) (c2:Nat) (hnc:n≤c) :
  (Builtin.append_ #[t,t] ty #[.slice b n c,.slice x 0 c2]).run P w=.ok (.slice b n c) w:=by
 have hf:∀ W,(Builtin.firstCells i.size 0 (.slice x 0 c2)).run P W=.ok #[] W:=by
  intro W
  cases x with
  | none=>exact run_firstCells_none ..
  | some a=>exact run_firstCells_some (P:=P) W i.size 0 a 0 c2 [] (by simp) (by simp)
 cases b with
 | none=>simp [Builtin.append_,run_underlying ht,sizeOf,typeInfo,hi,Builtin.lenOf,hnc,hf]
 | some a=>simp [Builtin.append_,run_underlying ht,sizeOf,typeInfo,hi,Builtin.lenOf,hnc,hf,storeCells]
theorem wpList_append_terms {P:Program} (w:World) {ops:Array Oper} {rest:List Oper} {o:Oper} {a:Act} {Q:Exit→Act→World→Prop} (hgd:o.guard=none) (s x:Operand) (t:TypeId)
  (ho:o.op=.call { callee:=.builtin .append,args:=#[s,x],argTypes:=#[t,t] })
  (base:Nat) (e:TypeId) (i:TypeInfo) (z:Value) (bytes:Nat) (ht:P.underlying t=some (.slice e)) (hi:P.info? e=some i) (hz:i.zero=some z) (hsize:i.size=2) (hby:i.bytes=bytes) (hzs:z.cells.size=2)
  (A L:TTexts) (sa:Option Addr) (sc:Nat) (hs:a.eval s=.slice sa A.length sc) (hown:w.ownsRow base e 2 (.slice sa A.length sc) A.length (termCells A))
  (ax:Option Addr) (cx:Nat) (hx:a.eval x=.slice ax L.length cx) (hL:IsTerms w (.slice ax L.length cx) L) (h63:A.length+L.length≤100000) (hbytes:bytes≤100) (hbase:base≤w.heap.size)
  (h:∀ sa' sc' w',w'.ownsRow base e 2 (.slice sa' (A.length+L.length) sc') (A.length+L.length) (termCells (A++L))→Below base w w'→wpList P ops Q rest (a.put o.dst (.slice sa' (A.length+L.length) sc')) w'):wpList P ops Q (o::rest) a w:=by
 obtain ⟨a2,c2,he,hc2,hcells⟩:=hL
 obtain ⟨rfl,_,rfl⟩:ax=a2∧True∧cx=c2:=by cases he;exact ⟨rfl,trivial,rfl⟩
 by_cases hL0:L=[]
 ·subst hL0
  have hnc:A.length≤sc:=by
   rcases hown.2 with ⟨h1,h2⟩|⟨g,cap,cur,h1,_,_,h2,_⟩
   ·injection h1 with _ e1 e2;omega
   ·injection h1 with _ e1 e2;omega
  refine Lib.wpList_append_run w hgd s x t t ho _ _ hs hx _ _ (run_append_none w t _ e i ht hi sa A.length sc ax cx hnc) ?_
  have h1:=h sa sc w (by rw [List.append_nil];exact hown) (bw0 _ _)
  exact h1
 ·obtain ⟨b,off,rfl,hk⟩:=hcells hL0
  refine wpList_append_own w hgd s x t ho base e i z 2 bytes ht hi hz hsize hby hzs (by decide) _ A.length _ hs hown ⟨b,off,none⟩ L.length cx (termCells L) hx (termCells_length L) (term_cell hk) termCells_one (by unfold maxLen;omega)
   (Nat.le_trans (Nat.mul_le_mul h63 hbytes) (by decide)) hbase fun v' w' h1 h2 _=>?_
  obtain ⟨sa',sc',rfl,_⟩:=rowT_shape h1
  refine h sa' sc' w' (by rw [termCells_append];exact h1) (Below.grown (bw0 _ _) h2 hbase fun k hk=>?_)
  obtain ⟨x,y,e',h3⟩:=rowT_shape hown
  cases e'
  exact h3 k hk
theorem growT_ok (n:Nat) (w:World) (h0:0 < n) (hn:n≤100000) :
  Calls Tryz.prog 120 #[.slice none 0 0,.int .i64 n] w fun e w'=>∃ cap,e=.returned (.slice (some ⟨w.heap.size,0,none⟩) 0 cap)∧w'.ownsRow w.heap.size 70 2 (.slice (some ⟨w.heap.size,0,none⟩) 0 cap) 0 []∧Below w.heap.size w w':=by
 obtain ⟨i0,hi0,hz0,hz1,hz2⟩:=info_parts Tryz.infoTerm
 have hr:∀ ty,(Builtin.append_ #[25,3] ty #[.slice none 0 0,.int .i64 n]).run Tryz.prog w=_:=fun ty=>Lib.run_append_nil_zeros w 25 3 ty 70 i0 (.agg #[.string ⟨#[]⟩,.string ⟨#[]⟩]) .i64 .i64 Tryz.underlying25 Tryz.underlying3 hi0 hz0 n h0 (by rw [hz1];omega) (by omega) (by rw [hz2];omega)
 have hG:=grownCap_ge w n 0 70
 have hG2:=grownCap_le_maxLen w n 0 70 (by unfold maxLen;omega)
 have hrow:(w.drew.alloc (.cells (Builtin.zeroCells (Value.agg #[.string ⟨#[]⟩,.string ⟨#[]⟩]).cells n++Builtin.zeroCells (Value.agg #[.string ⟨#[]⟩,.string ⟨#[]⟩]).cells (grownCap w n 0 70 - n)) 70)).ownsRow w.heap.size 70 2 (.slice (some ⟨w.heap.size,0,none⟩) 0 (grownCap w n 0 70)) 0 []:=by
  refine ⟨rfl,Or.inr ⟨w.heap.size,_,_,rfl,Nat.le_refl _,heap_alloc_last w.drew _,Nat.zero_le _,hG2,?_,rfl⟩⟩
  rw [Array.size_append,size_zeroCells,size_zeroCells,show (Value.agg #[.string ⟨#[]⟩,.string ⟨#[]⟩]).cells.size=2 from rfl]
  omega
 have hB:Below w.heap.size w (w.drew.alloc (.cells (Builtin.zeroCells (Value.agg #[.string ⟨#[]⟩,.string ⟨#[]⟩]).cells n++Builtin.zeroCells (Value.agg #[.string ⟨#[]⟩,.string ⟨#[]⟩]).cells (grownCap w n 0 70 - n)) 70)):=bw4 (bw0 _ _).drew _
 generalize hW:w.drew.alloc (.cells (Builtin.zeroCells (Value.agg #[.string ⟨#[]⟩,.string ⟨#[]⟩]).cells n++Builtin.zeroCells (Value.agg #[.string ⟨#[]⟩,.string ⟨#[]⟩]).cells (grownCap w n 0 70 - n)) 70)=W at *
 generalize grownCap w n 0 70=G at *
 have HRO:=Lib.hid hrow
 have HB:=Lib.hid hB
 clear hrow hB hW
 unfold maxLen at hG2
 go_enter Tryz.func120,Tryz.ntmps120
 go_wp2_with (at_builtin;refine Lib.wpList_append_run _ rfl _ _ _ _ rfl _ _ rfl rfl _ _ (hr _) ?_)
 go_ret
 exact ⟨G,rfl,HRO.out,HB.out⟩
theorem growT_zero (w:World) :
  Calls Tryz.prog 120 #[.slice none 0 0,.int .i64 0] w (RetB (.slice none 0 0) w):=by
 go_enter Tryz.func120,Tryz.ntmps120
 go_wp2_with fail
 go_ret
 exact ⟨rfl,qbl⟩
theorem growT_any (n:Nat) (w:World) (hn:n≤100000) :
  Calls Tryz.prog 120 #[.slice none 0 0,.int .i64 n] w fun e w'=>∃ sa cap,e=.returned (.slice sa 0 cap)∧w'.ownsRow w.heap.size 70 2 (.slice sa 0 cap) 0 []∧Below w.heap.size w w':=by
 rcases Nat.eq_zero_or_pos n with rfl|h
 ·refine (growT_zero w).mono ?_
  rintro e w' ⟨rfl,hB⟩
  exact ⟨none,0,rfl,World.ownsRow_nil _ _ _ _,hB⟩
 ·refine (growT_ok n w h hn).mono ?_
  rintro e w' ⟨cap,rfl,h1,h2⟩
  exact ⟨_,cap,rfl,h1,h2⟩
def RetTs (L:TTexts) (w:World) (e:Ending) (w':World):Prop:=∃ u,e=.returned u∧IsTerms w' u L∧Below w.heap.size w w'
theorem concat2_ok (L M:TTexts) (u v:Value) (b:Nat) (w:World) (hu:IsTerms w u L) (hv:IsTerms w v M) (h0:w.cell? ⟨b,0,none⟩=some u) (h1:w.cell? ⟨b,1,none⟩=some v) (hL:L.length≤100) (hM:M.length≤100) :
  Calls Tryz.prog 68 #[.slice (some ⟨b,0,none⟩) 2 2] w (RetTs (L++M) w):=by
 obtain ⟨i0,hi0,hz0,hz1,hz2⟩:=info_parts Tryz.infoTerm
 have HU:=Lib.hid hu
 have HV:=Lib.hid hv
 obtain ⟨a1,c1,rfl,_⟩:=hu
 obtain ⟨a2,c2,rfl,_⟩:=hv
 have HGR:=Lib.hid (fun W=>growT_any (L.length+M.length) W (by omega))
 have hw1:IntKind.i64.wrap ((L.length:Int)+(M.length:Int))=(L.length:Int)+(M.length:Int):=IntWalk.i64_in _ (by omega)
 have hw0:IntKind.i64.wrap (L.length:Int)=(L.length:Int):=IntWalk.i64_in _ (by omega)
 have hn1:¬ (L.length:Int)+(M.length:Int) < 0:=by omega
 go_enter Tryz.func68,Tryz.ntmps68
 go_wp2_with fail
 go_loopw [3,11] (fun s i wr=>wr=w∧((i=.int .i64 0∧s=.int .i64 0)∨(i=.int .i64 1∧s=.int .i64 (L.length:Int))∨(i=.int .i64 2∧s=.int .i64 ((L.length:Int)+(M.length:Int))))) (fun _ i _=>2 - (intOf i).toNat)
 case atStart=>exact ⟨rfl,.inl ⟨rfl,rfl⟩⟩
 case round =>
  obtain ⟨hwr,⟨rfl,rfl⟩|⟨rfl,rfl⟩|⟨rfl,rfl⟩⟩:=hrel
  ·subst wr
   go_wp2_with fail
   go_roundw
   case rel=>exact ⟨trivial,.inr (.inl ⟨rfl,by simp⟩)⟩
   case measure=>simp [intOf]
  ·subst wr
   go_wp2_with fail
   go_roundw
   case rel=>exact ⟨trivial,.inr (.inr ⟨rfl,rfl⟩)⟩
   case measure=>simp [intOf]
  ·subst wr
   go_wp2_with fail
   refine (HGR.out _).mono ?_
   rintro e w1 ⟨sa,cap,rfl,hrow,hB1⟩
   have k0:=keep hB1 h0
   have k1:=keep hB1 h1
   have hR0:=Lib.hid hrow
   have hz:=hB1.size
   clear hrow
   go_wp2_with fail
   go_loopw [6,27] (fun o i wr=>Below w.heap.size w wr∧((i=.int .i64 0∧o=.slice sa 0 cap∧wr=w1)∨(i=.int .i64 1∧∃ sb cb,o=.slice sb L.length cb∧Hid (wr.ownsRow w.heap.size 70 2 (.slice sb L.length cb) L.length (termCells L)))∨(i=.int .i64 2∧∃ sb cb,o=.slice sb (L.length+M.length) cb∧Hid (IsTerms wr (.slice sb (L.length+M.length) cb) (L++M))))) (fun _ i _=>2 - (intOf i).toNat)
   case atStart=>exact ⟨hB1,.inl ⟨rfl,rfl,rfl⟩⟩
   case round =>
    obtain ⟨hB,⟨rfl,rfl,hwr⟩|⟨rfl,sb,cb,rfl,hR⟩|⟨rfl,sb,cb,rfl,hT⟩⟩:=hrel
    ·subst wr
     have HU1:=Lib.hid (HU.out.below hB)
     go_wp2_with (at_builtin;refine wpList_append_terms _ rfl _ _ 25 rfl w.heap.size 70 i0 (.agg #[.string ⟨#[]⟩,.string ⟨#[]⟩]) 32 Tryz.underlying25 hi0 hz0 hz1 hz2 rfl [] L sa cap rfl hR0.out a1 c1 rfl HU1.out (by simp;omega) (by decide) hz ?_;intro sa' sc' w' h1' h2';have HR1:=Lib.hid h1';have hb2:=hB.trans h2';clear h1' h2')
     go_roundw
     case rel=>exact ⟨hb2,.inr (.inl ⟨rfl,sa',sc',by simp,Lib.hid (by have h2:=HR1.out;simpa using h2)⟩)⟩
     case measure=>simp [intOf]
    ·have HV1:=Lib.hid (HV.out.below hB)
     have hzz:=hB.size
     replace k0:=keep hB h0
     replace k1:=keep hB h1
     go_wp2_with (at_builtin;refine wpList_append_terms _ rfl _ _ 25 rfl w.heap.size 70 i0 (.agg #[.string ⟨#[]⟩,.string ⟨#[]⟩]) 32 Tryz.underlying25 hi0 hz0 hz1 hz2 rfl L M sb cb rfl hR.out a2 c2 rfl HV1.out (by omega) (by decide) hzz ?_;intro sa' sc' w' h1' h2';have HR1:=Lib.hid h1';have hb2:=hB.trans h2';clear h1' h2')
     go_roundw
     case rel=>exact ⟨hb2,.inr (.inr ⟨rfl,sa',sc',rfl,Lib.hid (isTerms_row (l:=L++M) (by rw [List.length_append];exact HR1.out))⟩)⟩
     case measure=>simp [intOf]
    ·have HLN:=Lib.hid (show (L++M).length=L.length+M.length from by simp)
     go_wp2_with fail
     go_ret
     exact ⟨_,rfl,hT.out,hB⟩
theorem Add_ok (T S:Terms) (n:Nat) (L M:TTexts) (u v:Value) (w:World) (hG:Glo w) (hP:Pri w) (hu:IsTerms w u L) (hv:IsTerms w v M) (hT:SurdIs L T) (hS:SurdIs M S) (h1:OneC (toQ T++toQ S) n) :
  Calls Tryz.prog 24 #[u,v] w (RetSd (oneL (gsum (toQ T++toQ S)) n) w):=by
 obtain ⟨N,hN⟩:∃ N,L++M=N:=⟨_,rfl⟩
 have hLM:N=rawL (toQ T++toQ S):=by rw [← hN,rawL_append,← hT.raw,← hS.raw]
 have H1:=Lib.hid (sboth_ok L M T S u v w hG hP hu hv hT hS)
 have H3:=Lib.hid (fun (W:World) (b:Nat) (hB:Below w.heap.size w W) h0 h1=>(by rw [← hN];exact concat2_ok L M u v b W (hu.below hB) (hv.below hB) h0 h1 (Nat.le_trans hT.len (by decide)) (Nat.le_trans hS.len (by decide)):Calls Tryz.prog 68 #[.slice (some ⟨b,0,none⟩) 2 2] W (RetTs N W)))
 have H4:=Lib.hid (fun W x hG hP (hx:IsTerms W x N)=>Make_ok (toQ T++toQ S) n N x W hG hP h1 (by rw [hLM];exact rawL_is _) hx)
 have HG:=Lib.hid hG
 have HP:=Lib.hid hP
 obtain ⟨a1,c1,rfl,_⟩:=hu
 obtain ⟨a2,c2,rfl,_⟩:=hv
 clear hG hP hT hS h1 hLM hN
 go_enter Tryz.func24,Tryz.ntmps24
 go_wp2_with fail
 refine H1.out.mono ?_
 rintro e w1 ⟨rfl,hB1⟩
 go_wp2_with fail
 have hb2:Below w.heap.size w (w1.alloc (.cells #[.slice a1 L.length c1,.slice a2 M.length c2] 25)):=bw4 hB1 _
 refine (H3.out _ w1.heap.size hb2 (by simp [go_sem]) (by simp [go_sem])).mono ?_
 rintro e w3 ⟨x,rfl,hx,hB3⟩
 have hb3:=below_trans' hb2 hB3
 have H5:=Lib.hid (H4.out w3 x (HG.out.below hb3) (HP.out.below hb3) hx)
 obtain ⟨xa,xc,rfl,_⟩:=hx
 clear hB3 hb2
 go_wp2_with fail
 refine H5.out.mono ?_
 rintro e w4 ⟨y,rfl,hy,hB4⟩
 have hb4:=below_trans' hb3 hB4
 have HY:=Lib.hid hy
 obtain ⟨ya,yc,rfl,_⟩:=hy
 clear hB4
 go_wp2_with fail
 refine bodyPost_ret (v:=.tuple #[.slice ya (oneL (gsum (toQ T++toQ S)) n).length yc,.int .i64 0]) (by simp [results,Tryz.results24,go_sem]) rfl ?_
 exact ⟨_,rfl,HY.out,hb4⟩
theorem minusOne:(⟨#[45,49]⟩:ByteArray).data.toList=ratText (-1):=by decide +kernel
theorem Sub_ok (T S:Terms) (n:Nat) (L M:TTexts) (u v:Value) (w:World) (hG:Glo w) (hP:Pri w) (hu:IsTerms w u L) (hv:IsTerms w v M) (hT:SurdIs L T) (hS:SurdIs M S) (h1:OneC (toQ T++scaledQ S (-1)) n) :
  Calls Tryz.prog 56 #[u,v] w (RetSd (oneL (gsum (toQ T++scaledQ S (-1))) n) w):=by
 obtain ⟨R,hR⟩:∃ R,rawL (scaledQ S (-1))=R:=⟨_,rfl⟩
 obtain ⟨N,hN⟩:∃ N,L++R=N:=⟨_,rfl⟩
 have hLM:N=rawL (toQ T++scaledQ S (-1)):=by rw [← hN,← hR,rawL_append,← hT.raw]
 have H1:=Lib.hid (sboth_ok L M T S u v w hG hP hu hv hT hS)
 have H2:=Lib.hid (fun W hB=>scaled_ok S (-1) M v ⟨#[45,49]⟩ W (hG.below hB) (hv.below hB) hS minusOne (by unfold Sz;decide +kernel))
 rw [hR] at H2
 have hml:R.length≤100:=by rw [← hR,rawL_length];unfold scaledQ;rw [List.length_map,hS.same];exact Nat.le_trans hS.len (by decide)
 have H3:=Lib.hid (fun (W:World) (b:Nat) (x:Value) (hB:Below w.heap.size w W) (hx:IsTerms W x R) h0 h1=>(by rw [← hN];exact concat2_ok L R u x b W (hu.below hB) hx h0 h1 (Nat.le_trans hT.len (by decide)) hml:Calls Tryz.prog 68 #[.slice (some ⟨b,0,none⟩) 2 2] W (RetTs N W)))
 have H4:=Lib.hid (fun W x hG hP (hx:IsTerms W x N)=>Make_ok (toQ T++scaledQ S (-1)) n N x W hG hP h1 (by rw [hLM];exact rawL_is _) hx)
 have HG:=Lib.hid hG
 have HP:=Lib.hid hP
 obtain ⟨a1,c1,rfl,_⟩:=hu
 obtain ⟨a2,c2,rfl,_⟩:=hv
 clear hG hP hT hS h1 hLM hml hN hR
 go_enter Tryz.func56,Tryz.ntmps56
 go_wp2_with fail
 refine H1.out.mono ?_
 rintro e w1 ⟨rfl,hB1⟩
 go_wp2_with fail
 refine (H2.out _ hB1).mono ?_
 rintro e w2 ⟨m,rfl,hm,hB2⟩
 have hb2:=below_trans' hB1 hB2
 have HM:=Lib.hid hm
 obtain ⟨ma,mc,rfl,_⟩:=hm
 clear hB2
 go_wp2_with fail
 have hB3:Below w2.heap.size w2 (w2.alloc (.cells #[.slice a1 L.length c1,.slice ma R.length mc] 25)):=bw4 (bw0 _ _) _
 have hb3:=below_trans' hb2 hB3
 refine (H3.out _ w2.heap.size _ hb3 (HM.out.below hB3) (by simp [go_sem]) (by simp [go_sem])).mono ?_
 rintro e w3 ⟨x,rfl,hx,hB4⟩
 have hb4:=below_trans' hb3 hB4
 have H5:=Lib.hid (H4.out w3 x (HG.out.below hb4) (HP.out.below hb4) hx)
 obtain ⟨xa,xc,rfl,_⟩:=hx
 clear hB3 hb2 hB4 hb3
 go_wp2_with fail
 refine H5.out.mono ?_
 rintro e w4 ⟨y,rfl,hy,hB5⟩
 have hb5:=below_trans' hb4 hB5
 have HY:=Lib.hid hy
 obtain ⟨ya,yc,rfl,_⟩:=hy
 clear hB5
 go_wp2_with fail
 refine bodyPost_ret (v:=.tuple #[.slice ya (oneL (gsum (toQ T++scaledQ S (-1))) n).length yc,.int .i64 0]) (by simp [results,Tryz.results56,go_sem]) rfl ?_
 exact ⟨_,rfl,HY.out,hb5⟩
theorem CompareZ_ok (T S:Terms) (n:Nat) (L M:TTexts) (u v:Value) (w:World) (hG:Glo w) (hP:Pri w) (hu:IsTerms w u L) (hv:IsTerms w v M) (hT:SurdIs L T) (hS:SurdIs M S) (h1:OneC (toQ T++scaledQ S (-1)) n) (h0:gsum (toQ T++scaledQ S (-1))=0) :
  Calls Tryz.prog 19 #[u,v] w (RetB (.tuple #[.int .i64 0,.int .i64 0]) w):=by
 have H1:=Lib.hid (Sub_ok T S n L M u v w hG hP hu hv hT hS h1)
 have he:oneL (gsum (toQ T++scaledQ S (-1))) n=[]:=by rw [h0];rfl
 rw [he] at H1
 have H2:∀ (a:Option Addr) (c:Nat) (W:World),Calls Tryz.prog 57 #[.slice a 0 c] W (RetB (.tuple #[.int .i64 0,.int .i64 0]) W):=by
  intro a c W
  clear H1 he h0 h1 hT hS hu hv hG hP
  go_enter Tryz.func57,Tryz.ntmps57
  go_wp2_with fail
  refine bodyPost_ret (v:=.tuple #[.int .i64 0,.int .i64 0]) (by simp [results,Tryz.results57,go_sem]) rfl ?_
  exact ⟨rfl,qbl⟩
 have HS:=Lib.hid H2
 clear hG hP hu hv hT hS h1 h0 he H2
 go_enter Tryz.func19,Tryz.ntmps19
 go_wp2_with fail
 refine H1.out.mono ?_
 rintro e w1 ⟨x,rfl,⟨xa,xc,rfl,_⟩,hB1⟩
 go_wp2_with fail
 refine (HS.out xa xc _).mono ?_
 rintro e w2 ⟨rfl,hB2⟩
 have hb2:=below_trans' hB1 hB2
 clear hB2
 go_wp2_with fail
 refine bodyPost_ret (v:=.tuple #[.int .i64 0,.int .i64 0]) (by simp [results,Tryz.results19,go_sem]) rfl ?_
 exact ⟨rfl,hb2⟩
end Go.Proofs.YtbbclfbpllbbbaaGreatDoor
namespace Go.Proofs.YtbbclfbpllbbbaaGreatDoor
open Go.RowKit Go.Shelf
theorem boxT2_grown {t:TypeId} {w w':World} {b:Nat} {x y:Value} {r:Option Nat} (h:BoxT2 t w b x y) (hg:w.grownBy w' r) (hr:r≠some b):BoxT2 t w' b x y :=
 (hg.block b h.lt (fun e=>hr e.symm)).trans h
theorem ownBlk_lt {w:World} {B e size n:Nat} {v:Value} {xs:List Value} (h:w.ownsRow B e size v n xs):∀ g,v.ownBlock=some g→g < w.heap.size:=by
 intro g hg
 rcases h.2 with ⟨rfl,_⟩|⟨g',cap,cur,rfl,_,h3,_⟩
 ·cases hg
 ·cases hg;exact (Array.getElem?_eq_some_iff.1 h3).1
theorem prodTake {T S:Terms} {i:Nat} (h:i < T.length):prodQ (T.take (i+1)) S=prodQ (T.take i) S++rowQ (tq T i) S:=by rw [termsTake h,prodQ_snoc]
theorem Mul_ok (T S:Terms) (n:Nat) (L M:TTexts) (u v:Value) (w:World) (hG:Glo w) (hP:Pri w) (hu:IsTerms w u L) (hv:IsTerms w v M) (hT:SurdIs L T) (hS:SurdIs M S) (h1:OneC (prodQ T S) n) :
  Calls Tryz.prog 53 #[u,v] w (RetSd (oneL (gsum (prodQ T S)) n) w):=by
 obtain ⟨i0,hi0,hz0,hz1,hz2⟩:=info_parts Tryz.infoTerm
 have H1:=Lib.hid (sboth_ok L M T S u v w hG hP hu hv hT hS)
 have H4:=Lib.hid (fun W x hG hP (hx:IsTerms W x (rawL (prodQ T S)))=>Make_ok (prodQ T S) n _ x W hG hP h1 (rawL_is _) hx)
 have HG:=Lib.hid hG
 have HP:=Lib.hid hP
 have hlT:=hT.len
 have hlS:=hS.len
 have HTL:=Lib.hid hT.same
 have HSL:=Lib.hid hS.same
 have HT:=Lib.hid hT
 have HS:=Lib.hid hS
 have HMU:=Lib.hid (fun (p q:Rat) (x y:ByteArray) (hx:x.data.toList=ratText p) (hp:Sz 60 p) (hy:y.data.toList=ratText q) (hq:Sz 60 q) W hG=>RMul_ok (a:=60) (b:=60) x y W hG hx hp hy hq (by decide))
 obtain ⟨a1,c1,rfl,_,hu⟩:=hu
 obtain ⟨a2,c2,rfl,_,hv⟩:=hv
 have HU:=Lib.hid hu
 have HV:=Lib.hid hv
 clear hG hP hT hS h1 hu hv
 go_enter Tryz.func53,Tryz.ntmps53
 go_wp2_with fail
 refine H1.out.mono ?_
 rintro e w1 ⟨rfl,hB1⟩
 clear H1
 go_wp2_with fail
 go_loopw [6,20] (fun o i wr=>∃ (k:Nat) (sa:Option Addr) (sc:Nat),k≤L.length∧i=.int .i64 k∧o=.slice sa (k * M.length) sc∧wr.ownsRow w.heap.size 70 2 (.slice sa (k * M.length) sc) (k * M.length) (termCells (rawL (prodQ (T.take k) S)))∧Below w.heap.size w wr) (fun _ i _=>L.length - (intOf i).toNat)
 case atStart=>exact ⟨0,none,0,by omega,rfl,by rw [Nat.zero_mul],by rw [Nat.zero_mul];exact World.ownsRow_nil _ _ _ _,hB1⟩
 case round =>
  obtain ⟨k,sa,sc,hk,rfl,rfl,hrow,hB⟩:=hrel
  by_cases hlt:k < L.length
  ·obtain ⟨b,off,rfl,hcell⟩:=HU.out (fun h=>by rw [h] at hlt;simp at hlt)
   obtain ⟨d0,d1⟩:=(hcell k hlt).below (w':=wr) hB
   have hok:=HT.out.ok k hlt
   have HPT:=Lib.hid (prodTake (S:=S) (T:=T) (i:=k) (by rw [HTL.out];exact hlt))
   obtain ⟨x,hxx⟩:∃ c,(tt L k).1=c:=⟨_,rfl⟩
   obtain ⟨r,hrr⟩:∃ r,(tt L k).2=r:=⟨_,rfl⟩
   obtain ⟨q,hq⟩:∃ q,(tq T k).1=q:=⟨_,rfl⟩
   obtain ⟨m,hm⟩:∃ m,(tq T k).2=m:=⟨_,rfl⟩
   rw [hxx,hrr,hq,hm] at hok
   rw [hxx] at d0
   rw [hrr] at d1
   have HQM:=Lib.hid (show tq T k=(q,m) from by rw [← hq,← hm])
   have HOK:=Lib.hid hok
   have hltI:(k:Int) < (L.length:Int):=by omega
   have hk1:IntKind.i64.wrap ((k:Int)+1)=((k+1:Nat):Int):=IntWalk.i64_in _ (by omega)
   have HROW:=Lib.hid hrow
   have hb1:Below w.heap.size w (wr.alloc (.cells #[.string x,.string r] 70)):=bw4 hB _
   have y0:BoxT2 70 (wr.alloc (.cells #[.string x,.string r] 70)) wr.heap.size (.string x) (.string r):=BoxT2.new rfl
   have hnb:(Value.slice sa (k * M.length) sc).ownBlock≠some wr.heap.size:=fun h=>absurd (ownBlk_lt hrow _ h) (by omega)
   have HROW1:=Lib.hid (HROW.out.alloc (.cells #[.string x,.string r] 70))
   obtain ⟨K,hK⟩:∃ K,k * M.length=K:=⟨_,rfl⟩
   have hK2:K≤16 * 16:=by rw [← hK];exact Nat.mul_le_mul (by omega) hlS
   have HKK:=Lib.hid hK
   rw [hK] at HROW1 hnb
   have hb1s:=(bw4 (bw0 _ _) (.cells #[.string x,.string r] 70):Below wr.heap.size wr _).size
   clear hcell hok hxx hrr hq hm hrow HROW
   rw [hK]
   clear hK
   go_wp2_with fail
   obtain ⟨W1,hW1⟩:∃ W1,wr.alloc (.cells #[.string x,.string r] 70)=W1:=⟨_,rfl⟩
   rw [hW1] at hb1 y0 HROW1 hb1s ⊢
   obtain ⟨bx,hbx⟩:∃ bx,wr.heap.size=bx:=⟨_,rfl⟩
   rw [hbx] at y0 hnb ⊢
   clear hW1 hbx d0 d1
   go_loopw [6,26] (fun o i wr=>∃ (j:Nat) (sa:Option Addr) (sc:Nat),j≤M.length∧i=.int .i64 j∧o=.slice sa (K+j) sc∧wr.ownsRow w.heap.size 70 2 (.slice sa (K+j) sc) (K+j) (termCells (rawL (prodQ (T.take k) S++rowQ (q,m) (S.take j))))∧Below w.heap.size w wr∧BoxT2 70 wr bx (.string x) (.string r)∧(Value.slice sa (K+j) sc).ownBlock≠some bx) (fun _ i _=>M.length - (intOf i).toNat)
   case atStart=>exact ⟨0,sa,sc,by omega,rfl,rfl,by have h1:=HROW1.out;simpa [rowQ] using h1,hb1,y0,hnb⟩
   case round =>
    obtain ⟨wq,hwq⟩:∃ wq:World,wq=wr:=⟨_,rfl⟩
    subst hwq
    clear y0 hb1 HROW1 hB hb1s hnb
    obtain ⟨j,sa,sc,hj,rfl,rfl,hrow,hB,y0,hnb⟩:=hrel
    by_cases hltj:j < M.length
    ·obtain ⟨b2,off2,rfl,hcell⟩:=HV.out (fun h=>by rw [h] at hltj;simp at hltj)
     obtain ⟨d0,d1⟩:=(hcell j hltj).below (w':=wq) hB
     have hok:=HS.out.ok j hltj
     have hst:=rowQ_snoc (q,m) (S.take j) (tq S j)
     rw [← termsTake (by rw [HSL.out];exact hltj)] at hst
     obtain ⟨z,hzz⟩:∃ c,(tt M j).1=c:=⟨_,rfl⟩
     obtain ⟨s,hss⟩:∃ r,(tt M j).2=r:=⟨_,rfl⟩
     obtain ⟨p,hp⟩:∃ q,(tq S j).1=q:=⟨_,rfl⟩
     obtain ⟨l,hl⟩:∃ m,(tq S j).2=m:=⟨_,rfl⟩
     rw [hzz,hss,hp,hl] at hok
     rw [hzz] at d0
     rw [hss] at d1
     rw [hp,hl] at hst
     dsimp only at hst
     have HM1:=Lib.hid (HMU.out q p x z HOK.out.c HOK.out.sz.1 hok.c hok.sz.1)
     have HM2:=Lib.hid (HMU.out ((m:Int):Rat) ((l:Int):Rat) r s (by rw [text_natR];exact HOK.out.r) (HOK.out.sz.2.mono (by decide)) (by rw [text_natR];exact hok.r) (hok.sz.2.mono (by decide)))
     have HST:Hid (termCells (rawL (prodQ (T.take k) S++rowQ (q,m) (S.take (j+1))))=termCells (rawL (prodQ (T.take k) S++rowQ (q,m) (S.take j)))++[.string (numS (q * p)),.string (numS (((m:Int):Rat) * ((l:Int):Rat)))]):=Lib.hid (by rw [hst,← List.append_assoc,rawL_snoc,termCells_append];rfl)
     have hltjI:(j:Int) < (M.length:Int):=by omega
     have hj1:IntKind.i64.wrap ((j:Int)+1)=((j+1:Nat):Int):=IntWalk.i64_in _ (by omega)
     have HROW:=Lib.hid hrow
     have HOB:=Lib.hid (fun i (hk:(Value.slice sa (K+j) sc).ownBlock=some i)=>(by obtain ⟨x,y,e,h⟩:=rowT_shape hrow;cases e;exact h i hk:w.heap.size≤i))
     have hb1:Below w.heap.size w (wq.alloc (.cells #[.string z,.string s] 70)):=bw4 hB _
     have y1:BoxT2 70 (wq.alloc (.cells #[.string z,.string s] 70)) wq.heap.size (.string z) (.string s):=BoxT2.new rfl
     have hbl:=y0.lt
     replace y0:=y0.below (bw4 (bw0 _ _) (.cells #[.string z,.string s] 70))
     have HROW1:=Lib.hid (HROW.out.alloc (.cells #[.string z,.string s] 70))
     have M1:K+j+1≤maxLen:=by unfold maxLen;omega
     have g0:=y0.c0
     clear hcell hok hst hzz hss hp hl hrow HROW
     go_wp2_with fail
     obtain ⟨W2,hW2⟩:∃ W2,wq.alloc (.cells #[.string z,.string s] 70)=W2:=⟨_,rfl⟩
     obtain ⟨by1,hby⟩:∃ bx,wq.heap.size=bx:=⟨_,rfl⟩
     rw [hW2,hby] at y1
     rw [hW2] at hb1 y0 HROW1 g0 ⊢
     rw [hby] at hbl ⊢
     clear hW2 hby d0 d1 g0
     refine (HM1.out _ (HG.out.below hb1)).mono ?_
     rintro e w2 ⟨pq,hpq,rfl,hB2⟩
     obtain rfl:=numS_of hpq
     have hb2:=below_trans' hb1 hB2
     replace y0:=y0.below hB2
     replace y1:=y1.below hB2
     have HROW2:=Lib.hid (rowKpB HROW1.out hB2)
     have e1:=y0.c1
     have e2:=y1.c1
     clear hB2 hb1 HM1 hpq HROW1
     generalize numS (q * p)=pq at *
     go_wp2_with fail
     refine (HM2.out _ (HG.out.below hb2)).mono ?_
     rintro e w3 ⟨ml,hml,rfl,hB3⟩
     obtain rfl:=numS_of hml
     have hb3:=below_trans' hb2 hB3
     replace y0:=y0.below hB3
     have HROW3:=Lib.hid (rowKpB HROW2.out hB3)
     have hzz3:=hb3.size
     have hbx3:=y0.lt
     clear hB3 hb2 HM2 hml HROW2 e1 e2 y1
     generalize numS (((m:Int):Rat) * ((l:Int):Rat))=ml at *
     go_wp2_with (at_builtin;(refine wpList_append_own_at _ rfl _ _ 22 rfl w.heap.size 70 i0 (.agg #[.string ⟨#[]⟩,.string ⟨#[]⟩]) 2 32 Tryz.underlying22 hi0 hz0 hz1 hz2 rfl (by decide) _ (K+j) _ rfl (HROW3.out.alloc _) ⟨w3.heap.size,0,none⟩ 1 1 [.string pq,.string ml] rfl rfl (cell_two_at w3 _ _ _ rfl) (by simp [Value.oneCell']) M1 (by omega) (by simp;omega) ?_;intro v' w4 hown' hgrow3 hnil3 hat3;have HROW4:=Lib.hid hown';have hB5:=Lib.hid (Below.grown (bw4 hb3 _) hgrow3 (by simp;omega) HOB.out);have y4:=Lib.hid (boxT2_grown (y0.below (bw4 (bw0 _ _) _)) hgrow3 hnb);have hnb2:v'.ownBlock≠some bx:=(by rcases hat3 with h|h;(rw [h];exact hnb);(rw [h];simp;omega));clear hown' hgrow3 hnil3 hat3;obtain ⟨sa2,sc2,rfl,_⟩:=rowT_shape HROW4.out))
     go_roundw
     case rel=>exact ⟨j+1,sa2,sc2,by omega,by go_num,rfl,by rw [HST.out];exact HROW4.out,hB5.out,y4.out,hnb2⟩
     case measure=>simp [intOf];omega
    ·have e:j=M.length:=by omega
     subst e
     have HRW:=Lib.hid (show wq.ownsRow w.heap.size 70 2 (.slice sa ((k+1) * M.length) sc) ((k+1) * M.length) (termCells (rawL (prodQ (T.take (k+1)) S))) from by
      rw [HPT.out,HQM.out]
      have h1:=hrow
      rw [List.take_of_length_le (show S.length≤M.length by rw [HSL.out];exact Nat.le_refl _)] at h1
      have e:(k+1) * M.length=K+M.length:=by rw [Nat.succ_mul,HKK.out]
      rw [e];exact h1)
     have HKE:=Lib.hid (show (k+1) * M.length=K+M.length from by rw [Nat.succ_mul,HKK.out])
     clear hrow
     go_wp2_with fail
     go_roundw
     case rel=>exact ⟨k+1,sa,sc,by omega,by go_num,by rw [HKE.out],HRW.out,hB⟩
     case measure=>simp [intOf];omega
  ·have e:k=L.length:=by omega
   subst e
   have HRT:=Lib.hid (show IsTerms wr (.slice sa (L.length * M.length) sc) (rawL (prodQ T S)) from isTerms_row (B:=w.heap.size) (t:=70) (by
    have h1:=hrow
    rw [List.take_of_length_le (by rw [HTL.out];exact Nat.le_refl _)] at h1
    have h2:(rawL (prodQ T S)).length=L.length * M.length:=by rw [rawL_length,prodQ_length,HTL.out,HSL.out]
    rw [h2];exact h1))
   have H5:=Lib.hid (H4.out wr _ (HG.out.below hB) (HP.out.below hB) HRT.out)
   clear hrow
   generalize L.length * M.length=LM at *
   go_wp2_with fail
   refine H5.out.mono ?_
   rintro e w4 ⟨y,rfl,hy,hB4⟩
   have hb4:=below_trans' hB hB4
   have HY:=Lib.hid hy
   obtain ⟨ya,yc,rfl,_⟩:=hy
   clear hB4
   go_wp2_with fail
   refine bodyPost_ret (v:=.tuple #[.slice ya (oneL (gsum (prodQ T S)) n).length yc,.int .i64 0]) (by simp [results,Tryz.results53,go_sem]) rfl ?_
   exact ⟨_,rfl,HY.out,hb4⟩
end Go.Proofs.YtbbclfbpllbbbaaGreatDoor
namespace Go.Proofs.YtbbclfbpllbbbaaGreatDoor
open Go.RowKit Go.Shelf
def CBox (w:World) (b:Nat):Prop:=BoxT1 103 w b (.bool false)
theorem Tryz.infoBool:(Tryz.prog.info? 4).map (·.size)=some 1:=by kernel_rfl
theorem below_same {t:TypeId} {w W:World} {b:Nat} {x:Value} (h:BoxT1 t w b x) (hs:SameBut b w W) (hb:BoxT1 t W b x) {B:Nat}:Below B w W :=
 ⟨hs.os,hs.tape,hs.output,Nat.le_of_eq hs.size.symm,fun k _=>by
  by_cases hk:k=b
  ·subst hk;exact hb.trans h.symm
  ·exact hs.block k hk⟩
theorem wpList_store1 {P:Program} {ops:Array Oper} {rest:List Oper} {o:Oper} {a:Act} {w:World} {Q:Exit→Act→World→Prop} (hgd:o.guard=none) (ty T:TypeId) (p x:Operand) (ho:o.op=.store ty p x) {b:Nat} {v0 v1:Value} (hA:BoxT1 T w b v0)
  (hi:(P.info? ty).map (·.size)=some 1) (h1:v1.oneCell'=true) (hp:a.eval p=.pointer (some ⟨b,0,none⟩)) (hx:a.eval x=v1) (h:∀ W,SameBut b w W→BoxT1 T W b v1→wpList P ops Q rest (a.put o.dst undef) W):wpList P ops Q (o::rest) a w :=
 wpList_plain hgd fun _ hK=>wp_store1 ty T p x ho hA hi h1 hp hx fun W h2 h3=>hK _ _ (h W h2 h3)
theorem keep_ok (b:Nat) (a:Option Addr) (n c:Nat) (w:World) (hc:CBox w b) :
  Calls Tryz.prog 52 #[.pointer (some ⟨b,0,none⟩),.slice a n c,.int .i64 0] w (RetB (.slice a n c) w):=by
 have c0:=BoxT1.c0 hc
 go_enter Tryz.func52,Tryz.ntmps52
 go_wp2_with (refine wpList_store1 rfl _ _ _ _ rfl hc Tryz.infoBool rfl rfl rfl ?_;intro W hS hx2;have hbW:Below w.heap.size w W:=below_same hc hS hx2;have f0:=BoxT1.c0 hx2;clear hS hc c0)
 go_ret
 exact ⟨rfl,hbW⟩
theorem num_ok (b:Nat) (s:ByteArray) (w:World) (hc:CBox w b) :
  Calls Tryz.prog 48 #[.pointer (some ⟨b,0,none⟩),.string s,.int .i64 0] w (RetB (.string s) w):=by
 have c0:=BoxT1.c0 hc
 go_enter Tryz.func48,Tryz.ntmps48
 go_wp2_with (refine wpList_store1 rfl _ _ _ _ rfl hc Tryz.infoBool rfl rfl rfl ?_;intro W hS hx2;have hbW:Below w.heap.size w W:=below_same hc hS hx2;have f0:=BoxT1.c0 hx2;clear hS hc c0)
 go_ret
 exact ⟨rfl,hbW⟩
end Go.Proofs.YtbbclfbpllbbbaaGreatDoor
