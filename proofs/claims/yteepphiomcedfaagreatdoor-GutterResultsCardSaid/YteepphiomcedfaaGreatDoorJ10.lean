/- Joined texts: WBegin, WOffsets, WEq. -/
import Derived.Test.YteepphiomcedfaaGreatDoorJ03
import Derived.RangeFuncNested
import Derived.RangeFuncBound
import Derived.RangeFuncCalls
import Derived.RangeFuncLeaves
import Derived.Shelf.Abstract
import Derived.Shelf.RegionOpen
import Derived.OwnWalkIn
import Derived.TacticsInMore
import Derived.LoopNIn
import Derived.LoopIn
import Derived.Sort.LoopGhostIn
import Derived.Test.YteepphiomcedfaaGreatDoorJ09
import Derived.Maps.AppendAt
set_option maxRecDepth 100000
set_option linter.unusedVariables false
set_option linter.unusedSimpArgs false
set_option maxHeartbeats 6400000
namespace Go.Proofs.YteepphiomcedfaaGreatDoor
open Go.RowKit Go.Shelf
attribute [local go_sem] Oper.semAt_some
def numS (q:Rat):ByteArray:=⟨(ratText q).toArray⟩
theorem numS_list (q:Rat):(numS q).data.toList=ratText q:=rfl
theorem numS_of {s:ByteArray} {q:Rat} (h:s.data.toList=ratText q):s=numS q:=by
 apply ByteArray.ext
 apply Array.toList_inj.1
 rw [h];rfl
def KpB (B b2 b3:Nat) (W W':World):Prop:=Below B W W'∧W'.heap[b2]?=W.heap[b2]?∧W'.heap[b3]?=W.heap[b3]?
theorem KpB.t {B b2 b3:Nat} {X Y Z:World} (h:KpB B b2 b3 X Y) (k:KpB B b2 b3 Y Z):KpB B b2 b3 X Z:=⟨h.1.trans k.1,k.2.1.trans h.2.1,k.2.2.trans h.2.2⟩
theorem KpB.b {B b2 b3 m:Nat} (h1:B≤m) (h2:b2 < m) (h3:b3 < m) (W:World) (l:Nat) (o o':Obj) (hl:m≤l) (_:W.heap[l]?=some o) (_:o.isCells=false) (_:o.isWalk=false):KpB B b2 b3 W (W.putObj l o'):=by
 have hg:=grownBy_putObj' W l o'
 refine ⟨⟨hg.os,hg.tape,hg.output,hg.size,fun k hk=>?_⟩,?_,?_⟩
 ·exact World.putObj_heap_other (by omega)
 ·exact World.putObj_heap_other (by omega)
 ·exact World.putObj_heap_other (by omega)
def ats (f wd:Rat) (N:Nat):List Rat:=(List.range N).map (fun k:Nat=>f+(k:Rat) * wd)
theorem cmp_lt {p q:Rat} (h:p < q):Lib.compareInt (p.num * q.den) (q.num * p.den)=-1:=by
 rw [Lib.compareInt,if_pos (Rat.lt_iff _ _ |>.1 h)]
theorem cmp_ge {p q:Rat} (h:q≤p):0≤Lib.compareInt (p.num * q.den) (q.num * p.den):=by
 have:=Rat.le_iff _ _ |>.1 h
 rw [Lib.compareInt,if_neg (by omega)]
 split<;>omega
end Go.Proofs.YteepphiomcedfaaGreatDoor
namespace Go.Proofs.YteepphiomcedfaaGreatDoor
open Go.RowKit Go.Shelf
attribute [local go_sem] Oper.semAt_some
instance (q:Rat):Decidable (Small q):=inferInstanceAs (Decidable (_∧_))
def firstAt (s:Rat × Rat) (wd:Int) (odd:Bool):Rat:=if odd then s.1 - (wd:Rat) / 2 else s.1
def markOf (D:Nat):Deferred:={ target:=.collected D,args:=#[] }
def offTo (sp:List (Rat × Rat)) (wd:Int) (odd:Bool) (Ns:Nat→Nat) (j:Nat):List Rat:=(List.range j).flatMap (fun k=>if h:k < sp.length then ats (firstAt sp[k] wd odd) wd (Ns k) else [])
def numVs (l:List Rat):List Value:=l.map (fun q=>.string (numS q))
def OutBox (B:Nat) (l:List Rat) (W:World):Prop:=∃ v,Boxed W B 34 v∧W.ownsRow B 22 1 v l.length (numVs l)∧(v=.slice none 0 0↔l=[])
structure OffInv (sp:List (Rat × Rat)) (wd:Int) (odd:Bool) (Ns:Nat→Nat) (j:Nat) (w3:World) (B:Nat) (Ds:List Nat) (W:World):Prop where
 out:OutBox B (offTo sp wd odd Ns j) W
 below:Below w3.heap.size w3 W
 nodup:Ds.Nodup
 marks:∀ D ∈ Ds,B≤D∧W.heap[D]?=some (.deferred (some []))
theorem leaves_marks {F:Fence} {n:Nat} {P:Program} {fn:Func} {tmps:Array Value} {R:Ending→World→Prop} (B:Nat):∀ (Ds:List Nat) (W:World),Ds.Nodup→(∀ D ∈ Ds,B≤D∧W.heap[D]?=some (.deferred (some []))) →
  (∀ W',Below B W W'→(∀ (k:Nat) (o:Obj),W.heap[k]?=some o→o.isCells=true→W'.heap[k]?=some o)→LeavesIn F n P fn tmps R [] .returning W')→LeavesInM F n P fn tmps R (Ds.map markOf) .returning W
 | [],W,_,_,h=>h W (bw0 _ _) (fun _ _ hk _=>hk)
 | D::Ds,W,hn,hm,h=>by
  obtain ⟨hB,hD⟩:=hm D List.mem_cons_self
  rw [List.nodup_cons] at hn
  refine ⟨by simp,.inl ⟨D,_,rfl,run_takeDeferred hD,?_⟩⟩
  have hg:=grownBy_putObj' W D (.deferred none)
  refine leaves_marks B Ds _ hn.2 (fun E hE=>?_) (fun W' hB' hc=>?_)
  ·obtain ⟨x1,x2⟩:=hm E (List.mem_cons_of_mem _ hE)
   refine ⟨x1,(World.putObj_heap_other ?_).trans x2⟩
   intro e
   subst e
   exact hn.1 hE
  ·refine h W' ((?_:Below B W _).trans hB') (fun k o hk ho=>hc k o ?_ ho)
   ·exact ⟨hg.os,hg.tape,hg.output,hg.size,fun k hk=>World.putObj_heap_other (by omega)⟩
   ·refine (World.putObj_heap_other ?_).trans hk
    intro e
    subst e
    rw [hD] at hk;cases hk;cases ho
theorem ownsRow_keeps {W W':World} {B e size k:Nat} {v:Value} {xs:List Value} (h:W.ownsRow B e size v k xs) (hc:∀ (k:Nat) (o:Obj),W.heap[k]?=some o→o.isCells=true→W'.heap[k]?=some o):W'.ownsRow B e size v k xs:=by
 obtain ⟨h1,h2⟩:=h
 refine ⟨h1,h2.imp id ?_⟩
 rintro ⟨g,cap,cur,x1,x2,x3,x4⟩
 exact ⟨g,cap,cur,x1,x2,hc _ _ x3 rfl,x4⟩
theorem ownsRow_base {W:World} {B B' e size k:Nat} {v:Value} {xs:List Value} (h:W.ownsRow B e size v k xs) (hB:B'≤B):W.ownsRow B' e size v k xs:=by
 obtain ⟨h1,h2⟩:=h
 refine ⟨h1,h2.imp id ?_⟩
 rintro ⟨g,cap,cur,x1,x2,x3⟩
 exact ⟨g,cap,cur,x1,by omega,x3⟩
theorem cell_keeps {W W':World} {a:Addr} {v:Value} (h:W.cell? a=some v) (hc:∀ (k:Nat) (o:Obj),W.heap[k]?=some o→o.isCells=true→W'.heap[k]?=some o):W'.cell? a=some v:=by
 obtain ⟨o,ho,hoc⟩:=cells_of_cell h
 exact (World.cell?_of_block ((hc _ _ ho hoc).trans ho.symm)).trans h
theorem OffInv.below' {sp:List (Rat × Rat)} {wd:Int} {odd:Bool} {Ns:Nat→Nat} {j:Nat} {w3:World} {B:Nat} {Ds:List Nat} {W W':World} (h:OffInv sp wd odd Ns j w3 B Ds W) (hB:Below W.heap.size W W'):OffInv sp wd odd Ns j w3 B Ds W':=by
 obtain ⟨v,h1,h2,h3⟩:=h.out
 have hsz:∀ {k:Nat} {o:Obj},W.heap[k]?=some o→W'.heap[k]?=some o:=fun hk=>(hB.block _ (Array.getElem?_eq_some_iff.1 hk).1).trans hk
 refine ⟨⟨v,hsz h1,ownsRow_keeps h2 (fun k o hk _=>hsz hk),h3⟩,h.below.trans (hB.mono h.below.size),h.nodup,fun D hD=>⟨(h.marks D hD).1,hsz (h.marks D hD).2⟩⟩
theorem Tryz.infoNum:(Tryz.prog.info? 22).map (fun i=>(i.zero,i.size,i.bytes))=some (some (.string ⟨#[]⟩),1,16):=by kernel_rfl
theorem marks_own {β:Type} {B m:Nat} {Ds:List Nat} (h:∀ D ∈ Ds,D < m):OwnFrom m (fun (_:β) W=>∀ D ∈ Ds,B≤D∧W.heap[D]?=some (.deferred (some []))):=fun s W W' row hs hg hr D hD=>by
 refine ⟨(hs D hD).1,(hg.block D (Array.getElem?_eq_some_iff.1 (hs D hD).2).1 ?_).trans (hs D hD).2⟩
 intro e
 have:=(hr D e.symm).1
 have:=h D hD
 omega
end Go.Proofs.YteepphiomcedfaaGreatDoor
namespace Go.Proofs.YteepphiomcedfaaGreatDoor
open Go.RowKit Go.Shelf
def IsStrs (w:World) (v:Value) (l:List ByteArray):Prop:=∃ (a:Option Addr) (cap:Nat),v=.slice a l.length cap ∧
 (l≠[]→∃ b off,a=some ⟨b,off,none⟩∧∀ k (h:k < l.length),w.cell? ⟨b,off+k,none⟩=some (.string l[k]))
theorem IsStrs.below {w w':World} {v:Value} {l:List ByteArray} (h:IsStrs w v l) (hB:Below w.heap.size w w'):IsStrs w' v l:=by
 obtain ⟨a,cap,h1,h2⟩:=h
 refine ⟨a,cap,h1,fun hn=>?_⟩
 obtain ⟨b,off,e,hc⟩:=h2 hn
 exact ⟨b,off,e,fun k hk=>keep hB (hc k hk)⟩
theorem isStrs_row {w:World} {B:Nat} {v:Value} {l:List Rat} (h:w.ownsRow B 22 1 v l.length (numVs l)):IsStrs w v (l.map numS):=by
 rcases h.2 with ⟨rfl,hl⟩|⟨g,cap,cur,rfl,_,hg,h1,_,hs,ht⟩
 ·obtain rfl:l=[]:=List.length_eq_zero_iff.1 hl
  exact ⟨none,0,rfl,fun h=>absurd rfl h⟩
 ·refine ⟨some ⟨g,0,none⟩,cap,by simp,fun _=>⟨g,0,rfl,fun k hk=>?_⟩⟩
  have hk':k < l.length:=by simpa using hk
  have h2:cur.toList[k]?=some (.string (numS l[k])):=by
   have h3:(cur.toList.take (l.length * 1))[k]?=(numVs l)[k]?:=by rw [ht]
   rw [List.getElem?_take_of_lt (by omega)] at h3
   rw [h3];simp [numVs,hk']
  have h4:cur[k]?=some (.string (numS l[k])):=by simpa using h2
  simp [World.cell?,hg,h4]
theorem Equal_any (xs ys:List ByteArray) (u v:Value) (w:World) (hu:IsStrs w u xs) (hv:IsStrs w v ys) (hl:xs.length≤100000) :
  Calls Tryz.prog 16 #[u,v] w (RetB (.bool (decide (xs=ys))) w):=by
 obtain ⟨a,cap,rfl,ha⟩:=hu
 obtain ⟨b,cap',rfl,hb⟩:=hv
 have HA:=Lib.hid ha
 have HB:=Lib.hid hb
 clear ha hb
 by_cases hn:xs.length=ys.length
 ·have hne:((xs.length:Int) == (ys.length:Int))=true:=by simp [hn]
  generalize hR:decide (xs=ys)=R
  have HR:=Lib.hid hR
  have HN:=Lib.hid hn
  clear hR hn
  go_enter Tryz.func16,Tryz.ntmps16
  go_wp2_with fail
  go_loopw [13] (fun i wr=>∃ k:Nat,k≤xs.length∧i=.int .i64 k∧Below w.heap.size w wr∧Hid (∀ m (h1:m < xs.length) (h2:m < ys.length),m < k→xs[m]=ys[m])) (fun i _=>xs.length - (intOf i).toNat)
  case atStart=>exact ⟨0,by omega,rfl,bw0 _ _,Lib.hid (by intro m _ _ h;omega)⟩
  case round =>
   obtain ⟨k,hk,rfl,hBk,hsame⟩:=hrel
   by_cases hkn:k=xs.length
   ·have hR1:R=true:=by
     rw [← HR.out,decide_eq_true_eq]
     refine List.ext_getElem HN.out (fun m h1 h2=>hsame.out m h1 h2 (by omega))
    subst hkn
    subst hR1
    go_wp2_with fail
    go_ret
    exact ⟨rfl,hBk⟩
   ·have hk1:k < xs.length:=by omega
    have hk2:k < ys.length:=by have:=HN.out;omega
    obtain ⟨ba,oa,rfl,hca⟩:=HA.out (fun h=>by rw [h] at hk1;simp at hk1)
    obtain ⟨bb,ob,rfl,hcb⟩:=HB.out (fun h=>by rw [h] at hk2;simp at hk2)
    have q1:=keep hBk (hca k hk1)
    have q2:=keep hBk (hcb k hk2)
    have i1:(k:Int) < (xs.length:Int):=by omega
    have i2:(k:Int) < (ys.length:Int):=by omega
    clear hca hcb
    by_cases he:xs[k]=ys[k]
    ·have hE:(xs[k].toList == ys[k].toList)=true:=by rw [he];simp
     clear he
     have hsame':Hid (∀ m (h1:m < xs.length) (h2:m < ys.length),m < k+1→xs[m]=ys[m]):=Lib.hid (fun m h1 h2 h3=>by
      by_cases hm:m < k
      ·exact hsame.out m h1 h2 hm
      ·obtain rfl:m=k:=by omega
       have h4:xs[m].data.toList=ys[m].data.toList:=by rw [← Lib.toList_data,← Lib.toList_data];simpa using hE
       exact ByteArray.ext (Array.toList_inj.1 h4))
     go_wp2_with fail
     go_quiet (fail)
     go_wp2_with fail
     go_roundw
     case rel=>exact ⟨k+1,by omega,by go_num,qbl,hsame'⟩
     case measure=>simp [intOf];omega
    ·have hE:(xs[k].toList == ys[k].toList)=false:=by
      have h4:xs[k].data.toList≠ys[k].data.toList:=fun h=>he (ByteArray.ext (Array.toList_inj.1 h))
      rw [Lib.toList_data,Lib.toList_data];simpa using h4
     have hR1:R=false:=by
      rw [← HR.out,decide_eq_false_iff_not]
      intro h
      exact he (by simp only [h])
     subst hR1
     clear he
     go_wp2_with fail
     go_quiet (fail)
     go_wp2_with fail
     go_ret
     exact ⟨rfl,qbl⟩
 ·have hne:((xs.length:Int) == (ys.length:Int))=false:=by simp;omega
  have hR:decide (xs=ys)=false:=by
   rw [decide_eq_false_iff_not]
   intro h
   exact hn (by rw [h])
  rw [hR]
  have hn':¬ ((xs.length:Int)=(ys.length:Int)):=by omega
  clear hR
  go_enter Tryz.func16,Tryz.ntmps16
  go_wp2_with fail
  go_ret
  exact ⟨rfl,bw0 _ _⟩
end Go.Proofs.YteepphiomcedfaaGreatDoor
