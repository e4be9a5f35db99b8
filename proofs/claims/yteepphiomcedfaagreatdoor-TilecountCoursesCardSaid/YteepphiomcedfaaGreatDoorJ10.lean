/- Joined texts: WBegin, WOffsets, WEq. -/
import Derived.Test.YteepphiomcedfaaGreatDoorJ03
import Derived.RangeFuncNested
import Derived.RangeFuncBound
import Derived.RangeFuncCalls
import Derived.RangeFuncLeaves
import Derived.Shelf.Abstract
import Derived.Shelf.RegionOpen
import Derived.OwnWalkIn
import Derived.TacticsInMore
import Derived.LoopNIn
import Derived.LoopIn
import Derived.Sort.LoopGhostIn
import Derived.Test.YteepphiomcedfaaGreatDoorJ09
import Derived.Maps.AppendAt
set_option maxRecDepth 100000
set_option linter.unusedVariables false
set_option linter.unusedSimpArgs false
set_option maxHeartbeats 6400000
namespace Go.Proofs.YteepphiomcedfaaGreatDoor
open Go.RowKit Go.Shelf
attribute [local go_sem] Oper.semAt_some
def numS (q:Rat):ByteArray:=⟨(ratText q).toArray⟩
theorem numS_list (q:Rat):(numS q).data.toList=ratText q:=rfl
theorem numS_of {s:ByteArray} {q:Rat} (h:s.data.toList=ratText q):s=numS q:=by
 apply ByteArray.ext
 apply Array.toList_inj.1
 rw [h];rfl
def KpB (B b2 b3:Nat) (W W':World):Prop:=Below B W W'∧W'.heap[b2]?=W.heap[b2]?∧W'.heap[b3]?=W.heap[b3]?
theorem KpB.t {B b2 b3:Nat} {X Y Z:World} (h:KpB B b2 b3 X Y) (k:KpB B b2 b3 Y Z):KpB B b2 b3 X Z:=⟨h.1.trans k.1,k.2.1.trans h.2.1,k.2.2.trans h.2.2⟩
theorem KpB.b {B b2 b3 m:Nat} (h1:B≤m) (h2:b2 < m) (h3:b3 < m) (W:World) (l:Nat) (o o':Obj) (hl:m≤l) (_:W.heap[l]?=some o) (_:o.isCells=false) (_:o.isWalk=false):KpB B b2 b3 W (W.putObj l o'):=by
 have hg:=grownBy_putObj' W l o'
 refine ⟨⟨hg.os,hg.tape,hg.output,hg.size,fun k hk=>?_⟩,?_,?_⟩
 ·exact World.putObj_heap_other (by omega)
 ·exact World.putObj_heap_other (by omega)
 ·exact World.putObj_heap_other (by omega)
def ats (f wd:Rat) (N:Nat):List Rat:=(List.range N).map (fun k:Nat=>f+(k:Rat) * wd)
theorem ats_zero (f wd:Rat):ats f wd 0=[]:=rfl
theorem ats_succ (f wd:Rat) (k:Nat):ats f wd (k+1)=ats f wd k++[f+(k:Rat) * wd]:=by simp [ats,List.range_succ]
theorem ats_length (f wd:Rat) (k:Nat):(ats f wd k).length=k:=by simp [ats]
theorem ats_prefix (f wd:Rat) {k N:Nat} (h:k≤N):ats f wd k <+: ats f wd N:=by
 induction h with
 | refl=>exact List.prefix_refl _
 | step h ih=>rw [ats_succ];exact ih.trans (List.prefix_append _ _)
structure StepsTo (f hi wd:Rat) (N:Nat):Prop where
 lt:∀ k:Nat,k < N→f+(k:Rat) * wd < hi
 ge:hi≤f+(N:Rat) * wd
 sm:∀ k:Nat,k≤N→Small (f+(k:Rat) * wd)
 hi:Small hi
 wd:Small wd
theorem abides_below {J:List Rat→World→Prop} {B:Nat} (hJ:AbidesFrom B J) {xs:List Rat} {W W':World} (h:J xs W) (hB:Below W.heap.size W W'):J xs W' :=
 hJ xs W W' none h ⟨hB.os,hB.tape,hB.output,hB.size,fun k hk _=>hB.block k hk⟩ (fun r e=>by cases e)
theorem cmp_lt {p q:Rat} (h:p < q):Lib.compareInt (p.num * q.den) (q.num * p.den)=-1:=by
 rw [Lib.compareInt,if_pos (Rat.lt_iff _ _ |>.1 h)]
theorem cmp_ge {p q:Rat} (h:q≤p):0≤Lib.compareInt (p.num * q.den) (q.num * p.den):=by
 have:=Rat.le_iff _ _ |>.1 h
 rw [Lib.compareInt,if_neg (by omega)]
 split<;>omega
theorem begin1_in {f hi wd:Rat} {N:Nat} (n:Nat) (hn:1≤n) (l b1 b2 b3:Nat) (B:Nat) (J Jx:List Rat→World→Prop) (hst:StepsTo f hi wd N)
  (hY:∀ pre x W,J pre W→pre.length < N→YieldAt Fence.wide (n - 1) Tryz.prog l #[.string (numS x)] W fun e W' =>
   (e=.returned (.bool true)∧J (pre++[x]) W'∧KpB B b2 b3 W W')∨(e=.returned (.bool false)∧Jx (pre++[x]) W'))
  (W:World) (hJ:AbidesFrom W.heap.size J) (w0:World) (hG:Glo w0) (hw0:Below w0.heap.size w0 W) (hB:w0.heap.size≤B)
  (c1:W.cell? ⟨b1,0,none⟩=some (.string (numS f))) (c2:W.cell? ⟨b2,1,none⟩=some (.string (numS hi))) (c3:W.cell? ⟨b3,0,none⟩=some (.string (numS wd))) (h0:J [] W) :
  CallsIn Fence.wide n Tryz.prog 112 #[.func (.yield l) #[] #[],.pointer (some ⟨b1,0,none⟩),.pointer (some ⟨b2,0,none⟩),.pointer (some ⟨b3,0,none⟩)] W fun e W'=>(∃ v,e=.returned v) ∧
   ((∃ ys,ys=ats f wd N∧J ys W')∨(∃ pre,pre <+: ats f wd N∧Jx pre W')):=by
 have HG:=Lib.hid hG
 have HST:=Lib.hid hst
 have HJ:=Lib.hid hJ
 have HY:=Lib.hid hY
 clear hG hst hJ hY
 refine callsIn_of_wp Tryz.func112 rfl trivial ?_ rfl
 simp only [Tryz.ntmps112,List.size_toArray,List.length_cons,List.length_nil,Nat.reduceAdd,Nat.reduceSub,Array.replicate_succ,Array.replicate_zero,List.push_toArray,List.append_toArray,List.nil_append,List.cons_append]
 gi_wp2
 gi_loopg [5] N (fun g v wr=>∃ k:Nat,k≤N∧g=N - k∧v=.string (numS (f+(k:Rat) * wd))∧Hid (J (ats f wd k) wr)∧Below w0.heap.size w0 wr∧wr.cell? ⟨b2,1,none⟩=some (.string (numS hi))∧wr.cell? ⟨b3,0,none⟩=some (.string (numS wd)))
 case atStart=>exact ⟨0,by omega,rfl,by simp [Rat.zero_mul,Rat.add_zero],Lib.hid h0,hw0,c2,c3⟩
 case round =>
  obtain ⟨k,hk,rfl,rfl,hJk,hBk,k2,k3⟩:=hrel
  by_cases hkn:k=N
  ·subst hkn
   have hc:=cmp_ge HST.out.ge
   gi_wp2_with (refine ⟨trivial,?_⟩;gi_at_call 21;refine (callsIn_wide.2 (Compare_small _ _ _ (numS_list _) (HST.out.sm k (Nat.le_refl _)) (numS_list _) HST.out.hi)).mono ?_;rintro e w' ⟨rfl,hB'⟩)
   refine ⟨fun _ h=>(by cases h),?_⟩
   gi_wp2
   refine bodyPost_ret (results_none rfl _ _ _) rfl ?_
   exact ⟨⟨_,rfl⟩,.inl ⟨_,rfl,abides_below HJ.out hJk.out hB'⟩⟩
  ·have hk1:k < N:=by omega
   have hc:=cmp_lt (HST.out.lt k hk1)
   have hpl:(ats f wd k).length < N:=by rw [ats_length];exact hk1
   gi_wp2_with (refine ⟨trivial,?_⟩;gi_at_call 21;refine (callsIn_wide.2 (Compare_small _ _ _ (numS_list _) (HST.out.sm k hk) (numS_list _) HST.out.hi)).mono ?_;rintro e w' ⟨rfl,hB'⟩;rw [hc];have hB2:Below w0.heap.size w0 w':=hBk.trans (hB'.mono hBk.size);have k2':=keep hB' k2;have k3':=keep hB' k3;obtain ⟨fn,tmps,assign,body,hy,hR⟩:=HY.out (ats f wd k) (f+(k:Rat) * wd) w' (abides_below (HJ.out) hJk.out hB') hpl)
   have hsm1:=HST.out.sm (k+1) hk1
   have hnx:f+(k:Rat) * wd+wd=f+((k+1:Nat):Rat) * wd:=by
    rw [Rat.natCast_add,Rat.add_mul,Rat.add_assoc];simp [Rat.one_mul]
   have HNX:=Lib.hid hnx
   clear hnx
   refine hR.mono ?_
   rintro e W3 (⟨rfl,hJ3,hk3⟩|⟨rfl,hJx3⟩)
   ·have hB3:Below w0.heap.size w0 W3:=hB2.trans (hk3.1.mono hB)
    have k23:W3.cell? ⟨b2,1,none⟩=some (.string (numS hi)):=(World.cell?_of_block hk3.2.1).trans k2'
    have k33:W3.cell? ⟨b3,0,none⟩=some (.string (numS wd)):=(World.cell?_of_block hk3.2.2).trans k3'
    have hJ3':=Lib.hid hJ3
    clear hJ3 hk3
    gi_wp2
    refine ⟨trivial,?_⟩
    refine (callsIn_wide.2 (Add_small _ _ _ (HG.out.below hB3) (numS_list _) (HST.out.sm k hk) (numS_list _) HST.out.wd)).mono ?_
    rintro e w4 ⟨r,hr,rfl,hB4⟩
    have he:=numS_of hr
    subst he
    rw [HNX.out]
    have hB4':Below w0.heap.size w0 w4:=hB3.trans (hB4.mono hB3.size)
    have k24:=keep hB4 k23
    have k34:=keep hB4 k33
    have hJ4:Hid (J (ats f wd (k+1)) w4):=Lib.hid (by rw [ats_succ];exact abides_below HJ.out hJ3'.out hB4)
    clear hr hB4 k23 k33 hJ3'
    gi_wp2
    gi_roundg (N - (k+1))
    case rel=>exact ⟨k+1,hk1,rfl,by simp [Rat.natCast_add],hJ4,hB4',k24,k34⟩
    case measure=>omega
   ·gi_wp2
    refine bodyPost_ret (results_none rfl _ _ _) rfl ?_
    exact ⟨⟨_,rfl⟩,.inr ⟨_,by rw [← ats_succ];exact ats_prefix _ _ hk1,hJx3⟩⟩
theorem begin_stops {f hi wd:Rat} {N:Nat} (n:Nat) (hn:1≤n) (b1 b2 b3:Nat) (B:Nat) (hst:StepsTo f hi wd N) (w0 w:World) (hG:Glo w0) (hw0:Below w0.heap.size w0 w) (hB:w0.heap.size≤B)
  (c1:w.cell? ⟨b1,0,none⟩=some (.string (numS f))) (c2:w.cell? ⟨b2,1,none⟩=some (.string (numS hi))) (c3:w.cell? ⟨b3,0,none⟩=some (.string (numS wd))) :
  SeqStopsK Fence.wide n Tryz.prog 112 #[.pointer (some ⟨b1,0,none⟩),.pointer (some ⟨b2,0,none⟩),.pointer (some ⟨b3,0,none⟩)] (fun q:Rat=>#[Value.string (numS q)]) (KpB B b2 b3) (fun ys=>ys=ats f wd N) (fun pre=>pre <+: ats f wd N) N w:=fun l J Jx W hW hJ _ hY h0 =>
 begin1_in n hn l b1 b2 b3 B J Jx hst hY W hJ w0 hG (hw0.trans (hW.mono hw0.size)) hB (keep hW c1) (keep hW c2) (keep hW c3) h0
theorem beginnings_any (a b c d:ByteArray) (w:World) :
  Calls Tryz.prog 53 #[.string a,.agg #[.string b,.string c],.string d] w fun e w'=>e=.returned (.func (.func 112) #[] #[.pointer (some ⟨w.heap.size,0,none⟩),.pointer (some ⟨w.heap.size+1,0,none⟩),.pointer (some ⟨w.heap.size+2,0,none⟩)])∧w'=((w.alloc (.cells #[.string a] 22)).alloc (.cells #[.string b,.string c] 77)).alloc (.cells #[.string d] 22):=by
 have hmf:∀ (fn:Fn) (first cap:Array Value) (w:World),(Instr.makeFunc fn first cap).run Tryz.prog w=.ok (.func fn first cap) w:=fun _ _ _ _=>rfl
 go_enter Tryz.func53,Tryz.ntmps53
 go_wp2_with fail
 go_ret
 exact ⟨rfl,rfl⟩
end Go.Proofs.YteepphiomcedfaaGreatDoor
namespace Go.Proofs.YteepphiomcedfaaGreatDoor
open Go.RowKit Go.Shelf
attribute [local go_sem] Oper.semAt_some
theorem two_text:ratText 2=[50]:=by decide +kernel
instance (q:Rat):Decidable (Small q):=inferInstanceAs (Decidable (_∧_))
theorem small_half_fin:∀ k:Fin 2001,Small (((k.1:Int):Rat) / 2):=by decide +kernel
theorem small_half {wd:Int} (h1:1≤wd) (h2:wd≤2000):Small ((wd:Rat) / 2):=by
 have:=small_half_fin ⟨wd.toNat,by omega⟩
 simp only [Int.toNat_of_nonneg (show 0≤wd by omega)] at this
 exact this
def firstAt (s:Rat × Rat) (wd:Int) (odd:Bool):Rat:=if odd then s.1 - (wd:Rat) / 2 else s.1
def markOf (D:Nat):Deferred:={ target:=.collected D,args:=#[] }
def offTo (sp:List (Rat × Rat)) (wd:Int) (odd:Bool) (Ns:Nat→Nat) (j:Nat):List Rat:=(List.range j).flatMap (fun k=>if h:k < sp.length then ats (firstAt sp[k] wd odd) wd (Ns k) else [])
theorem offTo_zero (sp:List (Rat × Rat)) (wd:Int) (odd:Bool) (Ns:Nat→Nat):offTo sp wd odd Ns 0=[]:=rfl
theorem offTo_succ (sp:List (Rat × Rat)) (wd:Int) (odd:Bool) (Ns:Nat→Nat) {j:Nat} (h:j < sp.length):offTo sp wd odd Ns (j+1)=offTo sp wd odd Ns j++ats (firstAt sp[j] wd odd) wd (Ns j):=by
 simp [offTo,List.range_succ,h]
def numVs (l:List Rat):List Value:=l.map (fun q=>.string (numS q))
def OutBox (B:Nat) (l:List Rat) (W:World):Prop:=∃ v,Boxed W B 34 v∧W.ownsRow B 22 1 v l.length (numVs l)∧(v=.slice none 0 0↔l=[])
structure OffInv (sp:List (Rat × Rat)) (wd:Int) (odd:Bool) (Ns:Nat→Nat) (j:Nat) (w3:World) (B:Nat) (Ds:List Nat) (W:World):Prop where
 out:OutBox B (offTo sp wd odd Ns j) W
 below:Below w3.heap.size w3 W
 nodup:Ds.Nodup
 marks:∀ D ∈ Ds,B≤D∧W.heap[D]?=some (.deferred (some []))
theorem offInv_zero (sp:List (Rat × Rat)) (wd:Int) (odd:Bool) (Ns:Nat→Nat) (w3:World):OffInv sp wd odd Ns 0 w3 w3.heap.size [] (w3.alloc (.cells #[.slice none 0 0] 34)) :=
 ⟨⟨_,Boxed.new _ _ _,World.ownsRow_nil _ _ _ _,by simp [offTo_zero]⟩,bw4 (bw0 _ _) _,List.nodup_nil,by simp⟩
theorem leaves_marks {F:Fence} {n:Nat} {P:Program} {fn:Func} {tmps:Array Value} {R:Ending→World→Prop} (B:Nat):∀ (Ds:List Nat) (W:World),Ds.Nodup→(∀ D ∈ Ds,B≤D∧W.heap[D]?=some (.deferred (some []))) →
  (∀ W',Below B W W'→(∀ (k:Nat) (o:Obj),W.heap[k]?=some o→o.isCells=true→W'.heap[k]?=some o)→LeavesIn F n P fn tmps R [] .returning W')→LeavesInM F n P fn tmps R (Ds.map markOf) .returning W
 | [],W,_,_,h=>h W (bw0 _ _) (fun _ _ hk _=>hk)
 | D::Ds,W,hn,hm,h=>by
  obtain ⟨hB,hD⟩:=hm D List.mem_cons_self
  rw [List.nodup_cons] at hn
  refine ⟨by simp,.inl ⟨D,_,rfl,run_takeDeferred hD,?_⟩⟩
  have hg:=grownBy_putObj' W D (.deferred none)
  refine leaves_marks B Ds _ hn.2 (fun E hE=>?_) (fun W' hB' hc=>?_)
  ·obtain ⟨x1,x2⟩:=hm E (List.mem_cons_of_mem _ hE)
   refine ⟨x1,(World.putObj_heap_other ?_).trans x2⟩
   intro e
   subst e
   exact hn.1 hE
  ·refine h W' ((?_:Below B W _).trans hB') (fun k o hk ho=>hc k o ?_ ho)
   ·exact ⟨hg.os,hg.tape,hg.output,hg.size,fun k hk=>World.putObj_heap_other (by omega)⟩
   ·refine (World.putObj_heap_other ?_).trans hk
    intro e
    subst e
    rw [hD] at hk;cases hk;cases ho
def RetOff (l:List Rat) (w:World) (e:Ending) (w':World):Prop:=∃ v,e=.returned (.tuple #[v,.int .i64 0])∧w'.ownsRow w.heap.size 22 1 v l.length (numVs l)∧(v=.slice none 0 0↔l=[])∧Below w.heap.size w w'
theorem ownsRow_keeps {W W':World} {B e size k:Nat} {v:Value} {xs:List Value} (h:W.ownsRow B e size v k xs) (hc:∀ (k:Nat) (o:Obj),W.heap[k]?=some o→o.isCells=true→W'.heap[k]?=some o):W'.ownsRow B e size v k xs:=by
 obtain ⟨h1,h2⟩:=h
 refine ⟨h1,h2.imp id ?_⟩
 rintro ⟨g,cap,cur,x1,x2,x3,x4⟩
 exact ⟨g,cap,cur,x1,x2,hc _ _ x3 rfl,x4⟩
theorem ownsRow_base {W:World} {B B' e size k:Nat} {v:Value} {xs:List Value} (h:W.ownsRow B e size v k xs) (hB:B'≤B):W.ownsRow B' e size v k xs:=by
 obtain ⟨h1,h2⟩:=h
 refine ⟨h1,h2.imp id ?_⟩
 rintro ⟨g,cap,cur,x1,x2,x3⟩
 exact ⟨g,cap,cur,x1,by omega,x3⟩
theorem cell_keeps {W W':World} {a:Addr} {v:Value} (h:W.cell? a=some v) (hc:∀ (k:Nat) (o:Obj),W.heap[k]?=some o→o.isCells=true→W'.heap[k]?=some o):W'.cell? a=some v:=by
 obtain ⟨o,ho,hoc⟩:=cells_of_cell h
 exact (World.cell?_of_block ((hc _ _ ho hoc).trans ho.symm)).trans h
theorem ownsRow_setCell {W:World} {B e size k b:Nat} {v u:Value} {xs:List Value} (h:W.ownsRow B e size v k xs) (hb:b < B):(W.setCell ⟨b,0,none⟩ u).ownsRow B e size v k xs:=by
 obtain ⟨h1,h2⟩:=h
 refine ⟨h1,h2.imp id ?_⟩
 rintro ⟨g,cap,cur,x1,x2,x3,x4⟩
 exact ⟨g,cap,cur,x1,x2,(Below.heap_setCell W ⟨b,0,none⟩ u g (by show g≠b;omega)).trans x3,x4⟩
theorem OffInv.below' {sp:List (Rat × Rat)} {wd:Int} {odd:Bool} {Ns:Nat→Nat} {j:Nat} {w3:World} {B:Nat} {Ds:List Nat} {W W':World} (h:OffInv sp wd odd Ns j w3 B Ds W) (hB:Below W.heap.size W W'):OffInv sp wd odd Ns j w3 B Ds W':=by
 obtain ⟨v,h1,h2,h3⟩:=h.out
 have hsz:∀ {k:Nat} {o:Obj},W.heap[k]?=some o→W'.heap[k]?=some o:=fun hk=>(hB.block _ (Array.getElem?_eq_some_iff.1 hk).1).trans hk
 refine ⟨⟨v,hsz h1,ownsRow_keeps h2 (fun k o hk _=>hsz hk),h3⟩,h.below.trans (hB.mono h.below.size),h.nodup,fun D hD=>⟨(h.marks D hD).1,hsz (h.marks D hD).2⟩⟩
theorem Tryz.infoNum:(Tryz.prog.info? 22).map (fun i=>(i.zero,i.size,i.bytes))=some (some (.string ⟨#[]⟩),1,16):=by kernel_rfl
theorem row_ne {W W1:World} {B e k b:Nat} {v v':Value} {ys:List Value} {o:Obj} (hb:W.heap[b]?=some o) (hgrow:W.grownBy W1 v.ownBlock) (hvb:v.ownBlock≠some b) (hown':W1.ownsRow B e 1 v' (k+1) ys) (ho:∀ cur,o=.cells cur e (0,0)→cur.size≤k):v'.ownBlock≠some b:=by
 have hb1:W1.heap[b]?=some o:=(hgrow.block b (Array.getElem?_eq_some_iff.1 hb).1 (fun e=>hvb e.symm)).trans hb
 rcases hown'.2 with ⟨_,h⟩|⟨g,cap,cur,rfl,_,hg,hc,_,hs,_⟩
 ·omega
 ·intro e
  obtain rfl:g=b:=by simpa [Value.ownBlock] using e
  rw [hb1] at hg
  have:=ho cur (by simpa using hg)
  omega
theorem base_pick {W:World} {B e k b2 b3:Nat} {v:Value} {xs:List Value} {o2 o3:Obj} (hrow:W.ownsRow B e 1 v k xs) (hB:B≤W.heap.size) (hnil:v=.slice none 0 0↔k=0)
  (h2:W.heap[b2]?=some o2) (h3:W.heap[b3]?=some o3) (n2:v.ownBlock≠some b2) (n3:v.ownBlock≠some b3) (k2:∀ cur,o2≠.cells cur e (0,0)) (k3:∀ cur,o3=.cells cur e (0,0)→cur.size=1) :
  ∃ B',B≤B'∧B'≤W.heap.size∧W.ownsRow B' e 1 v k xs∧(∀ v' W1 ys,W1.ownsRow B' e 1 v' (k+1) ys→W.grownBy W1 v.ownBlock→v'.ownBlock≠some b2∧v'.ownBlock≠some b3):=by
 by_cases hk:k=0
 ·have hv:=hnil.2 hk
  subst hv
  refine ⟨W.heap.size,hB,Nat.le_refl _,⟨hrow.1,.inl ⟨rfl,hk⟩⟩,fun v' W1 ys hy hg=>?_⟩
  rcases hy.2 with ⟨_,h⟩|⟨g,cap,cur,rfl,hbg,_⟩
  ·omega
  ·have l2:=(Array.getElem?_eq_some_iff.1 h2).1
   have l3:=(Array.getElem?_eq_some_iff.1 h3).1
   simp [Value.ownBlock]
   omega
 ·refine ⟨B,Nat.le_refl _,hB,hrow,fun v' W1 ys hy hg=>⟨row_ne h2 hg n2 hy (fun cur h=>absurd h (k2 cur)),row_ne h3 hg n3 hy (fun cur h=>by have:=k3 cur h;omega)⟩⟩
theorem marks_own {β:Type} {B m:Nat} {Ds:List Nat} (h:∀ D ∈ Ds,D < m):OwnFrom m (fun (_:β) W=>∀ D ∈ Ds,B≤D∧W.heap[D]?=some (.deferred (some []))):=fun s W W' row hs hg hr D hD=>by
 refine ⟨(hs D hD).1,(hg.block D (Array.getElem?_eq_some_iff.1 (hs D hD).2).1 ?_).trans (hs D hD).2⟩
 intro e
 have:=(hr D e.symm).1
 have:=h D hD
 omega
theorem block_own {β:Type} {m b:Nat} {o:Obj} (h:b < m):OwnFrom m (fun (_:β) W=>W.heap[b]?=some o):=fun s W W' row hs hg hr=>by
 refine (hg.block b (Array.getElem?_eq_some_iff.1 hs).1 ?_).trans hs
 intro e
 have:=(hr b e.symm).1
 omega
theorem Offsets_ok {lo hi:Rat} {sp:List (Rat × Rat)} (c:Value) (wd:Int) (odd:Bool) (w:World) (hG:Glo w) (hc:IsCourse w c lo hi sp) (hg:GoodCourse lo hi sp) (h1:1≤wd) (h2:wd≤2000)
  (Ns:Nat→Nat) (hst:∀ k (h:k < sp.length),StepsTo (firstAt sp[k] wd odd) sp[k].2 wd (Ns k)) (hmx:∀ k,k≤sp.length→(offTo sp wd odd Ns k).length≤4000) :
  Calls Tryz.prog 14 #[c,.int .i64 wd,.bool odd] w (RetOff (offTo sp wd odd Ns sp.length) w):=by
 have hri:=fun (w':World) (hB:Below w.heap.size w w')=>tright_ok c wd w' (hG.below hB) (hc.below hB) hg h1 h2
 obtain ⟨s,t,v,rfl,hs,ht,hv⟩:=hc
 obtain ⟨a,cap,rfl,hcap,hcells⟩:=id hv
 have hws:Small (wd:Rat):=⟨by show wd.natAbs < 100000000;omega,by show 1 < 100000000;omega⟩
 have hs2:Small 2:=⟨by decide,by decide⟩
 have HRI:=Lib.hid hri
 have HG:=Lib.hid hG
 have HC:=Lib.hid hcells
 have HGC:=Lib.hid hg
 have HST:=Lib.hid hst
 have hl64:=hg.len
 have HMX:=Lib.hid hmx
 obtain ⟨i0,hi0,hz0,hz1,hz2⟩:=info_parts Tryz.infoNum
 clear hs ht hv hG hcells hg hst hri hmx
 refine (callsIn_wide (n:=5)).1 ?_
 refine callsIn_of_wp_marks Tryz.func14 rfl trivial ?_ rfl
 simp only [Tryz.ntmps14,List.size_toArray,List.length_cons,List.length_nil,Nat.reduceAdd,Nat.reduceSub,Array.replicate_succ,Array.replicate_zero,List.push_toArray,List.append_toArray,List.nil_append,List.cons_append]
 gi_wp2
 refine ⟨trivial,?_⟩
 refine (callsIn_wide.2 (HRI.out _ qbl)).mono ?_
 rintro e w1 ⟨rfl,hB1⟩
 have hb1:Below w.heap.size w w1:=qbl
 have c0:w1.cell? ⟨w.heap.size,0,none⟩=some (.string s):=keep hB1 (by simp [go_sem])
 have c1:w1.cell? ⟨w.heap.size,1,none⟩=some (.string t):=keep hB1 (by simp [go_sem])
 have c2:w1.cell? ⟨w.heap.size,2,none⟩=some (.slice a sp.length cap):=keep hB1 (by simp [go_sem])
 have c3:w1.cell? ⟨w.heap.size+1,0,none⟩=some (.slice none 0 0):=keep hB1 (by simp [go_sem])
 have c4:w1.cell? ⟨w.heap.size+2,0,none⟩=some (.int .i64 0):=keep hB1 (by simp [go_sem])
 have z1:=lt_of_cell c2
 have z2:=lt_of_cell c3
 have z3:=lt_of_cell c4
 gi_wp2
 refine ⟨trivial,?_⟩
 refine (callsIn_wide.2 (twhole_any wd _ (HG.out.below qbl) (by omega) (by omega))).mono ?_
 rintro e w2 ⟨r2,hr2,rfl,hB2⟩
 obtain rfl:=numS_of hr2.out
 have hb2:Below w.heap.size w w2:=qbl
 clear hr2
 gi_wp2
 refine ⟨trivial,?_⟩
 refine (callsIn_wide.2 (Div_small (numS wd) ⟨#[50]⟩ _ (HG.out.below qbl) (numS_list _) hws two_text.symm hs2 (by decide))).mono ?_
 rintro e w3 ⟨r3,hr3,rfl,hB3⟩
 obtain rfl:=numS_of hr3
 have hb3:Below w.heap.size w w3:=qbl
 have m3:w1.frozen? ⟨w.heap.size+1,0,none⟩=false:=keepf hB1 (v:=.slice none 0 0) (by simp [go_sem]) (by simp [go_sem])
 have m4:w1.frozen? ⟨w.heap.size+2,0,none⟩=false:=keepf hB1 (v:=.int .i64 0) (by simp [go_sem]) (by simp [go_sem])
 have g3:=keepf hB3 (keep hB2 c3) (keepf hB2 c3 m3)
 have g4:=keepf hB3 (keep hB2 c4) (keepf hB2 c4 m4)
 clear m3 m4 hB1
 have e2:=keep hB3 (keep hB2 c2)
 have e3:=keep hB3 (keep hB2 c3)
 have e4:=keep hB3 (keep hB2 c4)
 have z4:=lt_of_cell e2
 have z5:=lt_of_cell e3
 have z6:=lt_of_cell e4
 clear hr3 hB2 hB3 c0 c1 c2 c3 c4
 gi_wp2
 refine wpIn_loop_ghost_k (fun (g:Nat) (a':Act) (w':World)=>∃ (Ds:List Nat) (u14 u15 u16 u33 u34 u35 u36 u37 u38 u39 u40 u41 u42 u43 u44 u45 u46 u47 u48 u49 u50 u51 u52 u53 u54 u55 u56 u57 u58 u59 u60:Value),(∃ j:Nat,j≤sp.length∧g=sp.length - j∧u33=.int .i64 j∧OffInv sp wd odd Ns j w3 (w3.heap.size) Ds w')∧a'={ tmps:=#[.agg #[.string s,.string t,.slice a sp.length cap],.int .i64 wd,.bool odd,.pointer (some ⟨w.heap.size,0,none⟩),undef,undef,.pointer (some ⟨w.heap.size+1,0,none⟩),.pointer (some ⟨w.heap.size+1+1,0,none⟩),.int .i64 0,.string (numS wd),.string (numS ((wd:Rat) / 2)),.int .i64 0,.pointer (some ⟨w3.heap.size,0,none⟩),undef,u14,u15,u16,.agg #[.string s,.string t,.slice a sp.length cap],.int .i64 wd,.int .i64 0,.int .i64 0,.bool false,undef,.int .i64 wd,.string (numS wd),.tuple #[.string (numS ((wd:Rat) / 2)),.int .i64 0],.string (numS wd),.tuple #[.string (numS ((wd:Rat) / 2)),.int .i64 0],.string (numS ((wd:Rat) / 2)),.int .i64 0,.pointer (some ⟨w.heap.size,2,none⟩),.slice a sp.length cap,.int .i64 sp.length,u33,u34,u35,u36,u37,u38,u39,u40,u41,u42,u43,u44,u45,u46,u47,u48,u49,u50,u51,u52,u53,u54,u55,u56,u57,u58,u59,u60],defers:=Ds.map markOf }) sp.length ?_ ?_
 ·exact ⟨[],_,_,_,_,_,_,_,_,_,_,_,_,_,_,_,_,_,_,_,_,_,_,_,_,_,_,_,_,_,_,_,⟨0,by omega,rfl,rfl,offInv_zero _ _ _ _ _⟩,rfl⟩
 ·rintro g _ wr ⟨Ds,u14,u15,u16,u33,u34,u35,u36,u37,u38,u39,u40,u41,u42,u43,u44,u45,u46,u47,u48,u49,u50,u51,u52,u53,u54,u55,u56,u57,u58,u59,u60,hrel,rfl⟩ J K hJ hK
  obtain ⟨j,hj,rfl,rfl,hI⟩:=hrel
  have f2:=keep hI.below e2
  have f3:=keep hI.below e3
  have f4:=keep hI.below e4
  have h3:=keepf hI.below e3 g3
  have h4:=keepf hI.below e4 g4
  have y3:=lt_of_cell f3
  have y4:=lt_of_cell f4
  have y2:=lt_of_cell f2
  by_cases hjn:j=sp.length
  ·subst hjn
   obtain ⟨v,hv,hrow,hnil⟩:=hI.out
   have hvc:=hv.cell
   obtain ⟨oa,on,oc,rfl⟩:∃ x y z,v=.slice x y z:=by
    rcases hrow.2 with ⟨rfl,_⟩|⟨g,cap',cur,rfl,_⟩<;>exact ⟨_,_,_,rfl⟩
   gi_wp2
   refine leaves_marks w3.heap.size Ds _ hI.nodup (fun D hD=>?_) (fun W' hB' hcc=>?_)
   ·obtain ⟨x1,x2⟩:=hI.marks D hD
    exact ⟨x1,(KeepsOthers.setCell _ _ _).same D _ ((KeepsOthers.setCell _ _ _).same D _ x2 rfl) rfl⟩
   ·have hW1:W'.cell? ⟨w.heap.size+1,0,none⟩=some (.slice oa on oc):=cell_keeps (by simp [go_sem,f3,f4]) hcc
    have hW2:W'.cell? ⟨w.heap.size+2,0,none⟩=some (.int .i64 0):=cell_keeps (by simp [go_sem,f3,f4]) hcc
    refine ⟨.tuple #[.slice oa on oc,.int .i64 0],by simp [results,Tryz.results14,go_sem,hW1,hW2],_,rfl,?_,hnil,?_⟩
    ·exact ownsRow_base (ownsRow_keeps (ownsRow_setCell (ownsRow_setCell hrow (by omega)) (by omega)) hcc) hb3.size
    ·exact (((hb3.trans (hI.below.mono hb3.size)).setCell (by simp) _).setCell (by simp;omega) _).trans (hB'.mono hb3.size)
  ·have hj1:j < sp.length:=by omega
   obtain ⟨b,off,rfl,hbb,hcc⟩:=HC.out (fun h=>by rw [h] at hj1;simp at hj1)
   obtain ⟨u,v,q0,q1,hu,hv⟩:=hcc j hj1
   have q0':=keep hI.below (keep hb3 q0)
   have q1':=keep hI.below (keep hb3 q1)
   obtain rfl:=numS_of hu
   obtain rfl:=numS_of hv
   have hji:(j:Int) < (sp.length:Int):=by omega
   clear hu hv q0 q1 hcc
   cases odd
   ·gi_wp2
    refine ⟨trivial,?_⟩
    refine (callsIn_wide.2 (beginnings_any _ _ _ _ _)).mono ?_
    rintro e w4 ⟨rfl,rfl⟩
    gi_wp2
    have hIs:OffInv sp wd _ Ns j w3 w3.heap.size Ds ((((wr.alloc (.cells #[.string (numS sp[j].1),.string (numS sp[j].2)] 77)).alloc (.cells #[.string (numS sp[j].1)] 22)).alloc (.cells #[.string (numS sp[j].1),.string (numS sp[j].2)] 77)).alloc (.cells #[.string (numS wd)] 22)):=hI.below' qbl
    have hsz:((((wr.alloc (.cells #[.string (numS sp[j].1),.string (numS sp[j].2)] 77)).alloc (.cells #[.string (numS sp[j].1)] 22)).alloc (.cells #[.string (numS sp[j].1),.string (numS sp[j].2)] 77)).alloc (.cells #[.string (numS wd)] 22)).heap.size=wr.heap.size+3+1:=by simp
    have k1:((((wr.alloc (.cells #[.string (numS sp[j].1),.string (numS sp[j].2)] 77)).alloc (.cells #[.string (numS sp[j].1)] 22)).alloc (.cells #[.string (numS sp[j].1),.string (numS sp[j].2)] 77)).alloc (.cells #[.string (numS wd)] 22)).cell? ⟨wr.heap.size+1,0,none⟩=some (.string (numS sp[j].1)):=by simp [go_sem]
    have k2:((((wr.alloc (.cells #[.string (numS sp[j].1),.string (numS sp[j].2)] 77)).alloc (.cells #[.string (numS sp[j].1)] 22)).alloc (.cells #[.string (numS sp[j].1),.string (numS sp[j].2)] 77)).alloc (.cells #[.string (numS wd)] 22)).cell? ⟨wr.heap.size+2,1,none⟩=some (.string (numS sp[j].2)):=by simp [go_sem]
    have k3:((((wr.alloc (.cells #[.string (numS sp[j].1),.string (numS sp[j].2)] 77)).alloc (.cells #[.string (numS sp[j].1)] 22)).alloc (.cells #[.string (numS sp[j].1),.string (numS sp[j].2)] 77)).alloc (.cells #[.string (numS wd)] 22)).cell? ⟨wr.heap.size+3,0,none⟩=some (.string (numS wd)):=by simp [go_sem]
    have j2:((((wr.alloc (.cells #[.string (numS sp[j].1),.string (numS sp[j].2)] 77)).alloc (.cells #[.string (numS sp[j].1)] 22)).alloc (.cells #[.string (numS sp[j].1),.string (numS sp[j].2)] 77)).alloc (.cells #[.string (numS wd)] 22)).heap[wr.heap.size+2]?=some (.cells #[.string (numS sp[j].1),.string (numS sp[j].2)] 77 (0,0)):=by have h:=World.alloc_heap_new ((wr.alloc (.cells #[.string (numS sp[j].1),.string (numS sp[j].2)] 77)).alloc (.cells #[.string (numS sp[j].1)] 22)) (.cells #[.string (numS sp[j].1),.string (numS sp[j].2)] 77);simp only [World.size_alloc] at h;exact (Below.heap_alloc _ _ _ (by simp)).trans h
    have j3:((((wr.alloc (.cells #[.string (numS sp[j].1),.string (numS sp[j].2)] 77)).alloc (.cells #[.string (numS sp[j].1)] 22)).alloc (.cells #[.string (numS sp[j].1),.string (numS sp[j].2)] 77)).alloc (.cells #[.string (numS wd)] 22)).heap[wr.heap.size+3]?=some (.cells #[.string (numS wd)] 22 (0,0)):=by have h:=World.alloc_heap_new (((wr.alloc (.cells #[.string (numS sp[j].1),.string (numS sp[j].2)] 77)).alloc (.cells #[.string (numS sp[j].1)] 22)).alloc (.cells #[.string (numS sp[j].1),.string (numS sp[j].2)] 77)) (.cells #[.string (numS wd)] 22);simp only [World.size_alloc] at h;exact h
    have hBs:Below wr.heap.size wr ((((wr.alloc (.cells #[.string (numS sp[j].1),.string (numS sp[j].2)] 77)).alloc (.cells #[.string (numS sp[j].1)] 22)).alloc (.cells #[.string (numS sp[j].1),.string (numS sp[j].2)] 77)).alloc (.cells #[.string (numS wd)] 22)):=qbl
    have hwl:wr.heap.size≤wr.heap.size+1:=by omega
    generalize ((((wr.alloc (.cells #[.string (numS sp[j].1),.string (numS sp[j].2)] 77)).alloc (.cells #[.string (numS sp[j].1)] 22)).alloc (.cells #[.string (numS sp[j].1),.string (numS sp[j].2)] 77)).alloc (.cells #[.string (numS wd)] 22))=Ws at *
    obtain ⟨v,hv0,hrow0,hnil⟩:=hI.out
    have hcs:∀ (k:Nat) (o:Obj),wr.heap[k]?=some o→Ws.heap[k]?=some o:=fun k o hk=>(hBs.block _ (Array.getElem?_eq_some_iff.1 hk).1).trans hk
    have hv:Boxed Ws w3.heap.size 34 v:=hcs _ _ hv0
    have hrow:=ownsRow_keeps hrow0 (fun k o hk _=>hcs k o hk)
    have hv3:∀ b,wr.heap.size≤b→v.ownBlock≠some b:=fun b hb e=>by
     rcases hrow0.2 with ⟨rfl,_⟩|⟨g,cap',cur,rfl,_,hg,_⟩
     ·cases e
     ·have:=(Array.getElem?_eq_some_iff.1 hg).1
      simp [Value.ownBlock] at e
      omega
    refine wpIn_rangeFunc_ownG (a₁:=?a1) rfl (by omega) (gf:=112) (lb:=#[.pointer (some ⟨wr.heap.size+1,0,none⟩),.pointer (some ⟨wr.heap.size+2,0,none⟩),.pointer (some ⟨wr.heap.size+3,0,none⟩)]) rfl trivial (enters_of Tryz.func112 (by kernel_rfl) rfl)
     (begin_stops _ (by omega) (wr.heap.size+1) (wr.heap.size+2) (wr.heap.size+3) w3.heap.size (HST.out j hj1) w3 _ (HG.out.below hb3) hIs.below (Nat.le_refl _) k1 k2 k3) KpB.t (KpB.b hIs.below.size (by omega) (by omega)) (bw0 _ _) (fun _=>rfl)
     (fun pre W=>(((∃ v,Boxed W w3.heap.size 34 v∧W.ownsRow w3.heap.size 22 1 v (offTo sp wd _ Ns j++pre).length (numVs (offTo sp wd _ Ns j++pre))∧((v=.slice none 0 0↔offTo sp wd _ Ns j++pre=[])∧v.ownBlock≠some (wr.heap.size+2)∧v.ownBlock≠some (wr.heap.size+3)))∧Below w3.heap.size w3 W)∧(∀ D ∈ Ds,w3.heap.size≤D∧W.heap[D]?=some (.deferred (some []))))∧(W.heap[wr.heap.size+2]?=some (.cells #[.string (numS sp[j].1),.string (numS sp[j].2)] 77 (0,0))∧W.heap[wr.heap.size+3]?=some (.cells #[.string (numS wd)] 22 (0,0))))
     (fun _ _ _=>False)
     (OwnFrom.and (OwnFrom.and (OwnFrom.and (Own.from (holdsRow_own w3.heap.size w3.heap.size 34 22 1 (fun pre=>(offTo sp wd _ Ns j++pre).length) (fun pre=>numVs (offTo sp wd _ Ns j++pre)) (fun pre v=>(v=.slice none 0 0↔offTo sp wd _ Ns j++pre=[])∧v.ownBlock≠some (wr.heap.size+2)∧v.ownBlock≠some (wr.heap.size+3))) _) (ownFrom_below (Nat.le_refl _) hIs.below.size)) (marks_own (m:=Ws.heap.size) (fun D hD=>(Array.getElem?_eq_some_iff.1 (hIs.marks D hD).2).1))) (OwnFrom.and (block_own (m:=Ws.heap.size) (b:=wr.heap.size+2) (by omega)) (block_own (m:=Ws.heap.size) (b:=wr.heap.size+3) (by omega))))
     (fun _ _ _ _ _ hs _ _=>hs)
     ⟨⟨⟨⟨v,hv,by simpa using hrow,by simpa using hnil,hv3 (wr.heap.size+2) (by omega),hv3 (wr.heap.size+3) (by omega)⟩,hIs.below⟩,hIs.marks⟩,j2,j3⟩ ?assign ?body ?done ?stop
    case assign =>
     intro l x W K hK
     gi_wp2
     exact hK
    case stop =>
     rintro D c pre W _ _ h _
     exact h.elim
    case body =>
     rintro l pre x W ⟨⟨⟨⟨v,hv,hrow,hnil,hn2,hn3⟩,hB⟩,hM⟩,hj2,hj3⟩ hlt
     have hln:(offTo sp wd false Ns j++pre).length < 4000:=by
      have:=HMX.out (j+1) (by omega)
      rw [offTo_succ _ _ _ _ hj1,List.length_append,ats_length] at this
      rw [List.length_append];omega
     obtain ⟨B',hB1,hB2,hrow',hpick⟩:=base_pick hrow hB.size (by rw [hnil];exact List.length_eq_zero_iff.symm) hj2 hj3 hn2 hn3 (fun cur h=>by cases h) (fun cur h=>by cases h;rfl)
     have hc:=hv.cell
     obtain ⟨oa,oc,rfl⟩:∃ oa oc,v=.slice oa (offTo sp wd false Ns j++pre).length oc:=by
      rcases hrow.2 with ⟨h,hk⟩|⟨g,cap,cur,h,_⟩
      ·exact ⟨none,0,by rw [h,hk]⟩
      ·exact ⟨_,_,h⟩
     have hne:¬ (((offTo sp wd false Ns j++pre).length:Int)=4096):=by omega
     have hvs:numVs (offTo sp wd false Ns j++(pre++[x]))=numVs (offTo sp wd false Ns j++pre)++[.string (numS x)]:=by simp [numVs]
     have hvl:(offTo sp wd false Ns j++(pre++[x])).length=(offTo sp wd false Ns j++pre).length+1:=by simp;omega
     have HVS:=Lib.hid hvs
     have HVL:=Lib.hid hvl
     have HNIL:=Lib.hid hnil
     clear hvs hvl hnil
     generalize offTo sp wd false Ns j++pre=M at *
     have hnb:M.length+1≤maxLen:=by unfold maxLen;omega
     gi_wp2_with (gi_at_builtin;refine wpListIn_append_own _ rfl _ _ 34 rfl B' 22 i0 (.string ⟨#[]⟩) 1 16 Tryz.underlying34 hi0 hz0 hz1 hz2 rfl (by decide) _ _ _ rfl (hrow'.alloc _) ⟨W.heap.size,0,none⟩ 1 1 [.string (numS x)] rfl rfl (cell_one_new _ _ _) (by simp [Value.oneCell']) hnb (by omega) (by simp;omega) ?_;intro v' w1 hown0 hgrow _;have hown':=ownsRow_base hown0 hB1;obtain ⟨g',cap',rfl⟩:=ownsRow_succ hown';obtain ⟨hv1,hv2,hr2,hk2,hb2⟩:=hv.appended (by decide) hrow hB.size (Nat.le_refl _) hown' hgrow;have hc1:=hv1.cell;have hf1:=hv1.frozen)
     have hgW:W.grownBy w1 (Value.slice oa M.length oc).ownBlock:=⟨hgrow.os,hgrow.tape,hgrow.output,by have:=hgrow.size;simp at this;omega,fun k hk hne=>(hgrow.block k (by simp;omega) hne).trans (Below.heap_alloc W _ k hk)⟩
     obtain ⟨p2,p3⟩:=hpick _ _ _ hown0 hgW
     have hwb:w3.heap.size < wr.heap.size:=hv0.lt
     have x2:(w1.setCell ⟨w3.heap.size,0,none⟩ (.slice (some ⟨g',0,none⟩) (M.length+1) cap')).heap[wr.heap.size+2]?=W.heap[wr.heap.size+2]?:=(Below.heap_setCell _ _ _ _ (by show wr.heap.size+2≠w3.heap.size;omega)).trans (hgW.block _ (Array.getElem?_eq_some_iff.1 hj2).1 (fun e=>hn2 e.symm))
     have x3:(w1.setCell ⟨w3.heap.size,0,none⟩ (.slice (some ⟨g',0,none⟩) (M.length+1) cap')).heap[wr.heap.size+3]?=W.heap[wr.heap.size+3]?:=(Below.heap_setCell _ _ _ _ (by show wr.heap.size+3≠w3.heap.size;omega)).trans (hgW.block _ (Array.getElem?_eq_some_iff.1 hj3).1 (fun e=>hn3 e.symm))
     refine ⟨hk2.from _,⟨hb2,x2,x3⟩,⟨⟨⟨_,hv2,?_,?_,p2,p3⟩,hB.trans hb2⟩,fun D hD=>⟨(hM D hD).1,hk2.same D _ (hM D hD).2 rfl⟩⟩,x2.trans hj2,x3.trans hj3⟩
     ·rw [HVL.out,HVS.out];exact hr2
     ·simp
    case done =>
     rintro D ys W hD rfl ⟨⟨⟨⟨v,hv,hrow,hnil,_,_⟩,hB⟩,hM⟩,_,_⟩ hKd
     gi_wp2
     refine Handed.intro (sp.length - (j+1)) (by omega) ?_
     first|gi_step|go_step
     refine ⟨D::Ds,_,_,_,_,_,_,_,_,_,_,_,_,_,_,_,_,_,_,_,_,_,_,_,_,_,_,_,_,_,_,_,?_,rfl⟩
     refine ⟨j+1,by omega,rfl,by go_num,⟨⟨v,hv,?_,?_⟩,hB,?_,?_⟩⟩
     ·rw [offTo_succ _ _ _ _ hj1];exact hrow
     ·rw [offTo_succ _ _ _ _ hj1];exact hnil
     ·refine List.nodup_cons.2 ⟨fun hDD=>?_,hI.nodup⟩
      have:=(Array.getElem?_eq_some_iff.1 (hIs.marks D hDD).2).1
      omega
     ·intro E hE
      rcases List.mem_cons.1 hE with rfl|hE
      ·exact ⟨Nat.le_trans hIs.below.size hD,hKd⟩
      ·exact hM E hE
   ·have hbr:Below w.heap.size w wr:=hb3.trans (hI.below.mono hb3.size)
    gi_wp2
    refine ⟨trivial,?_⟩
    refine (callsIn_wide.2 (Sub_small _ _ _ (HG.out.below qbl) (numS_list _) (HGC.out.right.1 j hj1).1 (numS_list _) (small_half h1 h2))).mono ?_
    rintro e w5 ⟨r,hr,rfl,hB5⟩
    have he:=numS_of hr
    subst he
    have s0:w5.cell? ⟨wr.heap.size,0,none⟩=some (.string (numS sp[j].1)):=keep hB5 (by simp [go_sem])
    have s1:w5.cell? ⟨wr.heap.size,1,none⟩=some (.string (numS sp[j].2)):=keep hB5 (by simp [go_sem])
    have zs:=lt_of_cell s0
    have hb5:Below wr.heap.size wr w5:=qbl
    have hI5:=hI.below' hb5
    clear hr hB5
    gi_wp2
    refine ⟨trivial,?_⟩
    refine (callsIn_wide.2 (beginnings_any _ _ _ _ _)).mono ?_
    rintro e w6 ⟨rfl,rfl⟩
    gi_wp2
    have hIs:OffInv sp wd _ Ns j w3 w3.heap.size Ds (((w5.alloc (.cells #[.string (numS (sp[j].1 - (wd:Rat) / 2))] 22)).alloc (.cells #[.string (numS sp[j].1),.string (numS sp[j].2)] 77)).alloc (.cells #[.string (numS wd)] 22)):=hI5.below' qbl
    have hsz:(((w5.alloc (.cells #[.string (numS (sp[j].1 - (wd:Rat) / 2))] 22)).alloc (.cells #[.string (numS sp[j].1),.string (numS sp[j].2)] 77)).alloc (.cells #[.string (numS wd)] 22)).heap.size=w5.heap.size+2+1:=by simp
    have k1:(((w5.alloc (.cells #[.string (numS (sp[j].1 - (wd:Rat) / 2))] 22)).alloc (.cells #[.string (numS sp[j].1),.string (numS sp[j].2)] 77)).alloc (.cells #[.string (numS wd)] 22)).cell? ⟨w5.heap.size,0,none⟩=some (.string (numS (sp[j].1 - (wd:Rat) / 2))):=by simp [go_sem]
    have k2:(((w5.alloc (.cells #[.string (numS (sp[j].1 - (wd:Rat) / 2))] 22)).alloc (.cells #[.string (numS sp[j].1),.string (numS sp[j].2)] 77)).alloc (.cells #[.string (numS wd)] 22)).cell? ⟨w5.heap.size+1,1,none⟩=some (.string (numS sp[j].2)):=by simp [go_sem]
    have k3:(((w5.alloc (.cells #[.string (numS (sp[j].1 - (wd:Rat) / 2))] 22)).alloc (.cells #[.string (numS sp[j].1),.string (numS sp[j].2)] 77)).alloc (.cells #[.string (numS wd)] 22)).cell? ⟨w5.heap.size+2,0,none⟩=some (.string (numS wd)):=by simp [go_sem]
    have j2:(((w5.alloc (.cells #[.string (numS (sp[j].1 - (wd:Rat) / 2))] 22)).alloc (.cells #[.string (numS sp[j].1),.string (numS sp[j].2)] 77)).alloc (.cells #[.string (numS wd)] 22)).heap[w5.heap.size+1]?=some (.cells #[.string (numS sp[j].1),.string (numS sp[j].2)] 77 (0,0)):=by have h:=World.alloc_heap_new (w5.alloc (.cells #[.string (numS (sp[j].1 - (wd:Rat) / 2))] 22)) (.cells #[.string (numS sp[j].1),.string (numS sp[j].2)] 77);simp only [World.size_alloc] at h;exact (Below.heap_alloc _ _ _ (by simp)).trans h
    have j3:(((w5.alloc (.cells #[.string (numS (sp[j].1 - (wd:Rat) / 2))] 22)).alloc (.cells #[.string (numS sp[j].1),.string (numS sp[j].2)] 77)).alloc (.cells #[.string (numS wd)] 22)).heap[w5.heap.size+2]?=some (.cells #[.string (numS wd)] 22 (0,0)):=by have h:=World.alloc_heap_new ((w5.alloc (.cells #[.string (numS (sp[j].1 - (wd:Rat) / 2))] 22)).alloc (.cells #[.string (numS sp[j].1),.string (numS sp[j].2)] 77)) (.cells #[.string (numS wd)] 22);simp only [World.size_alloc] at h;exact h
    have hBs:Below wr.heap.size wr (((w5.alloc (.cells #[.string (numS (sp[j].1 - (wd:Rat) / 2))] 22)).alloc (.cells #[.string (numS sp[j].1),.string (numS sp[j].2)] 77)).alloc (.cells #[.string (numS wd)] 22)):=qbl
    have hwl:wr.heap.size≤w5.heap.size:=hb5.size
    generalize (((w5.alloc (.cells #[.string (numS (sp[j].1 - (wd:Rat) / 2))] 22)).alloc (.cells #[.string (numS sp[j].1),.string (numS sp[j].2)] 77)).alloc (.cells #[.string (numS wd)] 22))=Ws at *
    obtain ⟨v,hv0,hrow0,hnil⟩:=hI.out
    have hcs:∀ (k:Nat) (o:Obj),wr.heap[k]?=some o→Ws.heap[k]?=some o:=fun k o hk=>(hBs.block _ (Array.getElem?_eq_some_iff.1 hk).1).trans hk
    have hv:Boxed Ws w3.heap.size 34 v:=hcs _ _ hv0
    have hrow:=ownsRow_keeps hrow0 (fun k o hk _=>hcs k o hk)
    have hv3:∀ b,wr.heap.size≤b→v.ownBlock≠some b:=fun b hb e=>by
     rcases hrow0.2 with ⟨rfl,_⟩|⟨g,cap',cur,rfl,_,hg,_⟩
     ·cases e
     ·have:=(Array.getElem?_eq_some_iff.1 hg).1
      simp [Value.ownBlock] at e
      omega
    refine wpIn_rangeFunc_ownG (a₁:=?a2) rfl (by omega) (gf:=112) (lb:=#[.pointer (some ⟨w5.heap.size,0,none⟩),.pointer (some ⟨w5.heap.size+1,0,none⟩),.pointer (some ⟨w5.heap.size+2,0,none⟩)]) rfl trivial (enters_of Tryz.func112 (by kernel_rfl) rfl)
     (begin_stops _ (by omega) (w5.heap.size) (w5.heap.size+1) (w5.heap.size+2) w3.heap.size (HST.out j hj1) w3 _ (HG.out.below hb3) hIs.below (Nat.le_refl _) k1 k2 k3) KpB.t (KpB.b hIs.below.size (by omega) (by omega)) (bw0 _ _) (fun _=>rfl)
     (fun pre W=>(((∃ v,Boxed W w3.heap.size 34 v∧W.ownsRow w3.heap.size 22 1 v (offTo sp wd _ Ns j++pre).length (numVs (offTo sp wd _ Ns j++pre))∧((v=.slice none 0 0↔offTo sp wd _ Ns j++pre=[])∧v.ownBlock≠some (w5.heap.size+1)∧v.ownBlock≠some (w5.heap.size+2)))∧Below w3.heap.size w3 W)∧(∀ D ∈ Ds,w3.heap.size≤D∧W.heap[D]?=some (.deferred (some []))))∧(W.heap[w5.heap.size+1]?=some (.cells #[.string (numS sp[j].1),.string (numS sp[j].2)] 77 (0,0))∧W.heap[w5.heap.size+2]?=some (.cells #[.string (numS wd)] 22 (0,0))))
     (fun _ _ _=>False)
     (OwnFrom.and (OwnFrom.and (OwnFrom.and (Own.from (holdsRow_own w3.heap.size w3.heap.size 34 22 1 (fun pre=>(offTo sp wd _ Ns j++pre).length) (fun pre=>numVs (offTo sp wd _ Ns j++pre)) (fun pre v=>(v=.slice none 0 0↔offTo sp wd _ Ns j++pre=[])∧v.ownBlock≠some (w5.heap.size+1)∧v.ownBlock≠some (w5.heap.size+2))) _) (ownFrom_below (Nat.le_refl _) hIs.below.size)) (marks_own (m:=Ws.heap.size) (fun D hD=>(Array.getElem?_eq_some_iff.1 (hIs.marks D hD).2).1))) (OwnFrom.and (block_own (m:=Ws.heap.size) (b:=w5.heap.size+1) (by omega)) (block_own (m:=Ws.heap.size) (b:=w5.heap.size+2) (by omega))))
     (fun _ _ _ _ _ hs _ _=>hs)
     ⟨⟨⟨⟨v,hv,by simpa using hrow,by simpa using hnil,hv3 (w5.heap.size+1) (by omega),hv3 (w5.heap.size+2) (by omega)⟩,hIs.below⟩,hIs.marks⟩,j2,j3⟩ ?assign2 ?body2 ?done2 ?stop2
    case assign2 =>
     intro l x W K hK
     gi_wp2
     exact hK
    case stop2 =>
     rintro D c pre W _ _ h _
     exact h.elim
    case body2 =>
     rintro l pre x W ⟨⟨⟨⟨v,hv,hrow,hnil,hn2,hn3⟩,hB⟩,hM⟩,hj2,hj3⟩ hlt
     have hln:(offTo sp wd true Ns j++pre).length < 4000:=by
      have:=HMX.out (j+1) (by omega)
      rw [offTo_succ _ _ _ _ hj1,List.length_append,ats_length] at this
      rw [List.length_append];omega
     obtain ⟨B',hB1,hB2,hrow',hpick⟩:=base_pick hrow hB.size (by rw [hnil];exact List.length_eq_zero_iff.symm) hj2 hj3 hn2 hn3 (fun cur h=>by cases h) (fun cur h=>by cases h;rfl)
     have hc:=hv.cell
     obtain ⟨oa,oc,rfl⟩:∃ oa oc,v=.slice oa (offTo sp wd true Ns j++pre).length oc:=by
      rcases hrow.2 with ⟨h,hk⟩|⟨g,cap,cur,h,_⟩
      ·exact ⟨none,0,by rw [h,hk]⟩
      ·exact ⟨_,_,h⟩
     have hne:¬ (((offTo sp wd true Ns j++pre).length:Int)=4096):=by omega
     have hvs:numVs (offTo sp wd true Ns j++(pre++[x]))=numVs (offTo sp wd true Ns j++pre)++[.string (numS x)]:=by simp [numVs]
     have hvl:(offTo sp wd true Ns j++(pre++[x])).length=(offTo sp wd true Ns j++pre).length+1:=by simp;omega
     have HVS:=Lib.hid hvs
     have HVL:=Lib.hid hvl
     have HNIL:=Lib.hid hnil
     clear hvs hvl hnil
     generalize offTo sp wd true Ns j++pre=M at *
     have hnb:M.length+1≤maxLen:=by unfold maxLen;omega
     gi_wp2_with (gi_at_builtin;refine wpListIn_append_own _ rfl _ _ 34 rfl B' 22 i0 (.string ⟨#[]⟩) 1 16 Tryz.underlying34 hi0 hz0 hz1 hz2 rfl (by decide) _ _ _ rfl (hrow'.alloc _) ⟨W.heap.size,0,none⟩ 1 1 [.string (numS x)] rfl rfl (cell_one_new _ _ _) (by simp [Value.oneCell']) hnb (by omega) (by simp;omega) ?_;intro v' w1 hown0 hgrow _;have hown':=ownsRow_base hown0 hB1;obtain ⟨g',cap',rfl⟩:=ownsRow_succ hown';obtain ⟨hv1,hv2,hr2,hk2,hb2⟩:=hv.appended (by decide) hrow hB.size (Nat.le_refl _) hown' hgrow;have hc1:=hv1.cell;have hf1:=hv1.frozen)
     have hgW:W.grownBy w1 (Value.slice oa M.length oc).ownBlock:=⟨hgrow.os,hgrow.tape,hgrow.output,by have:=hgrow.size;simp at this;omega,fun k hk hne=>(hgrow.block k (by simp;omega) hne).trans (Below.heap_alloc W _ k hk)⟩
     obtain ⟨p2,p3⟩:=hpick _ _ _ hown0 hgW
     have hwb:w3.heap.size < wr.heap.size:=hv0.lt
     have x2:(w1.setCell ⟨w3.heap.size,0,none⟩ (.slice (some ⟨g',0,none⟩) (M.length+1) cap')).heap[w5.heap.size+1]?=W.heap[w5.heap.size+1]?:=(Below.heap_setCell _ _ _ _ (by show w5.heap.size+1≠w3.heap.size;omega)).trans (hgW.block _ (Array.getElem?_eq_some_iff.1 hj2).1 (fun e=>hn2 e.symm))
     have x3:(w1.setCell ⟨w3.heap.size,0,none⟩ (.slice (some ⟨g',0,none⟩) (M.length+1) cap')).heap[w5.heap.size+2]?=W.heap[w5.heap.size+2]?:=(Below.heap_setCell _ _ _ _ (by show w5.heap.size+2≠w3.heap.size;omega)).trans (hgW.block _ (Array.getElem?_eq_some_iff.1 hj3).1 (fun e=>hn3 e.symm))
     refine ⟨hk2.from _,⟨hb2,x2,x3⟩,⟨⟨⟨_,hv2,?_,?_,p2,p3⟩,hB.trans hb2⟩,fun D hD=>⟨(hM D hD).1,hk2.same D _ (hM D hD).2 rfl⟩⟩,x2.trans hj2,x3.trans hj3⟩
     ·rw [HVL.out,HVS.out];exact hr2
     ·simp
    case done2 =>
     rintro D ys W hD rfl ⟨⟨⟨⟨v,hv,hrow,hnil,_,_⟩,hB⟩,hM⟩,_,_⟩ hKd
     gi_wp2
     refine Handed.intro (sp.length - (j+1)) (by omega) ?_
     first|gi_step|go_step
     refine ⟨D::Ds,_,_,_,_,_,_,_,_,_,_,_,_,_,_,_,_,_,_,_,_,_,_,_,_,_,_,_,_,_,_,_,?_,rfl⟩
     refine ⟨j+1,by omega,rfl,by go_num,⟨⟨v,hv,?_,?_⟩,hB,?_,?_⟩⟩
     ·rw [offTo_succ _ _ _ _ hj1];exact hrow
     ·rw [offTo_succ _ _ _ _ hj1];exact hnil
     ·refine List.nodup_cons.2 ⟨fun hDD=>?_,hI.nodup⟩
      have:=(Array.getElem?_eq_some_iff.1 (hIs.marks D hDD).2).1
      omega
     ·intro E hE
      rcases List.mem_cons.1 hE with rfl|hE
      ·exact ⟨Nat.le_trans hIs.below.size hD,hKd⟩
      ·exact hM E hE
end Go.Proofs.YteepphiomcedfaaGreatDoor
namespace Go.Proofs.YteepphiomcedfaaGreatDoor
open Go.RowKit Go.Shelf
def IsStrs (w:World) (v:Value) (l:List ByteArray):Prop:=∃ (a:Option Addr) (cap:Nat),v=.slice a l.length cap ∧
 (l≠[]→∃ b off,a=some ⟨b,off,none⟩∧∀ k (h:k < l.length),w.cell? ⟨b,off+k,none⟩=some (.string l[k]))
theorem IsStrs.below {w w':World} {v:Value} {l:List ByteArray} (h:IsStrs w v l) (hB:Below w.heap.size w w'):IsStrs w' v l:=by
 obtain ⟨a,cap,h1,h2⟩:=h
 refine ⟨a,cap,h1,fun hn=>?_⟩
 obtain ⟨b,off,e,hc⟩:=h2 hn
 exact ⟨b,off,e,fun k hk=>keep hB (hc k hk)⟩
theorem isStrs_row {w:World} {B:Nat} {v:Value} {l:List Rat} (h:w.ownsRow B 22 1 v l.length (numVs l)):IsStrs w v (l.map numS):=by
 rcases h.2 with ⟨rfl,hl⟩|⟨g,cap,cur,rfl,_,hg,h1,_,hs,ht⟩
 ·obtain rfl:l=[]:=List.length_eq_zero_iff.1 hl
  exact ⟨none,0,rfl,fun h=>absurd rfl h⟩
 ·refine ⟨some ⟨g,0,none⟩,cap,by simp,fun _=>⟨g,0,rfl,fun k hk=>?_⟩⟩
  have hk':k < l.length:=by simpa using hk
  have h2:cur.toList[k]?=some (.string (numS l[k])):=by
   have h3:(cur.toList.take (l.length * 1))[k]?=(numVs l)[k]?:=by rw [ht]
   rw [List.getElem?_take_of_lt (by omega)] at h3
   rw [h3];simp [numVs,hk']
  have h4:cur[k]?=some (.string (numS l[k])):=by simpa using h2
  simp [World.cell?,hg,h4]
theorem Equal_any (xs ys:List ByteArray) (u v:Value) (w:World) (hu:IsStrs w u xs) (hv:IsStrs w v ys) (hl:xs.length≤100000) :
  Calls Tryz.prog 16 #[u,v] w (RetB (.bool (decide (xs=ys))) w):=by
 obtain ⟨a,cap,rfl,ha⟩:=hu
 obtain ⟨b,cap',rfl,hb⟩:=hv
 have HA:=Lib.hid ha
 have HB:=Lib.hid hb
 clear ha hb
 by_cases hn:xs.length=ys.length
 ·have hne:((xs.length:Int) == (ys.length:Int))=true:=by simp [hn]
  generalize hR:decide (xs=ys)=R
  have HR:=Lib.hid hR
  have HN:=Lib.hid hn
  clear hR hn
  go_enter Tryz.func16,Tryz.ntmps16
  go_wp2_with fail
  go_loopw [13] (fun i wr=>∃ k:Nat,k≤xs.length∧i=.int .i64 k∧Below w.heap.size w wr∧Hid (∀ m (h1:m < xs.length) (h2:m < ys.length),m < k→xs[m]=ys[m])) (fun i _=>xs.length - (intOf i).toNat)
  case atStart=>exact ⟨0,by omega,rfl,bw0 _ _,Lib.hid (by intro m _ _ h;omega)⟩
  case round =>
   obtain ⟨k,hk,rfl,hBk,hsame⟩:=hrel
   by_cases hkn:k=xs.length
   ·have hR1:R=true:=by
     rw [← HR.out,decide_eq_true_eq]
     refine List.ext_getElem HN.out (fun m h1 h2=>hsame.out m h1 h2 (by omega))
    subst hkn
    subst hR1
    go_wp2_with fail
    go_ret
    exact ⟨rfl,hBk⟩
   ·have hk1:k < xs.length:=by omega
    have hk2:k < ys.length:=by have:=HN.out;omega
    obtain ⟨ba,oa,rfl,hca⟩:=HA.out (fun h=>by rw [h] at hk1;simp at hk1)
    obtain ⟨bb,ob,rfl,hcb⟩:=HB.out (fun h=>by rw [h] at hk2;simp at hk2)
    have q1:=keep hBk (hca k hk1)
    have q2:=keep hBk (hcb k hk2)
    have i1:(k:Int) < (xs.length:Int):=by omega
    have i2:(k:Int) < (ys.length:Int):=by omega
    clear hca hcb
    by_cases he:xs[k]=ys[k]
    ·have hE:(xs[k].toList == ys[k].toList)=true:=by rw [he];simp
     clear he
     have hsame':Hid (∀ m (h1:m < xs.length) (h2:m < ys.length),m < k+1→xs[m]=ys[m]):=Lib.hid (fun m h1 h2 h3=>by
      by_cases hm:m < k
      ·exact hsame.out m h1 h2 hm
      ·obtain rfl:m=k:=by omega
       have h4:xs[m].data.toList=ys[m].data.toList:=by rw [← Lib.toList_data,← Lib.toList_data];simpa using hE
       exact ByteArray.ext (Array.toList_inj.1 h4))
     go_wp2_with fail
     go_quiet (fail)
     go_wp2_with fail
     go_roundw
     case rel=>exact ⟨k+1,by omega,by go_num,qbl,hsame'⟩
     case measure=>simp [intOf];omega
    ·have hE:(xs[k].toList == ys[k].toList)=false:=by
      have h4:xs[k].data.toList≠ys[k].data.toList:=fun h=>he (ByteArray.ext (Array.toList_inj.1 h))
      rw [Lib.toList_data,Lib.toList_data];simpa using h4
     have hR1:R=false:=by
      rw [← HR.out,decide_eq_false_iff_not]
      intro h
      exact he (by simp only [h])
     subst hR1
     clear he
     go_wp2_with fail
     go_quiet (fail)
     go_wp2_with fail
     go_ret
     exact ⟨rfl,qbl⟩
 ·have hne:((xs.length:Int) == (ys.length:Int))=false:=by simp;omega
  have hR:decide (xs=ys)=false:=by
   rw [decide_eq_false_iff_not]
   intro h
   exact hn (by rw [h])
  rw [hR]
  have hn':¬ ((xs.length:Int)=(ys.length:Int)):=by omega
  clear hR
  go_enter Tryz.func16,Tryz.ntmps16
  go_wp2_with fail
  go_ret
  exact ⟨rfl,bw0 _ _⟩
theorem Spare_ok (n p:Int) (w:World) (h1:0≤n) (h2:n≤1073741824) (h3:0≤p) (h4:p≤100) :
  Calls Tryz.prog 12 #[.int .i64 n,.int .i64 p] w (RetB (.tuple #[.int .i64 (n+(n * p+99) / 100),.int .i64 0]) w):=by
 have b1:n * p≤1073741824 * 100:=Int.mul_le_mul h2 h4 h3 (by omega)
 have b0:0≤n * p:=Int.mul_nonneg h1 h3
 have hq:(n * p+99).tdiv 100=(n * p+99) / 100:=Int.tdiv_eq_ediv_of_nonneg (by omega)
 have d1:decide (n < 0)=false:=by simp;omega
 have d2:decide (1073741824 < n)=false:=by simp;omega
 have d3:decide (p < 0)=false:=by simp;omega
 have d4:decide (100 < p)=false:=by simp;omega
 have w1:IntKind.i64.wrap (n * p)=n * p:=IntWalk.i64_in _ (by omega)
 have w2:IntKind.i64.wrap (n * p+99)=n * p+99:=IntWalk.i64_in _ (by omega)
 have hb:0≤(n * p+99) / 100∧(n * p+99) / 100≤1073741824:=by omega
 generalize (n * p+99) / 100=Q at *
 have w3:IntKind.i64.wrap (n+Q)=n+Q:=IntWalk.i64_in _ (by omega)
 have w4:IntKind.i64.wrap Q=Q:=IntWalk.i64_in _ (by omega)
 go_enter Tryz.func12,Tryz.ntmps12
 go_wp2_with fail
 go_ret2
 exact ⟨rfl,bw0 _ _⟩
end Go.Proofs.YteepphiomcedfaaGreatDoor
