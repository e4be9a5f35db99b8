/- Joined texts: WPChk1, WPChk2, WPConcat, WPArea, WPInside, WPPlaced, WPJoined, WPMeets. -/
import Derived.Test.YteepphiomcedfaaGreatDoorJ07
import Derived.Test.YteepphiomcedfaaGreatDoorWPShaped
import Derived.Lib.AppendZerosOnto
import Derived.Test.YteepphiomcedfaaGreatDoorJ08
import Derived.Test.YteepphiomcedfaaGreatDoorJ10
set_option maxRecDepth 100000
set_option linter.unusedVariables false
set_option linter.unusedSimpArgs false
set_option maxHeartbeats 6400000
namespace Go.Proofs.YteepphiomcedfaaGreatDoor
open Go.RowKit
theorem between_ok (n a b:Int) (w:World) (h:Ran n a b):Calls Tryz.prog 206 #[.int .i64 n,.int .i64 a,.int .i64 b] w fun e w'=>e=.returned (.bool true)∧w'=w:=by
 obtain ⟨h1,h2⟩:=h
 go_enter Tryz.func206,Tryz.ntmps206
 go_wp2_with fail
 go_ret
 exact ⟨rfl,rfl⟩
theorem pranged_ok (s:Side) (w:World) (h:RSide s):Calls Tryz.prog 156 #[sideV s] w (RetB (.bool true) w):=by
 obtain ⟨h1,h2,h3,h4,h5⟩:=h
 obtain ⟨x,y,rise,run,gable,plate,over⟩:=s
 unfold sideV
 dsimp only at h1 h2 h3 h4 h5 ⊢
 have B1:=Lib.hid (fun w=>between_ok x 0 65536 w h1)
 have B2:=Lib.hid (fun w=>between_ok y 0 65536 w h2)
 have B3:=Lib.hid (fun w=>between_ok plate 0 65536 w h3)
 have B4:=Lib.hid (fun w=>between_ok over 0 65536 w h4)
 have tail:∀ (Q:Act→World→Prop),True:=fun _=>trivial
 clear h1 h2 h3 h4 tail
 cases gable
 ·simp only [Bool.false_eq_true,if_false] at h5
  have B5:=Lib.hid (fun w=>between_ok rise 1 48 w h5.1)
  have B6:=Lib.hid (fun w=>between_ok run 1 48 w h5.2)
  clear h5
  go_enter Tryz.func156,Tryz.ntmps156
  go_wp2_with fail
  refine (B5.out _).mono ?_
  rintro e w1 ⟨rfl,rfl⟩
  go_wp2_with fail
  refine (B6.out _).mono ?_
  rintro e w1 ⟨rfl,rfl⟩
  go_wp2_with fail
  go_loopw [35] (fun i wr=>∃ k:Nat,k≤4∧i=.int .i64 k∧wr=(w.alloc (.cells #[.int .i64 x,.int .i64 y,.int .i64 rise,.int .i64 run,.bool false,.int .i64 plate,.int .i64 over] 71)).alloc (.cells #[.int .i64 x,.int .i64 y,.int .i64 plate,.int .i64 over] 3)) (fun i _=>4 - (intOf i).toNat)
  case atStart=>exact ⟨0,by omega,rfl,rfl⟩
  case round =>
   obtain ⟨k,hk,rfl,rfl⟩:=hrel
   have hc:k=0∨k=1∨k=2∨k=3∨k=4:=by omega
   rcases hc with rfl|rfl|rfl|rfl|rfl
   ·go_wp2_with fail
    refine (B1.out _).mono ?_
    rintro e w1 ⟨rfl,rfl⟩
    go_wp2_with fail
    go_roundw
    case rel=>exact ⟨1,by omega,rfl,by trivial⟩
    case measure=>simp [intOf]
   ·go_wp2_with fail
    refine (B2.out _).mono ?_
    rintro e w1 ⟨rfl,rfl⟩
    go_wp2_with fail
    go_roundw
    case rel=>exact ⟨2,by omega,rfl,by trivial⟩
    case measure=>simp [intOf]
   ·go_wp2_with fail
    refine (B3.out _).mono ?_
    rintro e w1 ⟨rfl,rfl⟩
    go_wp2_with fail
    go_roundw
    case rel=>exact ⟨3,by omega,rfl,by trivial⟩
    case measure=>simp [intOf]
   ·go_wp2_with fail
    refine (B4.out _).mono ?_
    rintro e w1 ⟨rfl,rfl⟩
    go_wp2_with fail
    go_roundw
    case rel=>exact ⟨4,by omega,rfl,by trivial⟩
    case measure=>simp [intOf]
   ·go_wp2_with fail
    go_ret
    exact ⟨rfl,qbl⟩
 ·simp only [if_true] at h5
  obtain ⟨rfl,rfl⟩:=h5
  go_enter Tryz.func156,Tryz.ntmps156
  go_wp2_with fail
  go_loopw [35] (fun i wr=>∃ k:Nat,k≤4∧i=.int .i64 k∧wr=(w.alloc (.cells #[.int .i64 x,.int .i64 y,.int .i64 0,.int .i64 0,.bool true,.int .i64 plate,.int .i64 over] 71)).alloc (.cells #[.int .i64 x,.int .i64 y,.int .i64 plate,.int .i64 over] 3)) (fun i _=>4 - (intOf i).toNat)
  case atStart=>exact ⟨0,by omega,rfl,rfl⟩
  case round =>
   obtain ⟨k,hk,rfl,rfl⟩:=hrel
   have hc:k=0∨k=1∨k=2∨k=3∨k=4:=by omega
   rcases hc with rfl|rfl|rfl|rfl|rfl
   ·go_wp2_with fail
    refine (B1.out _).mono ?_
    rintro e w1 ⟨rfl,rfl⟩
    go_wp2_with fail
    go_roundw
    case rel=>exact ⟨1,by omega,rfl,by trivial⟩
    case measure=>simp [intOf]
   ·go_wp2_with fail
    refine (B2.out _).mono ?_
    rintro e w1 ⟨rfl,rfl⟩
    go_wp2_with fail
    go_roundw
    case rel=>exact ⟨2,by omega,rfl,by trivial⟩
    case measure=>simp [intOf]
   ·go_wp2_with fail
    refine (B3.out _).mono ?_
    rintro e w1 ⟨rfl,rfl⟩
    go_wp2_with fail
    go_roundw
    case rel=>exact ⟨3,by omega,rfl,by trivial⟩
    case measure=>simp [intOf]
   ·go_wp2_with fail
    refine (B4.out _).mono ?_
    rintro e w1 ⟨rfl,rfl⟩
    go_wp2_with fail
    go_roundw
    case rel=>exact ⟨4,by omega,rfl,by trivial⟩
    case measure=>simp [intOf]
   ·go_wp2_with fail
    go_ret
    exact ⟨rfl,qbl⟩
theorem notRanged_ok (s:Side) (w:World) (h:RSide s):Calls Tryz.prog 155 #[sideV s] w (RetB (.bool false) w):=by
 have HR:=Lib.hid (fun w=>pranged_ok s w h)
 clear h
 unfold sideV at *
 go_enter Tryz.func155,Tryz.ntmps155
 go_wp2_with fail
 refine (HR.out _).mono ?_
 rintro e w1 ⟨rfl,hB⟩
 go_wp2_with fail
 go_ret
 exact ⟨rfl,qbl⟩
theorem indexSide_none (F:Nat) (cap0:Array Value) (l:Ring) (v:Value) (w:World) (hv:IsRing w v l) (hl:l.length≤100000)
  (hE:∀ args w,(callFunc F args).run Tryz.prog w=.ok (.enter F args) w)
  (hF:∀ k,k < l.length→∀ W,Below w.heap.size w W→Calls Tryz.prog F (#[sideV (sd l k)]++cap0) W (RetB (.bool false) W)) :
  Calls Tryz.prog 85 #[v,.func (.func F) #[] cap0] w (RetB (.int .i64 (-1)) w):=by
 obtain ⟨a,cap,rfl,h⟩:=hv
 have HC:=Lib.hid h
 have HF:=Lib.hid hF
 clear h hF
 go_enter Tryz.func85,Tryz.ntmps85
 go_wp2_with fail
 go_loopw [8] (fun i wr=>∃ k:Nat,k≤l.length∧i=.int .i64 k∧Below w.heap.size w wr) (fun i _=>l.length - (intOf i).toNat)
 case atStart=>exact ⟨0,by omega,rfl,bw0 _ _⟩
 case round =>
  obtain ⟨k,hk,rfl,hB⟩:=hrel
  by_cases hlt:k < l.length
  ·obtain ⟨b,off,rfl,hc⟩:=HC.out (fun h=>by rw [h] at hlt;simp at hlt)
   obtain ⟨d0,d1,d2,d3,d4,d5,d6⟩:=(hc k hlt).below hB
   have hf:=Lib.hid (HF.out k hlt wr hB)
   unfold sideV at hf
   clear hc
   go_wp2_with fail
   refine hf.out.mono ?_
   rintro e w1 ⟨rfl,hB1⟩
   have hB2:Below w.heap.size w w1:=below_trans' hB hB1
   clear hB1 d0 d1 d2 d3 d4 d5 d6
   go_wp2_with fail
   go_roundw
   case rel=>exact ⟨k+1,hlt,by go_num,hB2⟩
   case measure=>simp [intOf];omega
  ·have e:k=l.length:=by omega
   subst e
   go_wp2_with fail
   go_ret
   exact ⟨rfl,hB⟩
theorem containsSide_none (F:Nat) (cap0:Array Value) (l:Ring) (v:Value) (w:World) (hv:IsRing w v l) (hl:l.length≤100000)
  (hE:∀ args w,(callFunc F args).run Tryz.prog w=.ok (.enter F args) w)
  (hF:∀ k,k < l.length→∀ W,Below w.heap.size w W→Calls Tryz.prog F (#[sideV (sd l k)]++cap0) W (RetB (.bool false) W)) :
  Calls Tryz.prog 34 #[v,.func (.func F) #[] cap0] w (RetB (.bool false) w):=by
 have HI:=Lib.hid (indexSide_none F cap0 l v w hv hl hE hF)
 clear hF hv
 go_enter Tryz.func34,Tryz.ntmps34
 go_wp2_with fail
 refine HI.out.mono ?_
 rintro e w1 ⟨rfl,hB⟩
 go_wp2_with fail
 go_ret
 exact ⟨rfl,hB⟩
end Go.Proofs.YteepphiomcedfaaGreatDoor
namespace Go.Proofs.YteepphiomcedfaaGreatDoor
open Go.RowKit
theorem notShaped_ok (l:Ring) (v:Value) (w:World) (hv:IsRing w v l) (hlen:l.length≤1000) (hr:RRing l) (hsh:Shaped l):Calls Tryz.prog 158 #[v] w (RetB (.bool false) w):=by
 have HR:=Lib.hid (pshaped_ok l v w hv hlen hr hsh)
 obtain ⟨a,cap,rfl,h⟩:=hv
 clear h hlen hr hsh
 go_enter Tryz.func158,Tryz.ntmps158
 go_wp2_with fail
 refine HR.out.mono ?_
 rintro e w1 ⟨rfl,hB⟩
 go_wp2_with fail
 go_ret
 exact ⟨rfl,hB⟩
theorem indexRing_none (F:Nat) (cap0:Array Value) (P:List Ring) (v:Value) (w:World) (hv:IsRings w v P) (hl:P.length≤100000) (hll:∀ r,r < P.length→(rg P r).length≤100000)
  (hE:∀ args w,(callFunc F args).run Tryz.prog w=.ok (.enter F args) w)
  (hF:∀ k,k < P.length→∀ W u,Below w.heap.size w W→IsRing W u (rg P k)→Calls Tryz.prog F (#[u]++cap0) W (RetB (.bool false) W)) :
  Calls Tryz.prog 207 #[v,.func (.func F) #[] cap0] w (RetB (.int .i64 (-1)) w):=by
 obtain ⟨a,cap,rfl,h⟩:=hv
 have HC:=Lib.hid h
 have HF:=Lib.hid hF
 have HL:=Lib.hid hll
 clear h hF hll
 go_enter Tryz.func207,Tryz.ntmps207
 go_wp2_with fail
 go_loopw [8] (fun i wr=>∃ k:Nat,k≤P.length∧i=.int .i64 k∧Below w.heap.size w wr) (fun i _=>P.length - (intOf i).toNat)
 case atStart=>exact ⟨0,by omega,rfl,bw0 _ _⟩
 case round =>
  obtain ⟨k,hk,rfl,hB⟩:=hrel
  by_cases hlt:k < P.length
  ·obtain ⟨b,off,rfl,hc⟩:=HC.out (fun h=>by rw [h] at hlt;simp at hlt)
   obtain ⟨ur,cr,hur⟩:=hc k hlt
   have cr':=keep hB cr
   have hf:=Lib.hid (HF.out k hlt wr ur hB (hur.below hB))
   have hlr:=HL.out k hlt
   obtain ⟨ar,capr,rfl,hcr⟩:=hur
   clear hc cr hcr
   go_wp2_with fail
   refine hf.out.mono ?_
   rintro e w1 ⟨rfl,hB1⟩
   have hB2:Below w.heap.size w w1:=below_trans' hB hB1
   clear hB1 cr'
   go_wp2_with fail
   go_roundw
   case rel=>exact ⟨k+1,hlt,by go_num,hB2⟩
   case measure=>simp [intOf];omega
  ·have e:k=P.length:=by omega
   subst e
   go_wp2_with fail
   go_ret
   exact ⟨rfl,hB⟩
theorem containsRing_none (F:Nat) (cap0:Array Value) (P:List Ring) (v:Value) (w:World) (hv:IsRings w v P) (hl:P.length≤100000) (hll:∀ r,r < P.length→(rg P r).length≤100000)
  (hE:∀ args w,(callFunc F args).run Tryz.prog w=.ok (.enter F args) w)
  (hF:∀ k,k < P.length→∀ W u,Below w.heap.size w W→IsRing W u (rg P k)→Calls Tryz.prog F (#[u]++cap0) W (RetB (.bool false) W)) :
  Calls Tryz.prog 157 #[v,.func (.func F) #[] cap0] w (RetB (.bool false) w):=by
 have HI:=Lib.hid (indexRing_none F cap0 P v w hv hl hll hE hF)
 clear hF hv hll
 go_enter Tryz.func157,Tryz.ntmps157
 go_wp2_with fail
 refine HI.out.mono ?_
 rintro e w1 ⟨rfl,hB⟩
 go_wp2_with fail
 go_ret
 exact ⟨rfl,hB⟩
theorem below_drew {w:World} {B:Nat} (hB:B≤w.heap.size):Below B w w.drew:=⟨rfl,rfl,rfl,Nat.le_refl _,fun _ _=>rfl⟩
theorem grow_ok (n:Nat) (w:World) (h0:0 < n) (hn:n≤100000) :
  Calls Tryz.prog 205 #[.slice none 0 0,.int .i64 n] w fun e w'=>∃ cap,e=.returned (.slice (some ⟨w.heap.size,0,none⟩) 0 cap)∧w'.ownsRow w.heap.size 71 7 (.slice (some ⟨w.heap.size,0,none⟩) 0 cap) 0 []∧Below w.heap.size w w':=by
 obtain ⟨i0,hi0,hz0,hz1,hz2⟩:=info_parts Tryz.infoSide
 have hr:∀ ty,(Builtin.append_ #[66,3] ty #[.slice none 0 0,.int .i64 n]).run Tryz.prog w=_:=fun ty=>Lib.run_append_nil_zeros w 66 3 ty 71 i0 (sideV default) .i64 .i64 Tryz.underlying66 Tryz.underlying3 hi0 hz0 n h0 (by rw [hz1];omega) (by omega) (by rw [hz2];omega)
 have hG:=grownCap_ge w n 0 71
 have hG2:=grownCap_le_maxLen w n 0 71 (by unfold maxLen;omega)
 have hrow:(w.drew.alloc (.cells (Builtin.zeroCells (sideV default).cells n++Builtin.zeroCells (sideV default).cells (grownCap w n 0 71 - n)) 71)).ownsRow w.heap.size 71 7 (.slice (some ⟨w.heap.size,0,none⟩) 0 (grownCap w n 0 71)) 0 []:=by
  refine ⟨rfl,Or.inr ⟨w.heap.size,_,_,rfl,Nat.le_refl _,heap_alloc_last w.drew _,Nat.zero_le _,hG2,?_,rfl⟩⟩
  rw [Array.size_append,size_zeroCells,size_zeroCells,show (sideV default).cells.size=7 from rfl]
  omega
 have hB:Below w.heap.size w (w.drew.alloc (.cells (Builtin.zeroCells (sideV default).cells n++Builtin.zeroCells (sideV default).cells (grownCap w n 0 71 - n)) 71)):=bw4 (below_drew (Nat.le_refl _)) _
 generalize hW:w.drew.alloc (.cells (Builtin.zeroCells (sideV default).cells n++Builtin.zeroCells (sideV default).cells (grownCap w n 0 71 - n)) 71)=W at *
 generalize grownCap w n 0 71=G at *
 have HRO:=Lib.hid hrow
 have HB:=Lib.hid hB
 clear hrow hB hW
 unfold maxLen at hG2
 go_enter Tryz.func205,Tryz.ntmps205
 go_wp2_with (at_builtin;refine Lib.wpList_append_run _ rfl _ _ _ _ rfl _ _ rfl rfl _ _ (hr _) ?_)
 go_ret
 exact ⟨G,rfl,HRO.out,HB.out⟩
end Go.Proofs.YteepphiomcedfaaGreatDoor
namespace Go.Proofs.YteepphiomcedfaaGreatDoor
open Go.RowKit
def RetRing1 (l:Ring) (w:World) (e:Ending) (w':World):Prop:=∃ v,e=.returned v∧IsRing w' v l∧Below w.heap.size w w'
theorem concat_ok (P:List Ring) (v:Value) (w:World) (hv:IsRings w v P) (hval:Valid P) :
  Calls Tryz.prog 154 #[v] w (RetRing1 (flat P) w):=by
 obtain ⟨a,cap,rfl,h⟩:=hv
 obtain ⟨b,off,rfl,hc⟩:=h hval.ne
 have hP0:0 < P.length:=List.length_pos_iff.2 hval.ne
 have hP1:P.length≤24:=by have:=rings_le hval.nes P.length (Nat.le_refl _);have:=hval.tot;omega
 have hT0:0 < total P P.length:=by have:=rings_le hval.nes P.length (Nat.le_refl _);omega
 have hT1:=hval.tot
 have HCC:=Lib.hid hc
 have HV:=Lib.hid hval
 have HG:=Lib.hid (fun W=>grow_ok (total P P.length) W hT0 (by omega))
 obtain ⟨i0,hi0,hz0,hz1,hz2⟩:=info_parts Tryz.infoSide
 have HFL:=Lib.hid (fun r=>@flat_take_succ P r)
 have HFN:=Lib.hid (flat_length P)
 have HTS:=Lib.hid (total_succ P)
 have HTL:=Lib.hid (fun r (hr:r < P.length)=>total_lt (P:=P) hr)
 clear h hc hval
 go_enter Tryz.func154,Tryz.ntmps154
 go_wp2_with fail
 go_loopw [3,11] (fun s i wr=>∃ r:Nat,r≤P.length∧i=.int .i64 r∧s=.int .i64 (total P r:Nat)∧wr=w) (fun _ i _=>P.length - (intOf i).toNat)
 case atStart=>exact ⟨0,by omega,rfl,rfl,rfl⟩
 case round =>
  obtain ⟨r,hr,rfl,rfl,hw⟩:=hrel
  subst wr
  by_cases hrP:r < P.length
  ·obtain ⟨ur,cr,hur⟩:=HCC.out r hrP
   obtain ⟨ar,capr,rfl,hcr⟩:=hur
   have htr:=HTL.out r hrP
   have hts:=HTS.out r
   clear hcr
   generalize (rg P r).length=n at *
   have hts':=Lib.hid hts
   clear hts
   go_wp2_with fail
   go_roundw
   case rel=>exact ⟨r+1,by omega,by go_num,ret_i64 (by rw [hts'.out];omega),by trivial⟩
   case measure=>simp [intOf];omega
  ·have e:r=P.length:=by omega
   subst e
   go_wp2_with fail
   refine (HG.out _).mono ?_
   rintro e w1 ⟨capG,rfl,hrow0,hB1⟩
   go_wp2_with fail
   go_loopw [6,27] (fun s i wr=>∃ (r:Nat) (sa:Option Addr) (sc:Nat),r≤P.length∧i=.int .i64 r∧s=.slice sa (total P r) sc∧wr.ownsRow w.heap.size 71 7 (.slice sa (total P r) sc) (total P r) (ringCells (P.take r).flatten)∧Below w.heap.size w wr) (fun _ i _=>P.length - (intOf i).toNat)
   case atStart=>exact ⟨0,_,_,by omega,rfl,rfl,hrow0,hB1⟩
   case round =>
    obtain ⟨r,sa,sc,hr,rfl,rfl,hrow,hB3⟩:=hrel
    by_cases hrP:r < P.length
    ·obtain ⟨ur,cr,hur⟩:=HCC.out r hrP
     have cr':=keep hB3 cr
     obtain ⟨br,offr,capr,rfl,hcr⟩:=(hur.below hB3).nonempty (HV.out.nes r hrP)
     have hnew:=Lib.hid (ring_cell hcr)
     have ht1:=HTL.out r hrP
     have hfl:=Lib.hid (HFL.out r hrP)
     clear hcr hur cr
     have HOB:=Lib.hid (fun k (hk:(Value.slice sa (total P r) sc).ownBlock=some k)=>(by obtain ⟨x,y,e,h⟩:=row_shape hrow;cases e;exact h k hk:w.heap.size≤k))
     go_wp2_with (at_builtin;refine wpList_append_own _ rfl _ _ 66 rfl w.heap.size 71 i0 (sideV default) 7 56 Tryz.underlying66 hi0 hz0 hz1 hz2 rfl (by decide) _ (total P r) _ rfl hrow ⟨br,offr,none⟩ (rg P r).length capr (ringCells (rg P r)) rfl (ringCells_length _) hnew.out ringCells_one (by unfold maxLen;omega) (by omega) hB3.size ?_;intro v' w3 hown' hgrow3 hnil3;have HROW:=Lib.hid hown';have hB5:=Lib.hid (Below.grown hB3 hgrow3 hB3.size HOB.out);clear hown' hgrow3 hnil3;obtain ⟨sa2,sc2,rfl,_⟩:=row_shape HROW.out)
     go_roundw
     case rel=>exact ⟨r+1,sa2,sc2,by omega,by go_num,rfl,by have:=HROW.out;rw [← ringCells_append,← hfl.out] at this;exact this,hB5.out⟩
     case measure=>simp [intOf];omega
    ·have e:r=P.length:=by omega
     subst e
     rw [List.take_length] at hrow
     have HROW:=Lib.hid hrow
     clear hrow
     go_wp2_with fail
     go_ret
     exact ⟨_,rfl,isRing_row (by rw [flat_len];exact HROW.out),hB3⟩
end Go.Proofs.YteepphiomcedfaaGreatDoor
namespace Go.Proofs.YteepphiomcedfaaGreatDoor
open Go.RowKit Go.Shelf
attribute [local go_sem] Oper.semAt_some
theorem area_any (l:Ring) (v:Value) (w:World) (hv:IsRing w v l) (hl:l≠[]) (hlen:l.length≤1000) (hr:RRing l) :
  Calls Tryz.prog 214 #[v] w (RetB (.int .i64 (twice l)) w):=by
 have hl0:0 < l.length:=List.length_pos_iff.2 hl
 obtain ⟨b,off,cap,rfl,hc⟩:=hv.nonempty hl
 have hbw:b < w.heap.size:=lt_of_cell (hc 0 hl0).1
 have HC:=Lib.hid hc
 have HR:=Lib.hid hr
 have HSB:=Lib.hid (sumOver_bds hr)
 clear hc hr hv
 refine (callsIn_wide (n:=5)).1 ?_
 refine callsIn_of_wp_marks Tryz.func214 rfl trivial ?_ rfl
 simp only [Tryz.ntmps214,List.size_toArray,List.length_cons,List.length_nil,Nat.reduceAdd,Nat.reduceSub,Array.replicate_succ,Array.replicate_zero,List.push_toArray,List.append_toArray,List.nil_append,List.cons_append]
 gi_wp2
 refine ⟨trivial,?_⟩
 refine (callsIn_wide.2 (psides_any _ _ _ _)).mono ?_
 rintro e w1 ⟨rfl,rfl⟩
 gi_wp2
 have hb0:Below w.heap.size w ((w.alloc (.cells #[.int .i64 0] 3)).alloc (.cells #[.slice (some ⟨b,off,none⟩) l.length cap] 66)):=qbl
 have hx0:Boxed ((w.alloc (.cells #[.int .i64 0] 3)).alloc (.cells #[.slice (some ⟨b,off,none⟩) l.length cap] 66)) w.heap.size 3 (.int .i64 0):=(Boxed.new w _ _).alloc _
 have hx1:Boxed ((w.alloc (.cells #[.int .i64 0] 3)).alloc (.cells #[.slice (some ⟨b,off,none⟩) l.length cap] 66)) (w.heap.size+1) 66 (.slice (some ⟨b,off,none⟩) l.length cap):=by have h:=Boxed.new (w.alloc (.cells #[.int .i64 0] 3)) 66 (.slice (some ⟨b,off,none⟩) l.length cap);simpa only [World.size_alloc] using h
 have hsz:((w.alloc (.cells #[.int .i64 0] 3)).alloc (.cells #[.slice (some ⟨b,off,none⟩) l.length cap] 66)).heap.size=w.heap.size+2:=by simp
 generalize ((w.alloc (.cells #[.int .i64 0] 3)).alloc (.cells #[.slice (some ⟨b,off,none⟩) l.length cap] 66))=W0 at *
 refine wpIn_rangeFunc_ownH rfl (by omega) (gf:=254) (lb:=#[.pointer (some ⟨w.heap.size+1,0,none⟩)]) rfl trivial (enters_of Tryz.func254 (by kernel_rfl) rfl)
  (sides_stops l _ (by omega) (w.heap.size+1) w.heap.size b off cap hlen hl0 W0 hbw hb0.size hx1.cell (fun k hk=>(HC.out k hk).below hb0)) KpR.t (KpR.b hb0.size (by omega)) (bw0 _ _) (fun _=>rfl)
  (fun pre W=>(Boxed W w.heap.size 3 (.int .i64 (sumOver l pre))∧Boxed W (w.heap.size+1) 66 (.slice (some ⟨b,off,none⟩) l.length cap))∧Below w.heap.size w W∧w.heap.size+2≤W.heap.size)
  (fun _ _ _=>False)
  (OwnFrom.and (OwnFrom.and (Own.from (boxed_own _ _ _) _) (Own.from (boxed_own _ _ _) _)) (OwnFrom.and (ownFrom_below (Nat.le_refl _) (by omega)) (fun s A B row hs hg hr=>Nat.le_trans hs hg.size)))
  (fun _ _ _ _ _ hs _ _=>hs)
  ⟨⟨hx0,hx1⟩,hb0,by omega⟩
  (fun x a' W=>∃ Bx,w.heap.size+1 < Bx∧BoxA W Bx (pv l x.1) (sd l x.1) (nx l x.1)∧a'={ tmps:=#[.slice (some ⟨b,off,none⟩) l.length cap,undef,.int .i64 0,.pointer (some ⟨w.heap.size,0,none⟩),undef,.pointer (some ⟨Bx,0,none⟩),.slice (some ⟨b,off,none⟩) l.length cap,.func (.func 254) #[] #[.pointer (some ⟨w.heap.size+1,0,none⟩)],.int .i64 x.1,aroundV (pv l x.1) (sd l x.1) (nx l x.1),undef,undef,undef,undef,undef,undef,undef,undef,undef,undef],defers:=[] })
  (fun x a' _ X Y row hs hg hr=>by obtain ⟨Bx,h1,h2,h3⟩:=hs;exact ⟨Bx,h1,boxA_own () X Y row h2 hg hr,h3⟩)
  ?assign ?body ?done ?stop
 case assign =>
  rintro l1 pre x W K ⟨⟨bS,bR⟩,hB,hz⟩ hK
  unfold encS
  gi_wp2_with (refine wpListIn_store21 rfl _ _ rfl _ _ rfl (pv l x.1) (sd l x.1) (nx l x.1) rfl rfl ?_)
  exact hK _ _ ((KeepsOthers.alloc _ _).from _) ⟨(bw0 _ W).alloc hB.size _,Below.heap_alloc _ _ _ bR.lt⟩ ⟨⟨bS.alloc _,bR.alloc _⟩,hB.alloc hB.size _,by simp;omega⟩ ⟨W.heap.size,bR.lt,boxA_new,rfl⟩
 case body =>
  rintro l1 pre x a' W hl1 ⟨r,hr⟩ ⟨⟨bS,bR⟩,hB,hz⟩ ⟨Bx,hBx,bX,rfl⟩ hlt
  have hS1:=HR.out x.1 x.2
  have hS2:=HR.out (nxi l.length x.1) (nxi_lt x.2)
  rw [show sd l (nxi l.length x.1)=nx l x.1 from rfl] at hS2
  obtain ⟨q1,q2,q3,q4,q5,q6⟩:=cro_bds hS1 hS2
  obtain ⟨q7,q8⟩:=HSB.out pre
  have HSN:=Lib.hid (sumOver_snoc l pre x)
  have HCR0:cro (sd l x.1) (nx l x.1)=(sd l x.1).x * (nx l x.1).y - (sd l x.1).y * (nx l x.1).x:=by unfold cro;rw [Int.mul_comm (nx l x.1).x]
  have HCR:=Lib.hid HCR0
  have hw:IntKind.i64.wrap (sumOver l pre+((sd l x.1).x * (nx l x.1).y - (sd l x.1).y * (nx l x.1).x))=sumOver l pre+((sd l x.1).x * (nx l x.1).y - (sd l x.1).y * (nx l x.1).x):=IntWalk.i64_in _ (by omega)
  have HB:=Lib.hid (corner_any (sd l x.1))
  have HC2:=Lib.hid (corner_any (nx l x.1))
  have HX:=Lib.hid (fun W=>cross_any (sd l x.1).x (sd l x.1).y (nx l x.1).x (nx l x.1).y W ⟨by omega,by omega⟩ ⟨by rw [Int.mul_comm];omega,by rw [Int.mul_comm];omega⟩)
  clear q1 q2 q3 q4 q5 q6 q7 q8 HCR0 hS1 hS2
  have hR:AroundAt W.drew Bx (pv l x.1) (sd l x.1) (nx l x.1)∧Boxed W.drew w.heap.size 3 (.int .i64 (sumOver l pre))∧Below W.heap.size W W.drew:=⟨bX.at.below (bw0 _ _).drew,boxed_below bS (bw0 _ _).drew,(bw0 _ _).drew⟩
  gi_wp2
  unfold aroundV spotV sideV at *
  generalize pv l x.1=A at *
  generalize nx l x.1=C at *
  generalize sd l x.1=S at *
  generalize sumOver l pre=s at *
  refine region_I (L:=[9]) (R:=(fun w'=>AroundAt w' Bx A S C∧Boxed w' w.heap.size 3 (.int .i64 s)∧Below W.heap.size W w')) 10 #[false,false,false,false,false,false,false,false,false,false] (by kernel_rfl) (by kernel_rfl) (by kernel_rfl) (fun _ _ _ _ _ h=>h) (fun Q' hQ' hN hLO=>?_)
  generalize W.drew=wd at *
  refine tkI 10 (i:=0) (v:=?_) (fw:=4) hQ' hR rfl (fun _=>rfl) ?_ ?_;rotate_left;(focus (intro wq hRq;obtain ⟨⟨e0,e1,e2,e3,e4,e5,e6,e7,e8,e9,e10,e11,e12,e13,e14,e15,e16,e17,e18,e19,e20⟩,hbx,_⟩:=hRq;have hbx:=hbx.cell;go_simp;(try with_reducible rfl)));(try simp only [Act.put,bw7,bw8,bw9])
  refine tkI 11 (i:=1) (v:=?_) (fw:=4) hQ' hR rfl (fun _=>rfl) ?_ ?_;rotate_left;(focus (intro wq hRq;obtain ⟨⟨e0,e1,e2,e3,e4,e5,e6,e7,e8,e9,e10,e11,e12,e13,e14,e15,e16,e17,e18,e19,e20⟩,hbx,_⟩:=hRq;have hbx:=hbx.cell;go_simp;(try with_reducible rfl)));(try simp only [Act.put,bw7,bw8,bw9])
  refine tkI 12 (i:=2) (v:=?_) (fw:=4) hQ' hR rfl (fun _=>rfl) ?_ ?_;rotate_left;(focus (intro wq hRq;obtain ⟨⟨e0,e1,e2,e3,e4,e5,e6,e7,e8,e9,e10,e11,e12,e13,e14,e15,e16,e17,e18,e19,e20⟩,hbx,_⟩:=hRq;have hbx:=hbx.cell;go_simp;(try with_reducible rfl)));(try simp only [Act.put,bw7,bw8,bw9])
  refine tkI 14 (i:=4) (v:=?_) (fw:=4) hQ' hR rfl (fun _=>rfl) ?_ ?_;rotate_left;(focus (intro wq hRq;obtain ⟨⟨e0,e1,e2,e3,e4,e5,e6,e7,e8,e9,e10,e11,e12,e13,e14,e15,e16,e17,e18,e19,e20⟩,hbx,_⟩:=hRq;have hbx:=hbx.cell;go_simp;(try with_reducible rfl)));(try simp only [Act.put,bw7,bw8,bw9])
  refine tkI 15 (i:=5) (v:=?_) (fw:=4) hQ' hR rfl (fun _=>rfl) ?_ ?_;rotate_left;(focus (intro wq hRq;obtain ⟨⟨e0,e1,e2,e3,e4,e5,e6,e7,e8,e9,e10,e11,e12,e13,e14,e15,e16,e17,e18,e19,e20⟩,hbx,_⟩:=hRq;have hbx:=hbx.cell;go_simp;(try with_reducible rfl)));(try simp only [Act.put,bw7,bw8,bw9])
  refine wpAnyI_ready (rs:=[3]) (by kernel_rfl) (by simp) ?_
  refine stepRI (i:=3) rfl (by kernel_rfl) (fun K hK=>?_) (AllReadyI.nil)
  go_simp
  refine ⟨trivial,?_⟩
  refine (CallsIn.inRound l1 (callsIn_wide.2 (HB.out _))).mono ?_
  rintro e wn ⟨rfl,hB'⟩
  have hR:AroundAt wn Bx A S C∧Boxed wn w.heap.size 3 (.int .i64 s)∧Below W.heap.size W wn:=⟨hR.1.below hB',boxed_below hR.2.1 hB',below_trans' hR.2.2 hB'⟩
  refine hK.out _ _ hR ?_
  clear hK K
  (try simp only [Act.put,bw7,bw8,bw9])
  refine wpAnyI_ready (rs:=[6]) (by kernel_rfl) (by simp) ?_
  refine stepRI (i:=6) rfl (by kernel_rfl) (fun K hK=>?_) (AllReadyI.nil)
  go_simp
  refine ⟨trivial,?_⟩
  refine (CallsIn.inRound l1 (callsIn_wide.2 (HC2.out _))).mono ?_
  rintro e wn ⟨rfl,hB'⟩
  have hR:AroundAt wn Bx A S C∧Boxed wn w.heap.size 3 (.int .i64 s)∧Below W.heap.size W wn:=⟨hR.1.below hB',boxed_below hR.2.1 hB',below_trans' hR.2.2 hB'⟩
  refine hK.out _ _ hR ?_
  clear hK K
  (try simp only [Act.put,bw7,bw8,bw9])
  refine wpAnyI_ready (rs:=[7]) (by kernel_rfl) (by simp) ?_
  refine stepRI (i:=7) rfl (by kernel_rfl) (fun K hK=>?_) (AllReadyI.nil)
  go_simp
  refine ⟨trivial,?_⟩
  refine (CallsIn.inRound l1 (callsIn_wide.2 (HX.out _))).mono ?_
  rintro e wn ⟨rfl,hB'⟩
  have hR:AroundAt wn Bx A S C∧Boxed wn w.heap.size 3 (.int .i64 s)∧Below W.heap.size W wn:=⟨hR.1.below hB',boxed_below hR.2.1 hB',below_trans' hR.2.2 hB'⟩
  refine hK.out _ _ hR ?_
  clear hK K
  (try simp only [Act.put,bw7,bw8,bw9])
  refine tkI 18 (i:=8) (v:=?_) (fw:=4) hQ' hR rfl (fun _=>rfl) ?_ ?_;rotate_left;(focus (intro wq hRq;obtain ⟨⟨e0,e1,e2,e3,e4,e5,e6,e7,e8,e9,e10,e11,e12,e13,e14,e15,e16,e17,e18,e19,e20⟩,hbx,_⟩:=hRq;have hbx:=hbx.cell;go_simp;(try with_reducible rfl)));(try simp only [Act.put,bw7,bw8,bw9])
  refine wpAnyI_ready (rs:=[9]) (by kernel_rfl) (by simp) ?_
  refine stepFI (i:=9) rfl (by kernel_rfl) (by kernel_rfl) (fun K hK=>?_) (AllReadyI.nil)
  have f0:=hR.2.1.cell
  have g0:=hR.2.1.frozen
  go_simp
  refine after_set1 hR.2.1 (fun wn hS hS2=>?_)
  clear f0 g0
  refine hK.out _ _ ?_
  clear hK K
  (try simp only [Act.put,bw7,bw8,bw9])
  refine wpAnyI_done (by kernel_rfl) ?_ _
  refine hN.out _ _ ?_
  gi_wp2
  have hT:=(TurnBut.of_below (b:=w.heap.size) hR.2.2).but hS
  exact ⟨hT.keepsFrom bS rfl,hT.kpR (Nat.le_refl _) hB.size bR.lt (by omega),⟨⟨by rw [HSN.out,HCR.out];exact hS2,(hS.block (w.heap.size+1) (by omega)).trans (boxed_below bR hR.2.2)⟩,hT.below hB (Nat.le_refl _) hB.size,Nat.le_trans hz hT.size⟩⟩
 case done =>
  rintro D ys W hD rfl ⟨⟨bS,bR⟩,hB,hz⟩ hK
  have hc:=bS.cell
  gi_wp2
  refine ⟨by simp,.inl ⟨_,_,rfl,run_takeDeferred hK,?_⟩⟩
  have hsum:sumOver l (List.finRange l.length)=twice l:=by rw [← fst_all,sumOver_fst l _ (Nat.le_refl _)];rfl
  refine ⟨_,results_tmp rfl _ _ _,?_,?_⟩
  ·exact congrArg (fun z=>Ending.returned (.int .i64 z)) hsum
  ·exact hB.trans (belowK_b (w:=w) (Nat.le_refl _) W D _ _ (by omega) hK rfl rfl)
 case stop =>
  rintro D c pre W _ _ h _
  exact h.elim
end Go.Proofs.YteepphiomcedfaaGreatDoor
namespace Go.Proofs.YteepphiomcedfaaGreatDoor
open Go.RowKit Go.Shelf
attribute [local go_sem] Oper.semAt_some
theorem pinside_any (l:Ring) (v:Value) (px py:Int) (w:World) (hv:IsRing w v l) (hl:l≠[]) (hlen:l.length≤1000) (hr:RRing l) :
  Calls Tryz.prog 215 #[v,spotV px py] w (RetB (.bool (insideB l px py)) w):=by
 have hl0:0 < l.length:=List.length_pos_iff.2 hl
 obtain ⟨b,off,cap,rfl,hc⟩:=hv.nonempty hl
 have hbw:b < w.heap.size:=lt_of_cell (hc 0 hl0).1
 have HC:=Lib.hid hc
 have HR:=Lib.hid hr
 clear hc hr hv
 unfold spotV
 refine (callsIn_wide (n:=5)).1 ?_
 refine callsIn_of_wp_marks Tryz.func215 rfl trivial ?_ rfl
 simp only [Tryz.ntmps215,List.size_toArray,List.length_cons,List.length_nil,Nat.reduceAdd,Nat.reduceSub,Array.replicate_succ,Array.replicate_zero,List.push_toArray,List.append_toArray,List.nil_append,List.cons_append]
 gi_wp2
 refine ⟨trivial,?_⟩
 refine (callsIn_wide.2 (psides_any _ _ _ _)).mono ?_
 rintro e w1 ⟨rfl,rfl⟩
 gi_wp2
 have hb0:Below w.heap.size w (((w.alloc (.cells #[.int .i64 px,.int .i64 py] 216)).alloc (.cells #[.bool false] 4)).alloc (.cells #[.slice (some ⟨b,off,none⟩) l.length cap] 66)):=qbl
 have hxp:Box2 (((w.alloc (.cells #[.int .i64 px,.int .i64 py] 216)).alloc (.cells #[.bool false] 4)).alloc (.cells #[.slice (some ⟨b,off,none⟩) l.length cap] 66)) w.heap.size 216 (.int .i64 px) (.int .i64 py):=(((box2_new rfl).below (bw4 (bw0 _ _) _)).below (bw4 (bw0 _ _) _))
 have hx0:Boxed (((w.alloc (.cells #[.int .i64 px,.int .i64 py] 216)).alloc (.cells #[.bool false] 4)).alloc (.cells #[.slice (some ⟨b,off,none⟩) l.length cap] 66)) (w.heap.size+1) 4 (.bool false):=by have h:=(Boxed.new (w.alloc (.cells #[.int .i64 px,.int .i64 py] 216)) 4 (.bool false)).alloc (.cells #[.slice (some ⟨b,off,none⟩) l.length cap] 66);simpa only [World.size_alloc] using h
 have hx1:Boxed (((w.alloc (.cells #[.int .i64 px,.int .i64 py] 216)).alloc (.cells #[.bool false] 4)).alloc (.cells #[.slice (some ⟨b,off,none⟩) l.length cap] 66)) (w.heap.size+2) 66 (.slice (some ⟨b,off,none⟩) l.length cap):=by have h:=Boxed.new ((w.alloc (.cells #[.int .i64 px,.int .i64 py] 216)).alloc (.cells #[.bool false] 4)) 66 (.slice (some ⟨b,off,none⟩) l.length cap);simpa only [World.size_alloc] using h
 have hsz:(((w.alloc (.cells #[.int .i64 px,.int .i64 py] 216)).alloc (.cells #[.bool false] 4)).alloc (.cells #[.slice (some ⟨b,off,none⟩) l.length cap] 66)).heap.size=w.heap.size+3:=by simp
 generalize (((w.alloc (.cells #[.int .i64 px,.int .i64 py] 216)).alloc (.cells #[.bool false] 4)).alloc (.cells #[.slice (some ⟨b,off,none⟩) l.length cap] 66))=W0 at *
 refine wpIn_rangeFunc_ownH rfl (by omega) (gf:=254) (lb:=#[.pointer (some ⟨w.heap.size+2,0,none⟩)]) rfl trivial (enters_of Tryz.func254 (by kernel_rfl) rfl)
  (sides_stops l _ (by omega) (w.heap.size+2) w.heap.size b off cap hlen hl0 W0 hbw hb0.size hx1.cell (fun k hk=>(HC.out k hk).below hb0)) KpR.t (KpR.b hb0.size (by omega)) (bw0 _ _) (fun _=>rfl)
  (fun pre W=>((Boxed W (w.heap.size+1) 4 (.bool (insOver l px py pre))∧Boxed W (w.heap.size+2) 66 (.slice (some ⟨b,off,none⟩) l.length cap))∧Box2 W w.heap.size 216 (.int .i64 px) (.int .i64 py))∧Below w.heap.size w W∧w.heap.size+3≤W.heap.size)
  (fun _ _ _=>False)
  (OwnFrom.and (OwnFrom.and (OwnFrom.and (Own.from (boxed_own _ _ _) _) (Own.from (boxed_own _ _ _) _)) (cells_own rfl)) (OwnFrom.and (ownFrom_below (Nat.le_refl _) (by omega)) (fun s A B row hs hg hr=>Nat.le_trans hs hg.size)))
  (fun _ _ _ _ _ hs _ _=>hs)
  ⟨⟨⟨hx0,hx1⟩,hxp⟩,hb0,by omega⟩
  (fun x a' W=>∃ Bx,w.heap.size+2 < Bx∧BoxA W Bx (pv l x.1) (sd l x.1) (nx l x.1)∧a'={ tmps:=#[.slice (some ⟨b,off,none⟩) l.length cap,.agg #[.int .i64 px,.int .i64 py],undef,.pointer (some ⟨w.heap.size,0,none⟩),.bool false,.pointer (some ⟨w.heap.size+1,0,none⟩),undef,.pointer (some ⟨Bx,0,none⟩),undef,.slice (some ⟨b,off,none⟩) l.length cap,.func (.func 254) #[] #[.pointer (some ⟨w.heap.size+1+1,0,none⟩)],.int .i64 x.1,aroundV (pv l x.1) (sd l x.1) (nx l x.1),undef,undef,undef,undef,undef,undef,undef,undef,undef,undef,undef,undef,undef,undef,undef,undef,undef,undef,undef,undef,undef,undef,undef,undef,undef,undef,undef,undef,undef,undef,undef],defers:=[] })
  (fun x a' _ X Y row hs hg hr=>by obtain ⟨Bx,h1,h2,h3⟩:=hs;exact ⟨Bx,h1,boxA_own () X Y row h2 hg hr,h3⟩)
  ?assign ?body ?done ?stop
 case assign =>
  rintro l1 pre x W K ⟨⟨⟨bS,bR⟩,bP⟩,hB,hz⟩ hK
  unfold encS
  gi_wp2_with (refine wpListIn_store21 rfl _ _ rfl _ _ rfl (pv l x.1) (sd l x.1) (nx l x.1) rfl rfl ?_)
  exact hK _ _ ((KeepsOthers.alloc _ _).from _) ⟨(bw0 _ W).alloc hB.size _,Below.heap_alloc _ _ _ bR.lt⟩ ⟨⟨⟨bS.alloc _,bR.alloc _⟩,bP.below (bw4 (bw0 _ _) _)⟩,hB.alloc hB.size _,by simp;omega⟩ ⟨W.heap.size,bR.lt,boxA_new,rfl⟩
 case body =>
  rintro l1 pre x a' W hl1 ⟨r,hr⟩ ⟨⟨⟨bS,bR⟩,bP⟩,hB,hz⟩ ⟨Bx,hBx,bX,rfl⟩ hlt
  have HB:=Lib.hid (corner_any (sd l x.1))
  have hS1:=HR.out x.1 x.2
  have hS2:=HR.out (nxi l.length x.1) (nxi_lt x.2)
  rw [show sd l (nxi l.length x.1)=nx l x.1 from rfl] at hS2
  have HW:=Lib.hid (fun W=>way_any (pv l x.1) (sd l x.1) (nx l x.1) W hS1 hS2)
  have HIT:=Lib.hid (insOver_hit (x:=px) (y:=py) pre x)
  have NOT:=Lib.hid (insOver_not (x:=px) (y:=py) pre x)
  have HD:Hid (Hit l px py x.1↔((nx l x.1).x - (sd l x.1).x=0∧px < (sd l x.1).x∧(decide (py < (sd l x.1).y) != decide (py < (nx l x.1).y))=true)):=Lib.hid hit_iff
  clear hS1 hS2
  have hA0:=bX.at
  have hA1:=hA0
  obtain ⟨e0,e1,e2,e3,e4,e5,e6,e7,e8,e9,e10,e11,e12,e13,e14,e15,e16,e17,e18,e19,e20⟩:=hA1
  generalize pv l x.1=A at *
  generalize nx l x.1=C at *
  generalize sd l x.1=S at *
  generalize insOver l px py pre=o at *
  clear e0 e1 e2 e3 e4 e5 e6 e14 e15 e16 e17 e18 e19 e20
  gi_wp2
  refine ⟨trivial,?_⟩
  refine (CallsIn.inRound l1 (callsIn_wide.2 (HB.out _))).mono ?_
  unfold spotV
  rintro e w1 ⟨rfl,hB1⟩
  have hA1:=hA0.below hB1
  clear hA0 e7 e8 e9 e10 e11 e12 e13
  gi_wp2_with (refine wpListIn_load21 rfl _ rfl (b:=Bx) (A:=A) (B:=S) (C:=C) (hA1.below qbl) rfl ?_)
  refine ⟨trivial,?_⟩
  refine (CallsIn.inRound l1 (callsIn_wide.2 (HW.out _))).mono ?_
  unfold spotV
  rintro e w2 ⟨rfl,hB2⟩
  have hq:Box2 (w1.alloc (.cells #[.int .i64 S.x,.int .i64 S.y] 216)) w1.heap.size 216 (.int .i64 S.x) (.int .i64 S.y):=box2_new rfl
  have hq2:=hq.below hB2
  have hA2:=(hA1.below (bw4 (bw0 _ _) (.cells #[.int .i64 S.x,.int .i64 S.y] 216))).below hB2
  have hBW:Below W.heap.size W w2:=qbl
  have bS2:=boxed_below bS hBW
  have bP2:=bP.below hBW
  obtain ⟨p0,p1,_,_,_⟩:=bP2.facts
  obtain ⟨c0,c1,_,_,_⟩:=hq2.facts
  obtain ⟨e0,e1,e2,e3,e4,e5,e6,e7,e8,e9,e10,e11,e12,e13,e14,e15,e16,e17,e18,e19,e20⟩:=hA2
  clear e0 e1 e2 e3 e4 e5 e6 e7 e8 e9 e10 e11 e12 e13 e14 e16 e17 e18 e19 e20 hA1 hq hq2 hB1 hB2
  have cS:=bS2.cell
  have hfs:=field_spot0 (C.x - S.x) (C.y - S.y)
  have fS:=bS2.frozen
  have hne1:w.heap.size+2≠w.heap.size+1:=by omega
  have fin:∀ W3:World,SameBut (w.heap.size+1) w2 W3→∀ o':Bool,Boxed W3 (w.heap.size+1) 4 (.bool o')→o'=insOver l px py (pre++[x])→KeepsFrom W0.heap.size W W3∧KpR w.heap.size (w.heap.size+2) W W3∧(((Boxed W3 (w.heap.size+1) 4 (.bool (insOver l px py (pre++[x])))∧Boxed W3 (w.heap.size+2) 66 (.slice (some ⟨b,off,none⟩) l.length cap))∧Box2 W3 w.heap.size 216 (.int .i64 px) (.int .i64 py))∧Below w.heap.size w W3∧w.heap.size+3≤W3.heap.size):=by
   intro W3 hS o' hb ho
   have hT:=(TurnBut.of_below (b:=w.heap.size+1) hBW).but hS
   exact ⟨hT.keepsFrom bS rfl,hT.kpR (by omega) hB.size bR.lt hne1,⟨⟨⟨by rw [← ho];exact hb,(hS.block (w.heap.size+2) hne1).trans (boxed_below bR hBW)⟩,bP2.but hS (by omega)⟩,hT.below hB (by omega) hB.size,Nat.le_trans hz hT.size⟩⟩
  have FIN:=Lib.hid fin
  clear fin
  obtain ⟨q1,d1⟩:∃ p,(C.x - S.x == 0)=p:=⟨_,rfl⟩
  obtain ⟨q2,d2⟩:∃ p,decide (px < S.x)=p:=⟨_,rfl⟩
  obtain ⟨q3,d3⟩:∃ p,decide (py < S.y)=p:=⟨_,rfl⟩
  obtain ⟨q4,d4⟩:∃ p,decide (py < C.y)=p:=⟨_,rfl⟩
  have D1:=Lib.hid d1
  have D2:=Lib.hid d2
  have D3:=Lib.hid d3
  have D4:=Lib.hid d4
  have HQ:=Lib.hid (show (q1=false∨q2=false∨(q3 != q4)=false→¬ Hit l px py x.1)∧(q1=true→q2=true→(q3 != q4)=true→Hit l px py x.1) by
   constructor
   ·intro h hh
    obtain ⟨g1,g2,g3⟩:=HD.out.1 hh
    rw [d3,d4] at g3
    rcases h with h|h|h
    ·rw [h] at d1;simp [g1] at d1
    ·rw [h] at d2;simp [g2] at d2
    ·rw [h] at g3;cases g3
   ·intro h1 h2 h3
    rw [h1] at d1;rw [h2] at d2
    exact HD.out.2 ⟨by simpa using d1,by simpa using d2,by rw [d3,d4];exact h3⟩)
  rcases four_cases q1 q2 q3 q4 with rfl|⟨rfl,rfl⟩|⟨rfl,rfl,rfl⟩|⟨rfl,rfl,rfl,rfl⟩|⟨rfl,rfl,rfl,rfl⟩
  ·gi_wp2
   exact FIN.out _ ⟨rfl,rfl,rfl,rfl,fun _ _=>rfl⟩ _ bS2 (by rw [NOT.out (HQ.out.1 (.inl (by trivial)))])
  ·gi_wp2
   exact FIN.out _ ⟨rfl,rfl,rfl,rfl,fun _ _=>rfl⟩ _ bS2 (by rw [NOT.out (HQ.out.1 (.inr (.inl (by trivial))))])
  ·cases q4
   ·gi_wp2
    exact FIN.out _ ⟨rfl,rfl,rfl,rfl,fun _ _=>rfl⟩ _ bS2 (by rw [NOT.out (HQ.out.1 (.inr (.inr (by trivial))))])
   ·gi_wp2
    exact FIN.out _ (sameBut_setCell _ _ _ _) _ (bS2.set _) (by rw [HIT.out (HQ.out.2 (by trivial) (by trivial) (by trivial))])
  ·gi_wp2
   exact FIN.out _ (sameBut_setCell _ _ _ _) _ (bS2.set _) (by rw [HIT.out (HQ.out.2 (by trivial) (by trivial) (by trivial))])
  ·gi_wp2
   exact FIN.out _ ⟨rfl,rfl,rfl,rfl,fun _ _=>rfl⟩ _ bS2 (by rw [NOT.out (HQ.out.1 (.inr (.inr (by trivial))))])
 case done =>
  rintro D ys W hD rfl ⟨⟨⟨bS,bR⟩,bP⟩,hB,hz⟩ hK
  have hc:=bS.cell
  gi_wp2
  refine ⟨by simp,.inl ⟨_,_,rfl,run_takeDeferred hK,?_⟩⟩
  have hsum:insOver l px py (List.finRange l.length)=insideB l px py:=by rw [← fst_all,insOver_fst l px py _ (Nat.le_refl _)];rfl
  refine ⟨_,results_tmp rfl _ _ _,?_,?_⟩
  ·exact congrArg (fun z=>Ending.returned (.bool z)) hsum
  ·exact hB.trans (belowK_b (w:=w) (Nat.le_refl _) W D _ _ (by omega) hK rfl rfl)
 case stop =>
  rintro D c pre W _ _ h _
  exact h.elim
end Go.Proofs.YteepphiomcedfaaGreatDoor
namespace Go.Proofs.YteepphiomcedfaaGreatDoor
open Go.RowKit
theorem pplaced_ok (P:List Ring) (v:Value) (w:World) (hv:IsRings w v P) (hval:Valid P) :
  Calls Tryz.prog 161 #[v] w (RetB (.bool true) w):=by
 obtain ⟨a,cap,rfl,h⟩:=hv
 have hP0:0 < P.length:=List.length_pos_iff.2 hval.ne
 have hP1:P.length≤24:=by have:=rings_le hval.nes P.length (Nat.le_refl _);have:=hval.tot;omega
 obtain ⟨b,off,rfl,hc⟩:=h hval.ne
 have HL:=Lib.hid (fun r (hr:r < P.length)=>(show (rg P r).length≤1000 by have:=len_le hr;have:=hval.tot;omega))
 have HV:=Lib.hid hval
 have HC:=Lib.hid hc
 clear h hc hval
 go_enter Tryz.func161,Tryz.ntmps161
 go_wp2_with fail
 go_loopw [9] (fun i wr=>∃ r:Nat,r≤P.length∧i=.int .i64 r∧Below w.heap.size w wr) (fun i _=>P.length - (intOf i).toNat)
 case atStart=>exact ⟨0,by omega,rfl,bw0 _ _⟩
 case round =>
  obtain ⟨r,hr,rfl,hB⟩:=hrel
  by_cases hrP:r < P.length
  ·obtain ⟨ur,cr,hur⟩:=HC.out r hrP
   have cr':=keep hB cr
   have hne:=HV.out.nes r hrP
   have hl0:0 < (rg P r).length:=List.length_pos_iff.2 hne
   have hA:=Lib.hid (fun W hW=>area_any (rg P r) ur W (hur.below hW) hne (HL.out r hrP) (HV.out.ran r hrP))
   obtain ⟨br,offr,capr,rfl,hcr⟩:=hur.nonempty hne
   have HCR:=Lib.hid (hcr 0 hl0)
   clear hcr hur
   by_cases h0:r=0
   ·have e0:((r:Int) == 0)=true:=by simp;omega
    have htw:0 < twice (rg P r):=by rw [h0];exact HV.out.plc.1
    clear h0
    generalize twice (rg P r)=t at *
    go_wp2_with fail
    refine (hA.out _ hB).mono ?_
    rintro e w1 ⟨rfl,hB1⟩
    have hB2:Below w.heap.size w w1:=below_trans' hB hB1
    clear hB1 cr'
    go_wp2_with fail
    go_loopw [22] (fun i wr=>∃ s:Nat,s≤P.length∧i=.int .i64 s∧Below w.heap.size w wr) (fun i _=>P.length - (intOf i).toNat)
    case atStart=>exact ⟨0,by omega,rfl,hB2⟩
    case round =>
     obtain ⟨s,hs,rfl,hB3⟩:=hrel
     by_cases hsP:s < P.length
     ·obtain ⟨us,cs,hus⟩:=HC.out s hsP
      have cs':=keep hB3 cs
      obtain ⟨as',caps,rfl,_⟩:=hus
      by_cases hsr:s=r
      ·have e1:((s:Int) == (r:Int))=true:=by simp;omega
       have e2:(s == r)=true:=by simp;omega
       clear hsr
       go_wp2_with fail
       go_roundw
       case rel=>exact ⟨s+1,hsP,by go_num,hB3⟩
       case measure=>simp [intOf];omega
      ·have e1:((s:Int) == (r:Int))=false:=by simp;omega
       have e2:(s == r)=false:=by simp;omega
       clear hsr
       go_wp2_with fail
       go_roundw
       case rel=>exact ⟨s+1,hsP,by go_num,hB3⟩
       case measure=>simp [intOf];omega
     ·have e:s=P.length:=by omega
      subst e
      go_wp2_with fail
      go_roundw
      case rel=>exact ⟨r+1,by omega,by go_num,hB3⟩
      case measure=>simp [intOf];omega
   ·have e0:((r:Int) == 0)=false:=by simp;omega
    have htw:¬ 0 < twice (rg P r):=by have:=(HV.out.plc.2 r (by omega) hrP).1;omega
    have HR0:=Lib.hid h0
    clear h0
    generalize twice (rg P r)=t at *
    go_wp2_with fail
    refine (hA.out _ hB).mono ?_
    rintro e w1 ⟨rfl,hB1⟩
    have hB2:Below w.heap.size w w1:=below_trans' hB hB1
    clear hB1 cr'
    go_wp2_with fail
    go_loopw [22] (fun i wr=>∃ s:Nat,s≤P.length∧i=.int .i64 s∧Below w.heap.size w wr) (fun i _=>P.length - (intOf i).toNat)
    case atStart=>exact ⟨0,by omega,rfl,hB2⟩
    case round =>
     obtain ⟨s,hs,rfl,hB3⟩:=hrel
     by_cases hsP:s < P.length
     ·obtain ⟨us,cs,hus⟩:=HC.out s hsP
      have cs':=keep hB3 cs
      by_cases hsr:s=r
      ·obtain ⟨as',caps,rfl,_⟩:=hus
       have e1:((s:Int) == (r:Int))=true:=by simp;omega
       have e2:(s == r)=true:=by simp;omega
       clear hsr
       go_wp2_with fail
       go_roundw
       case rel=>exact ⟨s+1,hsP,by go_num,hB3⟩
       case measure=>simp [intOf];omega
      ·have hI:=Lib.hid (fun W hW=>pinside_any (rg P s) us (sd (rg P r) 0).x (sd (rg P r) 0).y W (hus.below hW) (HV.out.nes s hsP) (HL.out s hsP) (HV.out.ran s hsP))
       have hin:=(HV.out.plc.2 r (by have:=HR0.out;omega) hrP).2 s hsP hsr
       obtain ⟨as',caps,rfl,_⟩:=hus
       obtain ⟨d0,d1,d2,d3,d4,d5,d6⟩:=HCR.out.below hB3
       simp only [Nat.zero_mul,Nat.add_zero] at d0 d1 d2 d3 d4 d5 d6
       have hK:=Lib.hid (corner_any (sd (rg P r) 0))
       have e1:((s:Int) == (r:Int))=false:=by simp;omega
       have e2:(s == r)=false:=by simp;omega
       have e3:((s:Int) == 0)=decide (s=0):=by rw [Bool.eq_iff_iff];simp
       rw [← e3] at hin
       clear hsr e3
       unfold spotV sideV at *
       generalize insideB (rg P s) (sd (rg P r) 0).x (sd (rg P r) 0).y=ib at *
       generalize sd (rg P r) 0=S at *
       cases ib
       ·have e4:((s:Int) == 0)=false:=hin.symm
        clear hin
        go_wp2_with fail
        refine (hK.out _).mono ?_
        rintro e w2 ⟨rfl,hB4⟩
        have hB5:Below w.heap.size w w2:=below_trans' hB3 hB4
        clear hB4 d0 d1 d2 d3 d4 d5 d6 cs'
        go_wp2_with fail
        refine (hI.out _ hB5).mono ?_
        rintro e w3 ⟨rfl,hB6⟩
        have hB7:Below w.heap.size w w3:=below_trans' hB5 hB6
        clear hB6
        go_wp2_with fail
        go_roundw
        case rel=>exact ⟨s+1,hsP,by go_num,hB7⟩
        case measure=>simp [intOf];omega
       ·have e4:((s:Int) == 0)=true:=hin.symm
        clear hin
        go_wp2_with fail
        refine (hK.out _).mono ?_
        rintro e w2 ⟨rfl,hB4⟩
        have hB5:Below w.heap.size w w2:=below_trans' hB3 hB4
        clear hB4 d0 d1 d2 d3 d4 d5 d6 cs'
        go_wp2_with fail
        refine (hI.out _ hB5).mono ?_
        rintro e w3 ⟨rfl,hB6⟩
        have hB7:Below w.heap.size w w3:=below_trans' hB5 hB6
        clear hB6
        go_wp2_with fail
        go_roundw
        case rel=>exact ⟨s+1,hsP,by go_num,hB7⟩
        case measure=>simp [intOf];omega
     ·have e:s=P.length:=by omega
      subst e
      go_wp2_with fail
      go_roundw
      case rel=>exact ⟨r+1,by omega,by go_num,hB3⟩
      case measure=>simp [intOf];omega
  ·have e:r=P.length:=by omega
   subst e
   go_wp2_with fail
   go_ret
   exact ⟨rfl,hB⟩
end Go.Proofs.YteepphiomcedfaaGreatDoor
namespace Go.Proofs.YteepphiomcedfaaGreatDoor
open Go.RowKit Go.Shelf
attribute [local go_sem] Oper.semAt_some
def ngOver (l:Ring) (xs:List (Fin l.length)):Bool:=xs.any fun i=>!(sd l i.1).gable
theorem ngOver_snoc (l:Ring) (xs:List (Fin l.length)) (x:Fin l.length):ngOver l (xs++[x])=(ngOver l xs || !(sd l x.1).gable):=by simp [ngOver]
def ngTo (P:List Ring):Nat→Bool
 | 0=>false
 | r+1=>ngTo P r || ngOver (rg P r) (List.finRange (rg P r).length)
theorem ngTo_all {P:List Ring} {r i:Nat} (hr:r < P.length) (hi:i < (rg P r).length) (h:(sd (rg P r) i).gable=false):ngTo P P.length=true:=by
 have h1:ngOver (rg P r) (List.finRange (rg P r).length)=true:=by
  rw [ngOver,List.any_eq_true]
  exact ⟨⟨i,hi⟩,List.mem_finRange _,by simp [h]⟩
 have key:∀ k,r < k→ngTo P k=true:=by
  intro k
  induction k with
  | zero=>intro h;omega
  | succ k ih =>
   intro hk
   by_cases e:k=r
   ·subst e;simp [ngTo,h1]
   ·simp [ngTo,ih (by omega)]
 exact key _ hr
structure JInv (P:List Ring) (r:Nat) (w:World) (Ds:List Nat) (W:World):Prop where
 res:Boxed W w.heap.size 4 (.bool false)
 some:Boxed W (w.heap.size+1) 4 (.bool (ngTo P r))
 below:Below w.heap.size w W
 size:w.heap.size+2≤W.heap.size
 nodup:Ds.Nodup
 marks:∀ D ∈ Ds,w.heap.size+2≤D∧W.heap[D]?=Option.some (.deferred (Option.some []))
theorem pjoined_ok (P:List Ring) (v:Value) (w:World) (hv:IsRings w v P) (hval:Valid P) :
  Calls Tryz.prog 162 #[v] w (RetB (.bool true) w):=by
 obtain ⟨a,cap,rfl,h⟩:=hv
 have hP0:0 < P.length:=List.length_pos_iff.2 hval.ne
 have hP1:P.length≤24:=by have:=rings_le hval.nes P.length (Nat.le_refl _);have:=hval.tot;omega
 obtain ⟨b,off,rfl,hc⟩:=h hval.ne
 have HL:=Lib.hid (fun r (hr:r < P.length)=>(show (rg P r).length≤1000 by have:=len_le hr;have:=hval.tot;omega))
 have HV:=Lib.hid hval
 have HC:=Lib.hid hc
 clear h hc hval
 refine (callsIn_wide (n:=5)).1 ?_
 refine callsIn_of_wp_marks Tryz.func162 rfl trivial ?_ rfl
 simp only [Tryz.ntmps162,List.size_toArray,List.length_cons,List.length_nil,Nat.reduceAdd,Nat.reduceSub,Array.replicate_succ,Array.replicate_zero,List.push_toArray,List.append_toArray,List.nil_append,List.cons_append]
 gi_wp2
 refine wpIn_loop_ghost_k (fun (g:Nat) (a':Act) (w':World)=>∃ (Ds:List Nat) (u4 u5 u6 u7 u10 u11 u12 u13 u14 u15 u16 u17 u18 u19 u20 u21 u22 u23 u24 u25 u26 u27 u28 u29 u30 u31 u32 u33 u34 u35 u36 u37 u38 u39 u40 u41 u42 u43 u44 u45 u46 u47 u48:Value),(∃ r:Nat,r≤P.length∧g=P.length - r∧u10=.int .i64 r∧JInv P r w Ds w')∧a'={ tmps:=#[.slice (some ⟨b,off,none⟩) P.length cap,undef,.pointer (some ⟨w.heap.size,0,none⟩),.pointer (some ⟨w.heap.size+1,0,none⟩),u4,u5,u6,u7,.slice (some ⟨b,off,none⟩) P.length cap,.int .i64 P.length,u10,u11,u12,u13,u14,u15,u16,u17,u18,u19,u20,u21,u22,u23,u24,u25,u26,u27,u28,u29,u30,u31,u32,u33,u34,u35,u36,u37,u38,u39,u40,u41,u42,u43,u44,u45,u46,u47,u48],defers:=Ds.map markOf }) P.length ?_ ?_
 ·exact ⟨[],_,_,_,_,_,_,_,_,_,_,_,_,_,_,_,_,_,_,_,_,_,_,_,_,_,_,_,_,_,_,_,_,_,_,_,_,_,_,_,_,_,_,_,⟨0,by omega,rfl,rfl,⟨(Boxed.new w _ _).alloc _,by have h:=Boxed.new (w.alloc (.cells #[.bool false] 4)) 4 (.bool false);rw [World.size_alloc] at h;exact h,qbl,by simp,List.nodup_nil,by simp⟩⟩,rfl⟩
 ·rintro g _ wr ⟨Ds,u4,u5,u6,u7,u10,u11,u12,u13,u14,u15,u16,u17,u18,u19,u20,u21,u22,u23,u24,u25,u26,u27,u28,u29,u30,u31,u32,u33,u34,u35,u36,u37,u38,u39,u40,u41,u42,u43,u44,u45,u46,u47,u48,hrel,rfl⟩ J K hJ hK
  obtain ⟨r,hr,rfl,rfl,hI⟩:=hrel
  have cS:=hI.some.cell
  have cR:=hI.res.cell
  have fR:=hI.res.frozen
  have fS:=hI.some.frozen
  by_cases hrP:r=P.length
  ·subst hrP
   obtain ⟨r0,i0,hr0,hi0,hg0⟩:=HV.out.rfx.2
   have hng:=ngTo_all hr0 hi0 hg0
   rw [hng] at cS
   gi_wp2
   refine leaves_marks (w.heap.size+2) Ds _ hI.nodup (fun D hD=>?_) (fun W' hB' hcc=>?_)
   ·obtain ⟨x1,x2⟩:=hI.marks D hD
    exact ⟨x1,(KeepsOthers.setCell _ _ _).same D _ x2 rfl⟩
   ·have hW1:W'.cell? ⟨w.heap.size,0,none⟩=some (.bool true):=cell_keeps (hI.res.set (.bool true)).cell hcc
    exact ⟨.bool true,by simp [results,Tryz.results162,go_sem,hW1],rfl,(hI.below.setCell (Nat.le_refl _) _).trans (hB'.mono (by omega))⟩
  ·have hr1:r < P.length:=by omega
   have hri:(r:Int) < (P.length:Int):=by omega
   obtain ⟨ur,cr,hur⟩:=HC.out r hr1
   have cr':=keep hI.below cr
   have hne:=HV.out.nes r hr1
   have hl0:0 < (rg P r).length:=List.length_pos_iff.2 hne
   obtain ⟨br,offr,capr,rfl,hcr⟩:=hur.nonempty hne
   have hbw:br < w.heap.size:=lt_of_cell (hcr 0 hl0).1
   have HCR:=Lib.hid hcr
   have hlen:=HL.out r hr1
   clear hcr hur cr
   gi_wp2
   refine ⟨trivial,?_⟩
   refine (callsIn_wide.2 (psides_any _ _ _ _)).mono ?_
   rintro e w1 ⟨rfl,rfl⟩
   gi_wp2
   have hx1:=Boxed.new wr 66 (.slice (some ⟨br,offr,none⟩) (rg P r).length capr)
   have hb0:Below w.heap.size w (wr.alloc (.cells #[.slice (some ⟨br,offr,none⟩) (rg P r).length capr] 66)):=hI.below.alloc hI.below.size _
   have hbr:Below wr.heap.size wr (wr.alloc (.cells #[.slice (some ⟨br,offr,none⟩) (rg P r).length capr] 66)):=bw4 (bw0 _ _) _
   have hsz:(wr.alloc (.cells #[.slice (some ⟨br,offr,none⟩) (rg P r).length capr] 66)).heap.size=wr.heap.size+1:=by simp
   have hmk:∀ D ∈ Ds,w.heap.size+2≤D∧(wr.alloc (.cells #[.slice (some ⟨br,offr,none⟩) (rg P r).length capr] 66)).heap[D]?=some (.deferred (some [])):=fun D hD=>⟨(hI.marks D hD).1,(hbr.block D (Array.getElem?_eq_some_iff.1 (hI.marks D hD).2).1).trans (hI.marks D hD).2⟩
   have hmlt:∀ D ∈ Ds,D < wr.heap.size:=fun D hD=>(Array.getElem?_eq_some_iff.1 (hI.marks D hD).2).1
   have hs0:=boxed_below hI.some hbr
   have hr0:=boxed_below hI.res hbr
   generalize wr.alloc (.cells #[.slice (some ⟨br,offr,none⟩) (rg P r).length capr] 66)=W0 at *
   have hzI:=hI.size
   have HRG:Hid (RRing (rg P r)):=Lib.hid (HV.out.ran r hr1)
   have HSH:Hid (Shaped (rg P r)):=Lib.hid (HV.out.shp r hr1)
   have HBD:Hid (∀ i,i < (rg P r).length→¬ Bad (rg P r) i):=Lib.hid (HV.out.rfx.1 r hr1)
   have HNX:Hid (ngTo P (r+1)=(ngTo P r || ngOver (rg P r) (List.finRange (rg P r).length))):=Lib.hid rfl
   generalize ngTo P r=o0 at *
   generalize rg P r=l at *
   refine wpIn_rangeFunc_ownH rfl (by omega) (gf:=254) (lb:=#[.pointer (some ⟨wr.heap.size,0,none⟩)]) rfl trivial (enters_of Tryz.func254 (by kernel_rfl) rfl)
    (sides_stops l _ (by omega) wr.heap.size w.heap.size br offr capr hlen hl0 W0 hbw hb0.size hx1.cell (fun k hk=>(HCR.out k hk).below hb0)) KpR.t (KpR.b hb0.size (by omega)) (bw0 _ _) (fun _=>rfl)
    (fun pre W=>((Boxed W w.heap.size 4 (.bool false)∧Boxed W (w.heap.size+1) 4 (.bool (o0 || ngOver l pre)))∧Boxed W wr.heap.size 66 (.slice (some ⟨br,offr,none⟩) l.length capr))∧(Below w.heap.size w W∧W0.heap.size≤W.heap.size)∧(∀ D ∈ Ds,w.heap.size+2≤D∧W.heap[D]?=some (.deferred (some []))))
    (fun _ _ _=>False)
    (OwnFrom.and (OwnFrom.and (OwnFrom.and (Own.from (boxed_own _ _ _) _) (Own.from (boxed_own _ _ _) _)) (Own.from (boxed_own _ _ _) _)) (OwnFrom.and (OwnFrom.and (ownFrom_below (Nat.le_refl _) (by omega)) (fun s A B row hs hg hr=>Nat.le_trans hs hg.size)) (marks_own (fun D hD=>by have:=hmlt D hD;omega))))
    (fun _ _ _ _ _ hs _ _=>hs)
    ⟨⟨⟨hr0,by simpa [ngOver] using hs0⟩,hx1⟩,⟨hb0,Nat.le_refl _⟩,hmk⟩
    (fun x a' W=>∃ Bx,wr.heap.size < Bx∧BoxA W Bx (pv l x.1) (sd l x.1) (nx l x.1)∧a'={ tmps:=#[.slice (some ⟨b,off,none⟩) P.length cap,undef,.pointer (some ⟨w.heap.size,0,none⟩),.pointer (some ⟨w.heap.size+1,0,none⟩),u4,.slice (some ⟨br,offr,none⟩) l.length capr,u6,.pointer (some ⟨Bx,0,none⟩),.slice (some ⟨b,off,none⟩) P.length cap,.int .i64 P.length,.int .i64 r,.bool true,.pointer (some ⟨b,off+r,none⟩),.slice (some ⟨br,offr,none⟩) l.length capr,.slice (some ⟨br,offr,none⟩) l.length capr,.func (.func 254) #[] #[.pointer (some ⟨wr.heap.size,0,none⟩)],.int .i64 x.1,aroundV (pv l x.1) (sd l x.1) (nx l x.1),u18,u19,u20,u21,u22,u23,u24,u25,u26,u27,u28,u29,u30,u31,u32,u33,u34,u35,u36,u37,u38,u39,u40,u41,u42,u43,u44,u45,u46,u47,u48],defers:=[] })
    (fun x a' _ X Y row hs hg hr=>by obtain ⟨Bx,h1,h2,h3⟩:=hs;exact ⟨Bx,h1,boxA_own () X Y row h2 hg hr,h3⟩)
    ?assign ?body ?done ?stop
   case assign =>
    rintro l1 pre x W K' ⟨⟨⟨bS,bO⟩,bR⟩,⟨hB,hz⟩,hM⟩ hK'
    unfold encS
    gi_wp2_with (refine wpListIn_store21 rfl _ _ rfl _ _ rfl (pv l x.1) (sd l x.1) (nx l x.1) rfl rfl ?_)
    exact hK' _ _ ((KeepsOthers.alloc _ _).from _) ⟨(bw0 _ W).alloc hB.size _,Below.heap_alloc _ _ _ bR.lt⟩ ⟨⟨⟨bS.alloc _,bO.alloc _⟩,bR.alloc _⟩,⟨hB.alloc hB.size _,by simp;omega⟩,fun D hD=>⟨(hM D hD).1,(Below.heap_alloc W _ D (Array.getElem?_eq_some_iff.1 (hM D hD).2).1).trans (hM D hD).2⟩⟩ ⟨W.heap.size,bR.lt,boxA_new,rfl⟩
   case body =>
    rintro l1 pre x a' W hl1 ⟨rr,hrr⟩ ⟨⟨⟨bS,bO⟩,bR⟩,⟨hB,hz⟩,hM⟩ ⟨Bx,hBx,bX,rfl⟩ hlt
    have hS0:=HRG.out (pvi l.length x.1) (pvi_lt x.2)
    have hS1:=HRG.out x.1 x.2
    have hS2:=HRG.out (nxi l.length x.1) (nxi_lt x.2)
    rw [show sd l (nxi l.length x.1)=nx l x.1 from rfl] at hS2
    rw [show sd l (pvi l.length x.1)=pv l x.1 from rfl] at hS0
    have HLF:=Lib.hid (fun W=>left_any (pv l x.1) (sd l x.1) (nx l x.1) W hS0 hS1 hS2)
    have HSN:=Lib.hid (ngOver_snoc l pre x)
    have HNB:Hid (leftB (pv l x.1) (sd l x.1) (nx l x.1)=false→(pv l x.1).gable=false∧(sd l x.1).gable=false∧(pv l x.1).plate=(sd l x.1).plate):=Lib.hid (by
     intro h
     have hn:=HBD.out x.1 x.2
     have ht:=(shaped_ways HSH.out x.2).2.2
     have h':¬ 0 < vx l x.1 * wy l x.1 - vy l x.1 * wx l x.1:=by
      have h2:¬ ((sd l x.1).y - (pv l x.1).y) * ((nx l x.1).x - (sd l x.1).x) < ((sd l x.1).x - (pv l x.1).x) * ((nx l x.1).y - (sd l x.1).y):=by simpa [leftB] using h
      unfold vx vy wx wy
      omega
     have htn:=ht.2 h'
     refine ⟨?_,?_,?_⟩
     ·cases hg:(pv l x.1).gable
      ·rfl
      ·exact absurd ⟨htn,.inl hg⟩ hn
     ·cases hg:(sd l x.1).gable
      ·rfl
      ·exact absurd ⟨htn,.inr (.inl hg)⟩ hn
     ·exact Decidable.byContradiction fun hp=>hn ⟨htn,.inr (.inr hp)⟩)
    clear hS0 hS1 hS2
    have hA0:=bX.at
    have hA1:=hA0
    obtain ⟨e0,e1,e2,e3,e4,e5,e6,e7,e8,e9,e10,e11,e12,e13,e14,e15,e16,e17,e18,e19,e20⟩:=hA1
    clear e0 e1 e2 e3 e4 e5 e6 e7 e8 e9 e10 e12 e13 e14 e15 e16 e17 e18 e19 e20
    have cO:=bO.cell
    have fO:=bO.frozen
    generalize pv l x.1=A at *
    generalize nx l x.1=C at *
    obtain ⟨S,hS⟩:∃ S,sd l x.1=S:=⟨_,rfl⟩
    rw [hS] at HSN
    simp only [hS] at *
    clear hS
    have hvo:∃ o,(o0 || ngOver l pre)=o:=⟨_,rfl⟩
    obtain ⟨o,ho⟩:=hvo
    rw [ho] at bO cO
    have HO:=Lib.hid ho
    clear ho
    obtain ⟨gs,hgs⟩:∃ g,S.gable=g:=⟨_,rfl⟩
    obtain ⟨lb,hlb⟩:∃ g,leftB A S C=g:=⟨_,rfl⟩
    rw [hlb] at HLF HNB
    rw [hgs] at HSN HNB e11
    have hkey:∀ v',v'=(o || !gs)→∀ w2,Below (W.setCell ⟨w.heap.size+1,0,none⟩ (.bool v')).heap.size (W.setCell ⟨w.heap.size+1,0,none⟩ (.bool v')) w2→KeepsFrom W0.heap.size W w2∧KpR w.heap.size wr.heap.size W w2∧(((Boxed w2 w.heap.size 4 (.bool false)∧Boxed w2 (w.heap.size+1) 4 (.bool (o0 || ngOver l (pre++[x]))))∧Boxed w2 wr.heap.size 66 (.slice (some ⟨br,offr,none⟩) l.length capr))∧(Below w.heap.size w w2∧W0.heap.size≤w2.heap.size)∧(∀ D ∈ Ds,w.heap.size+2≤D∧w2.heap[D]?=some (.deferred (some [])))):=by
     intro v' hv' w2 hB2
     have hSB:=sameBut_setCell W (w.heap.size+1) 0 (.bool v')
     have hT:=((TurnBut.of_below (b:=w.heap.size+1) (bw0 _ W)).but hSB).below' hB2
     have hval':v'=(o0 || ngOver l (pre++[x])):=by rw [HSN.out,← Bool.or_assoc,HO.out];exact hv'
     refine ⟨hT.keepsFrom bO rfl,hT.kpR (by omega) hB.size bR.lt (by omega),⟨⟨⟨boxed_below (bS.other (by omega) _) hB2,?_⟩,boxed_below (bR.other (by omega) _) hB2⟩,⟨hT.below hB (by omega) hB.size,Nat.le_trans hz hT.size⟩,fun D hD=>⟨(hM D hD).1,(hT.block D (Array.getElem?_eq_some_iff.1 (hM D hD).2).1 (by have:=(hM D hD).1;omega)).trans (hM D hD).2⟩⟩⟩
     rw [← hval']
     exact boxed_below (bO.set (.bool v')) hB2
    have FIN:=Lib.hid hkey
    clear hkey hlb
    have hneB:Bx≠w.heap.size+1:=by omega
    cases o
    ·cases lb
     ·obtain ⟨_,hg2,_⟩:=HNB.out (by trivial)
      subst hg2
      obtain ⟨ga,_,hpl⟩:=HNB.out (by trivial)
      have dpl:(S.plate != A.plate)=false:=by simp [hpl]
      clear hpl
      gi_wp2_with (refine wpListIn_load21 rfl _ rfl (b:=Bx) (A:=A) (B:=S) (C:=C) (hA0.but (sameBut_setCell _ _ _ _) hneB) rfl ?_)
      refine ⟨trivial,?_⟩
      refine (CallsIn.inRound l1 (callsIn_wide.2 (HLF.out _))).mono ?_
      rintro e w2 ⟨rfl,hB2⟩
      have hA2:=(hA0.but (sameBut_setCell W (w.heap.size+1) 0 (.bool true)) hneB).below hB2
      obtain ⟨e0,e1,e2,e3,k4,k5,e6,e7,e8,e9,e10,k11,k12,e13,e14,e15,e16,e17,e18,e19,e20⟩:=hA2
      clear e0 e1 e2 e3 e6 e7 e8 e9 e10 e13 e14 e15 e16 e17 e18 e19 e20
      rw [hgs] at k11
      rw [ga] at k4
      gi_wp2
      exact FIN.out _ (by simp) _ hB2
     ·cases gs
      ·gi_wp2_with (refine wpListIn_load21 rfl _ rfl (b:=Bx) (A:=A) (B:=S) (C:=C) (hA0.but (sameBut_setCell _ _ _ _) hneB) rfl ?_)
       refine ⟨trivial,?_⟩
       refine (CallsIn.inRound l1 (callsIn_wide.2 (HLF.out _))).mono ?_
       rintro e w2 ⟨rfl,hB2⟩
       have hA2:=(hA0.but (sameBut_setCell W (w.heap.size+1) 0 (.bool true)) hneB).below hB2
       obtain ⟨e0,e1,e2,e3,k4,k5,e6,e7,e8,e9,e10,k11,k12,e13,e14,e15,e16,e17,e18,e19,e20⟩:=hA2
       clear e0 e1 e2 e3 e6 e7 e8 e9 e10 e13 e14 e15 e16 e17 e18 e19 e20
       rw [hgs] at k11
       gi_wp2
       exact FIN.out _ (by simp) _ hB2
      ·gi_wp2_with (refine wpListIn_load21 rfl _ rfl (b:=Bx) (A:=A) (B:=S) (C:=C) (hA0.but (sameBut_setCell _ _ _ _) hneB) rfl ?_)
       refine ⟨trivial,?_⟩
       refine (CallsIn.inRound l1 (callsIn_wide.2 (HLF.out _))).mono ?_
       rintro e w2 ⟨rfl,hB2⟩
       have hA2:=(hA0.but (sameBut_setCell W (w.heap.size+1) 0 (.bool false)) hneB).below hB2
       obtain ⟨e0,e1,e2,e3,k4,k5,e6,e7,e8,e9,e10,k11,k12,e13,e14,e15,e16,e17,e18,e19,e20⟩:=hA2
       clear e0 e1 e2 e3 e6 e7 e8 e9 e10 e13 e14 e15 e16 e17 e18 e19 e20
       rw [hgs] at k11
       gi_wp2
       exact FIN.out _ (by simp) _ hB2
    ·cases lb
     ·obtain ⟨_,hg2,_⟩:=HNB.out (by trivial)
      subst hg2
      obtain ⟨ga,_,hpl⟩:=HNB.out (by trivial)
      have dpl:(S.plate != A.plate)=false:=by simp [hpl]
      clear hpl
      gi_wp2_with (refine wpListIn_load21 rfl _ rfl (b:=Bx) (A:=A) (B:=S) (C:=C) (hA0.but (sameBut_setCell _ _ _ _) hneB) rfl ?_)
      refine ⟨trivial,?_⟩
      refine (CallsIn.inRound l1 (callsIn_wide.2 (HLF.out _))).mono ?_
      rintro e w2 ⟨rfl,hB2⟩
      have hA2:=(hA0.but (sameBut_setCell W (w.heap.size+1) 0 (.bool true)) hneB).below hB2
      obtain ⟨e0,e1,e2,e3,k4,k5,e6,e7,e8,e9,e10,k11,k12,e13,e14,e15,e16,e17,e18,e19,e20⟩:=hA2
      clear e0 e1 e2 e3 e6 e7 e8 e9 e10 e13 e14 e15 e16 e17 e18 e19 e20
      rw [hgs] at k11
      rw [ga] at k4
      gi_wp2
      exact FIN.out _ (by simp) _ hB2
     ·cases gs
      ·gi_wp2_with (refine wpListIn_load21 rfl _ rfl (b:=Bx) (A:=A) (B:=S) (C:=C) (hA0.but (sameBut_setCell _ _ _ _) hneB) rfl ?_)
       refine ⟨trivial,?_⟩
       refine (CallsIn.inRound l1 (callsIn_wide.2 (HLF.out _))).mono ?_
       rintro e w2 ⟨rfl,hB2⟩
       have hA2:=(hA0.but (sameBut_setCell W (w.heap.size+1) 0 (.bool true)) hneB).below hB2
       obtain ⟨e0,e1,e2,e3,k4,k5,e6,e7,e8,e9,e10,k11,k12,e13,e14,e15,e16,e17,e18,e19,e20⟩:=hA2
       clear e0 e1 e2 e3 e6 e7 e8 e9 e10 e13 e14 e15 e16 e17 e18 e19 e20
       rw [hgs] at k11
       gi_wp2
       exact FIN.out _ (by simp) _ hB2
      ·gi_wp2_with (refine wpListIn_load21 rfl _ rfl (b:=Bx) (A:=A) (B:=S) (C:=C) (hA0.but (sameBut_setCell _ _ _ _) hneB) rfl ?_)
       refine ⟨trivial,?_⟩
       refine (CallsIn.inRound l1 (callsIn_wide.2 (HLF.out _))).mono ?_
       rintro e w2 ⟨rfl,hB2⟩
       have hA2:=(hA0.but (sameBut_setCell W (w.heap.size+1) 0 (.bool true)) hneB).below hB2
       obtain ⟨e0,e1,e2,e3,k4,k5,e6,e7,e8,e9,e10,k11,k12,e13,e14,e15,e16,e17,e18,e19,e20⟩:=hA2
       clear e0 e1 e2 e3 e6 e7 e8 e9 e10 e13 e14 e15 e16 e17 e18 e19 e20
       rw [hgs] at k11
       gi_wp2
       exact FIN.out _ (by simp) _ hB2
   case done =>
    rintro D ys W hD rfl ⟨⟨⟨bS,bO⟩,bR⟩,⟨hB,hz⟩,hM⟩ hKd
    gi_wp2
    refine Handed.intro (P.length - (r+1)) (by omega) ?_
    first|gi_step|go_step
    refine ⟨D::Ds,_,_,_,_,_,_,_,_,_,_,_,_,_,_,_,_,_,_,_,_,_,_,_,_,_,_,_,_,_,_,_,_,_,_,_,_,_,_,_,_,_,_,_,?_,rfl⟩
    refine ⟨r+1,by omega,rfl,by go_num,⟨bS,?_,hB,by omega,?_,?_⟩⟩
    ·rw [HNX.out];exact bO
    ·refine List.nodup_cons.2 ⟨fun hDD=>?_,hI.nodup⟩
     have:=hmlt D hDD
     omega
    ·intro E hE
     rcases List.mem_cons.1 hE with rfl|hE
     ·exact ⟨by omega,hKd⟩
     ·exact hM E hE
   case stop =>
    rintro D c pre W _ _ h _
    exact h.elim
end Go.Proofs.YteepphiomcedfaaGreatDoor
namespace Go.Proofs.YteepphiomcedfaaGreatDoor
open Go.RowKit
theorem meets_any (B C D E:Side) (w:World):Calls Tryz.prog 213 #[boxV B C,boxV D E] w (RetB (.bool (touchB B C D E)) w):=by
 unfold boxV touchB
 generalize min B.x C.x=a1 at *
 generalize max D.x E.x=b1 at *
 generalize min D.x E.x=a2 at *
 generalize max B.x C.x=b2 at *
 generalize min B.y C.y=a3 at *
 generalize max D.y E.y=b3 at *
 generalize min D.y E.y=a4 at *
 generalize max B.y C.y=b4 at *
 have h0:∀ p:Bool × Bool × Bool × Bool,decide (a1≤b1)=p.1→decide (a2≤b2)=p.2.1→decide (a3≤b3)=p.2.2.1→decide (a4≤b4)=p.2.2.2→
   Calls Tryz.prog 213 #[.agg #[.int .i64 a1,.int .i64 a3,.int .i64 b2,.int .i64 b4],.agg #[.int .i64 a2,.int .i64 a4,.int .i64 b1,.int .i64 b3]] w (RetB (.bool (p.1 && p.2.1 && p.2.2.1 && p.2.2.2)) w):=by
  rintro ⟨p1,p2,p3,p4⟩ e1 e2 e3 e4
  dsimp only at e1 e2 e3 e4 ⊢
  rcases four_cases p1 p2 p3 p4 with rfl|⟨rfl,rfl⟩|⟨rfl,rfl,rfl⟩|⟨rfl,rfl,rfl,rfl⟩|⟨rfl,rfl,rfl,rfl⟩
  all_goals
   go_enter Tryz.func213,Tryz.ntmps213
   go_wp2_with fail
   go_ret
   refine ⟨?_,qbl⟩
   simp
 exact h0 ⟨_,_,_,_⟩ rfl rfl rfl rfl
theorem wpO_append {F:Fence} {n:Nat} (w:World) {o:Oper} {a:Act} {K:Act→World→Prop} {Q:Exit→Act→World→Prop}
  (s x:Operand) (t:TypeId) (hop:o.op=Op.call { callee:=Callee.builtin Builtin.append,args:=#[s,x],argTypes:=#[t,t] })
  (base:Nat) (e:TypeId) (i:TypeInfo) (z:Value) (size bytes:Nat) (h1:Tryz.prog.underlying t=some (.slice e)) (h2:Tryz.prog.info? e=some i) (h3:i.zero=some z) (h4:i.size=size) (h5:i.bytes=bytes) (h6:z.cells.size=size) (h7:0 < size)
  (v:Value) (k:Nat) (xs:List Value) (hs:a.eval s=v) (hown:w.ownsRow base e size v k xs) (ad:Addr) (m c:Nat) (news:List Value) (hx:a.eval x=.slice (some ad) m c) (hn:news.length=m * size)
  (hc:∀ j u,news[j]?=some u→w.cell? (ad.add j)=some u) (h1c:∀ u ∈ news,u.oneCell'=true) (b1:k+m≤maxLen) (b2:(k+m) * bytes≤140737488355328) (b3:base≤w.heap.size)
  (hK:∀ v' w',w'.ownsRow base e size v' (k+m) (xs++news)→w.grownBy w' v.ownBlock→K (a.put o.dst v') w'):Oper.wpIn F n Tryz.prog o a w K Q:=by
 obtain ⟨v',w',hrun,r1,r2,r3⟩:=run_append_own (P:=Tryz.prog) w base t o.type e i z size bytes h1 h2 h3 h4 h5 h6 h7 v k xs hown ad m c news hn hc h1c b1 b2 b3
 unfold Oper.wpIn
 refine ⟨?_,?_⟩
 ·simp [Oper.about,hop,resolve,Target.leads,Sem.run_pure]
 ·rw [Oper.semAt_plain F _ _ (by rw [hop];intro c hc';cases hc')]
  simp [execOp,hop,resolve,invoke,builtin,hs,hx,hrun,Result.andThen]
  exact hK _ _ r1 r2
end Go.Proofs.YteepphiomcedfaaGreatDoor
