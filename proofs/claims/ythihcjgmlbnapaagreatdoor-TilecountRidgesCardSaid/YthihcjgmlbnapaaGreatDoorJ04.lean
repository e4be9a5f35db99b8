/- Joined texts: WEq, WLimb, WCombine, PlanTxt, WRef1, WRef2, WRef3, WRef4, WRef5, WRef6, WRef7, WRef8, WRef9, WRefC, WSides, Drawn3, WPlan1, WPlan2, Drawn4, WSidesIt, WBody, WPlusL, WPChk1, WPShaped, WPChk2, WPConcat, WPArea, WPInside, WPPlaced, WPJoined, WPMeets, WPCross0, WPCross1, WPCross2, WPCrossed, WPCheck, WPFind. -/
import Derived.Test.YthihcjgmlbnapaaGreatDoorJ03
import Derived.Test.YthihcjgmlbnapaaGreatDoorJ01
import Derived.Lib.ItoaNum
import Derived.OwnWalk
import Derived.Maps.AppendAt
import Derived.Test.YthihcjgmlbnapaaGreatDoorJ02
import Derived.Deep.RegionHeld3
import Derived.Deep.RegionWith
import Derived.Deep.DrawnRows
import Derived.OrdersIn
import Derived.OwnWalkIn
import Derived.RangeFuncNested
import Derived.RangeFuncBound
import Derived.RangeFuncCalls
import Derived.RangeFuncLeaves
import Derived.Shelf.Abstract
import Derived.Shelf.RegionOpen
import Derived.TacticsInMore
import Derived.LoopNIn
import Derived.LoopIn
import Derived.Sort.LoopGhostIn
import Derived.Deep.WholeRow
import Derived.Lib.AppendZerosOnto
set_option maxRecDepth 100000
set_option linter.unusedVariables false
set_option linter.unusedSimpArgs false
set_option maxHeartbeats 12800000
namespace Go.Proofs.YthihcjgmlbnapaaGreatDoor
open Go.RowKit Go.Shelf
def IsStrs (w:World) (v:Value) (l:List ByteArray):Prop:=∃ (a:Option Addr) (cap:Nat),v=.slice a l.length cap ∧
 (l≠[]→∃ b off,a=some ⟨b,off,none⟩∧∀ k (h:k < l.length),w.cell? ⟨b,off+k,none⟩=some (.string l[k]))
theorem IsStrs.below {w w':World} {v:Value} {l:List ByteArray} (h:IsStrs w v l) (hB:Below w.heap.size w w'):IsStrs w' v l:=by
 obtain ⟨a,cap,h1,h2⟩:=h
 refine ⟨a,cap,h1,fun hn=>?_⟩
 obtain ⟨b,off,e,hc⟩:=h2 hn
 exact ⟨b,off,e,fun k hk=>keep hB (hc k hk)⟩
theorem isStrs_row {w:World} {B:Nat} {v:Value} {l:List Rat} (h:w.ownsRow B 36 1 v l.length (numVs l)):IsStrs w v (l.map numS):=by
 rcases h.2 with ⟨rfl,hl⟩|⟨g,cap,cur,rfl,_,hg,h1,_,hs,ht⟩
 ·obtain rfl:l=[]:=List.length_eq_zero_iff.1 hl
  exact ⟨none,0,rfl,fun h=>absurd rfl h⟩
 ·refine ⟨some ⟨g,0,none⟩,cap,by simp,fun _=>⟨g,0,rfl,fun k hk=>?_⟩⟩
  have hk':k < l.length:=by simpa using hk
  have h2:cur.toList[k]?=some (.string (numS l[k])):=by
   have h3:(cur.toList.take (l.length * 1))[k]?=(numVs l)[k]?:=by rw [ht]
   rw [List.getElem?_take_of_lt (by omega)] at h3
   rw [h3];simp [numVs,hk']
  have h4:cur[k]?=some (.string (numS l[k])):=by simpa using h2
  simp [World.cell?,hg,h4]
theorem Equal_any (xs ys:List ByteArray) (u v:Value) (w:World) (hu:IsStrs w u xs) (hv:IsStrs w v ys) (hl:xs.length≤100000) :
  Calls Tryz.prog 16 #[u,v] w (RetB (.bool (decide (xs=ys))) w):=by
 obtain ⟨a,cap,rfl,ha⟩:=hu
 obtain ⟨b,cap',rfl,hb⟩:=hv
 have HA:=Lib.hid ha
 have HB:=Lib.hid hb
 clear ha hb
 by_cases hn:xs.length=ys.length
 ·have hne:((xs.length:Int) == (ys.length:Int))=true:=by simp [hn]
  generalize hR:decide (xs=ys)=R
  have HR:=Lib.hid hR
  have HN:=Lib.hid hn
  clear hR hn
  go_enter Tryz.func16,Tryz.ntmps16
  go_wp2_with fail
  go_loopw [13] (fun i wr=>∃ k:Nat,k≤xs.length∧i=.int .i64 k∧Below w.heap.size w wr∧Hid (∀ m (h1:m < xs.length) (h2:m < ys.length),m < k→xs[m]=ys[m])) (fun i _=>xs.length - (intOf i).toNat)
  case atStart=>exact ⟨0,by omega,rfl,bw0 _ _,Lib.hid (by intro m _ _ h;omega)⟩
  case round =>
   obtain ⟨k,hk,rfl,hBk,hsame⟩:=hrel
   by_cases hkn:k=xs.length
   ·have hR1:R=true:=by
     rw [← HR.out,decide_eq_true_eq]
     refine List.ext_getElem HN.out (fun m h1 h2=>hsame.out m h1 h2 (by omega))
    subst hkn
    subst hR1
    go_wp2_with fail
    go_ret
    exact ⟨rfl,hBk⟩
   ·have hk1:k < xs.length:=by omega
    have hk2:k < ys.length:=by have:=HN.out;omega
    obtain ⟨ba,oa,rfl,hca⟩:=HA.out (fun h=>by rw [h] at hk1;simp at hk1)
    obtain ⟨bb,ob,rfl,hcb⟩:=HB.out (fun h=>by rw [h] at hk2;simp at hk2)
    have q1:=keep hBk (hca k hk1)
    have q2:=keep hBk (hcb k hk2)
    have i1:(k:Int) < (xs.length:Int):=by omega
    have i2:(k:Int) < (ys.length:Int):=by omega
    clear hca hcb
    by_cases he:xs[k]=ys[k]
    ·have hE:(xs[k].toList == ys[k].toList)=true:=by rw [he];simp
     clear he
     have hsame':Hid (∀ m (h1:m < xs.length) (h2:m < ys.length),m < k+1→xs[m]=ys[m]):=Lib.hid (fun m h1 h2 h3=>by
      by_cases hm:m < k
      ·exact hsame.out m h1 h2 hm
      ·obtain rfl:m=k:=by omega
       have h4:xs[m].data.toList=ys[m].data.toList:=by rw [← Lib.toList_data,← Lib.toList_data];simpa using hE
       exact ByteArray.ext (Array.toList_inj.1 h4))
     go_wp2_with fail
     go_quiet (fail)
     go_wp2_with fail
     go_roundw
     case rel=>exact ⟨k+1,by omega,by go_num,qbl,hsame'⟩
     case measure=>simp [intOf];omega
    ·have hE:(xs[k].toList == ys[k].toList)=false:=by
      have h4:xs[k].data.toList≠ys[k].data.toList:=fun h=>he (ByteArray.ext (Array.toList_inj.1 h))
      rw [Lib.toList_data,Lib.toList_data];simpa using h4
     have hR1:R=false:=by
      rw [← HR.out,decide_eq_false_iff_not]
      intro h
      exact he (by simp only [h])
     subst hR1
     clear he
     go_wp2_with fail
     go_quiet (fail)
     go_wp2_with fail
     go_ret
     exact ⟨rfl,qbl⟩
 ·have hne:((xs.length:Int) == (ys.length:Int))=false:=by simp;omega
  have hR:decide (xs=ys)=false:=by
   rw [decide_eq_false_iff_not]
   intro h
   exact hn (by rw [h])
  rw [hR]
  have hn':¬ ((xs.length:Int)=(ys.length:Int)):=by omega
  clear hR
  go_enter Tryz.func16,Tryz.ntmps16
  go_wp2_with fail
  go_ret
  exact ⟨rfl,bw0 _ _⟩
theorem Spare_ok (n p:Int) (w:World) (h1:0≤n) (h2:n≤1073741824) (h3:0≤p) (h4:p≤100) :
  Calls Tryz.prog 15 #[.int .i64 n,.int .i64 p] w (RetB (.tuple #[.int .i64 (n+(n * p+99) / 100),.int .i64 0]) w):=by
 have b1:n * p≤1073741824 * 100:=Int.mul_le_mul h2 h4 h3 (by omega)
 have b0:0≤n * p:=Int.mul_nonneg h1 h3
 have hq:(n * p+99).tdiv 100=(n * p+99) / 100:=Int.tdiv_eq_ediv_of_nonneg (by omega)
 have d1:decide (n < 0)=false:=by simp;omega
 have d2:decide (1073741824 < n)=false:=by simp;omega
 have d3:decide (p < 0)=false:=by simp;omega
 have d4:decide (100 < p)=false:=by simp;omega
 have w1:IntKind.i64.wrap (n * p)=n * p:=IntWalk.i64_in _ (by omega)
 have w2:IntKind.i64.wrap (n * p+99)=n * p+99:=IntWalk.i64_in _ (by omega)
 have hb:0≤(n * p+99) / 100∧(n * p+99) / 100≤1073741824:=by omega
 generalize (n * p+99) / 100=Q at *
 have w3:IntKind.i64.wrap (n+Q)=n+Q:=IntWalk.i64_in _ (by omega)
 have w4:IntKind.i64.wrap Q=Q:=IntWalk.i64_in _ (by omega)
 go_enter Tryz.func15,Tryz.ntmps15
 go_wp2_with fail
 go_ret2
 exact ⟨rfl,bw0 _ _⟩
end Go.Proofs.YthihcjgmlbnapaaGreatDoor
namespace Go.Proofs.YthihcjgmlbnapaaGreatDoor
open Go.RowKit Go.Shelf
def IsInts (w:World) (v:Value) (l:List Int):Prop:=∃ (a:Option Addr) (cap:Nat),v=.slice a l.length cap∧l.length≤cap∧(l.length≠0→∃ b off,a=some ⟨b,off,none⟩∧∀ k,k < l.length→w.cell? ⟨b,off+k,none⟩=some (.int .i64 (lim l k)))
theorem IsInts.below {w w':World} {v:Value} {l:List Int} (h:IsInts w v l) (hB:Below w.heap.size w w'):IsInts w' v l:=by
 obtain ⟨a,cap,h1,h0,h2⟩:=h
 refine ⟨a,cap,h1,h0,fun hn=>?_⟩
 obtain ⟨b,off,e,hc⟩:=h2 hn
 exact ⟨b,off,e,fun k hk=>keep hB (hc k hk)⟩
theorem isInts_nil (w:World):IsInts w (.slice none 0 0) []:=⟨none,0,rfl,Nat.le_refl _,fun h=>absurd rfl h⟩
theorem IsInts.cells {w:World} {a:Option Addr} {n cap:Nat} {l:List Int} (h:IsInts w (.slice a n cap) l):n=l.length∧n≤cap∧(0 < n→∃ b off,a=some ⟨b,off,none⟩∧∀ k,k < l.length→w.cell? ⟨b,off+k,none⟩=some (.int .i64 (lim l k))):=by
 obtain ⟨a',cap',e,h1,h2⟩:=h
 injection e with e1 e2 e3
 subst e1 e2 e3
 exact ⟨rfl,h1,fun h=>h2 (by omega)⟩
theorem IsInts.slice {w:World} {v:Value} {l:List Int} (h:IsInts w v l):∃ a cap,v=.slice a l.length cap:=by
 obtain ⟨a,cap,h1,_⟩:=h
 exact ⟨a,cap,h1⟩
def intVs (l:List Int):List Value:=l.map (Value.int .i64)
theorem intVs_len (l:List Int):(intVs l).length=l.length:=by simp [intVs]
theorem intVs_snoc (l:List Int) (x:Int):intVs l++[.int .i64 x]=intVs (l++[x]):=by simp [intVs]
theorem intVs_get {l:List Int} {k:Nat} (h:k < l.length):(intVs l)[k]?=some (.int .i64 (lim l k)):=by
 unfold intVs
 rw [List.getElem?_map,List.getElem?_eq_getElem h,lim_eq h];rfl
abbrev OwnInts (w:World) (B:Nat) (v:Value) (l:List Int):Prop:=w.ownsRow B 3 1 v l.length (intVs l)
theorem OwnInts.is {w:World} {B:Nat} {v:Value} {l:List Int} (h:OwnInts w B v l):IsInts w v l:=by
 rcases h.2 with ⟨rfl,hl⟩|⟨g,cap,cur,rfl,_,hg,h1,_,hs,ht⟩
 ·obtain rfl:l=[]:=List.length_eq_zero_iff.1 hl
  exact isInts_nil w
 ·refine ⟨some ⟨g,0,none⟩,cap,rfl,h1,fun _=>⟨g,0,rfl,fun k hk=>?_⟩⟩
  have h2:cur.toList[k]?=some (.int .i64 (lim l k)):=by
   have h3:(cur.toList.take (l.length * 1))[k]?=(intVs l)[k]?:=by rw [ht]
   rw [List.getElem?_take_of_lt (by omega),intVs_get hk] at h3
   exact h3
  have h4:cur[k]?=some (.int .i64 (lim l k)):=by simpa using h2
  simp [World.cell?,hg,h4]
theorem OwnInts.take1 {w:World} {B m:Nat} {a:Option Addr} {n cap:Nat} {l:List Int} (h:OwnInts w B (.slice a n cap) l) (hm:m≤l.length) (h0:0 < l.length):OwnInts w B (.slice a m cap) (l.take m):=by
 have hl:(l.take m).length=m:=by rw [List.length_take];omega
 have e1:(intVs l).take m=intVs (l.take m):=by simp [intVs]
 refine ⟨by rw [intVs_len];omega,?_⟩
 rcases h.2 with ⟨e,hz⟩|⟨g,cap',cur,e,h2,hg,h3,h4,h5,ht⟩
 ·omega
 ·injection e with e2 e3 e4
  subst e2 e4
  refine .inr ⟨g,cap,cur,by rw [hl],h2,hg,by rw [hl];omega,h4,h5,?_⟩
  have e6:cur.toList.take (m * 1)=(cur.toList.take (l.length * 1)).take (m * 1):=by rw [List.take_take,Nat.min_eq_left (by omega)]
  rw [hl,e6,ht,Nat.mul_one,e1]
theorem OwnInts.take' {w:World} {B:Nat} {a:Option Addr} {n cap:Nat} {l:List Int} (h:OwnInts w B (.slice a n cap) l) (m:Nat) (hm:m≤l.length):OwnInts w B (.slice a m cap) (l.take m):=by
 by_cases h0:0 < l.length
 ·exact h.take1 hm h0
 ·obtain rfl:l=[]:=List.length_eq_zero_iff.1 (by omega)
  obtain rfl:m=0:=by simpa using hm
  obtain ⟨rfl,_⟩:=h.is.cells
  exact h
theorem row_shape1 {w:World} {B e size n:Nat} {v:Value} {xs:List Value} (h:w.ownsRow B e size v n xs):∃ sa sc,v=.slice sa n sc∧∀ b,(Value.slice sa n sc).ownBlock=some b→B≤b:=by
 rcases h.2 with ⟨rfl,rfl⟩|⟨g,cap,cur,rfl,hb,_⟩
 ·exact ⟨none,0,rfl,fun b h=>by cases h⟩
 ·exact ⟨_,_,rfl,fun b h=>by cases h;exact hb⟩
theorem Tryz.infoInt:(Tryz.prog.info? 3).map (fun i=>(i.zero,i.size,i.bytes))=some (some (.int .i64 0),1,8):=by kernel_rfl
def RetTrim (l:List Int) (a:Option Addr) (cap:Nat) (w:World) (e:Ending) (w':World):Prop:=∃ m,m≤l.length∧e=.returned (.slice a m cap)∧Trimmed (l.take m)∧(∀ i,lim (l.take m) i=lim l i)∧w'=w
theorem trim_ok (l:List Int) (a:Option Addr) (n cap:Nat) (w:World) (hv:IsInts w (.slice a n cap) l) (hl:l.length≤2000) :
  Calls Tryz.prog 169 #[.slice a n cap] w (RetTrim l a cap w):=by
 obtain ⟨rfl,hcap,hc⟩:=hv.cells
 have HC:=Lib.hid hc
 clear hc hv
 go_enter Tryz.func169,Tryz.ntmps169
 go_wp2_with fail
 go_loopw [0] (fun s wr=>∃ k:Nat,k≤l.length∧s=.slice a k cap∧Hid (∀ i,k≤i→lim l i=0)∧wr=w) (fun s _=>match s with|.slice _ n _=>n|_=>0)
 case atStart=>exact ⟨l.length,Nat.le_refl _,rfl,Lib.hid (fun i hi=>lim_out hi),rfl⟩
 case round =>
  obtain ⟨k,hk,rfl,hz,hwr⟩:=hrel
  subst wr
  by_cases hk0:k=0
  ·subst hk0
   go_wp2_with fail
   go_ret
   exact ⟨0,by omega,rfl,fun h=>absurd (by simp) h,lim_take_all hz.out,rfl⟩
  ·obtain ⟨b,off,rfl,hcell⟩:=HC.out (by omega)
   have ck:=hcell (k - 1) (by omega)
   have hk1:(0:Int) < (k:Int):=by omega
   have hs:((k:Int) - 1).toNat=k - 1:=by omega
   have hcs:=Lib.hid (fun h:lim l (k - 1)=0=>(fun i hi=>by
    by_cases hik:i=k - 1
    ·rw [hik];exact h
    ·exact hz.out i (by omega):∀ i,k - 1≤i→lim l i=0))
   by_cases h0:lim l (k - 1)=0
   ·have h0b:(lim l (k - 1) == 0)=true:=by rw [h0];rfl
    have hcs2:=Lib.hid (hcs.out h0)
    have e1:((k:Int) - 1)=((k - 1:Nat):Int):=by omega
    clear hcell hcs h0
    go_wp2_with fail
    go_roundw
    case rel=>exact ⟨k - 1,by omega,by simp,hcs2,by trivial⟩
    case measure=>simp;omega
   ·have h0b:(lim l (k - 1) == 0)=false:=by rw [beq_eq_false_iff_ne];exact h0
    have HH:=Lib.hid h0
    clear hcell hcs h0
    go_wp2_with fail
    go_ret
    exact ⟨k,hk,rfl,fun h=>by rw [List.length_take,Nat.min_eq_left hk,lim_take (by omega)];exact HH.out,lim_take_all hz.out,rfl⟩
theorem limb_ok (l:List Int) (v:Value) (i:Nat) (w:World) (hv:IsInts w v l) (hl:l.length≤2000) :
  Calls Tryz.prog 185 #[v,.int .i64 i] w fun e w'=>e=.returned (.int .i64 (lim l i))∧w'=w:=by
 obtain ⟨a,cap,rfl⟩:=hv.slice
 obtain ⟨_,hcap,hc⟩:=hv.cells
 clear hv
 by_cases hi:i < l.length
 ·obtain ⟨b,off,rfl,hcell⟩:=hc (by omega)
  have ck:=hcell i hi
  clear hc hcell
  go_enter Tryz.func185,Tryz.ntmps185
  go_wp2_with fail
  go_ret
  exact ⟨rfl,rfl⟩
 ·have h0:=lim_out (Nat.not_lt.1 hi)
  rw [h0]
  clear hc
  go_enter Tryz.func185,Tryz.ntmps185
  go_wp2_with fail
  go_ret
  exact ⟨rfl,rfl⟩
theorem plus_ok (x y c:Int) (w:World) (hx:Dig x) (hy:Dig y) (hc:Dig c) :
  Calls Tryz.prog 141 #[.int .i64 x,.int .i64 y,.int .i64 c] w fun e w'=>e=.returned (.tuple #[.int .i64 ((x+y+c) % 1000000000),.int .i64 ((x+y+c) / 1000000000)])∧w'=w:=by
 obtain ⟨x1,x2⟩:=hx
 obtain ⟨y1,y2⟩:=hy
 obtain ⟨c1,c2⟩:=hc
 go_enter Tryz.func141,Tryz.ntmps141
 go_wp2_with fail
 go_ret2
 exact ⟨by go_num,rfl⟩
theorem minus_ok (x y c:Int) (w:World) (hx:Dig x) (hy:Dig y) (hc:Dig c) :
  Calls Tryz.prog 142 #[.int .i64 x,.int .i64 y,.int .i64 c] w fun e w'=>e=.returned (if 0≤x - y - c then .tuple #[.int .i64 (x - y - c),.int .i64 0] else .tuple #[.int .i64 (x - y - c+1000000000),.int .i64 1])∧w'=w:=by
 obtain ⟨x1,x2⟩:=hx
 obtain ⟨y1,y2⟩:=hy
 obtain ⟨c1,c2⟩:=hc
 by_cases h:0≤x - y - c
 ·rw [if_pos h]
  go_enter Tryz.func142,Tryz.ntmps142
  go_wp2_with fail
  go_ret2
  exact ⟨rfl,rfl⟩
 ·rw [if_neg h]
  go_enter Tryz.func142,Tryz.ntmps142
  go_wp2_with fail
  go_ret2
  exact ⟨rfl,rfl⟩
end Go.Proofs.YthihcjgmlbnapaaGreatDoor
namespace Go.Proofs.YthihcjgmlbnapaaGreatDoor
open Go.RowKit Go.Shelf
def limbsTo (d:Nat→Int) (k:Nat):List Int:=(List.range k).map d
theorem limbsTo_len (d:Nat→Int) (k:Nat):(limbsTo d k).length=k:=by simp [limbsTo]
theorem limbsTo_succ (d:Nat→Int) (k:Nat):limbsTo d (k+1)=limbsTo d k++[d k]:=by simp [limbsTo,List.range_succ]
theorem lim_limbsTo {d:Nat→Int} {k i:Nat} (h:i < k):lim (limbsTo d k) i=d i:=by
 rw [lim_eq (by rw [limbsTo_len];exact h)];simp [limbsTo]
structure RetLimbs (d:Nat→Int) (n:Nat) (w:World) (e:Ending) (w':World) (l:List Int) (v:Value):Prop where
 ret:e=.returned v
 own:OwnInts w' w.heap.size v l
 trim:Trimmed l
 lt:∀ i,i < n→lim l i=d i
 out:∀ i,n≤i→lim l i=0
 len:l.length≤n
 below:Below w.heap.size w w'
theorem combine_plus (a b:List Int) (va vb:Value) (d c:Nat→Int) (w:World) (ha:IsInts w va a) (hb:IsInts w vb b) (hal:a.length≤1000) (hbl:b.length≤1000)
  (hc0:c 0=0) (hst:∀ k W,Calls Tryz.prog 141 #[.int .i64 (lim a k),.int .i64 (lim b k),.int .i64 (c k)] W fun e w'=>e=.returned (.tuple #[.int .i64 (d k),.int .i64 (c (k+1))])∧w'=W) :
  Calls Tryz.prog 140 #[va,vb,.func (.func 141) #[] #[]] w fun e w'=>∃ l v,RetLimbs d (max a.length b.length+1) w e w' l v:=by
 obtain ⟨i0,hi0,hz0,hz1,hz2⟩:=info_parts Tryz.infoInt
 obtain ⟨aa,ac,rfl⟩:=ha.slice
 obtain ⟨ba,bc,rfl⟩:=hb.slice
 have HA:=Lib.hid ha
 have HB:=Lib.hid hb
 have HST:=Lib.hid hst
 have HC0:=Lib.hid hc0
 have hE:=enters_of Tryz.func141 (by kernel_rfl) rfl
 obtain ⟨n,hn⟩:∃ n:Nat,max a.length b.length+1=n:=⟨_,rfl⟩
 have hmx:max (a.length:Int) (b.length:Int)=(n:Int) - 1:=by omega
 have hn1:1≤n:=by omega
 have hn2:n≤1001:=by omega
 rw [hn]
 clear ha hb hst hc0 hn
 go_enter Tryz.func140,Tryz.ntmps140
 go_wp2_with fail
 have hn3:(n:Int) - 1+1=(n:Int):=by omega
 go_loopw [7,8,18] (fun s cy i wr=>∃ k:Nat,k≤n∧i=.int .i64 k∧cy=.int .i64 (c k)∧(∃ sa sc,s=.slice sa k sc∧Hid (OwnInts wr w.heap.size (.slice sa k sc) (limbsTo d k)))∧Below w.heap.size w wr) (fun _ _ i _=>n - (intOf i).toNat)
 case atStart=>exact ⟨0,by omega,rfl,by rw [HC0.out],⟨none,0,rfl,Lib.hid (World.ownsRow_nil _ _ _ _)⟩,bw0 _ _⟩
 case round =>
  obtain ⟨k,hk,rfl,rfl,⟨sa,sc,rfl,hown⟩,hB⟩:=hrel
  by_cases hkn:k < n
  ·have LA:=Lib.hid (fun W (h:Below w.heap.size w W)=>limb_ok a _ k W (HA.out.below h) (by omega))
   have LB:=Lib.hid (fun W (h:Below w.heap.size w W)=>limb_ok b _ k W (HB.out.below h) (by omega))
   have LP:=Lib.hid (HST.out k)
   have HR:Hid (wr.ownsRow w.heap.size 3 1 (.slice sa k sc) k (intVs (limbsTo d k))):=Lib.hid (by have:=hown.out;unfold OwnInts at this;rwa [limbsTo_len] at this)
   have hkI:(k:Int) < (n:Int):=by omega
   have m1:k+1≤maxLen:=by unfold maxLen;omega
   have m2:(k+1) * 8≤140737488355328:=by omega
   have M1:=Lib.hid m1
   have M2:=Lib.hid m2
   have hsz:=Lib.hid hB.size
   have N4:=Lib.hid (fun (W:World) (o:Obj) (W':World) (hW:Below w.heap.size w W) (h:(W.alloc o).grownBy W' (Value.slice sa k sc).ownBlock)=>Below.grown (bw4 hW o) h (by have:=hW.size;simp;omega) (fun j hj=>by
    obtain ⟨_,_,e,hge⟩:=row_shape1 HR.out
    injection e with e1 e2 e3
    subst e1 e3
    exact hge j hj))
   clear hown m1 m2
   go_wp2_with fail
   refine (LA.out _ hB).mono ?_
   rintro e w1 ⟨rfl,rfl⟩
   go_wp2_with fail
   refine (LB.out _ hB).mono ?_
   rintro e w2 ⟨rfl,rfl⟩
   go_wp2_with fail
   refine (LP.out _).mono ?_
   rintro e w3 ⟨rfl,rfl⟩
   have HBL:=Lib.hid hB
   clear hB
   go_wp2_with (at_builtin;refine wpList_append_own _ rfl _ _ 205 rfl w.heap.size 3 i0 (.int .i64 0) 1 8 Tryz.underlying205 hi0 hz0 hz1 hz2 rfl (by decide) _ _ _ rfl (HR.out.alloc _) ⟨_,0,none⟩ 1 1 [.int .i64 (d k)] rfl rfl (cell_one_new _ _ _) (by simp [Value.oneCell']) M1.out M2.out (by simp;have:=hsz.out;omega) ?_;intro v' w4 hown0 hgrow _;have hb4:=Lib.hid (N4.out _ _ _ HBL.out hgrow);obtain ⟨sa',sc',rfl,_⟩:=row_shape1 hown0;have hown1:=Lib.hid hown0;clear hown0 hgrow)
   go_roundw
   case rel=>exact ⟨k+1,by omega,by go_num,rfl,⟨_,_,rfl,Lib.hid (by have:=hown1.out;rw [intVs_snoc,← limbsTo_succ] at this;unfold OwnInts;rwa [limbsTo_len])⟩,hb4.out⟩
   case measure=>simp [intOf];omega
  ·obtain rfl:k=n:=by omega
   have hkI:¬ (k:Int) < (k:Int):=by omega
   have HO:=Lib.hid (fun m (h:m≤(limbsTo d k).length)=>hown.out.take' m h)
   have HT:=Lib.hid (trim_ok (limbsTo d k) sa k sc wr hown.out.is (by rw [limbsTo_len];omega))
   have HOUT:=Lib.hid (fun i (h:(limbsTo d k).length≤i)=>lim_out h)
   clear hown
   go_wp2_with fail
   refine HT.out.mono ?_
   rintro e w1 ⟨m,hm,rfl,ht,hl,rfl⟩
   have HTR:=Lib.hid ht
   have HL:=Lib.hid hl
   clear ht hl
   rw [limbsTo_len] at hm
   go_wp2_with fail
   go_ret
   exact ⟨(limbsTo d k).take m,.slice sa m sc,rfl,HO.out m (by rw [limbsTo_len];exact hm),HTR.out,fun i hi=>by rw [HL.out,lim_limbsTo hi],fun i hi=>by rw [HL.out];exact HOUT.out i (by rw [limbsTo_len];exact hi),by rw [List.length_take];omega,hB⟩
theorem combine_minus (a b:List Int) (va vb:Value) (d c:Nat→Int) (w:World) (ha:IsInts w va a) (hb:IsInts w vb b) (hal:a.length≤1000) (hbl:b.length≤1000)
  (hc0:c 0=0) (hst:∀ k W,Calls Tryz.prog 142 #[.int .i64 (lim a k),.int .i64 (lim b k),.int .i64 (c k)] W fun e w'=>e=.returned (.tuple #[.int .i64 (d k),.int .i64 (c (k+1))])∧w'=W) :
  Calls Tryz.prog 140 #[va,vb,.func (.func 142) #[] #[]] w fun e w'=>∃ l v,RetLimbs d (max a.length b.length+1) w e w' l v:=by
 obtain ⟨i0,hi0,hz0,hz1,hz2⟩:=info_parts Tryz.infoInt
 obtain ⟨aa,ac,rfl⟩:=ha.slice
 obtain ⟨ba,bc,rfl⟩:=hb.slice
 have HA:=Lib.hid ha
 have HB:=Lib.hid hb
 have HST:=Lib.hid hst
 have HC0:=Lib.hid hc0
 have hE:=enters_of Tryz.func142 (by kernel_rfl) rfl
 obtain ⟨n,hn⟩:∃ n:Nat,max a.length b.length+1=n:=⟨_,rfl⟩
 have hmx:max (a.length:Int) (b.length:Int)=(n:Int) - 1:=by omega
 have hn1:1≤n:=by omega
 have hn2:n≤1001:=by omega
 rw [hn]
 clear ha hb hst hc0 hn
 go_enter Tryz.func140,Tryz.ntmps140
 go_wp2_with fail
 have hn3:(n:Int) - 1+1=(n:Int):=by omega
 go_loopw [7,8,18] (fun s cy i wr=>∃ k:Nat,k≤n∧i=.int .i64 k∧cy=.int .i64 (c k)∧(∃ sa sc,s=.slice sa k sc∧Hid (OwnInts wr w.heap.size (.slice sa k sc) (limbsTo d k)))∧Below w.heap.size w wr) (fun _ _ i _=>n - (intOf i).toNat)
 case atStart=>exact ⟨0,by omega,rfl,by rw [HC0.out],⟨none,0,rfl,Lib.hid (World.ownsRow_nil _ _ _ _)⟩,bw0 _ _⟩
 case round =>
  obtain ⟨k,hk,rfl,rfl,⟨sa,sc,rfl,hown⟩,hB⟩:=hrel
  by_cases hkn:k < n
  ·have LA:=Lib.hid (fun W (h:Below w.heap.size w W)=>limb_ok a _ k W (HA.out.below h) (by omega))
   have LB:=Lib.hid (fun W (h:Below w.heap.size w W)=>limb_ok b _ k W (HB.out.below h) (by omega))
   have LP:=Lib.hid (HST.out k)
   have HR:Hid (wr.ownsRow w.heap.size 3 1 (.slice sa k sc) k (intVs (limbsTo d k))):=Lib.hid (by have:=hown.out;unfold OwnInts at this;rwa [limbsTo_len] at this)
   have hkI:(k:Int) < (n:Int):=by omega
   have m1:k+1≤maxLen:=by unfold maxLen;omega
   have m2:(k+1) * 8≤140737488355328:=by omega
   have M1:=Lib.hid m1
   have M2:=Lib.hid m2
   have hsz:=Lib.hid hB.size
   have N4:=Lib.hid (fun (W:World) (o:Obj) (W':World) (hW:Below w.heap.size w W) (h:(W.alloc o).grownBy W' (Value.slice sa k sc).ownBlock)=>Below.grown (bw4 hW o) h (by have:=hW.size;simp;omega) (fun j hj=>by
    obtain ⟨_,_,e,hge⟩:=row_shape1 HR.out
    injection e with e1 e2 e3
    subst e1 e3
    exact hge j hj))
   clear hown m1 m2
   go_wp2_with fail
   refine (LA.out _ hB).mono ?_
   rintro e w1 ⟨rfl,rfl⟩
   go_wp2_with fail
   refine (LB.out _ hB).mono ?_
   rintro e w2 ⟨rfl,rfl⟩
   go_wp2_with fail
   refine (LP.out _).mono ?_
   rintro e w3 ⟨rfl,rfl⟩
   have HBL:=Lib.hid hB
   clear hB
   go_wp2_with (at_builtin;refine wpList_append_own _ rfl _ _ 205 rfl w.heap.size 3 i0 (.int .i64 0) 1 8 Tryz.underlying205 hi0 hz0 hz1 hz2 rfl (by decide) _ _ _ rfl (HR.out.alloc _) ⟨_,0,none⟩ 1 1 [.int .i64 (d k)] rfl rfl (cell_one_new _ _ _) (by simp [Value.oneCell']) M1.out M2.out (by simp;have:=hsz.out;omega) ?_;intro v' w4 hown0 hgrow _;have hb4:=Lib.hid (N4.out _ _ _ HBL.out hgrow);obtain ⟨sa',sc',rfl,_⟩:=row_shape1 hown0;have hown1:=Lib.hid hown0;clear hown0 hgrow)
   go_roundw
   case rel=>exact ⟨k+1,by omega,by go_num,rfl,⟨_,_,rfl,Lib.hid (by have:=hown1.out;rw [intVs_snoc,← limbsTo_succ] at this;unfold OwnInts;rwa [limbsTo_len])⟩,hb4.out⟩
   case measure=>simp [intOf];omega
  ·obtain rfl:k=n:=by omega
   have hkI:¬ (k:Int) < (k:Int):=by omega
   have HO:=Lib.hid (fun m (h:m≤(limbsTo d k).length)=>hown.out.take' m h)
   have HT:=Lib.hid (trim_ok (limbsTo d k) sa k sc wr hown.out.is (by rw [limbsTo_len];omega))
   have HOUT:=Lib.hid (fun i (h:(limbsTo d k).length≤i)=>lim_out h)
   clear hown
   go_wp2_with fail
   refine HT.out.mono ?_
   rintro e w1 ⟨m,hm,rfl,ht,hl,rfl⟩
   have HTR:=Lib.hid ht
   have HL:=Lib.hid hl
   clear ht hl
   rw [limbsTo_len] at hm
   go_wp2_with fail
   go_ret
   exact ⟨(limbsTo d k).take m,.slice sa m sc,rfl,HO.out m (by rw [limbsTo_len];exact hm),HTR.out,fun i hi=>by rw [HL.out,lim_limbsTo hi],fun i hi=>by rw [HL.out];exact HOUT.out i (by rw [limbsTo_len];exact hi),by rw [List.length_take];omega,hB⟩
end Go.Proofs.YthihcjgmlbnapaaGreatDoor
namespace Go.Proofs.YthihcjgmlbnapaaGreatDoor
structure Side where
 x:Int
 y:Int
 rise:Int
 run:Int
 gable:Bool
 plate:Int
 over:Int
instance:Inhabited Side:=⟨⟨0,0,0,0,false,0,0⟩⟩
abbrev Ring:=List Side
def sd (l:Ring) (i:Nat):Side:=l.getD i default
def nxi (n i:Nat):Nat:=(i+1) % n
def nx (l:Ring) (i:Nat):Side:=sd l (nxi l.length i)
def sg (n:Int):Int:=if n < 0 then -1 else if 0 < n then 1 else 0
def Touch (a a' b b':Side):Prop:=min a.x a'.x≤max b.x b'.x∧min b.x b'.x≤max a.x a'.x∧min a.y a'.y≤max b.y b'.y∧min b.y b'.y≤max a.y a'.y
def rg (P:List Ring) (r:Nat):Ring:=P.getD r []
def Skip (P:List Ring) (r i s k:Nat):Prop:=r=s∧(k≤i∨k=i+1∨(i=0∧k+1=(rg P r).length))
def Meet (P:List Ring) (r i s k:Nat):Prop:=¬ Skip P r i s k∧Touch (sd (rg P r) i) (nx (rg P r) i) (sd (rg P s) k) (nx (rg P s) k)
def Crossed (P:List Ring):Prop:=∃ r i s k,r < P.length∧i < (rg P r).length∧r≤s∧s < P.length∧k < (rg P s).length∧Meet P r i s k
def Hit (l:Ring) (x y:Int) (i:Nat):Prop:=(sd l i).x=(nx l i).x∧x < (nx l i).x∧min (sd l i).y (nx l i).y≤y∧y < max (sd l i).y (nx l i).y
instance (l:Ring) (x y:Int) (i:Nat):Decidable (Hit l x y i):=inferInstanceAs (Decidable (_∧_))
def Ran (n a b:Int):Prop:=a≤n∧n≤b
def RSide (s:Side):Prop:=Ran s.x 0 65536∧Ran s.y 0 65536∧Ran s.plate 0 65536∧Ran s.over 0 65536∧(if s.gable then s.rise=0∧s.run=0 else Ran s.rise 1 48∧Ran s.run 1 48)
def wx (l:Ring) (i:Nat):Int:=(nx l i).x - (sd l i).x
def wy (l:Ring) (i:Nat):Int:=(nx l i).y - (sd l i).y
def pls (P:List Ring) (k:Nat):List (Nat × Nat):=(List.range k).flatMap fun r=>(List.range (rg P r).length).map fun i=>(r,i)
theorem pls_succ (P:List Ring) (k:Nat):pls P (k+1)=pls P k++(List.range (rg P k).length).map fun i=>(k,i):=by simp [pls,List.range_succ]
theorem pls_mem {P:List Ring} {k:Nat} {x:Nat × Nat} (h:x ∈ pls P k):x.1 < k∧x.2 < (rg P x.1).length:=by
 simp only [pls,List.mem_flatMap,List.mem_range,List.mem_map] at h
 obtain ⟨r,hr,i,hi,rfl⟩:=h
 exact ⟨hr,hi⟩
theorem pls_sorted (P:List Ring):∀ k,(pls P k).Pairwise (fun a b=>a.1 < b.1∨(a.1=b.1∧a.2 < b.2)):=by
 intro k
 induction k with
 | zero=>exact List.Pairwise.nil
 | succ k ih =>
  rw [pls_succ,List.pairwise_append]
  refine ⟨ih,?_,?_⟩
  ·rw [List.pairwise_map]
   exact (List.pairwise_lt_range).imp (fun h=>.inr ⟨rfl,h⟩)
  ·intro a ha b hb
   obtain ⟨i,_,rfl⟩:=List.mem_map.1 hb
   exact .inl (pls_mem ha).1
theorem apart {P:List Ring} (h:¬ Crossed P) {i k:Nat} (hi:i < (pls P P.length).length) (hk:k < i) {a b:Nat × Nat} (ha:(pls P P.length)[i]=a) (hb:(pls P P.length)[k]'(by omega)=b) :
  (a.1=b.1∧((a.2:Int) - b.2=1∨(a.2:Int) - b.2=(rg P a.1).length - 1))∨¬ Touch (sd (rg P b.1) b.2) (nx (rg P b.1) b.2) (sd (rg P a.1) a.2) (nx (rg P a.1) a.2):=by
 have hs:=List.pairwise_iff_getElem.1 (pls_sorted P P.length) k i (by omega) hi hk
 rw [ha,hb] at hs
 have ma:=pls_mem (ha ▸ List.getElem_mem hi)
 have mb:=pls_mem (hb ▸ List.getElem_mem (show k < (pls P P.length).length by omega))
 by_cases hT:Touch (sd (rg P b.1) b.2) (nx (rg P b.1) b.2) (sd (rg P a.1) a.2) (nx (rg P a.1) a.2)
 ·refine .inl (Decidable.byContradiction fun hc=>h ⟨b.1,b.2,a.1,a.2,mb.1,mb.2,by omega,ma.1,ma.2,?_,hT⟩)
  rintro ⟨e,h2⟩
  refine hc ⟨e.symm,?_⟩
  have e':(rg P b.1).length=(rg P a.1).length:=by rw [e]
  omega
 ·exact .inr hT
end Go.Proofs.YthihcjgmlbnapaaGreatDoor
namespace Go.Proofs.YthihcjgmlbnapaaGreatDoor
open Go.RowKit
def SideAt (w:World) (b o:Nat) (s:Side):Prop:=w.cell? ⟨b,o,none⟩=some (.int .i64 s.x)∧w.cell? ⟨b,o+1,none⟩=some (.int .i64 s.y)∧w.cell? ⟨b,o+2,none⟩=some (.int .i64 s.rise)∧w.cell? ⟨b,o+3,none⟩=some (.int .i64 s.run)∧w.cell? ⟨b,o+4,none⟩=some (.bool s.gable)∧w.cell? ⟨b,o+5,none⟩=some (.int .i64 s.plate)∧w.cell? ⟨b,o+6,none⟩=some (.int .i64 s.over)
def IsRing (w:World) (v:Value) (l:Ring):Prop:=∃ (a:Option Addr) (cap:Nat),v=.slice a l.length cap∧(l≠[]→∃ b off,a=some ⟨b,off,none⟩∧∀ k,k < l.length→SideAt w b (off+k * 7) (sd l k))
theorem SideAt.below {w w':World} {b o:Nat} {s:Side} (h:SideAt w b o s) (hB:Below w.heap.size w w'):SideAt w' b o s:=by
 obtain ⟨h0,h1,h2,h3,h4,h5,h6⟩:=h
 exact ⟨keep hB h0,keep hB h1,keep hB h2,keep hB h3,keep hB h4,keep hB h5,keep hB h6⟩
theorem IsRing.below {w w':World} {v:Value} {l:Ring} (h:IsRing w v l) (hB:Below w.heap.size w w'):IsRing w' v l:=by
 obtain ⟨a,cap,rfl,h⟩:=h
 refine ⟨a,cap,rfl,fun hl=>?_⟩
 obtain ⟨b,off,rfl,hc⟩:=h hl
 exact ⟨b,off,rfl,fun k hk=>(hc k hk).below hB⟩
theorem IsRing.drewN {w:World} {v:Value} {l:Ring} (h:IsRing w v l) (n:Nat):IsRing (w.drewN n) v l:=h.below (bw2 (bw0 _ _) _)
end Go.Proofs.YthihcjgmlbnapaaGreatDoor
namespace Go.Proofs.YthihcjgmlbnapaaGreatDoor
open Go.RowKit
end Go.Proofs.YthihcjgmlbnapaaGreatDoor
namespace Go.Proofs.YthihcjgmlbnapaaGreatDoor
open Go.RowKit
end Go.Proofs.YthihcjgmlbnapaaGreatDoor
namespace Go.Proofs.YthihcjgmlbnapaaGreatDoor
open Go.RowKit
end Go.Proofs.YthihcjgmlbnapaaGreatDoor
namespace Go.Proofs.YthihcjgmlbnapaaGreatDoor
open Go.RowKit
end Go.Proofs.YthihcjgmlbnapaaGreatDoor
namespace Go.Proofs.YthihcjgmlbnapaaGreatDoor
open Go.RowKit
end Go.Proofs.YthihcjgmlbnapaaGreatDoor
namespace Go.Proofs.YthihcjgmlbnapaaGreatDoor
open Go.RowKit
def IsRings (w:World) (v:Value) (P:List Ring):Prop:=∃ (a:Option Addr) (cap:Nat),v=.slice a P.length cap∧(P≠[]→∃ b off,a=some ⟨b,off,none⟩∧∀ k,k < P.length→∃ u,w.cell? ⟨b,off+k,none⟩=some u∧IsRing w u (rg P k))
theorem IsRings.below {w w':World} {v:Value} {P:List Ring} (h:IsRings w v P) (hB:Below w.heap.size w w'):IsRings w' v P:=by
 obtain ⟨a,cap,rfl,h⟩:=h
 refine ⟨a,cap,rfl,fun hl=>?_⟩
 obtain ⟨b,off,rfl,hc⟩:=h hl
 refine ⟨b,off,rfl,fun k hk=>?_⟩
 obtain ⟨u,h1,h2⟩:=hc k hk
 exact ⟨u,keep hB h1,h2.below hB⟩
theorem IsRings.drewN {w:World} {v:Value} {P:List Ring} (h:IsRings w v P) (n:Nat):IsRings (w.drewN n) v P:=h.below (bw2 (bw0 _ _) _)
def N4 (P:List Ring) (r i s k:Nat):Prop:=∀ k',k' < k→¬ Meet P r i s k'
def N3 (P:List Ring) (r i s:Nat):Prop:=∀ s',r≤s'→s' < s→N4 P r i s' (rg P s').length
def N2 (P:List Ring) (r i:Nat):Prop:=∀ i',i' < i→N3 P r i' P.length
def N1 (P:List Ring) (r:Nat):Prop:=∀ r',r' < r→N2 P r' (rg P r').length
theorem N4.next {P:List Ring} {r i s k:Nat} (h:N4 P r i s k) (h1:¬ Meet P r i s k):N4 P r i s (k+1):=fun k' hk=>by
 by_cases e:k' < k
 ·exact h k' e
 ·have:k'=k:=by omega
  subst this;exact h1
theorem N3.next {P:List Ring} {r i s:Nat} (h:N3 P r i s) (h1:N4 P r i s (rg P s).length):N3 P r i (s+1):=fun s' hr hs=>by
 by_cases e:s' < s
 ·exact h s' hr e
 ·have:s'=s:=by omega
  subst this;exact h1
theorem N2.next {P:List Ring} {r i:Nat} (h:N2 P r i) (h1:N3 P r i P.length):N2 P r (i+1):=fun i' hi=>by
 by_cases e:i' < i
 ·exact h i' e
 ·have:i'=i:=by omega
  subst this;exact h1
theorem N1.next {P:List Ring} {r:Nat} (h:N1 P r) (h1:N2 P r (rg P r).length):N1 P (r+1):=fun r' hr=>by
 by_cases e:r' < r
 ·exact h r' e
 ·have:r'=r:=by omega
  subst this;exact h1
theorem N1.all {P:List Ring} (h:N1 P P.length):¬ Crossed P:=by
 rintro ⟨r,i,s,k,h1,h2,h3,h4,h5,h6⟩
 exact h r h1 i h2 s h3 h4 k h5 h6
end Go.Proofs.YthihcjgmlbnapaaGreatDoor
namespace Go.Proofs.YthihcjgmlbnapaaGreatDoor
open Go.RowKit
theorem SideAt.first {w:World} {b o:Nat} {s:Side} (h:SideAt w b (o+0 * 7) s):w.cell? ⟨b,o,none⟩=some (.int .i64 s.x)∧w.cell? ⟨b,o+1,none⟩=some (.int .i64 s.y):=by
 obtain ⟨h0,h1,_⟩:=h
 simp only [Nat.zero_mul,Nat.add_zero] at h0 h1
 exact ⟨h0,h1⟩
end Go.Proofs.YthihcjgmlbnapaaGreatDoor
namespace Go.Proofs.YthihcjgmlbnapaaGreatDoor
open Go.RowKit
end Go.Proofs.YthihcjgmlbnapaaGreatDoor
namespace Go.Proofs.YthihcjgmlbnapaaGreatDoor
open Go.RowKit
def IsPlan (w:World) (v:Value) (P:List Ring):Prop:=∃ u,v=.agg #[u]∧IsRings w u P
theorem IsPlan.below {w w':World} {v:Value} {P:List Ring} (h:IsPlan w v P) (hB:Below w.heap.size w w'):IsPlan w' v P:=by
 obtain ⟨u,rfl,h⟩:=h
 exact ⟨u,rfl,h.below hB⟩
end Go.Proofs.YthihcjgmlbnapaaGreatDoor
namespace Go.Proofs.YthihcjgmlbnapaaGreatDoor
open Go.RowKit
end Go.Proofs.YthihcjgmlbnapaaGreatDoor
namespace Go.Proofs.YthihcjgmlbnapaaGreatDoor
section
variable {P:Program} {ops:Array Oper} {Q:Exit→Act→World→Prop} {md:Region.Mode} {F:List Nat} {R:World→Prop}
def SF (F:List Nat) (R:World→Prop) (listed:Array Bool) (w:World):Prop:=(∃ f ∈ F,listed.getD f false=true)∨R w
def wpAnyS (P:Program) (md:Region.Mode) (ops:Array Oper) (Q:Exit→Act→World→Prop) (F:List Nat) (R:World→Prop):Nat→Array Bool→Act→World→Prop
 | 0,listed,a,w=>Region.ready md ops listed=[]∧Q .normal a w
 | fuel+1,listed,a,w =>
  (Region.ready md ops listed=[]→Q .normal a w) ∧
  ∀ i ∈ Region.ready md ops listed,wpOp P ops Q i (fun a' w'=>SF F R (listed.setIfInBounds i true) w'∧wpAnyS P md ops Q F R fuel (listed.setIfInBounds i true) a' w') a w
theorem wpAny_of_S:∀ (fuel:Nat) (listed:Array Bool) (a:Act) (w:World),wpAnyS P md ops Q F R fuel listed a w→wpAny P md ops Q fuel listed a w
 | 0,_,_,_,h=>h
 | fuel+1,_,_,_,h=>⟨h.1,fun i hi=>wpOp_mono (fun a' w' h'=>wpAny_of_S fuel _ a' w' h'.2) (h.2 i hi)⟩
theorem sF_set {listed:Array Bool} {i:Nat} {w:World} (hi:i ∉ F) (h:SF F R (listed.setIfInBounds i true) w):SF F R listed w:=by
 refine h.imp ?_ id
 rintro ⟨f,hf,hl⟩
 refine ⟨f,hf,?_⟩
 have hne:i≠f:=fun e=>hi (e ▸ hf)
 simpa [hne,Array.getD_eq_getD_getElem?] using hl
inductive Waits (md:Region.Mode) (ops:Array Oper) (i:Nat):Nat→Prop
 | one {f:Nat} {o:Oper} {e:Edge} (ho:ops[f]?=some o) (he:e ∈ o.after) (hb:Region.binds md e=true) (h:e.on=i):Waits md ops i f
 | more {f:Nat} {o:Oper} {e:Edge} (ho:ops[f]?=some o) (he:e ∈ o.after) (hb:Region.binds md e=true) (h:Waits md ops i e.on):Waits md ops i f
def Closed (md:Region.Mode) (ops:Array Oper) (listed:Array Bool):Prop:=∀ f o,ops[f]?=some o→listed.getD f false=true→∀ e ∈ o.after,Region.binds md e=true→listed.getD e.on false=true
theorem Waits.listed {i f:Nat} (h:Waits md ops i f) {listed:Array Bool} (hc:Closed md ops listed) (hf:listed.getD f false=true):listed.getD i false=true:=by
 induction h with
 | one ho he hb h=>subst h;exact hc _ _ ho hf _ he hb
 | more ho he hb _ ih=>exact ih (hc _ _ ho hf _ he hb)
theorem Waits.ready {i f:Nat} (h:Waits md ops i f) {listed:Array Bool} (hc:Closed md ops listed) (hf:f ∈ Region.ready md ops listed):listed.getD i false=true:=by
 obtain ⟨_,o',ho',hall⟩:=mem_ready.1 hf
 cases h with
 | one ho he hb h=>subst h;rw [ho] at ho';cases ho';exact hall _ he hb
 | more ho he hb h=>rw [ho] at ho';cases ho';exact h.listed hc (hall _ he hb)
theorem Closed.set {listed:Array Bool} {j:Nat} (hc:Closed md ops listed) (hj:j ∈ Region.ready md ops listed):Closed md ops (listed.setIfInBounds j true):=by
 intro f o ho hf e he hb
 by_cases hjf:j=f
 ·subst hjf
  obtain ⟨_,o',ho',hall⟩:=mem_ready.1 hj
  rw [ho] at ho';cases ho'
  exact getD_set_true (hall e he hb)
 ·rw [getD_set_ne false hjf] at hf
  exact getD_set_true (hc f o ho hf e he hb)
theorem wpAnyS_first {i:Nat} {oi:Oper} {v:Value} (hi:ops[i]?=some oi) (hsel:∀ (j:Nat) (o:Oper) cs b,ops[j]?=some o→o.op≠.select cs b)
  (hQ:∀ c a w,Q (.panic c) (a.put oi.dst v) w→Q (.panic c) a w) (hiF:i ∉ F) (hwt:∀ f ∈ F,Waits md ops i f) :
  ∀ (fuel:Nat) (listed:Array Bool) (a:Act) (w:World),Closed md ops listed →
   (∀ j oj,ops[j]?=some oj→j≠i→listed.getD j true=false→(∀ e ∈ oj.after,Region.binds md e=true→e.on≠i)→oi.apart ops oj=true) →
   i ∈ Region.ready md ops listed→YieldsIf P ops R oi v a→SF F R listed w →
   wpAnyS P md ops Q F R fuel (listed.setIfInBounds i true) (a.put oi.dst v) w→wpAnyS P md ops Q F R (fuel+1) listed a w:=by
 have hund:∀ {listed:Array Bool},i ∈ Region.ready md ops listed→¬ listed.getD i false=true:=fun {listed} hr h=>by
  have h0:=(mem_ready.1 hr).1
  rcases Nat.lt_or_ge i listed.size with h'|h'
  ·simp [h'] at h0 h;rw [h0] at h;cases h
  ·simp [Array.getElem?_eq_none h'] at h
 have hR:∀ {listed:Array Bool} {w:World},Closed md ops listed→i ∈ Region.ready md ops listed→SF F R listed w→R w:=by
  intro listed w hcl hr hS
  rcases hS with ⟨f,hf,hl⟩|h
  ·exact absurd ((hwt f hf).listed hcl hl) (hund hr)
  ·exact h
 have hself:∀ {listed:Array Bool} {w:World},SF F R listed w→SF F R (listed.setIfInBounds i true) w:=by
  intro listed w hS
  refine hS.imp ?_ id
  rintro ⟨f,hf,hl⟩
  exact ⟨f,hf,getD_set_true hl⟩
 intro fuel
 induction fuel with
 | zero =>
  intro listed a w hcl _ hr hy hS H
  refine ⟨fun h=>(by rw [h] at hr;cases hr),fun j hj=>?_⟩
  by_cases hji:j=i
  ·subst hji;exact hy.wpOp hi (hR hcl hr hS) ⟨hself hS,H⟩
  ·have:=ready_mono hj hji
   rw [H.1] at this
   cases this
 | succ fuel ih =>
  intro listed a w hcl hfree hr hy hS H
  refine ⟨fun h=>(by rw [h] at hr;cases hr),fun j hj=>?_⟩
  by_cases hji:j=i
  ·subst hji;exact hy.wpOp hi (hR hcl hr hS) ⟨hself hS,H⟩
  ·have h1:=H.2 j (ready_mono hj hji)
   obtain ⟨hjun,oj,hoj,hall⟩:=mem_ready.1 hj
   have hnot:∀ e ∈ oj.after,Region.binds md e=true→e.on≠i:=fun e he hb heq=>by
    have h1:=hall e he hb
    have h0:=(mem_ready.1 hr).1
    rw [heq] at h1
    rcases Nat.lt_or_ge i listed.size with h'|h'
    ·simp [h'] at h0 h1;rw [h0] at h1;cases h1
    ·simp [Array.getElem?_eq_none h'] at h1
   have hjF:j ∉ F:=fun hjf=>hund hr ((hwt j hjf).ready hcl hj)
   have h2:=wpOp_putIf hoj (hfree j oj hoj hji hjun hnot) (fun cs b=>hsel i oi cs b hi) (fun cs b=>hsel j oj cs b hoj) hQ hy h1
   have hfree':∀ k ok,ops[k]?=some ok→k≠i→(listed.setIfInBounds j true).getD k true=false →
     (∀ e ∈ ok.after,Region.binds md e=true→e.on≠i)→oi.apart ops ok=true:=fun k ok hk hki hun hno=>by
    refine hfree k ok hk hki ?_ hno
    by_cases hjk:j=k
    ·subst hjk;exact hjun
    ·rw [getD_set_ne true hjk] at hun;exact hun
   have hcl':=hcl.set hj
   refine wpOp_mono (fun a' w' h3=>⟨?_,ih (listed.setIfInBounds j true) a' w' hcl' hfree' (ready_mono hr (Ne.symm hji)) h3.1 ?_ ?_⟩) h2
   ·have:=h3.2.1
    rw [Array.setIfInBounds_comm _ _ (Ne.symm hji)] at this
    exact sF_set hiF this
   ·have:=h3.2.1
    rw [Array.setIfInBounds_comm _ _ (Ne.symm hji)] at this
    exact sF_set hiF this
   ·rw [Array.setIfInBounds_comm _ _ hji]
    exact h3.2.2
def waitsB (md:Region.Mode) (ops:Array Oper) (i:Nat):Nat→Nat→Bool
 | 0,_=>false
 | n+1,f=>match ops[f]? with
  | some o=>(o.after.any fun e=>Region.binds md e && e.on == i) || (o.after.any fun e=>Region.binds md e && waitsB md ops i n e.on)
  | none=>false
theorem waits_of {i:Nat}:∀ {n f:Nat},waitsB md ops i n f=true→Waits md ops i f:=by
 intro n
 induction n with
 | zero=>intro f h;cases h
 | succ n ih =>
  intro f h
  unfold waitsB at h
  split at h
  ·rename_i o ho
   rcases Bool.or_eq_true _ _ ▸ h with h1|h1
   ·obtain ⟨e,he,hb⟩:=Array.any_eq_true'.1 h1
    simp only [Bool.and_eq_true,beq_iff_eq] at hb
    exact .one ho he hb.1 hb.2
   ·obtain ⟨e,he,hb⟩:=Array.any_eq_true'.1 h1
    simp only [Bool.and_eq_true] at hb
    exact .more ho he hb.1 (ih hb.2)
  ·cases h
variable {listed:Array Bool} {a:Act} {w:World}
def wpC (P:Program) (md:Region.Mode) (ops:Array Oper) (Q:Exit→Act→World→Prop) (F:List Nat) (R:World→Prop) (fuel:Nat) (listed:Array Bool) (a:Act) (w:World):Prop:=Closed md ops listed→wpAnyS P md ops Q F R fuel listed a w
theorem region_S {id:Nat} (n:Nat) (L:Array Bool) (hm:P.follows .mixedOrders=true) (hn:ops.size=n) (hL:Array.replicate n false=L) (hQ:∀ c (a:Act) d v w,Q (.panic c) (a.put (some d) v) w→Q (.panic c) a w)
  (h:∀ Q':Exit→Act→World→Prop,(∀ c (a:Act) d v w,Q' (.panic c) (a.put (some d) v) w→Q' (.panic c) a w)→Shut (∀ a w,Q .normal a w→Q' .normal a w)→wpC P .any ops Q' F R n L a w.drew) :
  (Code.region id ops true).wp P Q a w:=wp_region_any hm (by
 rw [hn,hL]
 refine wpAny_of_S _ _ _ _ (h Q hQ (fun _ _ h=>h) ?_)
 intro f o ho hf
 rw [← hL] at hf
 simp only [Array.getD_eq_getD_getElem?] at hf
 by_cases hfn:f < n
 ·simp [hfn] at hf
 ·simp [hfn] at hf)
theorem takeS (d:Nat) {i:Nat} {oi:Oper} {v:Value} {fuel:Nat} (hQ:∀ c (a:Act) d v w,Q (.panic c) (a.put (some d) v) w→Q (.panic c) a w) (hS:R w) (hi:ops[i]?=some oi) (hd:oi.dst=some d)
  (hs:Region.noSelect ops=true) (hf:Region.free md ops listed i=true) (hr:(Region.ready md ops listed).contains i=true)
  (hw:Region.wanted oi (yielded ops a.tmps)=true) {fw:Nat} (hk:(!F.contains i && F.all (waitsB md ops i fw))=true) (hy:∀ w,R w→(execOp a.eval oi).run P w=.ok (.value v) w)
  (h:wpC P md ops Q F R fuel (listed.setIfInBounds i true) (a.put (some d) v) w):wpC P md ops Q F R (fuel+1) listed a w:=by
 simp only [Bool.and_eq_true,Bool.not_eq_true'] at hk
 obtain ⟨hk1,hk2⟩:=hk
 have hr':i ∈ Region.ready md ops listed:=by simpa using hr
 intro hc
 exact wpAnyS_first hi (Region.noSelect_spec hs) (fun c a w h=>putQ hQ c a w h) (by simpa using hk1) (fun f hf=>waits_of (List.all_eq_true.1 hk2 f hf)) fuel listed a w hc (Region.free_spec hi hf) hr' (Or.inl ⟨hw,hy⟩) (.inr hS) (by rw [hd];exact h (hc.set hr'))
theorem tkS (d : Nat) {i : Nat} {oi : Oper} {v : Value} {fuel : Nat} (hQ : ∀ c (a : Act) d v w, Q (.panic c) (a.put (some d) v) w → Q (.panic c) a w) (hS : R w) (hi : ops[i]? = some oi) {fw : Nat}
 (hy : ∀ w, R w → (execOp a.eval oi).run P w = .ok (.value v) w) (h : wpC P md ops Q F R fuel (listed.setIfInBounds i true) (a.put (some d) v) w) (hd : oi.dst = some d := by kernel_rfl)
 (hs : Region.noSelect ops = true := by kernel_rfl) (hf : Region.free md ops listed i = true := by kernel_rfl) (hr : (Region.ready md ops listed).contains i = true := by kernel_rfl)
 (hw : Region.wanted oi (yielded ops a.tmps) = true := by kernel_rfl) (hk : (!F.contains i && F.all (waitsB md ops i fw)) = true := by kernel_rfl) : wpC P md ops Q F R (fuel + 1) listed a w :=
 takeS d hQ hS hi hd hs hf hr hw hk hy h
theorem skipS (d:Nat) {i:Nat} {oi:Oper} {fuel:Nat} (hQ:∀ c (a:Act) d v w,Q (.panic c) (a.put (some d) v) w→Q (.panic c) a w) (hS:R w) (hi:ops[i]?=some oi) (hd:oi.dst=some d)
  (hs:Region.noSelect ops=true) (hf:Region.free md ops listed i=true) (hr:(Region.ready md ops listed).contains i=true)
  (hw:Region.wanted oi (yielded ops a.tmps)=false) {fw:Nat} (hk:(!F.contains i && F.all (waitsB md ops i fw))=true)
  (h:wpC P md ops Q F R fuel (listed.setIfInBounds i true) (a.put (some d) undef) w):wpC P md ops Q F R (fuel+1) listed a w:=by
 simp only [Bool.and_eq_true,Bool.not_eq_true'] at hk
 obtain ⟨hk1,hk2⟩:=hk
 have hr':i ∈ Region.ready md ops listed:=by simpa using hr
 intro hc
 exact wpAnyS_first hi (Region.noSelect_spec hs) (fun c a w h=>putQ hQ c a w h) (by simpa using hk1) (fun f hf=>waits_of (List.all_eq_true.1 hk2 f hf)) fuel listed a w hc (Region.free_spec hi hf) hr' (Or.inr ⟨hw,rfl⟩) (.inr hS) (by rw [hd];exact h (hc.set hr'))
def AllReadyS (P:Program) (md:Region.Mode) (ops:Array Oper) (Q:Exit→Act→World→Prop) (F:List Nat) (R:World→Prop) (fuel:Nat) (listed:Array Bool) (a:Act) (w:World) (rs:List Nat):Prop :=
 ∀ i ∈ rs,i ∈ Region.ready md ops listed→Closed md ops listed→wpOp P ops Q i (fun a' w'=>SF F R (listed.setIfInBounds i true) w'∧wpAnyS P md ops Q F R fuel (listed.setIfInBounds i true) a' w') a w
theorem AllReadyS.nil {fuel:Nat}:AllReadyS P md ops Q F R fuel listed a w []:=fun _ h=>by cases h
theorem stepR {i:Nat} {o:Oper} {rs:List Nat} {fuel:Nat} (ho:ops[i]?=some o) (hw:Region.wanted o (yielded ops a.tmps)=true)
  (h:∀ K':Act→World→Prop,Shut (∀ a w,R w→wpC P md ops Q F R fuel (listed.setIfInBounds i true) a w→K' a w)→Oper.wp P o a w K' Q)
  (hs:AllReadyS P md ops Q F R fuel listed a w rs):AllReadyS P md ops Q F R fuel listed a w (i::rs):=fun j hj hr hc=>by
 rcases List.mem_cons.1 hj with rfl|hj
 ·exact wpOp_step ho (fun K' hK=>by rw [if_pos hw];exact h K' (fun a w hR hW=>hK a w ⟨.inr hR,hW (hc.set hr)⟩))
 ·exact hs j hj hr hc
theorem stepF {i:Nat} {o:Oper} {rs:List Nat} {fuel:Nat} (ho:ops[i]?=some o) (hw:Region.wanted o (yielded ops a.tmps)=true) (hF:(F.contains i && decide (i < listed.size))=true)
  (h:∀ K':Act→World→Prop,Shut (∀ a w,wpC P md ops Q F R fuel (listed.setIfInBounds i true) a w→K' a w)→Oper.wp P o a w K' Q)
  (hs:AllReadyS P md ops Q F R fuel listed a w rs):AllReadyS P md ops Q F R fuel listed a w (i::rs):=fun j hj hr hc=>by
 rcases List.mem_cons.1 hj with rfl|hj
 ·simp only [Bool.and_eq_true,decide_eq_true_eq] at hF
  refine wpOp_step ho (fun K' hK=>by rw [if_pos hw];exact h K' (fun a w hW=>hK a w ⟨.inl ⟨j,by simpa using hF.1,by simp [hF.2]⟩,hW (hc.set hr)⟩))
 ·exact hs j hj hr hc
theorem wpAnyS_ready {rs:List Nat} {fuel:Nat} (hr:Region.ready md ops listed=rs) (hne:rs≠[])
  (h:AllReadyS P md ops Q F R fuel listed a w rs):wpC P md ops Q F R (fuel+1) listed a w:=fun hc=>⟨fun h0=>absurd (hr ▸ h0) hne,fun i hi=>h i (hr ▸ hi) hi hc⟩
theorem wpAnyS_done (hr:Region.ready md ops listed=[]) (h:Q .normal a w):∀ fuel,wpC P md ops Q F R fuel listed a w
 | 0=>fun _=>⟨hr,h⟩
 | _+1=>fun _=>⟨fun _=>h,by rw [hr];simp⟩
end
theorem tS (d i:Nat) {P:Program} {ops:Array Oper} {Q:Exit→Act→World→Prop} {md:Region.Mode} {F:List Nat} {R:World→Prop} {listed L':Array Bool} {a a':Act} {w:World} {oi:Oper} {v:Value} {fuel:Nat}
  (h:wpC P md ops Q F R fuel L' a' w)
  (hQ:∀ c (a:Act) d v w,Q (.panic c) (a.put (some d) v) w→Q (.panic c) a w:=by assumption) (hS:R w:=by assumption)
  (hi:ops[i]?=some oi:=by rfl) (hd:oi.dst=some d:=by kernel_rfl) (hs:Region.noSelect ops=true:=by kernel_rfl) (hf:Region.free md ops listed i=true:=by kernel_rfl)
  (hr:(Region.ready md ops listed).contains i=true:=by kernel_rfl) (hw:Region.wanted oi (yielded ops a.tmps)=true:=by kernel_rfl) (fw:Nat:=4) (hk:(!F.contains i && F.all (waitsB md ops i fw))=true:=by kernel_rfl)
  (hy:∀ wq,R wq→(execOp a.eval oi).run P wq=.ok (.value v) wq:=by intro wq hRq;(try dsimp only at hRq);go_simp;(try with_reducible rfl))
  (hL:listed.setIfInBounds i true=L':=by (try simp only [bw7,bw8,bw9]);(try with_reducible rfl))
  (ha:a.put (some d) v=a':=by (try simp only [Act.put,bw7,bw8,bw9]);(try with_reducible rfl)):wpC P md ops Q F R (fuel+1) listed a w:=by
 subst hL ha
 exact takeS d hQ hS hi hd hs hf hr hw hk hy h
theorem sS (d i:Nat) {P:Program} {ops:Array Oper} {Q:Exit→Act→World→Prop} {md:Region.Mode} {F:List Nat} {R:World→Prop} {listed L':Array Bool} {a a':Act} {w:World} {oi:Oper} {fuel:Nat}
  (h:wpC P md ops Q F R fuel L' a' w) (hQ:∀ c (a:Act) d v w,Q (.panic c) (a.put (some d) v) w→Q (.panic c) a w:=by assumption) (hS:R w:=by assumption)
  (hi:ops[i]?=some oi:=by rfl) (hd:oi.dst=some d:=by kernel_rfl) (hs:Region.noSelect ops=true:=by kernel_rfl) (hf:Region.free md ops listed i=true:=by kernel_rfl)
  (hr:(Region.ready md ops listed).contains i=true:=by kernel_rfl) (hw:Region.wanted oi (yielded ops a.tmps)=false:=by kernel_rfl) (fw:Nat:=4) (hk:(!F.contains i && F.all (waitsB md ops i fw))=true:=by kernel_rfl)
  (hL:listed.setIfInBounds i true=L':=by (try simp only [bw7,bw8,bw9]);(try with_reducible rfl))
  (ha:a.put (some d) undef=a':=by (try simp only [Act.put,bw7,bw8,bw9]);(try with_reducible rfl)):wpC P md ops Q F R (fuel+1) listed a w:=by
 subst hL ha
 exact skipS d hQ hS hi hd hs hf hr hw hk h
end Go.Proofs.YthihcjgmlbnapaaGreatDoor
namespace Go.Proofs.YthihcjgmlbnapaaGreatDoor
open Go.RowKit
def AroundAt (w:World) (b:Nat) (A B C:Side):Prop:=w.cell? ⟨b,0,none⟩=some (.int .i64 A.x)∧w.cell? ⟨b,1,none⟩=some (.int .i64 A.y)∧w.cell? ⟨b,2,none⟩=some (.int .i64 A.rise)∧w.cell? ⟨b,3,none⟩=some (.int .i64 A.run)∧w.cell? ⟨b,4,none⟩=some (.bool A.gable)∧w.cell? ⟨b,5,none⟩=some (.int .i64 A.plate)∧w.cell? ⟨b,6,none⟩=some (.int .i64 A.over)∧w.cell? ⟨b,7,none⟩=some (.int .i64 B.x)∧w.cell? ⟨b,8,none⟩=some (.int .i64 B.y)∧w.cell? ⟨b,9,none⟩=some (.int .i64 B.rise)∧w.cell? ⟨b,10,none⟩=some (.int .i64 B.run)∧w.cell? ⟨b,11,none⟩=some (.bool B.gable)∧w.cell? ⟨b,12,none⟩=some (.int .i64 B.plate)∧w.cell? ⟨b,13,none⟩=some (.int .i64 B.over)∧w.cell? ⟨b,14,none⟩=some (.int .i64 C.x)∧w.cell? ⟨b,15,none⟩=some (.int .i64 C.y)∧w.cell? ⟨b,16,none⟩=some (.int .i64 C.rise)∧w.cell? ⟨b,17,none⟩=some (.int .i64 C.run)∧w.cell? ⟨b,18,none⟩=some (.bool C.gable)∧w.cell? ⟨b,19,none⟩=some (.int .i64 C.plate)∧w.cell? ⟨b,20,none⟩=some (.int .i64 C.over)
theorem AroundAt.below {w w':World} {b:Nat} {A B C:Side} (h:AroundAt w b A B C) (hB:Below w.heap.size w w'):AroundAt w' b A B C:=by
 obtain ⟨e0,e1,e2,e3,e4,e5,e6,e7,e8,e9,e10,e11,e12,e13,e14,e15,e16,e17,e18,e19,e20⟩:=h
 exact ⟨keep hB e0,keep hB e1,keep hB e2,keep hB e3,keep hB e4,keep hB e5,keep hB e6,keep hB e7,keep hB e8,keep hB e9,keep hB e10,keep hB e11,keep hB e12,keep hB e13,keep hB e14,keep hB e15,keep hB e16,keep hB e17,keep hB e18,keep hB e19,keep hB e20⟩
def Box2 (w:World) (b:Nat) (t:TypeId) (x y:Value):Prop:=w.heap[b]?=some (.cells #[x,y] t (0,0))
theorem Box2.below {w w':World} {b:Nat} {t:TypeId} {x y:Value} (h:Box2 w b t x y) (hB:Below w.heap.size w w'):Box2 w' b t x y:=(hB.block b (Array.getElem?_eq_some_iff.1 h).1).trans h
def Near (n:Int):Prop:=-1000000≤n∧n≤1000000
theorem RSide.near {s:Side} (h:RSide s):Near s.x∧Near s.y∧Near s.plate:=by
 obtain ⟨⟨h1,h2⟩,⟨h3,h4⟩,⟨h5,h6⟩,_⟩:=h
 unfold Near;omega
end Go.Proofs.YthihcjgmlbnapaaGreatDoor
namespace Go.Proofs.YthihcjgmlbnapaaGreatDoor
open Go.RowKit
def Box4 (w:World) (b:Nat) (t:TypeId) (x y z u:Value):Prop:=w.heap[b]?=some (.cells #[x,y,z,u] t (0,0))
theorem Box4.below {w w':World} {b:Nat} {t:TypeId} {x y z u:Value} (h:Box4 w b t x y z u) (hB:Below w.heap.size w w'):Box4 w' b t x y z u:=(hB.block b (Array.getElem?_eq_some_iff.1 h).1).trans h
structure SameBut (b:Nat) (w w':World):Prop where
 os:w'.os=w.os
 tape:w'.tape=w.tape
 output:w'.output=w.output
 size:w'.heap.size=w.heap.size
 block:∀ k,k≠b→w'.heap[k]?=w.heap[k]?
theorem SameBut.below {b B:Nat} {w0 w w':World} (h:SameBut b w w') (hB:Below B w0 w) (hb:B≤b):Below B w0 w':=hB.trans ⟨h.os,h.tape,h.output,Nat.le_of_eq h.size.symm,fun k hk=>h.block k (by omega)⟩
theorem SameBut.trans {b:Nat} {w w' w'':World} (h:SameBut b w w') (k:SameBut b w' w''):SameBut b w w'':=⟨k.os.trans h.os,k.tape.trans h.tape,k.output.trans h.output,k.size.trans h.size,fun j hj=>(k.block j hj).trans (h.block j hj)⟩
theorem sameBut_setCell (w:World) (b o:Nat) (v:Value):SameBut b w (w.setCell ⟨b,o,none⟩ v):=⟨rfl,rfl,rfl,World.size_setCell _ _ _,fun k hk=>Below.heap_setCell w ⟨b,o,none⟩ v k hk⟩
theorem heap_setCell_at {w:World} {b o:Nat} {cs:Array Value} {t:TypeId} {v:Value} (h:w.heap[b]?=some (.cells cs t (0,0))):(w.setCell ⟨b,o,none⟩ v).heap[b]?=some (.cells (cs.setIfInBounds o v) t (0,0)):=by
 show (w.heap.modify b _)[b]?=_
 rw [Array.getElem?_modify,if_pos rfl,h]
 rfl
theorem Box2.but {w w':World} {b c:Nat} {t:TypeId} {x y:Value} (h:Box2 w b t x y) (hs:SameBut c w w') (hne:b≠c):Box2 w' b t x y:=(hs.block b hne).trans h
theorem Box4.but {w w':World} {b c:Nat} {t:TypeId} {x y z u:Value} (h:Box4 w b t x y z u) (hs:SameBut c w w') (hne:b≠c):Box4 w' b t x y z u:=(hs.block b hne).trans h
theorem after_alloc {K:Act→World→Prop} {a:Act} {X:World} {o:Obj} (h:∀ W,Below X.heap.size X W→W.heap[X.heap.size]?=some o→X.heap.size < W.heap.size→K a W):K a (X.alloc o) :=
 h _ (bw4 (bw0 _ _) _) Array.getElem?_push_size (by simp)
theorem AroundAt.but {w w':World} {b c:Nat} {A B C:Side} (h:AroundAt w b A B C) (hs:SameBut c w w') (hne:b≠c):AroundAt w' b A B C:=by
 have hc:∀ o,w'.cell? ⟨b,o,none⟩=w.cell? ⟨b,o,none⟩:=fun o=>World.cell?_of_block (hs.block b hne)
 unfold AroundAt at *
 simpa only [hc] using h
end Go.Proofs.YthihcjgmlbnapaaGreatDoor
namespace Go.Proofs.YthihcjgmlbnapaaGreatDoor
section
variable {F:Fence} {n:Nat} {P:Program} {ops:Array Oper} {Q:Exit→Act→World→Prop} {md:Region.Mode} {L:List Nat} {R:World→Prop}
def wpAnyI (F:Fence) (n:Nat) (P:Program) (md:Region.Mode) (ops:Array Oper) (Q:Exit→Act→World→Prop) (L:List Nat) (R:World→Prop):Nat→Array Bool→Act→World→Prop
 | 0,listed,a,w=>Region.ready md ops listed=[]∧Q .normal a w
 | fuel+1,listed,a,w =>
  (Region.ready md ops listed=[]→Q .normal a w) ∧
  ∀ i ∈ Region.ready md ops listed,wpOpIn F n P ops Q i (fun a' w'=>SF L R (listed.setIfInBounds i true) w'∧wpAnyI F n P md ops Q L R fuel (listed.setIfInBounds i true) a' w') a w
theorem wpAnyIn_of_I:∀ (fuel:Nat) (listed:Array Bool) (a:Act) (w:World),wpAnyI F n P md ops Q L R fuel listed a w→wpAnyIn F n P md ops Q fuel listed a w
 | 0,_,_,_,h=>h
 | fuel+1,_,_,_,h=>⟨h.1,fun i hi=>wpOpIn_mono (fun a' w' h'=>wpAnyIn_of_I fuel _ a' w' h'.2) (h.2 i hi)⟩
def YieldsR (P:Program) (ops:Array Oper) (R:World→Prop) (o:Oper) (v:Value) (a:Act):Prop:=YieldsIf P ops R o v a∧∀ w,o.about P w a.eval=none
theorem YieldsR.of_same {o:Oper} {v:Value} {a a':Act} (hy:YieldsR P ops R o v a) (he:execOp a'.eval o=execOp a.eval o)
  (hw:Region.wanted o (yielded ops a'.tmps)=Region.wanted o (yielded ops a.tmps)) (hb:∀ w,o.about P w a'.eval=o.about P w a.eval):YieldsR P ops R o v a' :=
 ⟨hy.1.of_same he hw,fun w=>by rw [hb w];exact hy.2 w⟩
theorem YieldsR.wpOpIn {i:Nat} {o:Oper} {v:Value} {a:Act} (hnd:∀ c,o.op≠.defer c) (hi:ops[i]?=some o) (hy:YieldsR P ops R o v a)
  {K:Act→World→Prop} {w:World} (hR:R w) (h:K (a.put o.dst v) w):wpOpIn F n P ops Q i K a w:=by
 unfold Go.wpOpIn
 simp only [hi]
 have hab:∀ f,o.about P w a.eval=some f→F.fn f:=fun f hf=>by rw [hy.2 w] at hf;cases hf
 rcases hy.1 with ⟨hw,hv⟩|⟨hw,rfl⟩
 ·simp only [hw,if_true,Oper.wpIn,Oper.semAt_plain F _ _ hnd,hv w hR,Oper.uponIn];exact ⟨hab,h⟩
 ·simp only [hw,Bool.false_eq_true,if_false];exact ⟨hab,h⟩
theorem wpOpIn_putR {j:Nat} {oi oj:Oper} {v:Value} (hnd:∀ c,oj.op≠.defer c) (hj:ops[j]?=some oj) (hap:oi.apart ops oj=true)
  (hsi:∀ cs b,oi.op≠.select cs b) (hsj:∀ cs b,oj.op≠.select cs b)
  (hQ:∀ c a w,Q (.panic c) (a.put oi.dst v) w→Q (.panic c) a w) {K:Act→World→Prop} {a:Act} {w:World}
  (hy:YieldsR P ops R oi v a) (h:wpOpIn F n P ops Q j K (a.put oi.dst v) w) :
  wpOpIn F n P ops Q j (fun a' w'=>YieldsR P ops R oi v a'∧K (a'.put oi.dst v) w') a w:=by
 obtain ⟨h1,h2,h3⟩:=Oper.apart_spec hap
 have keep:∀ (a:Act),YieldsR P ops R oi v a→∀ u,YieldsR P ops R oi v (a.put oj.dst u):=fun a hy u =>
  hy.of_same (execOp_put oi hsi a oj.dst u h3) (wanted_put oi a oj.dst u h3) (fun w=>about_put oi w a oj.dst u h3)
 have keepD:∀ d,YieldsR P ops R oi v { a with defers:=d::a.defers }:=fun d=>hy.of_same rfl rfl (fun _=>rfl)
 unfold wpOpIn at *
 simp only [hj] at *
 rw [wanted_put oj a oi.dst v h1,about_put oj w a oi.dst v h1] at h
 split
 ·rename_i hw
  simp only [hw,if_true] at h
  unfold Oper.wpIn at *
  rw [about_put oj w a oi.dst v h1] at h
  refine ⟨h.1,?_⟩
  have h:=h.2
  rw [Oper.semAt_plain F _ _ hnd,execOp_put oj hsj a oi.dst v h1] at h
  rw [Oper.semAt_plain F _ _ hnd]
  generalize (execOp a.eval oj).run P w=r at *
  cases r with
  | ok x w' =>
   cases x<;>simp only [Oper.uponIn] at h ⊢
   case value u=>exact ⟨keep a hy u,by rw [← Act.put_comm a v u h2];exact h⟩
   case skip=>exact ⟨keep a hy _,by rw [← Act.put_comm a v undef h2];exact h⟩
   case defer d =>
    refine ⟨keep _ (keepD d) _,?_⟩
    rw [← Act.put_comm _ v undef h2,← Act.put_defers]
    exact h
   case enter f args =>
    refine ⟨h.1,CallsIn.mono h.2 fun e w'' he=>?_⟩
    cases e with
    | returned u=>exact ⟨keep a hy u,by rw [← Act.put_comm a v u h2];exact he⟩
    | panicked c=>exact hQ _ _ _ he
    | outgrown=>exact he
   case row row args=>exact ⟨h.1,RowsIn.mono h.2 fun u w'' he=>⟨keep a hy u,by rw [← Act.put_comm a v u h2];exact he⟩⟩
   case round l f tmps assign body =>
    refine ⟨h.1,RoundIn.mono h.2 fun e w'' he=>?_⟩
    cases e with
    | returned u=>exact ⟨keep a hy u,by rw [← Act.put_comm a v u h2];exact he⟩
    | panicked c=>exact hQ _ _ _ he
    | outgrown=>exact he
  | halt x w' =>
   cases x<;>simp only [Oper.uponIn] at h ⊢
   case panic u=>exact hQ _ _ _ h
 ·rename_i hw
  simp only [hw] at h
  exact ⟨h.1,keep a hy _,by rw [← Act.put_comm a v undef h2];exact h.2⟩
def NoDefer (ops:Array Oper):Prop:=∀ (j:Nat) (oj:Oper),ops[j]?=some oj→∀ c,oj.op≠Op.defer c
def isDefer:Op→Bool
 | .defer _=>true
 | _=>false
theorem noDefer_of (h:(ops.all fun o=>!isDefer o.op)=true):NoDefer ops:=by
 intro j oj hj c hc
 obtain ⟨hlt,rfl⟩:=Array.getElem?_eq_some_iff.1 hj
 have:=Array.all_eq_true.1 h j hlt
 rw [hc] at this
 cases this
theorem wpAnyI_first {i:Nat} {oi:Oper} {v:Value} (hi:ops[i]?=some oi) (hsel:∀ (j:Nat) (o:Oper) cs b,ops[j]?=some o→o.op≠.select cs b)
  (hQ:∀ c a w,Q (.panic c) (a.put oi.dst v) w→Q (.panic c) a w) (hiF:i ∉ L) (hnd:NoDefer ops) (hwt:∀ f ∈ L,Waits md ops i f) :
  ∀ (fuel:Nat) (listed:Array Bool) (a:Act) (w:World),Closed md ops listed →
   (∀ j oj,ops[j]?=some oj→j≠i→listed.getD j true=false→(∀ e ∈ oj.after,Region.binds md e=true→e.on≠i)→oi.apart ops oj=true) →
   i ∈ Region.ready md ops listed→YieldsR P ops R oi v a→SF L R listed w →
   wpAnyI F n P md ops Q L R fuel (listed.setIfInBounds i true) (a.put oi.dst v) w→wpAnyI F n P md ops Q L R (fuel+1) listed a w:=by
 have hund:∀ {listed:Array Bool},i ∈ Region.ready md ops listed→¬ listed.getD i false=true:=fun {listed} hr h=>by
  have h0:=(mem_ready.1 hr).1
  rcases Nat.lt_or_ge i listed.size with h'|h'
  ·simp [h'] at h0 h;rw [h0] at h;cases h
  ·simp [Array.getElem?_eq_none h'] at h
 have hR:∀ {listed:Array Bool} {w:World},Closed md ops listed→i ∈ Region.ready md ops listed→SF L R listed w→R w:=by
  intro listed w hcl hr hS
  rcases hS with ⟨f,hf,hl⟩|h
  ·exact absurd ((hwt f hf).listed hcl hl) (hund hr)
  ·exact h
 have hself:∀ {listed:Array Bool} {w:World},SF L R listed w→SF L R (listed.setIfInBounds i true) w:=by
  intro listed w hS
  refine hS.imp ?_ id
  rintro ⟨f,hf,hl⟩
  exact ⟨f,hf,getD_set_true hl⟩
 intro fuel
 induction fuel with
 | zero =>
  intro listed a w hcl _ hr hy hS H
  refine ⟨fun h=>(by rw [h] at hr;cases hr),fun j hj=>?_⟩
  by_cases hji:j=i
  ·subst hji;exact hy.wpOpIn (hnd _ _ hi) hi (hR hcl hr hS) ⟨hself hS,H⟩
  ·have:=ready_mono hj hji
   rw [H.1] at this
   cases this
 | succ fuel ih =>
  intro listed a w hcl hfree hr hy hS H
  refine ⟨fun h=>(by rw [h] at hr;cases hr),fun j hj=>?_⟩
  by_cases hji:j=i
  ·subst hji;exact hy.wpOpIn (hnd _ _ hi) hi (hR hcl hr hS) ⟨hself hS,H⟩
  ·have h1:=H.2 j (ready_mono hj hji)
   obtain ⟨hjun,oj,hoj,hall⟩:=mem_ready.1 hj
   have hnot:∀ e ∈ oj.after,Region.binds md e=true→e.on≠i:=fun e he hb heq=>by
    have h1:=hall e he hb
    have h0:=(mem_ready.1 hr).1
    rw [heq] at h1
    rcases Nat.lt_or_ge i listed.size with h'|h'
    ·simp [h'] at h0 h1;rw [h0] at h1;cases h1
    ·simp [Array.getElem?_eq_none h'] at h1
   have hjF:j ∉ L:=fun hjf=>hund hr ((hwt j hjf).ready hcl hj)
   have h2:=wpOpIn_putR (hnd _ _ hoj) hoj (hfree j oj hoj hji hjun hnot) (fun cs b=>hsel i oi cs b hi) (fun cs b=>hsel j oj cs b hoj) hQ hy h1
   have hfree':∀ k ok,ops[k]?=some ok→k≠i→(listed.setIfInBounds j true).getD k true=false →
     (∀ e ∈ ok.after,Region.binds md e=true→e.on≠i)→oi.apart ops ok=true:=fun k ok hk hki hun hno=>by
    refine hfree k ok hk hki ?_ hno
    by_cases hjk:j=k
    ·subst hjk;exact hjun
    ·rw [getD_set_ne true hjk] at hun;exact hun
   have hcl':=hcl.set hj
   refine wpOpIn_mono (fun a' w' h3=>⟨?_,ih (listed.setIfInBounds j true) a' w' hcl' hfree' (ready_mono hr (Ne.symm hji)) h3.1 ?_ ?_⟩) h2
   ·have:=h3.2.1
    rw [Array.setIfInBounds_comm _ _ (Ne.symm hji)] at this
    exact sF_set hiF this
   ·have:=h3.2.1
    rw [Array.setIfInBounds_comm _ _ (Ne.symm hji)] at this
    exact sF_set hiF this
   ·rw [Array.setIfInBounds_comm _ _ hji]
    exact h3.2.2
variable {listed:Array Bool} {a:Act} {w:World}
def wpE (F:Fence) (n:Nat) (P:Program) (md:Region.Mode) (ops:Array Oper) (Q:Exit→Act→World→Prop) (L:List Nat) (R:World→Prop) (fuel:Nat) (listed:Array Bool) (a:Act) (w:World):Prop:=Closed md ops listed→wpAnyI F n P md ops Q L R fuel listed a w
theorem region_I {id:Nat} (k:Nat) (M:Array Bool) (hm:P.follows .mixedOrders=true) (hn:ops.size=k) (hM:Array.replicate k false=M) (hQ:∀ c (a:Act) d v w,Q (.panic c) (a.put (some d) v) w→Q (.panic c) a w)
  (h:∀ Q':Exit→Act→World→Prop,(∀ c (a:Act) d v w,Q' (.panic c) (a.put (some d) v) w→Q' (.panic c) a w)→Shut (∀ a w,Q .normal a w→Q' .normal a w)→Shut (LetsOut Q→LetsOut Q')→wpE F n P .any ops Q' L R k M a w.drew) :
  (Code.region id ops true).wpIn F n P Q a w:=wpIn_region_any hm (by
 rw [hn,hM]
 refine wpAnyIn_of_I _ _ _ _ (h Q hQ (fun _ _ h=>h) (fun h=>h) ?_)
 intro f o ho hf
 rw [← hM] at hf
 simp only [Array.getD_eq_getD_getElem?] at hf
 by_cases hfn:f < k
 ·simp [hfn] at hf
 ·simp [hfn] at hf)
def NoPanic (Q:Exit→Act→World→Prop) (e:Exit) (a:Act) (w:World):Prop:=(∀ c,e≠.panic c)∧Q e a w
theorem region_J {id:Nat} (k:Nat) (M:Array Bool) (hm:P.follows .mixedOrders=true) (hn:ops.size=k) (hM:Array.replicate k false=M)
  (h:∀ Q':Exit→Act→World→Prop,(∀ c (a:Act) d v w,Q' (.panic c) (a.put (some d) v) w→Q' (.panic c) a w)→Shut (∀ a w,Q .normal a w→Q' .normal a w)→wpE F n P .any ops Q' L R k M a w.drew) :
  (Code.region id ops true).wpIn F n P Q a w :=
 Code.wpIn_mono (Q:=NoPanic Q) (fun e a w h=>h.2) (region_I (Q:=NoPanic Q) k M hm hn hM (fun c a d v w h=>absurd rfl (h.1 c)) (fun Q' hQ' hN _=>h Q' hQ' (fun a w hq=>hN.out a w ⟨(fun c hc=>by cases hc),hq⟩)))
theorem takeI (d:Nat) {i:Nat} {oi:Oper} {v:Value} {fuel:Nat} (hQ:∀ c (a:Act) d v w,Q (.panic c) (a.put (some d) v) w→Q (.panic c) a w) (hS:R w) (hi:ops[i]?=some oi) (hd:oi.dst=some d)
  (hs:Region.noSelect ops=true) (hf:Region.free md ops listed i=true) (hr:(Region.ready md ops listed).contains i=true)
  (hw:Region.wanted oi (yielded ops a.tmps)=true) {fw:Nat} (hk:(!L.contains i && L.all (waitsB md ops i fw) && ops.all fun o=>!isDefer o.op)=true) (hab:∀ w,oi.about P w a.eval=none) (hy:∀ w,R w→(execOp a.eval oi).run P w=.ok (.value v) w)
  (h:wpE F n P md ops Q L R fuel (listed.setIfInBounds i true) (a.put (some d) v) w):wpE F n P md ops Q L R (fuel+1) listed a w:=by
 simp only [Bool.and_eq_true,Bool.not_eq_true'] at hk
 obtain ⟨⟨hk1,hk2⟩,hk3⟩:=hk
 have hr':i ∈ Region.ready md ops listed:=by simpa using hr
 intro hc
 exact wpAnyI_first hi (Region.noSelect_spec hs) (fun c a w h=>putQ hQ c a w h) (by simpa using hk1) (noDefer_of (by simpa using hk3)) (fun f hf=>waits_of (List.all_eq_true.1 hk2 f hf)) fuel listed a w hc (Region.free_spec hi hf) hr' ⟨Or.inl ⟨hw,hy⟩,hab⟩ (.inr hS) (by rw [hd];exact h (hc.set hr'))
theorem tkI (d : Nat) {i : Nat} {oi : Oper} {v : Value} {fuel : Nat} (hQ : ∀ c (a : Act) d v w, Q (.panic c) (a.put (some d) v) w → Q (.panic c) a w) (hS : R w) (hi : ops[i]? = some oi) {fw : Nat}
 (hab : ∀ w, oi.about P w a.eval = none) (hy : ∀ w, R w → (execOp a.eval oi).run P w = .ok (.value v) w) (h : wpE F n P md ops Q L R fuel (listed.setIfInBounds i true) (a.put (some d) v) w) (hd : oi.dst = some d := by kernel_rfl)
 (hs : Region.noSelect ops = true := by kernel_rfl) (hf : Region.free md ops listed i = true := by kernel_rfl) (hr : (Region.ready md ops listed).contains i = true := by kernel_rfl)
 (hw : Region.wanted oi (yielded ops a.tmps) = true := by kernel_rfl) (hk : (!L.contains i && L.all (waitsB md ops i fw) && ops.all fun o => !isDefer o.op) = true := by kernel_rfl) : wpE F n P md ops Q L R (fuel + 1) listed a w :=
 takeI d hQ hS hi hd hs hf hr hw hk hab hy h
def AllReadyI (F:Fence) (n:Nat) (P:Program) (md:Region.Mode) (ops:Array Oper) (Q:Exit→Act→World→Prop) (L:List Nat) (R:World→Prop) (fuel:Nat) (listed:Array Bool) (a:Act) (w:World) (rs:List Nat):Prop :=
 ∀ i ∈ rs,i ∈ Region.ready md ops listed→Closed md ops listed→wpOpIn F n P ops Q i (fun a' w'=>SF L R (listed.setIfInBounds i true) w'∧wpAnyI F n P md ops Q L R fuel (listed.setIfInBounds i true) a' w') a w
theorem AllReadyI.nil {fuel:Nat}:AllReadyI F n P md ops Q L R fuel listed a w []:=fun _ h=>by cases h
theorem stepRI {i:Nat} {o:Oper} {rs:List Nat} {fuel:Nat} (ho:ops[i]?=some o) (hw:Region.wanted o (yielded ops a.tmps)=true)
  (h:∀ K':Act→World→Prop,Shut (∀ a w,R w→wpE F n P md ops Q L R fuel (listed.setIfInBounds i true) a w→K' a w)→Oper.wpIn F n P o a w K' Q)
  (hs:AllReadyI F n P md ops Q L R fuel listed a w rs):AllReadyI F n P md ops Q L R fuel listed a w (i::rs):=fun j hj hr hc=>by
 rcases List.mem_cons.1 hj with rfl|hj
 ·exact wpOpIn_step ho (fun K' hK=>by rw [if_pos hw];exact h K' (fun a w hR hW=>hK a w ⟨.inr hR,hW (hc.set hr)⟩))
 ·exact hs j hj hr hc
theorem stepFI {i:Nat} {o:Oper} {rs:List Nat} {fuel:Nat} (ho:ops[i]?=some o) (hw:Region.wanted o (yielded ops a.tmps)=true) (hF:(L.contains i && decide (i < listed.size))=true)
  (h:∀ K':Act→World→Prop,Shut (∀ a w,wpE F n P md ops Q L R fuel (listed.setIfInBounds i true) a w→K' a w)→Oper.wpIn F n P o a w K' Q)
  (hs:AllReadyI F n P md ops Q L R fuel listed a w rs):AllReadyI F n P md ops Q L R fuel listed a w (i::rs):=fun j hj hr hc=>by
 rcases List.mem_cons.1 hj with rfl|hj
 ·simp only [Bool.and_eq_true,decide_eq_true_eq] at hF
  refine wpOpIn_step ho (fun K' hK=>by rw [if_pos hw];exact h K' (fun a w hW=>hK a w ⟨.inl ⟨j,by simpa using hF.1,by simp [hF.2]⟩,hW (hc.set hr)⟩))
 ·exact hs j hj hr hc
theorem wpAnyI_ready {rs:List Nat} {fuel:Nat} (hr:Region.ready md ops listed=rs) (hne:rs≠[])
  (h:AllReadyI F n P md ops Q L R fuel listed a w rs):wpE F n P md ops Q L R (fuel+1) listed a w:=fun hc=>⟨fun h0=>absurd (hr ▸ h0) hne,fun i hi=>h i (hr ▸ hi) hi hc⟩
theorem wpAnyI_done (hr:Region.ready md ops listed=[]) (h:Q .normal a w):∀ fuel,wpE F n P md ops Q L R fuel listed a w
 | 0=>fun _=>⟨hr,h⟩
 | _+1=>fun _=>⟨fun _=>h,by rw [hr];simp⟩
end
theorem tI (d i:Nat) {P:Program} {ops:Array Oper} {Q:Exit→Act→World→Prop} {md:Region.Mode} {F:Fence} {n:Nat} {L:List Nat} {R:World→Prop} {listed L':Array Bool} {a a':Act} {w:World} {oi:Oper} {v:Value} {fuel:Nat}
  (h:wpE F n P md ops Q L R fuel L' a' w)
  (hQ:∀ c (a:Act) d v w,Q (.panic c) (a.put (some d) v) w→Q (.panic c) a w:=by assumption) (hS:R w:=by assumption)
  (hi:ops[i]?=some oi:=by rfl) (hd:oi.dst=some d:=by kernel_rfl) (hs:Region.noSelect ops=true:=by kernel_rfl) (hf:Region.free md ops listed i=true:=by kernel_rfl)
  (hr:(Region.ready md ops listed).contains i=true:=by kernel_rfl) (hw:Region.wanted oi (yielded ops a.tmps)=true:=by kernel_rfl) (fw:Nat:=4) (hk:(!L.contains i && L.all (waitsB md ops i fw) && ops.all fun o=>!isDefer o.op)=true:=by kernel_rfl) (hab:∀ w,oi.about P w a.eval=none:=by intro _;rfl)
  (hy:∀ wq,R wq→(execOp a.eval oi).run P wq=.ok (.value v) wq:=by intro wq hRq;(try dsimp only at hRq);go_simp;(try with_reducible rfl))
  (hL:listed.setIfInBounds i true=L':=by (try simp only [bw7,bw8,bw9]);(try with_reducible rfl))
  (ha:a.put (some d) v=a':=by (try simp only [Act.put,bw7,bw8,bw9]);(try with_reducible rfl)):wpE F n P md ops Q L R (fuel+1) listed a w:=by
 subst hL ha
 exact takeI d hQ hS hi hd hs hf hr hw hk hab hy h
end Go.Proofs.YthihcjgmlbnapaaGreatDoor
namespace Go.Proofs.YthihcjgmlbnapaaGreatDoor
open Go.RowKit Go.Shelf
attribute [local go_sem] Oper.semAt_some
def KpR (B b1:Nat) (W W':World):Prop:=Below B W W'∧W'.heap[b1]?=W.heap[b1]?
theorem KpR.t {B b1:Nat} {X Y Z:World} (h:KpR B b1 X Y) (k:KpR B b1 Y Z):KpR B b1 X Z:=⟨h.1.trans k.1,k.2.trans h.2⟩
theorem KpR.b {B b1 m:Nat} (h1:B≤m) (h2:b1 < m) (W:World) (l:Nat) (o o':Obj) (hl:m≤l) (_:W.heap[l]?=some o) (_:o.isCells=false) (_:o.isWalk=false):KpR B b1 W (W.putObj l o'):=by
 have hg:=grownBy_putObj' W l o'
 exact ⟨⟨hg.os,hg.tape,hg.output,hg.size,fun k hk=>World.putObj_heap_other (by omega)⟩,World.putObj_heap_other (by omega)⟩
def fst (n k:Nat):List (Fin n):=(List.finRange n).take k
theorem fst_zero (n:Nat):fst n 0=[]:=rfl
theorem fst_succ {n k:Nat} (h:k < n):fst n (k+1)=fst n k++[⟨k,h⟩]:=by
 unfold fst
 rw [List.take_succ_eq_append_getElem (by simpa using h)]
 simp
theorem fst_all (n:Nat):fst n n=List.finRange n:=List.take_of_length_le (by simp)
theorem fst_length {n k:Nat} (h:k≤n):(fst n k).length=k:=by simp [fst];omega
theorem abides_below' {α:Type} {J:List α→World→Prop} {B:Nat} (hJ:AbidesFrom B J) {xs:List α} {W W':World} (h:J xs W) (hB:Below W.heap.size W W'):J xs W' :=
 hJ xs W W' none h ⟨hB.os,hB.tape,hB.output,hB.size,fun k hk _=>hB.block k hk⟩ (fun r e=>by cases e)
theorem SideAt.belowB {w w':World} {B b o:Nat} {s:Side} (h:SideAt w b o s) (hB:Below B w w') (hb:b < B):SideAt w' b o s:=by
 obtain ⟨h0,h1,h2,h3,h4,h5,h6⟩:=h
 exact ⟨(hB.cell (p:=⟨b,o,none⟩) hb).trans h0,(hB.cell (p:=⟨b,o+1,none⟩) hb).trans h1,(hB.cell (p:=⟨b,o+2,none⟩) hb).trans h2,(hB.cell (p:=⟨b,o+3,none⟩) hb).trans h3,(hB.cell (p:=⟨b,o+4,none⟩) hb).trans h4,(hB.cell (p:=⟨b,o+5,none⟩) hb).trans h5,(hB.cell (p:=⟨b,o+6,none⟩) hb).trans h6⟩
end Go.Proofs.YthihcjgmlbnapaaGreatDoor
namespace Go.Proofs.YthihcjgmlbnapaaGreatDoor
open Go.RowKit Go.Shelf
theorem cells_own {β:Type} {m b:Nat} {o:Obj} (ho:o.isCells=true):OwnFrom m (fun (_:β) W=>W.heap[b]?=some o):=fun s W W' row hs hg hr=>by
 refine (hg.block b (Array.getElem?_eq_some_iff.1 hs).1 ?_).trans hs
 intro e
 obtain ⟨_,o',ho',hc⟩:=hr b e.symm
 rw [hs] at ho'
 cases ho'
 rw [ho] at hc
 cases hc
structure TurnBut (b:Nat) (W W':World):Prop where
 os:W'.os=W.os
 tape:W'.tape=W.tape
 output:W'.output=W.output
 size:W.heap.size≤W'.heap.size
 block:∀ k,k < W.heap.size→k≠b→W'.heap[k]?=W.heap[k]?
theorem TurnBut.but {b:Nat} {W X Y:World} (h:TurnBut b W X) (hs:SameBut b X Y):TurnBut b W Y:=⟨hs.os.trans h.os,hs.tape.trans h.tape,hs.output.trans h.output,by rw [hs.size];exact h.size,fun k hk hne=>(hs.block k hne).trans (h.block k hk hne)⟩
theorem TurnBut.below' {b:Nat} {W X Y:World} (h:TurnBut b W X) (hB:Below X.heap.size X Y):TurnBut b W Y:=⟨hB.os.trans h.os,hB.tape.trans h.tape,hB.output.trans h.output,Nat.le_trans h.size hB.size,fun k hk hne=>(hB.block k (Nat.lt_of_lt_of_le hk h.size)).trans (h.block k hk hne)⟩
theorem TurnBut.below {b B:Nat} {w W W':World} (h:TurnBut b W W') (hB:Below B w W) (hb:B≤b) (hBW:B≤W.heap.size):Below B w W':=hB.trans ⟨h.os,h.tape,h.output,h.size,fun k hk=>h.block k (by omega) (by omega)⟩
theorem after_set1 {K:Act→World→Prop} {a:Act} {w:World} {b:Nat} {t:TypeId} {v v':Value} (hx:Boxed w b t v) (h:∀ W,SameBut b w W→Boxed W b t v'→K a W):K a (w.setCell ⟨b,0,none⟩ v') :=
 h _ (sameBut_setCell _ _ _ _) (hx.set v')
theorem boxed_below {w w':World} {b:Nat} {t:TypeId} {v:Value} (h:Boxed w b t v) (hB:Below w.heap.size w w'):Boxed w' b t v:=(hB.block b h.lt).trans h
end Go.Proofs.YthihcjgmlbnapaaGreatDoor
namespace Go.Proofs.YthihcjgmlbnapaaGreatDoor
open Go.RowKit Go.Shelf
attribute [local go_sem] Oper.semAt_some
def RetNum (n:Int) (k:Nat) (w:World) (e:Ending) (w':World):Prop:=∃ l v,e=.returned v∧OwnInts w' w.heap.size v l∧Num l n∧l.length≤k∧Below w.heap.size w w'
theorem RetLimbs.num {d:Nat→Int} {n:Nat} {w:World} {e:Ending} {w':World} {l:List Int} {v:Value} (h:RetLimbs d n w e w' l v) (hd:∀ i,Dig (d i)):Num l (vt d n):=by
 refine ⟨digs_of fun i hi=>?_,h.trim,?_⟩
 ·rw [h.lt i (Nat.lt_of_lt_of_le hi h.len)];exact hd i
 ·rw [← vt_val h.len];exact vt_congr fun i hi=>h.lt i hi
def pcar (a b:Nat→Int):Nat→Int
 | 0=>0
 | k+1=>(a k+b k+pcar a b k) / 1000000000
theorem pcar_bd {a b:Nat→Int} (ha:∀ i,Dig (a i)) (hb:∀ i,Dig (b i)) (k:Nat):0≤pcar a b k∧pcar a b k≤1:=by
 induction k with
 | zero=>simp [pcar]
 | succ k ih =>
  obtain ⟨a1,a2⟩:=ha k
  obtain ⟨b1,b2⟩:=hb k
  unfold pcar;omega
def mcar (a b:Nat→Int):Nat→Int
 | 0=>0
 | k+1=>if 0≤a k - b k - mcar a b k then 0 else 1
theorem mcar_bd {a b:Nat→Int} (k:Nat):0≤mcar a b k∧mcar a b k≤1:=by
 cases k with
 | zero=>simp [mcar]
 | succ k=>unfold mcar;split<;>omega
theorem plusL_ok {a b:List Int} {x y:Int} (va vb:Value) (w:World) (hva:IsInts w va a) (hvb:IsInts w vb b) (ha:Num a x) (hb:Num b y) (hal:a.length≤1000) (hbl:b.length≤1000) :
  Calls Tryz.prog 140 #[va,vb,.func (.func 141) #[] #[]] w (RetNum (x+y) (max a.length b.length+1) w):=by
 have hc:=pcar_bd ha.digs hb.digs
 have hdd:∀ i,Dig ((lim a i+lim b i+pcar (lim a) (lim b) i) % 1000000000):=fun i=>⟨by omega,by omega⟩
 refine (combine_plus a b va vb (fun k=>(lim a k+lim b k+pcar (lim a) (lim b) k) % 1000000000) (pcar (lim a) (lim b)) w hva hvb hal hbl rfl (fun k W=>?_)).mono ?_
 ·exact plus_ok _ _ _ W (ha.digs k) (hb.digs k) ⟨(hc k).1,by have:=(hc k).2;omega⟩
 ·rintro e w' ⟨l,v,h⟩
  refine ⟨l,v,h.ret,h.own,?_,h.len,h.below⟩
  have hn:=h.num hdd
  have hs:=sum_limbs (a:=lim a) (b:=lim b) (d:=fun k=>(lim a k+lim b k+pcar (lim a) (lim b) k) % 1000000000) (c:=pcar (lim a) (lim b)) rfl (fun k=>by
   show (lim a k+lim b k+pcar (lim a) (lim b) k) % 1000000000+1000000000 * ((lim a k+lim b k+pcar (lim a) (lim b) k) / 1000000000)=_
   omega) (max a.length b.length+1)
  have ea:=vt_val (l:=a) (n:=max a.length b.length+1) (by omega)
  have eb:=vt_val (l:=b) (n:=max a.length b.length+1) (by omega)
  have hx:=ha.high.2
  have hy:=hb.high.2
  have h1:=pw_mono (show a.length≤max a.length b.length by omega)
  have h2:=pw_mono (show b.length≤max a.length b.length by omega)
  have h3:pw (max a.length b.length+1)=1000000000 * pw (max a.length b.length):=rfl
  have h4:=hn.high.1
  have hcn:=hc (max a.length b.length+1)
  have hp:=pw_pos (max a.length b.length)
  rw [ea,eb,ha.sum,hb.sum] at hs
  have h0:pcar (lim a) (lim b) (max a.length b.length+1)=0:=by
   refine Decidable.byContradiction fun hne=>?_
   have h5:pcar (lim a) (lim b) (max a.length b.length+1)=1:=by omega
   rw [h5] at hs
   omega
  rw [h0] at hs
  rw [show x+y=vt (fun k=>(lim a k+lim b k+pcar (lim a) (lim b) k) % 1000000000) (max a.length b.length+1) by omega]
  exact hn
theorem minusL_ok {a b:List Int} {x y:Int} (va vb:Value) (w:World) (hva:IsInts w va a) (hvb:IsInts w vb b) (ha:Num a x) (hb:Num b y) (hal:a.length≤1000) (hbl:b.length≤1000) (hyx:y≤x) :
  Calls Tryz.prog 140 #[va,vb,.func (.func 142) #[] #[]] w (RetNum (x - y) (max a.length b.length+1) w):=by
 have hc:=mcar_bd (a:=lim a) (b:=lim b)
 have hdd:∀ i,Dig (lim a i - lim b i - mcar (lim a) (lim b) i+1000000000 * mcar (lim a) (lim b) (i+1)):=fun i=>by
  obtain ⟨a1,a2⟩:=ha.digs i
  obtain ⟨b1,b2⟩:=hb.digs i
  have:=hc i
  show Dig (_ - _ - _+1000000000 * (if 0≤lim a i - lim b i - mcar (lim a) (lim b) i then 0 else 1))
  split<;>exact ⟨by omega,by omega⟩
 refine (combine_minus a b va vb (fun k=>lim a k - lim b k - mcar (lim a) (lim b) k+1000000000 * mcar (lim a) (lim b) (k+1)) (mcar (lim a) (lim b)) w hva hvb hal hbl rfl (fun k W=>?_)).mono ?_
 ·refine (minus_ok _ _ _ W (ha.digs k) (hb.digs k) ⟨(hc k).1,by have:=(hc k).2;omega⟩).mono ?_
  rintro e w' ⟨rfl,rfl⟩
  refine ⟨?_,rfl⟩
  show _=Ending.returned (.tuple #[.int .i64 (_ - _ - _+1000000000 * (if 0≤lim a k - lim b k - mcar (lim a) (lim b) k then 0 else 1)),.int .i64 (if 0≤lim a k - lim b k - mcar (lim a) (lim b) k then 0 else 1)])
  split
  ·simp
  ·simp
 ·rintro e w' ⟨l,v,h⟩
  refine ⟨l,v,h.ret,h.own,?_,h.len,h.below⟩
  have hn:=h.num hdd
  have hs:=diff_limbs (a:=lim a) (b:=lim b) (d:=fun k=>lim a k - lim b k - mcar (lim a) (lim b) k+1000000000 * mcar (lim a) (lim b) (k+1)) (c:=mcar (lim a) (lim b)) rfl (fun k=>rfl) (max a.length b.length+1)
  have ea:=vt_val (l:=a) (n:=max a.length b.length+1) (by omega)
  have eb:=vt_val (l:=b) (n:=max a.length b.length+1) (by omega)
  have h4:=vt_bound (f:=fun k=>lim a k - lim b k - mcar (lim a) (lim b) k+1000000000 * mcar (lim a) (lim b) (k+1)) (k:=max a.length b.length+1) (fun i _=>hdd i)
  have hcn:=hc (max a.length b.length+1)
  rw [ea,eb,ha.sum,hb.sum] at hs
  have h0:mcar (lim a) (lim b) (max a.length b.length+1)=0:=by
   refine Decidable.byContradiction fun hne=>?_
   have h5:mcar (lim a) (lim b) (max a.length b.length+1)=1:=by omega
   rw [h5] at hs
   omega
  rw [h0] at hs
  rw [show x - y=vt (fun k=>lim a k - lim b k - mcar (lim a) (lim b) k+1000000000 * mcar (lim a) (lim b) (k+1)) (max a.length b.length+1) by omega]
  exact hn
def encB (l:List Int) (k:Fin l.length):Array Value:=#[.int .i64 ((l.length:Int) - 1 - k.1),.int .i64 (lim l (l.length - 1 - k.1))]
theorem backward_any (a:Option Addr) (n cap:Nat) (w:World) :
  Calls Tryz.prog 181 #[.slice a n cap] w fun e w'=>e=.returned (.func (.func 210) #[] #[.pointer (some ⟨w.heap.size,0,none⟩)])∧w'=w.alloc (.cells #[.slice a n cap] 205):=by
 have hmf:∀ (fn:Fn) (first cap:Array Value) (w:World),(Instr.makeFunc fn first cap).run Tryz.prog w=.ok (.func fn first cap) w:=fun _ _ _ _=>rfl
 go_enter Tryz.func181,Tryz.ntmps181
 go_wp2_with fail
 go_ret
 exact ⟨rfl,rfl⟩
theorem back1_in (l:List Int) (n:Nat) (hn:1≤n) (lb b1 B cap:Nat) (a:Option Addr) (J Jx:List (Fin l.length)→World→Prop) (hlen:l.length≤1000)
  (hY:∀ pre x W,J pre W→pre.length < l.length→YieldAt Fence.wide (n - 1) Tryz.prog lb (encB l x) W fun e W' =>
   (e=.returned (.bool true)∧J (pre++[x]) W'∧KpR B b1 W W')∨(e=.returned (.bool false)∧Jx (pre++[x]) W'))
  (W:World) (hJ:AbidesFrom W.heap.size J) (c1:W.cell? ⟨b1,0,none⟩=some (.slice a l.length cap)) (hcells:l.length≠0→∃ b off,b < B∧a=some ⟨b,off,none⟩∧∀ k,k < l.length→W.cell? ⟨b,off+k,none⟩=some (.int .i64 (lim l k))) (h0:J [] W) :
  CallsIn Fence.wide n Tryz.prog 210 #[.func (.yield lb) #[] #[],.pointer (some ⟨b1,0,none⟩)] W fun e W'=>(∃ v,e=.returned v) ∧
   (J (List.finRange l.length) W'∨(∃ pre,(∃ k,k≤l.length∧pre=fst l.length k)∧Jx pre W')):=by
 have HJ:=Lib.hid hJ
 have HY:=Lib.hid hY
 have HC:=Lib.hid hcells
 clear hJ hY hcells
 refine callsIn_of_wp Tryz.func210 rfl trivial ?_ rfl
 simp only [Tryz.ntmps210,List.size_toArray,List.length_cons,List.length_nil,Nat.reduceAdd,Nat.reduceSub,Array.replicate_succ,Array.replicate_zero,List.push_toArray,List.append_toArray,List.nil_append,List.cons_append]
 have hwm:IntKind.i64.wrap ((l.length:Int) - 1)=(l.length:Int) - 1:=IntWalk.i64_in _ (by omega)
 gi_wp2
 gi_loopg [3] l.length (fun g v wr=>∃ k:Nat,k≤l.length∧g=l.length - k∧v=.int .i64 ((l.length:Int) - 1 - k)∧Hid (J (fst l.length k) wr)∧wr.cell? ⟨b1,0,none⟩=some (.slice a l.length cap)∧Hid (l.length≠0→∃ b off,b < B∧a=some ⟨b,off,none⟩∧∀ k,k < l.length→wr.cell? ⟨b,off+k,none⟩=some (.int .i64 (lim l k))))
 case atStart=>exact ⟨0,by omega,rfl,by simp,Lib.hid h0,c1,HC⟩
 case round =>
  obtain ⟨k,hk,rfl,rfl,hJk,k1,hRk⟩:=hrel
  by_cases hkn:k=l.length
  ·subst hkn
   have hge:¬ (0:Int)≤(l.length:Int) - 1 - (l.length:Int):=by omega
   gi_wp2
   go_end0
   exact ⟨⟨_,rfl⟩,.inl (by have:=hJk.out;rw [fst_all] at this;exact this)⟩
  ·have hge:(0:Int)≤(l.length:Int) - 1 - (k:Int):=by omega
   obtain ⟨b,off,hbB,rfl,hcell⟩:=hRk.out (by omega)
   have ck:=hcell (l.length - 1 - k) (by omega)
   have hs:((l.length:Int) - 1 - (k:Int)).toNat=l.length - 1 - k:=by omega
   have hw1:IntKind.i64.wrap ((l.length:Int) - 1 - (k:Int) - 1)=(l.length:Int) - 1 - (k:Int) - 1:=IntWalk.i64_in _ (by omega)
   have hlt:(l.length:Int) - 1 - (k:Int) < (l.length:Int):=by omega
   have hYk:=Lib.hid (fun W hW=>HY.out (fst l.length k) ⟨k,by omega⟩ W hW (by rw [fst_length hk];omega))
   have HE:Hid (encB l ⟨k,by omega⟩=#[.int .i64 ((l.length:Int) - 1 - k),.int .i64 (lim l (l.length - 1 - k))]):=Lib.hid rfl
   have hRR:=Lib.hid hcell
   clear hcell hRk
   obtain ⟨fn,tmps,assign,body,hy,hR2⟩:=hYk.out _ hJk.out
   have HR2:=Lib.hid hR2
   rw [HE.out] at hy
   clear hR2
   gi_wp2
   refine HR2.out.mono ?_
   rintro e W3 (⟨rfl,hJ3,hk3⟩|⟨rfl,hJx3⟩)
   ·have k13:W3.cell? ⟨b1,0,none⟩=some (.slice (some ⟨b,off,none⟩) l.length cap):=(World.cell?_of_block hk3.2).trans k1
    have hR3:Hid (∀ k,k < l.length→W3.cell? ⟨b,off+k,none⟩=some (.int .i64 (lim l k))):=Lib.hid (fun k hk=>(hk3.1.cell (p:=⟨b,off+k,none⟩) hbB).trans (hRR.out k hk))
    have hJ3':=Lib.hid hJ3
    clear hJ3 hk3 hy HR2 k1 ck
    gi_wp2
    gi_roundg (l.length - (k+1))
    case rel=>exact ⟨k+1,by omega,rfl,by go_num,Lib.hid (by rw [fst_succ (by omega)];exact hJ3'.out),k13,Lib.hid (fun _=>⟨b,off,hbB,rfl,hR3.out⟩)⟩
    case measure=>omega
   ·have hJ3':=Lib.hid hJx3
    clear hJx3 hy HR2
    gi_wp2
    refine bodyPost_ret (results_none rfl _ _ _) rfl ?_
    exact ⟨⟨_,rfl⟩,.inr ⟨fst l.length (k+1),⟨k+1,by omega,rfl⟩,by rw [fst_succ (by omega)];exact hJ3'.out⟩⟩
theorem IsInts.lt {w:World} {v:Value} {l:List Int} (h:IsInts w v l) (h0:l.length≠0):∀ b off n cap,v=.slice (some ⟨b,off,none⟩) n cap→b < w.heap.size:=by
 rintro b off n cap rfl
 obtain ⟨e,_,hc⟩:=h.cells
 obtain ⟨b',off',e',hcell⟩:=hc (by omega)
 injection e' with e'
 injection e' with e1 e2
 subst e1
 exact lt_of_cell (hcell 0 (by omega))
theorem back_stops (l:List Int) (n:Nat) (hn:1≤n) (b1 B:Nat) (v:Value) (hlen:l.length≤1000) (w:World) (hB1:B≤w.heap.size) (hv:IsInts w v l) (hvB:l.length≠0→∀ b off n cap,v=.slice (some ⟨b,off,none⟩) n cap→b < B)
  (c1:w.cell? ⟨b1,0,none⟩=some v) :
  SeqStopsK Fence.wide n Tryz.prog 210 #[.pointer (some ⟨b1,0,none⟩)] (encB l) (KpR B b1) (fun ys=>ys=List.finRange l.length) (fun pre=>∃ k,k≤l.length∧pre=fst l.length k) l.length w:=fun lb J Jx W hW hJ _ hY h0=>by
 obtain ⟨a,cap,rfl⟩:=hv.slice
 obtain ⟨_,hcap,hc⟩:=(hv.below hW).cells
 refine (back1_in l n hn lb b1 B cap a J Jx hlen hY W hJ (keep hW c1) (fun h=>?_) h0).mono (fun e w' h=>⟨h.1,h.2.imp (fun h=>⟨_,rfl,h⟩) id⟩)
 obtain ⟨b,off,rfl,hcell⟩:=hc (by omega)
 exact ⟨b,off,hvB h b off _ _ rfl,rfl,hcell⟩
end Go.Proofs.YthihcjgmlbnapaaGreatDoor
namespace Go.Proofs.YthihcjgmlbnapaaGreatDoor
open Go.RowKit
end Go.Proofs.YthihcjgmlbnapaaGreatDoor
namespace Go.Proofs.YthihcjgmlbnapaaGreatDoor
open Go.RowKit Go.Shelf
attribute [local go_sem] Oper.semAt_some
end Go.Proofs.YthihcjgmlbnapaaGreatDoor
namespace Go.Proofs.YthihcjgmlbnapaaGreatDoor
open Go.RowKit
end Go.Proofs.YthihcjgmlbnapaaGreatDoor
namespace Go.Proofs.YthihcjgmlbnapaaGreatDoor
open Go.RowKit
end Go.Proofs.YthihcjgmlbnapaaGreatDoor
namespace Go.Proofs.YthihcjgmlbnapaaGreatDoor
open Go.RowKit Go.Shelf
attribute [local go_sem] Oper.semAt_some
end Go.Proofs.YthihcjgmlbnapaaGreatDoor
namespace Go.Proofs.YthihcjgmlbnapaaGreatDoor
open Go.RowKit Go.Shelf
attribute [local go_sem] Oper.semAt_some
end Go.Proofs.YthihcjgmlbnapaaGreatDoor
namespace Go.Proofs.YthihcjgmlbnapaaGreatDoor
open Go.RowKit
end Go.Proofs.YthihcjgmlbnapaaGreatDoor
namespace Go.Proofs.YthihcjgmlbnapaaGreatDoor
open Go.RowKit Go.Shelf
attribute [local go_sem] Oper.semAt_some
end Go.Proofs.YthihcjgmlbnapaaGreatDoor
namespace Go.Proofs.YthihcjgmlbnapaaGreatDoor
open Go.RowKit
end Go.Proofs.YthihcjgmlbnapaaGreatDoor
namespace Go.Proofs.YthihcjgmlbnapaaGreatDoor
open Go.RowKit Go.Shelf
attribute [local go_sem] Oper.semAt_some
def boxVals (B C:Side):List Value:=[.int .i64 (min B.x C.x),.int .i64 (min B.y C.y),.int .i64 (max B.x C.x),.int .i64 (max B.y C.y)]
def pbox (P:List Ring) (x:Nat × Nat):List Value:=boxVals (sd (rg P x.1) x.2) (nx (rg P x.1) x.2)
end Go.Proofs.YthihcjgmlbnapaaGreatDoor
namespace Go.Proofs.YthihcjgmlbnapaaGreatDoor
open Go.RowKit Go.Shelf
structure Kept2 (u v:Value) (W W':World):Prop where
 os:W'.os=W.os
 tape:W'.tape=W.tape
 output:W'.output=W.output
 size:W.heap.size≤W'.heap.size
 block:∀ k,k < W.heap.size→u.ownBlock≠some k→v.ownBlock≠some k→W'.heap[k]?=W.heap[k]?
theorem Kept2.below' {u v:Value} {W X Y:World} (h:Kept2 u v W X) (hB:Below X.heap.size X Y):Kept2 u v W Y:=⟨hB.os.trans h.os,hB.tape.trans h.tape,hB.output.trans h.output,Nat.le_trans h.size hB.size,fun k hk h1 h2=>(hB.block k (Nat.lt_of_lt_of_le hk h.size)).trans (h.block k hk h1 h2)⟩
end Go.Proofs.YthihcjgmlbnapaaGreatDoor
namespace Go.Proofs.YthihcjgmlbnapaaGreatDoor
open Go.RowKit Go.Shelf
structure Lists (P:List Ring) (w:World) (g3 c3 g4 c4:Nat) (W:World):Prop where
 b3:W.cell? ⟨w.heap.size,0,none⟩=some (.slice (some ⟨g3,0,none⟩) (pls P P.length).length c3)
 b4:W.cell? ⟨w.heap.size+1,0,none⟩=some (.slice (some ⟨g4,0,none⟩) (pls P P.length).length c4)
 pl:∀ i (h:i < (pls P P.length).length),W.cell? ⟨g4,i * 2,none⟩=some (.int .i64 ((pls P P.length)[i].1:Nat))∧W.cell? ⟨g4,i * 2+1,none⟩=some (.int .i64 ((pls P P.length)[i].2:Nat))
 bx:∀ i (h:i < (pls P P.length).length),∀ j u,(pbox P (pls P P.length)[i])[j]?=some u→W.cell? ⟨g3,i * 4+j,none⟩=some u
theorem Lists.below {P:List Ring} {w:World} {g3 c3 g4 c4:Nat} {W W':World} (h:Lists P w g3 c3 g4 c4 W) (hB:Below W.heap.size W W'):Lists P w g3 c3 g4 c4 W' :=
 ⟨keep hB h.b3,keep hB h.b4,fun i hi=>⟨keep hB (h.pl i hi).1,keep hB (h.pl i hi).2⟩,fun i hi j u hu=>keep hB (h.bx i hi j u hu)⟩
end Go.Proofs.YthihcjgmlbnapaaGreatDoor
namespace Go.Proofs.YthihcjgmlbnapaaGreatDoor
open Go.RowKit Go.Shelf
attribute [local go_sem] Oper.semAt_some
end Go.Proofs.YthihcjgmlbnapaaGreatDoor
namespace Go.Proofs.YthihcjgmlbnapaaGreatDoor
open Go.RowKit
end Go.Proofs.YthihcjgmlbnapaaGreatDoor
namespace Go.Proofs.YthihcjgmlbnapaaGreatDoor
open Go.RowKit Go.Shelf
attribute [local go_sem] Oper.semAt_some
theorem Boxed.but {W W':World} {b c:Nat} {t:TypeId} {v:Value} (h:Boxed W b t v) (hs:SameBut c W W') (hne:b≠c):Boxed W' b t v:=(hs.block b hne).trans h
theorem setRow_sameBut (w:World) (b:Nat) (c:Array Value):SameBut b w (w.setRow b c):=⟨rfl,rfl,rfl,by simp [World.setRow],fun k hk=>by
 show (w.heap.modify b _)[k]?=_
 rw [Array.getElem?_modify,if_neg (Ne.symm hk)]⟩
theorem setRow_at {w:World} {b:Nat} {c c':Array Value} {t:TypeId} (h:w.heap[b]?=some (.cells c t (0,0))):(w.setRow b c').heap[b]?=some (.cells c' t (0,0)):=by
 show (w.heap.modify b _)[b]?=_
 rw [Array.getElem?_modify,if_pos rfl,h]
 rfl
theorem keepsFrom_but {m b:Nat} {W W':World} (h:SameBut b W W') (hb:b < m):KeepsFrom m W W':=⟨Nat.le_of_eq h.size.symm,fun k o hk ho _=>(h.block k (by omega)).trans ho⟩
theorem keepsFrom_below {m:Nat} {W W':World} (hB:Below W.heap.size W W'):KeepsFrom m W W':=⟨hB.size,fun k o hk ho _=>(hB.block k (Array.getElem?_eq_some_iff.1 ho).1).trans ho⟩
theorem boxed_new' {X:World} {n:Nat} {t:TypeId} {v:Value} (h:X.heap.size=n):Boxed (X.alloc (.cells #[v] t)) n t v:=by subst h;exact Boxed.new _ _ _
end Go.Proofs.YthihcjgmlbnapaaGreatDoor
