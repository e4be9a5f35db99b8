/- Joined texts: Limb, WLimb, WCombine, WPlusL, WCmpL, WAddL, WBlk, WTimes. -/
import Derived.Test.YteepphiomcedfaaGreatDoorJ01
import Derived.Test.YteepphiomcedfaaGreatDoorJ10
import Derived.Test.YteepphiomcedfaaGreatDoorJ08
import Derived.Test.YteepphiomcedfaaGreatDoorJ13
import Derived.Test.YteepphiomcedfaaGreatDoorJ07
import Derived.Laws.MakeOwn
set_option maxRecDepth 100000
set_option linter.unusedVariables false
set_option linter.unusedSimpArgs false
set_option maxHeartbeats 6400000
namespace Go.Proofs.YteepphiomcedfaaGreatDoor
def pw:Nat→Int
 | 0=>1
 | k+1=>1000000000 * pw k
def vt (f:Nat→Int):Nat→Int
 | 0=>0
 | k+1=>vt f k+f k * pw k
def lim (l:List Int) (i:Nat):Int:=l.getD i 0
def val (l:List Int):Int:=vt (lim l) l.length
def Dig (x:Int):Prop:=0≤x∧x≤999999999
def Digs (l:List Int):Prop:=∀ k,Dig (lim l k)
def Trimmed (l:List Int):Prop:=l.length≠0→lim l (l.length - 1)≠0
structure Num (l:List Int) (n:Int):Prop where
 digs:Digs l
 trim:Trimmed l
 sum:val l=n
theorem lim_eq {l:List Int} {i:Nat} (h:i < l.length):lim l i=l[i]:=by simp [lim,h]
theorem lim_out {l:List Int} {i:Nat} (h:l.length≤i):lim l i=0:=by simp [lim,Nat.not_lt.2 h]
theorem lim_nil (i:Nat):lim [] i=0:=by simp [lim]
theorem lim_snoc_lt {l:List Int} {x:Int} {i:Nat} (h:i < l.length):lim (l++[x]) i=lim l i:=by
 unfold lim
 rw [List.getD_eq_getElem?_getD,List.getElem?_append_left h,← List.getD_eq_getElem?_getD]
theorem lim_snoc {l:List Int} {x:Int}:lim (l++[x]) l.length=x:=by
 unfold lim
 rw [List.getD_eq_getElem?_getD,List.getElem?_append_right (Nat.le_refl _)]
 simp
theorem lim_take {l:List Int} {k i:Nat} (h:i < k):lim (l.take k) i=lim l i:=by
 unfold lim
 rw [List.getD_eq_getElem?_getD,List.getElem?_take_of_lt h,← List.getD_eq_getElem?_getD]
theorem lim_set {l:List Int} {k:Nat} {x:Int} (h:k < l.length) (i:Nat):lim (l.set k x) i=if i=k then x else lim l i:=by
 unfold lim
 by_cases hik:i=k
 ·subst hik;simp [List.getD_eq_getElem?_getD,h]
 ·rw [if_neg hik,List.getD_eq_getElem?_getD,List.getElem?_set_ne (Ne.symm hik),← List.getD_eq_getElem?_getD]
theorem lim_ext {l l':List Int} (h:l.length=l'.length) (he:∀ i,i < l.length→lim l i=lim l' i):l=l' :=
 List.ext_getElem h fun i h1 h2=>by rw [← lim_eq h1,← lim_eq h2];exact he i h1
theorem pw_pos (k:Nat):0 < pw k:=by
 induction k with
 | zero=>decide
 | succ k ih=>unfold pw;omega
theorem pw_mono {k m:Nat} (h:k≤m):pw k≤pw m:=by
 induction m with
 | zero=>rw [Nat.le_zero.1 h];exact Int.le_refl _
 | succ m ih =>
  by_cases hk:k=m+1
  ·rw [hk];exact Int.le_refl _
  ·have:=ih (by omega)
   have:=pw_pos m
   show _≤1000000000 * pw m
   omega
theorem pw_add (k m:Nat):pw (k+m)=pw k * pw m:=by
 induction m with
 | zero=>simp [pw]
 | succ m ih=>rw [Nat.add_succ,pw,ih,pw];grind
theorem vt_congr {f g:Nat→Int} {k:Nat} (h:∀ i,i < k→f i=g i):vt f k=vt g k:=by
 induction k with
 | zero=>rfl
 | succ k ih=>rw [vt,vt,ih fun i hi=>h i (by omega),h k (by omega)]
theorem vt_bound {f:Nat→Int} {k:Nat} (h:∀ i,i < k→Dig (f i)):0≤vt f k∧vt f k < pw k:=by
 induction k with
 | zero=>exact ⟨Int.le_refl _,by show (0:Int) < 1;omega⟩
 | succ k ih =>
  obtain ⟨i1,i2⟩:=ih fun i hi=>h i (by omega)
  obtain ⟨h1,h2⟩:=h k (by omega)
  have hp:=pw_pos k
  have h3:0≤f k * pw k:=Int.mul_nonneg h1 (by omega)
  have h4:f k * pw k≤999999999 * pw k:=Int.mul_le_mul_of_nonneg_right h2 (by omega)
  show 0≤vt f k+f k * pw k∧vt f k+f k * pw k < 1000000000 * pw k
  omega
theorem vt_tail {f:Nat→Int} {n m:Nat} (hnm:n≤m) (h:∀ i,n≤i→i < m→f i=0):vt f m=vt f n:=by
 induction m with
 | zero=>rw [Nat.le_zero.1 hnm]
 | succ m ih =>
  by_cases hk:n=m+1
  ·rw [hk]
  ·rw [vt,h m (by omega) (by omega),ih (by omega) fun i h1 h2=>h i h1 (by omega)]
   omega
theorem vt_val {l:List Int} {n:Nat} (h:l.length≤n):vt (lim l) n=val l:=vt_tail h fun _ h1 _=>lim_out h1
theorem vt_split (f:Nat→Int) (j k:Nat):vt f (j+k)=vt f j+pw j * vt (fun i=>f (j+i)) k:=by
 induction k with
 | zero=>simp [vt]
 | succ k ih=>rw [Nat.add_succ,vt,ih,vt,pw_add];grind
theorem digs_of {l:List Int} (h:∀ i,i < l.length→Dig (lim l i)):Digs l:=fun k=>by
 by_cases hk:k < l.length
 ·exact h k hk
 ·rw [lim_out (by omega)];exact ⟨by omega,by omega⟩
theorem Digs.bound {l:List Int} (h:Digs l):0≤val l∧val l < pw l.length:=vt_bound fun i _=>h i
theorem val_of_lim {l l':List Int} (h:∀ i,lim l i=lim l' i):val l=val l':=by
 have h1:=vt_val (l:=l) (n:=max l.length l'.length) (Nat.le_max_left _ _)
 have h2:=vt_val (l:=l') (n:=max l.length l'.length) (Nat.le_max_right _ _)
 rw [← h1,← h2]
 exact vt_congr fun i _=>h i
theorem lim_take_all {l:List Int} {k:Nat} (h:∀ i,k≤i→lim l i=0) (i:Nat):lim (l.take k) i=lim l i:=by
 by_cases hi:i < k
 ·exact lim_take hi
 ·rw [h i (by omega),lim_out]
  rw [List.length_take];omega
theorem Num.low {l:List Int} {n:Int} (h:Num l n) (hl:l.length≠0):pw (l.length - 1)≤n:=by
 have h0:=h.trim hl
 obtain ⟨k,hk⟩:∃ k,l.length=k+1:=⟨l.length - 1,by omega⟩
 rw [hk,Nat.add_sub_cancel] at h0 ⊢
 have hv:val l=vt (lim l) k+lim l k * pw k:=by unfold val;rw [hk];rfl
 rw [← h.sum,hv]
 have h1:=(vt_bound (f:=lim l) (k:=k) fun i _=>h.digs i).1
 have h2:=h.digs k
 have h3:1 * pw k≤lim l k * pw k:=Int.mul_le_mul_of_nonneg_right (by have:=h2.1;omega) (by have:=pw_pos k;omega)
 omega
theorem Num.high {l:List Int} {n:Int} (h:Num l n):0≤n∧n < pw l.length:=by rw [← h.sum];exact h.digs.bound
theorem Num.zero {l:List Int} {n:Int} (h:Num l n):l.length=0↔n=0:=by
 constructor
 ·intro h0
  rw [← h.sum];unfold val;rw [h0];rfl
 ·intro h0
  refine Decidable.byContradiction fun hl=>?_
  have:=h.low hl
  have:=pw_pos (l.length - 1)
  omega
theorem Num.lt_of_length {a b:List Int} {x y:Int} (ha:Num a x) (hb:Num b y) (h:a.length < b.length):x < y:=by
 have h1:=ha.high.2
 have h2:=hb.low (by omega)
 have h3:=pw_mono (show a.length≤b.length - 1 by omega)
 omega
theorem Num.length_le {a:List Int} {x:Int} {k:Nat} (ha:Num a x) (h:x < pw k):a.length≤k:=by
 refine Decidable.byContradiction fun hc=>?_
 have h2:=ha.low (by omega)
 have h3:=pw_mono (show k≤a.length - 1 by omega)
 omega
theorem vt_top {f g:Nat→Int} {k m:Nat} (hk:k < m) (hf:∀ i,i < k→Dig (f i)) (hg:∀ i,i < k→Dig (g i)) (he:∀ i,k < i→i < m→f i=g i) (h:f k < g k):vt f m < vt g m:=by
 induction m with
 | zero=>omega
 | succ m ih =>
  by_cases hm:k=m
  ·subst hm
   have h1:=(vt_bound hf).2
   have h2:=(vt_bound hg).1
   have h3:(f k+1) * pw k≤g k * pw k:=Int.mul_le_mul_of_nonneg_right (by omega) (by have:=pw_pos k;omega)
   rw [Int.add_mul] at h3
   show vt f k+f k * pw k < vt g k+g k * pw k
   omega
  ·have h1:=ih (by omega) fun i h1 h2=>he i h1 (by omega)
   have h2:=he m (by omega) (by omega)
   show vt f m+f m * pw m < vt g m+g m * pw m
   rw [h2];omega
theorem sum_limbs {a b d c:Nat→Int} (h0:c 0=0) (h:∀ k,d k+1000000000 * c (k+1)=a k+b k+c k) (k:Nat):vt d k+c k * pw k=vt a k+vt b k:=by
 induction k with
 | zero=>simp [vt,h0]
 | succ k ih =>
  have:=h k
  show vt d k+d k * pw k+c (k+1) * (1000000000 * pw k)=vt a k+a k * pw k+(vt b k+b k * pw k)
  grind
theorem diff_limbs {a b d c:Nat→Int} (h0:c 0=0) (h:∀ k,d k=a k - b k - c k+1000000000 * c (k+1)) (k:Nat):vt d k+vt b k=vt a k+c k * pw k:=by
 induction k with
 | zero=>simp [vt,h0]
 | succ k ih =>
  have:=h k
  show vt d k+d k * pw k+(vt b k+b k * pw k)=vt a k+a k * pw k+c (k+1) * (1000000000 * pw k)
  grind
end Go.Proofs.YteepphiomcedfaaGreatDoor
namespace Go.Proofs.YteepphiomcedfaaGreatDoor
open Go.RowKit Go.Shelf
def IsInts (w:World) (v:Value) (l:List Int):Prop:=∃ (a:Option Addr) (cap:Nat),v=.slice a l.length cap∧l.length≤cap∧(l.length≠0→∃ b off,a=some ⟨b,off,none⟩∧∀ k,k < l.length→w.cell? ⟨b,off+k,none⟩=some (.int .i64 (lim l k)))
theorem IsInts.below {w w':World} {v:Value} {l:List Int} (h:IsInts w v l) (hB:Below w.heap.size w w'):IsInts w' v l:=by
 obtain ⟨a,cap,h1,h0,h2⟩:=h
 refine ⟨a,cap,h1,h0,fun hn=>?_⟩
 obtain ⟨b,off,e,hc⟩:=h2 hn
 exact ⟨b,off,e,fun k hk=>keep hB (hc k hk)⟩
theorem isInts_nil (w:World):IsInts w (.slice none 0 0) []:=⟨none,0,rfl,Nat.le_refl _,fun h=>absurd rfl h⟩
theorem IsInts.cells {w:World} {a:Option Addr} {n cap:Nat} {l:List Int} (h:IsInts w (.slice a n cap) l):n=l.length∧n≤cap∧(0 < n→∃ b off,a=some ⟨b,off,none⟩∧∀ k,k < l.length→w.cell? ⟨b,off+k,none⟩=some (.int .i64 (lim l k))):=by
 obtain ⟨a',cap',e,h1,h2⟩:=h
 injection e with e1 e2 e3
 subst e1 e2 e3
 exact ⟨rfl,h1,fun h=>h2 (by omega)⟩
theorem IsInts.slice {w:World} {v:Value} {l:List Int} (h:IsInts w v l):∃ a cap,v=.slice a l.length cap:=by
 obtain ⟨a,cap,h1,_⟩:=h
 exact ⟨a,cap,h1⟩
def intVs (l:List Int):List Value:=l.map (Value.int .i64)
theorem intVs_len (l:List Int):(intVs l).length=l.length:=by simp [intVs]
theorem intVs_snoc (l:List Int) (x:Int):intVs l++[.int .i64 x]=intVs (l++[x]):=by simp [intVs]
theorem intVs_get {l:List Int} {k:Nat} (h:k < l.length):(intVs l)[k]?=some (.int .i64 (lim l k)):=by
 unfold intVs
 rw [List.getElem?_map,List.getElem?_eq_getElem h,lim_eq h];rfl
abbrev OwnInts (w:World) (B:Nat) (v:Value) (l:List Int):Prop:=w.ownsRow B 3 1 v l.length (intVs l)
theorem OwnInts.is {w:World} {B:Nat} {v:Value} {l:List Int} (h:OwnInts w B v l):IsInts w v l:=by
 rcases h.2 with ⟨rfl,hl⟩|⟨g,cap,cur,rfl,_,hg,h1,_,hs,ht⟩
 ·obtain rfl:l=[]:=List.length_eq_zero_iff.1 hl
  exact isInts_nil w
 ·refine ⟨some ⟨g,0,none⟩,cap,rfl,h1,fun _=>⟨g,0,rfl,fun k hk=>?_⟩⟩
  have h2:cur.toList[k]?=some (.int .i64 (lim l k)):=by
   have h3:(cur.toList.take (l.length * 1))[k]?=(intVs l)[k]?:=by rw [ht]
   rw [List.getElem?_take_of_lt (by omega),intVs_get hk] at h3
   exact h3
  have h4:cur[k]?=some (.int .i64 (lim l k)):=by simpa using h2
  simp [World.cell?,hg,h4]
theorem OwnInts.take1 {w:World} {B m:Nat} {a:Option Addr} {n cap:Nat} {l:List Int} (h:OwnInts w B (.slice a n cap) l) (hm:m≤l.length) (h0:0 < l.length):OwnInts w B (.slice a m cap) (l.take m):=by
 have hl:(l.take m).length=m:=by rw [List.length_take];omega
 have e1:(intVs l).take m=intVs (l.take m):=by simp [intVs]
 refine ⟨by rw [intVs_len];omega,?_⟩
 rcases h.2 with ⟨e,hz⟩|⟨g,cap',cur,e,h2,hg,h3,h4,h5,ht⟩
 ·omega
 ·injection e with e2 e3 e4
  subst e2 e4
  refine .inr ⟨g,cap,cur,by rw [hl],h2,hg,by rw [hl];omega,h4,h5,?_⟩
  have e6:cur.toList.take (m * 1)=(cur.toList.take (l.length * 1)).take (m * 1):=by rw [List.take_take,Nat.min_eq_left (by omega)]
  rw [hl,e6,ht,Nat.mul_one,e1]
theorem OwnInts.take' {w:World} {B:Nat} {a:Option Addr} {n cap:Nat} {l:List Int} (h:OwnInts w B (.slice a n cap) l) (m:Nat) (hm:m≤l.length):OwnInts w B (.slice a m cap) (l.take m):=by
 by_cases h0:0 < l.length
 ·exact h.take1 hm h0
 ·obtain rfl:l=[]:=List.length_eq_zero_iff.1 (by omega)
  obtain rfl:m=0:=by simpa using hm
  obtain ⟨rfl,_⟩:=h.is.cells
  exact h
theorem row_shape1 {w:World} {B e size n:Nat} {v:Value} {xs:List Value} (h:w.ownsRow B e size v n xs):∃ sa sc,v=.slice sa n sc∧∀ b,(Value.slice sa n sc).ownBlock=some b→B≤b:=by
 rcases h.2 with ⟨rfl,rfl⟩|⟨g,cap,cur,rfl,hb,_⟩
 ·exact ⟨none,0,rfl,fun b h=>by cases h⟩
 ·exact ⟨_,_,rfl,fun b h=>by cases h;exact hb⟩
theorem Tryz.infoInt:(Tryz.prog.info? 3).map (fun i=>(i.zero,i.size,i.bytes))=some (some (.int .i64 0),1,8):=by kernel_rfl
def RetTrim (l:List Int) (a:Option Addr) (cap:Nat) (w:World) (e:Ending) (w':World):Prop:=∃ m,m≤l.length∧e=.returned (.slice a m cap)∧Trimmed (l.take m)∧(∀ i,lim (l.take m) i=lim l i)∧w'=w
theorem trim_ok (l:List Int) (a:Option Addr) (n cap:Nat) (w:World) (hv:IsInts w (.slice a n cap) l) (hl:l.length≤2000) :
  Calls Tryz.prog 190 #[.slice a n cap] w (RetTrim l a cap w):=by
 obtain ⟨rfl,hcap,hc⟩:=hv.cells
 have HC:=Lib.hid hc
 clear hc hv
 go_enter Tryz.func190,Tryz.ntmps190
 go_wp2_with fail
 go_loopw [0] (fun s wr=>∃ k:Nat,k≤l.length∧s=.slice a k cap∧Hid (∀ i,k≤i→lim l i=0)∧wr=w) (fun s _=>match s with|.slice _ n _=>n|_=>0)
 case atStart=>exact ⟨l.length,Nat.le_refl _,rfl,Lib.hid (fun i hi=>lim_out hi),rfl⟩
 case round =>
  obtain ⟨k,hk,rfl,hz,hwr⟩:=hrel
  subst wr
  by_cases hk0:k=0
  ·subst hk0
   go_wp2_with fail
   go_ret
   exact ⟨0,by omega,rfl,fun h=>absurd (by simp) h,lim_take_all hz.out,rfl⟩
  ·obtain ⟨b,off,rfl,hcell⟩:=HC.out (by omega)
   have ck:=hcell (k - 1) (by omega)
   have hk1:(0:Int) < (k:Int):=by omega
   have hs:((k:Int) - 1).toNat=k - 1:=by omega
   have hcs:=Lib.hid (fun h:lim l (k - 1)=0=>(fun i hi=>by
    by_cases hik:i=k - 1
    ·rw [hik];exact h
    ·exact hz.out i (by omega):∀ i,k - 1≤i→lim l i=0))
   by_cases h0:lim l (k - 1)=0
   ·have h0b:(lim l (k - 1) == 0)=true:=by rw [h0];rfl
    have hcs2:=Lib.hid (hcs.out h0)
    have e1:((k:Int) - 1)=((k - 1:Nat):Int):=by omega
    clear hcell hcs h0
    go_wp2_with fail
    go_roundw
    case rel=>exact ⟨k - 1,by omega,by simp,hcs2,by trivial⟩
    case measure=>simp;omega
   ·have h0b:(lim l (k - 1) == 0)=false:=by rw [beq_eq_false_iff_ne];exact h0
    have HH:=Lib.hid h0
    clear hcell hcs h0
    go_wp2_with fail
    go_ret
    exact ⟨k,hk,rfl,fun h=>by rw [List.length_take,Nat.min_eq_left hk,lim_take (by omega)];exact HH.out,lim_take_all hz.out,rfl⟩
theorem limb_ok (l:List Int) (v:Value) (i:Nat) (w:World) (hv:IsInts w v l) (hl:l.length≤2000) :
  Calls Tryz.prog 223 #[v,.int .i64 i] w fun e w'=>e=.returned (.int .i64 (lim l i))∧w'=w:=by
 obtain ⟨a,cap,rfl⟩:=hv.slice
 obtain ⟨_,hcap,hc⟩:=hv.cells
 clear hv
 by_cases hi:i < l.length
 ·obtain ⟨b,off,rfl,hcell⟩:=hc (by omega)
  have ck:=hcell i hi
  clear hc hcell
  go_enter Tryz.func223,Tryz.ntmps223
  go_wp2_with fail
  go_ret
  exact ⟨rfl,rfl⟩
 ·have h0:=lim_out (Nat.not_lt.1 hi)
  rw [h0]
  clear hc
  go_enter Tryz.func223,Tryz.ntmps223
  go_wp2_with fail
  go_ret
  exact ⟨rfl,rfl⟩
theorem plus_ok (x y c:Int) (w:World) (hx:Dig x) (hy:Dig y) (hc:Dig c) :
  Calls Tryz.prog 168 #[.int .i64 x,.int .i64 y,.int .i64 c] w fun e w'=>e=.returned (.tuple #[.int .i64 ((x+y+c) % 1000000000),.int .i64 ((x+y+c) / 1000000000)])∧w'=w:=by
 obtain ⟨x1,x2⟩:=hx
 obtain ⟨y1,y2⟩:=hy
 obtain ⟨c1,c2⟩:=hc
 go_enter Tryz.func168,Tryz.ntmps168
 go_wp2_with fail
 go_ret2
 exact ⟨by go_num,rfl⟩
theorem minus_ok (x y c:Int) (w:World) (hx:Dig x) (hy:Dig y) (hc:Dig c) :
  Calls Tryz.prog 169 #[.int .i64 x,.int .i64 y,.int .i64 c] w fun e w'=>e=.returned (if 0≤x - y - c then .tuple #[.int .i64 (x - y - c),.int .i64 0] else .tuple #[.int .i64 (x - y - c+1000000000),.int .i64 1])∧w'=w:=by
 obtain ⟨x1,x2⟩:=hx
 obtain ⟨y1,y2⟩:=hy
 obtain ⟨c1,c2⟩:=hc
 by_cases h:0≤x - y - c
 ·rw [if_pos h]
  go_enter Tryz.func169,Tryz.ntmps169
  go_wp2_with fail
  go_ret2
  exact ⟨rfl,rfl⟩
 ·rw [if_neg h]
  go_enter Tryz.func169,Tryz.ntmps169
  go_wp2_with fail
  go_ret2
  exact ⟨rfl,rfl⟩
end Go.Proofs.YteepphiomcedfaaGreatDoor
namespace Go.Proofs.YteepphiomcedfaaGreatDoor
open Go.RowKit Go.Shelf
def limbsTo (d:Nat→Int) (k:Nat):List Int:=(List.range k).map d
theorem limbsTo_len (d:Nat→Int) (k:Nat):(limbsTo d k).length=k:=by simp [limbsTo]
theorem limbsTo_succ (d:Nat→Int) (k:Nat):limbsTo d (k+1)=limbsTo d k++[d k]:=by simp [limbsTo,List.range_succ]
theorem lim_limbsTo {d:Nat→Int} {k i:Nat} (h:i < k):lim (limbsTo d k) i=d i:=by
 rw [lim_eq (by rw [limbsTo_len];exact h)];simp [limbsTo]
structure RetLimbs (d:Nat→Int) (n:Nat) (w:World) (e:Ending) (w':World) (l:List Int) (v:Value):Prop where
 ret:e=.returned v
 own:OwnInts w' w.heap.size v l
 trim:Trimmed l
 lt:∀ i,i < n→lim l i=d i
 out:∀ i,n≤i→lim l i=0
 len:l.length≤n
 below:Below w.heap.size w w'
theorem combine_plus (a b:List Int) (va vb:Value) (d c:Nat→Int) (w:World) (ha:IsInts w va a) (hb:IsInts w vb b) (hal:a.length≤1000) (hbl:b.length≤1000)
  (hc0:c 0=0) (hst:∀ k W,Calls Tryz.prog 168 #[.int .i64 (lim a k),.int .i64 (lim b k),.int .i64 (c k)] W fun e w'=>e=.returned (.tuple #[.int .i64 (d k),.int .i64 (c (k+1))])∧w'=W) :
  Calls Tryz.prog 167 #[va,vb,.func (.func 168) #[] #[]] w fun e w'=>∃ l v,RetLimbs d (max a.length b.length+1) w e w' l v:=by
 obtain ⟨i0,hi0,hz0,hz1,hz2⟩:=info_parts Tryz.infoInt
 obtain ⟨aa,ac,rfl⟩:=ha.slice
 obtain ⟨ba,bc,rfl⟩:=hb.slice
 have HA:=Lib.hid ha
 have HB:=Lib.hid hb
 have HST:=Lib.hid hst
 have HC0:=Lib.hid hc0
 have hE:=enters_of Tryz.func168 (by kernel_rfl) rfl
 obtain ⟨n,hn⟩:∃ n:Nat,max a.length b.length+1=n:=⟨_,rfl⟩
 have hmx:max (a.length:Int) (b.length:Int)=(n:Int) - 1:=by omega
 have hn1:1≤n:=by omega
 have hn2:n≤1001:=by omega
 rw [hn]
 clear ha hb hst hc0 hn
 go_enter Tryz.func167,Tryz.ntmps167
 go_wp2_with fail
 have hn3:(n:Int) - 1+1=(n:Int):=by omega
 go_loopw [7,8,18] (fun s cy i wr=>∃ k:Nat,k≤n∧i=.int .i64 k∧cy=.int .i64 (c k)∧(∃ sa sc,s=.slice sa k sc∧Hid (OwnInts wr w.heap.size (.slice sa k sc) (limbsTo d k)))∧Below w.heap.size w wr) (fun _ _ i _=>n - (intOf i).toNat)
 case atStart=>exact ⟨0,by omega,rfl,by rw [HC0.out],⟨none,0,rfl,Lib.hid (World.ownsRow_nil _ _ _ _)⟩,bw0 _ _⟩
 case round =>
  obtain ⟨k,hk,rfl,rfl,⟨sa,sc,rfl,hown⟩,hB⟩:=hrel
  by_cases hkn:k < n
  ·have LA:=Lib.hid (fun W (h:Below w.heap.size w W)=>limb_ok a _ k W (HA.out.below h) (by omega))
   have LB:=Lib.hid (fun W (h:Below w.heap.size w W)=>limb_ok b _ k W (HB.out.below h) (by omega))
   have LP:=Lib.hid (HST.out k)
   have HR:Hid (wr.ownsRow w.heap.size 3 1 (.slice sa k sc) k (intVs (limbsTo d k))):=Lib.hid (by have:=hown.out;unfold OwnInts at this;rwa [limbsTo_len] at this)
   have hkI:(k:Int) < (n:Int):=by omega
   have m1:k+1≤maxLen:=by unfold maxLen;omega
   have m2:(k+1) * 8≤140737488355328:=by omega
   have M1:=Lib.hid m1
   have M2:=Lib.hid m2
   have hsz:=Lib.hid hB.size
   have N4:=Lib.hid (fun (W:World) (o:Obj) (W':World) (hW:Below w.heap.size w W) (h:(W.alloc o).grownBy W' (Value.slice sa k sc).ownBlock)=>Below.grown (bw4 hW o) h (by have:=hW.size;simp;omega) (fun j hj=>by
    obtain ⟨_,_,e,hge⟩:=row_shape1 HR.out
    injection e with e1 e2 e3
    subst e1 e3
    exact hge j hj))
   clear hown m1 m2
   go_wp2_with fail
   refine (LA.out _ hB).mono ?_
   rintro e w1 ⟨rfl,rfl⟩
   go_wp2_with fail
   refine (LB.out _ hB).mono ?_
   rintro e w2 ⟨rfl,rfl⟩
   go_wp2_with fail
   refine (LP.out _).mono ?_
   rintro e w3 ⟨rfl,rfl⟩
   have HBL:=Lib.hid hB
   clear hB
   go_wp2_with (at_builtin;refine wpList_append_own _ rfl _ _ 51 rfl w.heap.size 3 i0 (.int .i64 0) 1 8 Tryz.underlying51 hi0 hz0 hz1 hz2 rfl (by decide) _ _ _ rfl (HR.out.alloc _) ⟨_,0,none⟩ 1 1 [.int .i64 (d k)] rfl rfl (cell_one_new _ _ _) (by simp [Value.oneCell']) M1.out M2.out (by simp;have:=hsz.out;omega) ?_;intro v' w4 hown0 hgrow _;have hb4:=Lib.hid (N4.out _ _ _ HBL.out hgrow);obtain ⟨sa',sc',rfl,_⟩:=row_shape1 hown0;have hown1:=Lib.hid hown0;clear hown0 hgrow)
   go_roundw
   case rel=>exact ⟨k+1,by omega,by go_num,rfl,⟨_,_,rfl,Lib.hid (by have:=hown1.out;rw [intVs_snoc,← limbsTo_succ] at this;unfold OwnInts;rwa [limbsTo_len])⟩,hb4.out⟩
   case measure=>simp [intOf];omega
  ·obtain rfl:k=n:=by omega
   have hkI:¬ (k:Int) < (k:Int):=by omega
   have HO:=Lib.hid (fun m (h:m≤(limbsTo d k).length)=>hown.out.take' m h)
   have HT:=Lib.hid (trim_ok (limbsTo d k) sa k sc wr hown.out.is (by rw [limbsTo_len];omega))
   have HOUT:=Lib.hid (fun i (h:(limbsTo d k).length≤i)=>lim_out h)
   clear hown
   go_wp2_with fail
   refine HT.out.mono ?_
   rintro e w1 ⟨m,hm,rfl,ht,hl,rfl⟩
   have HTR:=Lib.hid ht
   have HL:=Lib.hid hl
   clear ht hl
   rw [limbsTo_len] at hm
   go_wp2_with fail
   go_ret
   exact ⟨(limbsTo d k).take m,.slice sa m sc,rfl,HO.out m (by rw [limbsTo_len];exact hm),HTR.out,fun i hi=>by rw [HL.out,lim_limbsTo hi],fun i hi=>by rw [HL.out];exact HOUT.out i (by rw [limbsTo_len];exact hi),by rw [List.length_take];omega,hB⟩
theorem combine_minus (a b:List Int) (va vb:Value) (d c:Nat→Int) (w:World) (ha:IsInts w va a) (hb:IsInts w vb b) (hal:a.length≤1000) (hbl:b.length≤1000)
  (hc0:c 0=0) (hst:∀ k W,Calls Tryz.prog 169 #[.int .i64 (lim a k),.int .i64 (lim b k),.int .i64 (c k)] W fun e w'=>e=.returned (.tuple #[.int .i64 (d k),.int .i64 (c (k+1))])∧w'=W) :
  Calls Tryz.prog 167 #[va,vb,.func (.func 169) #[] #[]] w fun e w'=>∃ l v,RetLimbs d (max a.length b.length+1) w e w' l v:=by
 obtain ⟨i0,hi0,hz0,hz1,hz2⟩:=info_parts Tryz.infoInt
 obtain ⟨aa,ac,rfl⟩:=ha.slice
 obtain ⟨ba,bc,rfl⟩:=hb.slice
 have HA:=Lib.hid ha
 have HB:=Lib.hid hb
 have HST:=Lib.hid hst
 have HC0:=Lib.hid hc0
 have hE:=enters_of Tryz.func169 (by kernel_rfl) rfl
 obtain ⟨n,hn⟩:∃ n:Nat,max a.length b.length+1=n:=⟨_,rfl⟩
 have hmx:max (a.length:Int) (b.length:Int)=(n:Int) - 1:=by omega
 have hn1:1≤n:=by omega
 have hn2:n≤1001:=by omega
 rw [hn]
 clear ha hb hst hc0 hn
 go_enter Tryz.func167,Tryz.ntmps167
 go_wp2_with fail
 have hn3:(n:Int) - 1+1=(n:Int):=by omega
 go_loopw [7,8,18] (fun s cy i wr=>∃ k:Nat,k≤n∧i=.int .i64 k∧cy=.int .i64 (c k)∧(∃ sa sc,s=.slice sa k sc∧Hid (OwnInts wr w.heap.size (.slice sa k sc) (limbsTo d k)))∧Below w.heap.size w wr) (fun _ _ i _=>n - (intOf i).toNat)
 case atStart=>exact ⟨0,by omega,rfl,by rw [HC0.out],⟨none,0,rfl,Lib.hid (World.ownsRow_nil _ _ _ _)⟩,bw0 _ _⟩
 case round =>
  obtain ⟨k,hk,rfl,rfl,⟨sa,sc,rfl,hown⟩,hB⟩:=hrel
  by_cases hkn:k < n
  ·have LA:=Lib.hid (fun W (h:Below w.heap.size w W)=>limb_ok a _ k W (HA.out.below h) (by omega))
   have LB:=Lib.hid (fun W (h:Below w.heap.size w W)=>limb_ok b _ k W (HB.out.below h) (by omega))
   have LP:=Lib.hid (HST.out k)
   have HR:Hid (wr.ownsRow w.heap.size 3 1 (.slice sa k sc) k (intVs (limbsTo d k))):=Lib.hid (by have:=hown.out;unfold OwnInts at this;rwa [limbsTo_len] at this)
   have hkI:(k:Int) < (n:Int):=by omega
   have m1:k+1≤maxLen:=by unfold maxLen;omega
   have m2:(k+1) * 8≤140737488355328:=by omega
   have M1:=Lib.hid m1
   have M2:=Lib.hid m2
   have hsz:=Lib.hid hB.size
   have N4:=Lib.hid (fun (W:World) (o:Obj) (W':World) (hW:Below w.heap.size w W) (h:(W.alloc o).grownBy W' (Value.slice sa k sc).ownBlock)=>Below.grown (bw4 hW o) h (by have:=hW.size;simp;omega) (fun j hj=>by
    obtain ⟨_,_,e,hge⟩:=row_shape1 HR.out
    injection e with e1 e2 e3
    subst e1 e3
    exact hge j hj))
   clear hown m1 m2
   go_wp2_with fail
   refine (LA.out _ hB).mono ?_
   rintro e w1 ⟨rfl,rfl⟩
   go_wp2_with fail
   refine (LB.out _ hB).mono ?_
   rintro e w2 ⟨rfl,rfl⟩
   go_wp2_with fail
   refine (LP.out _).mono ?_
   rintro e w3 ⟨rfl,rfl⟩
   have HBL:=Lib.hid hB
   clear hB
   go_wp2_with (at_builtin;refine wpList_append_own _ rfl _ _ 51 rfl w.heap.size 3 i0 (.int .i64 0) 1 8 Tryz.underlying51 hi0 hz0 hz1 hz2 rfl (by decide) _ _ _ rfl (HR.out.alloc _) ⟨_,0,none⟩ 1 1 [.int .i64 (d k)] rfl rfl (cell_one_new _ _ _) (by simp [Value.oneCell']) M1.out M2.out (by simp;have:=hsz.out;omega) ?_;intro v' w4 hown0 hgrow _;have hb4:=Lib.hid (N4.out _ _ _ HBL.out hgrow);obtain ⟨sa',sc',rfl,_⟩:=row_shape1 hown0;have hown1:=Lib.hid hown0;clear hown0 hgrow)
   go_roundw
   case rel=>exact ⟨k+1,by omega,by go_num,rfl,⟨_,_,rfl,Lib.hid (by have:=hown1.out;rw [intVs_snoc,← limbsTo_succ] at this;unfold OwnInts;rwa [limbsTo_len])⟩,hb4.out⟩
   case measure=>simp [intOf];omega
  ·obtain rfl:k=n:=by omega
   have hkI:¬ (k:Int) < (k:Int):=by omega
   have HO:=Lib.hid (fun m (h:m≤(limbsTo d k).length)=>hown.out.take' m h)
   have HT:=Lib.hid (trim_ok (limbsTo d k) sa k sc wr hown.out.is (by rw [limbsTo_len];omega))
   have HOUT:=Lib.hid (fun i (h:(limbsTo d k).length≤i)=>lim_out h)
   clear hown
   go_wp2_with fail
   refine HT.out.mono ?_
   rintro e w1 ⟨m,hm,rfl,ht,hl,rfl⟩
   have HTR:=Lib.hid ht
   have HL:=Lib.hid hl
   clear ht hl
   rw [limbsTo_len] at hm
   go_wp2_with fail
   go_ret
   exact ⟨(limbsTo d k).take m,.slice sa m sc,rfl,HO.out m (by rw [limbsTo_len];exact hm),HTR.out,fun i hi=>by rw [HL.out,lim_limbsTo hi],fun i hi=>by rw [HL.out];exact HOUT.out i (by rw [limbsTo_len];exact hi),by rw [List.length_take];omega,hB⟩
end Go.Proofs.YteepphiomcedfaaGreatDoor
namespace Go.Proofs.YteepphiomcedfaaGreatDoor
open Go.RowKit Go.Shelf
attribute [local go_sem] Oper.semAt_some
def RetNum (n:Int) (k:Nat) (w:World) (e:Ending) (w':World):Prop:=∃ l v,e=.returned v∧OwnInts w' w.heap.size v l∧Num l n∧l.length≤k∧Below w.heap.size w w'
theorem RetLimbs.num {d:Nat→Int} {n:Nat} {w:World} {e:Ending} {w':World} {l:List Int} {v:Value} (h:RetLimbs d n w e w' l v) (hd:∀ i,Dig (d i)):Num l (vt d n):=by
 refine ⟨digs_of fun i hi=>?_,h.trim,?_⟩
 ·rw [h.lt i (Nat.lt_of_lt_of_le hi h.len)];exact hd i
 ·rw [← vt_val h.len];exact vt_congr fun i hi=>h.lt i hi
def pcar (a b:Nat→Int):Nat→Int
 | 0=>0
 | k+1=>(a k+b k+pcar a b k) / 1000000000
theorem pcar_bd {a b:Nat→Int} (ha:∀ i,Dig (a i)) (hb:∀ i,Dig (b i)) (k:Nat):0≤pcar a b k∧pcar a b k≤1:=by
 induction k with
 | zero=>simp [pcar]
 | succ k ih =>
  obtain ⟨a1,a2⟩:=ha k
  obtain ⟨b1,b2⟩:=hb k
  unfold pcar;omega
def mcar (a b:Nat→Int):Nat→Int
 | 0=>0
 | k+1=>if 0≤a k - b k - mcar a b k then 0 else 1
theorem mcar_bd {a b:Nat→Int} (k:Nat):0≤mcar a b k∧mcar a b k≤1:=by
 cases k with
 | zero=>simp [mcar]
 | succ k=>unfold mcar;split<;>omega
theorem plusL_ok {a b:List Int} {x y:Int} (va vb:Value) (w:World) (hva:IsInts w va a) (hvb:IsInts w vb b) (ha:Num a x) (hb:Num b y) (hal:a.length≤1000) (hbl:b.length≤1000) :
  Calls Tryz.prog 167 #[va,vb,.func (.func 168) #[] #[]] w (RetNum (x+y) (max a.length b.length+1) w):=by
 have hc:=pcar_bd ha.digs hb.digs
 have hdd:∀ i,Dig ((lim a i+lim b i+pcar (lim a) (lim b) i) % 1000000000):=fun i=>⟨by omega,by omega⟩
 refine (combine_plus a b va vb (fun k=>(lim a k+lim b k+pcar (lim a) (lim b) k) % 1000000000) (pcar (lim a) (lim b)) w hva hvb hal hbl rfl (fun k W=>?_)).mono ?_
 ·exact plus_ok _ _ _ W (ha.digs k) (hb.digs k) ⟨(hc k).1,by have:=(hc k).2;omega⟩
 ·rintro e w' ⟨l,v,h⟩
  refine ⟨l,v,h.ret,h.own,?_,h.len,h.below⟩
  have hn:=h.num hdd
  have hs:=sum_limbs (a:=lim a) (b:=lim b) (d:=fun k=>(lim a k+lim b k+pcar (lim a) (lim b) k) % 1000000000) (c:=pcar (lim a) (lim b)) rfl (fun k=>by
   show (lim a k+lim b k+pcar (lim a) (lim b) k) % 1000000000+1000000000 * ((lim a k+lim b k+pcar (lim a) (lim b) k) / 1000000000)=_
   omega) (max a.length b.length+1)
  have ea:=vt_val (l:=a) (n:=max a.length b.length+1) (by omega)
  have eb:=vt_val (l:=b) (n:=max a.length b.length+1) (by omega)
  have hx:=ha.high.2
  have hy:=hb.high.2
  have h1:=pw_mono (show a.length≤max a.length b.length by omega)
  have h2:=pw_mono (show b.length≤max a.length b.length by omega)
  have h3:pw (max a.length b.length+1)=1000000000 * pw (max a.length b.length):=rfl
  have h4:=hn.high.1
  have hcn:=hc (max a.length b.length+1)
  have hp:=pw_pos (max a.length b.length)
  rw [ea,eb,ha.sum,hb.sum] at hs
  have h0:pcar (lim a) (lim b) (max a.length b.length+1)=0:=by
   refine Decidable.byContradiction fun hne=>?_
   have h5:pcar (lim a) (lim b) (max a.length b.length+1)=1:=by omega
   rw [h5] at hs
   omega
  rw [h0] at hs
  rw [show x+y=vt (fun k=>(lim a k+lim b k+pcar (lim a) (lim b) k) % 1000000000) (max a.length b.length+1) by omega]
  exact hn
theorem minusL_ok {a b:List Int} {x y:Int} (va vb:Value) (w:World) (hva:IsInts w va a) (hvb:IsInts w vb b) (ha:Num a x) (hb:Num b y) (hal:a.length≤1000) (hbl:b.length≤1000) (hyx:y≤x) :
  Calls Tryz.prog 167 #[va,vb,.func (.func 169) #[] #[]] w (RetNum (x - y) (max a.length b.length+1) w):=by
 have hc:=mcar_bd (a:=lim a) (b:=lim b)
 have hdd:∀ i,Dig (lim a i - lim b i - mcar (lim a) (lim b) i+1000000000 * mcar (lim a) (lim b) (i+1)):=fun i=>by
  obtain ⟨a1,a2⟩:=ha.digs i
  obtain ⟨b1,b2⟩:=hb.digs i
  have:=hc i
  show Dig (_ - _ - _+1000000000 * (if 0≤lim a i - lim b i - mcar (lim a) (lim b) i then 0 else 1))
  split<;>exact ⟨by omega,by omega⟩
 refine (combine_minus a b va vb (fun k=>lim a k - lim b k - mcar (lim a) (lim b) k+1000000000 * mcar (lim a) (lim b) (k+1)) (mcar (lim a) (lim b)) w hva hvb hal hbl rfl (fun k W=>?_)).mono ?_
 ·refine (minus_ok _ _ _ W (ha.digs k) (hb.digs k) ⟨(hc k).1,by have:=(hc k).2;omega⟩).mono ?_
  rintro e w' ⟨rfl,rfl⟩
  refine ⟨?_,rfl⟩
  show _=Ending.returned (.tuple #[.int .i64 (_ - _ - _+1000000000 * (if 0≤lim a k - lim b k - mcar (lim a) (lim b) k then 0 else 1)),.int .i64 (if 0≤lim a k - lim b k - mcar (lim a) (lim b) k then 0 else 1)])
  split
  ·simp
  ·simp
 ·rintro e w' ⟨l,v,h⟩
  refine ⟨l,v,h.ret,h.own,?_,h.len,h.below⟩
  have hn:=h.num hdd
  have hs:=diff_limbs (a:=lim a) (b:=lim b) (d:=fun k=>lim a k - lim b k - mcar (lim a) (lim b) k+1000000000 * mcar (lim a) (lim b) (k+1)) (c:=mcar (lim a) (lim b)) rfl (fun k=>rfl) (max a.length b.length+1)
  have ea:=vt_val (l:=a) (n:=max a.length b.length+1) (by omega)
  have eb:=vt_val (l:=b) (n:=max a.length b.length+1) (by omega)
  have h4:=vt_bound (f:=fun k=>lim a k - lim b k - mcar (lim a) (lim b) k+1000000000 * mcar (lim a) (lim b) (k+1)) (k:=max a.length b.length+1) (fun i _=>hdd i)
  have hcn:=hc (max a.length b.length+1)
  rw [ea,eb,ha.sum,hb.sum] at hs
  have h0:mcar (lim a) (lim b) (max a.length b.length+1)=0:=by
   refine Decidable.byContradiction fun hne=>?_
   have h5:mcar (lim a) (lim b) (max a.length b.length+1)=1:=by omega
   rw [h5] at hs
   omega
  rw [h0] at hs
  rw [show x - y=vt (fun k=>lim a k - lim b k - mcar (lim a) (lim b) k+1000000000 * mcar (lim a) (lim b) (k+1)) (max a.length b.length+1) by omega]
  exact hn
def encB (l:List Int) (k:Fin l.length):Array Value:=#[.int .i64 ((l.length:Int) - 1 - k.1),.int .i64 (lim l (l.length - 1 - k.1))]
theorem backward_any (a:Option Addr) (n cap:Nat) (w:World) :
  Calls Tryz.prog 219 #[.slice a n cap] w fun e w'=>e=.returned (.func (.func 258) #[] #[.pointer (some ⟨w.heap.size,0,none⟩)])∧w'=w.alloc (.cells #[.slice a n cap] 51):=by
 have hmf:∀ (fn:Fn) (first cap:Array Value) (w:World),(Instr.makeFunc fn first cap).run Tryz.prog w=.ok (.func fn first cap) w:=fun _ _ _ _=>rfl
 go_enter Tryz.func219,Tryz.ntmps219
 go_wp2_with fail
 go_ret
 exact ⟨rfl,rfl⟩
theorem back1_in (l:List Int) (n:Nat) (hn:1≤n) (lb b1 B cap:Nat) (a:Option Addr) (J Jx:List (Fin l.length)→World→Prop) (hlen:l.length≤1000)
  (hY:∀ pre x W,J pre W→pre.length < l.length→YieldAt Fence.wide (n - 1) Tryz.prog lb (encB l x) W fun e W' =>
   (e=.returned (.bool true)∧J (pre++[x]) W'∧KpR B b1 W W')∨(e=.returned (.bool false)∧Jx (pre++[x]) W'))
  (W:World) (hJ:AbidesFrom W.heap.size J) (c1:W.cell? ⟨b1,0,none⟩=some (.slice a l.length cap)) (hcells:l.length≠0→∃ b off,b < B∧a=some ⟨b,off,none⟩∧∀ k,k < l.length→W.cell? ⟨b,off+k,none⟩=some (.int .i64 (lim l k))) (h0:J [] W) :
  CallsIn Fence.wide n Tryz.prog 258 #[.func (.yield lb) #[] #[],.pointer (some ⟨b1,0,none⟩)] W fun e W'=>(∃ v,e=.returned v) ∧
   (J (List.finRange l.length) W'∨(∃ pre,(∃ k,k≤l.length∧pre=fst l.length k)∧Jx pre W')):=by
 have HJ:=Lib.hid hJ
 have HY:=Lib.hid hY
 have HC:=Lib.hid hcells
 clear hJ hY hcells
 refine callsIn_of_wp Tryz.func258 rfl trivial ?_ rfl
 simp only [Tryz.ntmps258,List.size_toArray,List.length_cons,List.length_nil,Nat.reduceAdd,Nat.reduceSub,Array.replicate_succ,Array.replicate_zero,List.push_toArray,List.append_toArray,List.nil_append,List.cons_append]
 have hwm:IntKind.i64.wrap ((l.length:Int) - 1)=(l.length:Int) - 1:=IntWalk.i64_in _ (by omega)
 gi_wp2
 gi_loopg [3] l.length (fun g v wr=>∃ k:Nat,k≤l.length∧g=l.length - k∧v=.int .i64 ((l.length:Int) - 1 - k)∧Hid (J (fst l.length k) wr)∧wr.cell? ⟨b1,0,none⟩=some (.slice a l.length cap)∧Hid (l.length≠0→∃ b off,b < B∧a=some ⟨b,off,none⟩∧∀ k,k < l.length→wr.cell? ⟨b,off+k,none⟩=some (.int .i64 (lim l k))))
 case atStart=>exact ⟨0,by omega,rfl,by simp,Lib.hid h0,c1,HC⟩
 case round =>
  obtain ⟨k,hk,rfl,rfl,hJk,k1,hRk⟩:=hrel
  by_cases hkn:k=l.length
  ·subst hkn
   have hge:¬ (0:Int)≤(l.length:Int) - 1 - (l.length:Int):=by omega
   gi_wp2
   go_end0
   exact ⟨⟨_,rfl⟩,.inl (by have:=hJk.out;rw [fst_all] at this;exact this)⟩
  ·have hge:(0:Int)≤(l.length:Int) - 1 - (k:Int):=by omega
   obtain ⟨b,off,hbB,rfl,hcell⟩:=hRk.out (by omega)
   have ck:=hcell (l.length - 1 - k) (by omega)
   have hs:((l.length:Int) - 1 - (k:Int)).toNat=l.length - 1 - k:=by omega
   have hw1:IntKind.i64.wrap ((l.length:Int) - 1 - (k:Int) - 1)=(l.length:Int) - 1 - (k:Int) - 1:=IntWalk.i64_in _ (by omega)
   have hlt:(l.length:Int) - 1 - (k:Int) < (l.length:Int):=by omega
   have hYk:=Lib.hid (fun W hW=>HY.out (fst l.length k) ⟨k,by omega⟩ W hW (by rw [fst_length hk];omega))
   have HE:Hid (encB l ⟨k,by omega⟩=#[.int .i64 ((l.length:Int) - 1 - k),.int .i64 (lim l (l.length - 1 - k))]):=Lib.hid rfl
   have hRR:=Lib.hid hcell
   clear hcell hRk
   obtain ⟨fn,tmps,assign,body,hy,hR2⟩:=hYk.out _ hJk.out
   have HR2:=Lib.hid hR2
   rw [HE.out] at hy
   clear hR2
   gi_wp2
   refine HR2.out.mono ?_
   rintro e W3 (⟨rfl,hJ3,hk3⟩|⟨rfl,hJx3⟩)
   ·have k13:W3.cell? ⟨b1,0,none⟩=some (.slice (some ⟨b,off,none⟩) l.length cap):=(World.cell?_of_block hk3.2).trans k1
    have hR3:Hid (∀ k,k < l.length→W3.cell? ⟨b,off+k,none⟩=some (.int .i64 (lim l k))):=Lib.hid (fun k hk=>(hk3.1.cell (p:=⟨b,off+k,none⟩) hbB).trans (hRR.out k hk))
    have hJ3':=Lib.hid hJ3
    clear hJ3 hk3 hy HR2 k1 ck
    gi_wp2
    gi_roundg (l.length - (k+1))
    case rel=>exact ⟨k+1,by omega,rfl,by go_num,Lib.hid (by rw [fst_succ (by omega)];exact hJ3'.out),k13,Lib.hid (fun _=>⟨b,off,hbB,rfl,hR3.out⟩)⟩
    case measure=>omega
   ·have hJ3':=Lib.hid hJx3
    clear hJx3 hy HR2
    gi_wp2
    refine bodyPost_ret (results_none rfl _ _ _) rfl ?_
    exact ⟨⟨_,rfl⟩,.inr ⟨fst l.length (k+1),⟨k+1,by omega,rfl⟩,by rw [fst_succ (by omega)];exact hJ3'.out⟩⟩
theorem IsInts.lt {w:World} {v:Value} {l:List Int} (h:IsInts w v l) (h0:l.length≠0):∀ b off n cap,v=.slice (some ⟨b,off,none⟩) n cap→b < w.heap.size:=by
 rintro b off n cap rfl
 obtain ⟨e,_,hc⟩:=h.cells
 obtain ⟨b',off',e',hcell⟩:=hc (by omega)
 injection e' with e'
 injection e' with e1 e2
 subst e1
 exact lt_of_cell (hcell 0 (by omega))
theorem back_stops (l:List Int) (n:Nat) (hn:1≤n) (b1 B:Nat) (v:Value) (hlen:l.length≤1000) (w:World) (hB1:B≤w.heap.size) (hv:IsInts w v l) (hvB:l.length≠0→∀ b off n cap,v=.slice (some ⟨b,off,none⟩) n cap→b < B)
  (c1:w.cell? ⟨b1,0,none⟩=some v) :
  SeqStopsK Fence.wide n Tryz.prog 258 #[.pointer (some ⟨b1,0,none⟩)] (encB l) (KpR B b1) (fun ys=>ys=List.finRange l.length) (fun pre=>∃ k,k≤l.length∧pre=fst l.length k) l.length w:=fun lb J Jx W hW hJ _ hY h0=>by
 obtain ⟨a,cap,rfl⟩:=hv.slice
 obtain ⟨_,hcap,hc⟩:=(hv.below hW).cells
 refine (back1_in l n hn lb b1 B cap a J Jx hlen hY W hJ (keep hW c1) (fun h=>?_) h0).mono (fun e w' h=>⟨h.1,h.2.imp (fun h=>⟨_,rfl,h⟩) id⟩)
 obtain ⟨b,off,rfl,hcell⟩:=hc (by omega)
 exact ⟨b,off,hvB h b off _ _ rfl,rfl,hcell⟩
end Go.Proofs.YteepphiomcedfaaGreatDoor
namespace Go.Proofs.YteepphiomcedfaaGreatDoor
open Go.RowKit Go.Shelf
attribute [local go_sem] Oper.semAt_some
def RetSgn (x y:Int) (w:World) (e:Ending) (w':World):Prop:=∃ r:Int,e=.returned (.int .i64 r)∧(r < 0↔x < y)∧(r=0↔x=y)∧Below w.heap.size w w'
def SameTop (a b:List Int) (pre:List (Fin a.length)):Prop:=∀ k ∈ pre,lim a (a.length - 1 - k.1)=lim b (a.length - 1 - k.1)
theorem results_cell1 {fn:Func} {p:Tmp} {tp:TypeId} (h:fn.results=#[.cell p tp]) {tmps:Array Value} {P:Program} {w:World} {a:Addr} {x:Value}
  (ha:tmps.getD p undef=.pointer (some a)) (l1:(loadVar tp a).run P w=.ok x w) :
  (results fn tmps).run P w=.ok x w:=by
 have e:∀ a,(asAddr (.pointer (some a))).run P w=.ok a w:=fun _=>rfl
 rw [Array.getD_eq_getD_getElem?] at ha
 simp only [results,h]
 simp [Sem.run_bind,Result.andThen,ha,e,l1]
def Found (a b:List Int) (pre:List (Fin a.length)) (r:Int):Prop:=∃ pre' k,pre=pre'++[k]∧SameTop a b pre'∧r=lim a (a.length - 1 - k.1) - lim b (a.length - 1 - k.1)∧r≠0
theorem sameTop_snoc {a b:List Int} {pre:List (Fin a.length)} {k:Fin a.length} (h:SameTop a b pre) (hk:lim a (a.length - 1 - k.1)=lim b (a.length - 1 - k.1)):SameTop a b (pre++[k]):=by
 intro j hj
 rcases List.mem_append.1 hj with hj|hj
 ·exact h j hj
 ·obtain rfl:j=k:=by simpa using hj
  exact hk
theorem sameTop_all {a b:List Int} {x y:Int} (ha:Num a x) (hb:Num b y) (hl:a.length=b.length) (h:SameTop a b (List.finRange a.length)):x=y:=by
 have e:a=b:=lim_ext hl fun i hi=>by
  have:=h ⟨a.length - 1 - i,by omega⟩ (List.mem_finRange _)
  simp only at this
  rwa [show a.length - 1 - (a.length - 1 - i)=i by omega] at this
 subst e
 rw [← ha.sum,hb.sum]
theorem found_sign {a b:List Int} {x y r:Int} (ha:Num a x) (hb:Num b y) (hl:a.length=b.length) {k:Nat} (hk:k≤a.length) (h:Found a b (fst a.length k) r):(r < 0↔x < y)∧(r=0↔x=y):=by
 obtain ⟨pre',j,e,hS,rfl,hne⟩:=h
 obtain ⟨m,rfl⟩:∃ m,k=m+1:=by
  cases k with
  | zero=>rw [fst_zero] at e;simp at e
  | succ m=>exact ⟨m,rfl⟩
 rw [fst_succ (by omega)] at e
 obtain ⟨e1,e2⟩:=List.append_inj' e rfl
 injection e2 with e2 _
 subst e1 e2
 have hbx:=hb.sum
 have hax:=ha.sum
 unfold val at hax hbx
 rw [← hl] at hbx
 have hS':∀ i,a.length - 1 - m < i→i < a.length→lim a i=lim b i:=fun i h1 h2=>by
  have hmem:(⟨a.length - 1 - i,by omega⟩:Fin a.length) ∈ fst a.length m:=by
   unfold fst
   refine List.mem_iff_getElem.2 ⟨a.length - 1 - i,by simp;omega,by simp⟩
  have:=hS _ hmem
  simp only at this
  rwa [show a.length - 1 - (a.length - 1 - i)=i by omega] at this
 have k1:=fun h=>vt_top (f:=lim a) (g:=lim b) (k:=a.length - 1 - m) (m:=a.length) (by omega) (fun i _=>ha.digs i) (fun i _=>hb.digs i) hS' h
 have k2:=fun h=>vt_top (f:=lim b) (g:=lim a) (k:=a.length - 1 - m) (m:=a.length) (by omega) (fun i _=>hb.digs i) (fun i _=>ha.digs i) (fun i h1 h2=>(hS' i h1 h2).symm) h
 rw [hax,hbx] at k1 k2
 simp only at hne ⊢
 rcases Int.lt_trichotomy (lim a (a.length - 1 - m)) (lim b (a.length - 1 - m)) with h|h|h
 ·have:=k1 h;omega
 ·omega
 ·have:=k2 h;omega
theorem compareL_ok {a b:List Int} {x y:Int} (va vb:Value) (w:World) (hva:IsInts w va a) (hvb:IsInts w vb b) (ha:Num a x) (hb:Num b y) (hal:a.length≤1000) (hbl:b.length≤1000) :
  Calls Tryz.prog 187 #[va,vb] w (RetSgn x y w):=by
 have HVA:=Lib.hid hva
 obtain ⟨aa,ac,rfl⟩:=hva.slice
 obtain ⟨ba,bc,rfl⟩:=hvb.slice
 have HL:=Lib.hid (fun h:a.length < b.length=>ha.lt_of_length hb h)
 have HM:=Lib.hid (fun h:b.length < a.length=>hb.lt_of_length ha h)
 have HA:=Lib.hid ha
 have HB:=Lib.hid hb
 obtain ⟨_,_,hcb⟩:=hvb.cells
 have HCB:=Lib.hid hcb
 clear ha hb hva hvb hcb
 refine (callsIn_wide (n:=5)).1 ?_
 refine callsIn_of_wp_marks Tryz.func187 rfl trivial ?_ rfl
 simp only [Tryz.ntmps187,List.size_toArray,List.length_cons,List.length_nil,Nat.reduceAdd,Nat.reduceSub,Array.replicate_succ,Array.replicate_zero,List.push_toArray,List.append_toArray,List.nil_append,List.cons_append]
 by_cases hlen:a.length=b.length
 ·have hne:((a.length:Int) != (b.length:Int))=false:=by simp [hlen]
  have HLEN:=Lib.hid hlen
  have HAL:=Lib.hid hal
  clear hlen HL HM hal hbl
  gi_wp2
  refine ⟨trivial,?_⟩
  refine (callsIn_wide.2 (backward_any _ _ _ _)).mono ?_
  rintro e w1 ⟨rfl,rfl⟩
  gi_wp2
  have hb0:Below w.heap.size w (((w.alloc (.cells #[.slice ba b.length bc] 51)).alloc (.cells #[.int .i64 0] 3)).alloc (.cells #[.slice aa a.length ac] 51)):=qbl
  have x0:Boxed (((w.alloc (.cells #[.slice ba b.length bc] 51)).alloc (.cells #[.int .i64 0] 3)).alloc (.cells #[.slice aa a.length ac] 51)) w.heap.size 51 (.slice ba b.length bc):=((Boxed.new w _ _).alloc _).alloc _
  have x1:Boxed (((w.alloc (.cells #[.slice ba b.length bc] 51)).alloc (.cells #[.int .i64 0] 3)).alloc (.cells #[.slice aa a.length ac] 51)) (w.heap.size+1) 3 (.int .i64 0):=(boxed_new' (by simp)).alloc _
  have x2:Boxed (((w.alloc (.cells #[.slice ba b.length bc] 51)).alloc (.cells #[.int .i64 0] 3)).alloc (.cells #[.slice aa a.length ac] 51)) (w.heap.size+2) 51 (.slice aa a.length ac):=boxed_new' (by simp)
  have hsz:(((w.alloc (.cells #[.slice ba b.length bc] 51)).alloc (.cells #[.int .i64 0] 3)).alloc (.cells #[.slice aa a.length ac] 51)).heap.size=w.heap.size+3:=by simp
  generalize (((w.alloc (.cells #[.slice ba b.length bc] 51)).alloc (.cells #[.int .i64 0] 3)).alloc (.cells #[.slice aa a.length ac] 51))=W0 at *
  refine wpIn_rangeFunc_ownH rfl (by omega) (gf:=258) (lb:=#[.pointer (some ⟨w.heap.size+2,0,none⟩)]) rfl trivial (enters_of Tryz.func258 (by kernel_rfl) rfl)
   (back_stops a _ (by omega) (w.heap.size+2) w.heap.size _ HAL.out W0 hb0.size (HVA.out.below hb0) HVA.out.lt x2.cell) KpR.t (KpR.b hb0.size (by omega)) (bw0 _ _) (fun _=>rfl)
   (fun pre W=>((((Boxed W w.heap.size 51 (.slice ba b.length bc)∧Boxed W (w.heap.size+1) 3 (.int .i64 0))∧Boxed W (w.heap.size+2) 51 (.slice aa a.length ac))∧(Below w.heap.size w W∧w.heap.size+3≤W.heap.size))∧SameTop a b pre))
   (fun c pre W=>(((∃ r,Boxed W (w.heap.size+1) 3 (.int .i64 r)∧Found a b pre r)∧(Below w.heap.size w W∧w.heap.size+3≤W.heap.size))∧c=.ret))
   (OwnFrom.and (OwnFrom.and (OwnFrom.and (OwnFrom.and (Own.from (boxed_own _ _ _) _) (Own.from (boxed_own _ _ _) _)) (Own.from (boxed_own _ _ _) _)) (OwnFrom.and (ownFrom_below (Nat.le_refl _) (by omega)) (fun s A B row hs hg hr=>Nat.le_trans hs hg.size))) (fun _ _ _ _ hs _ _=>hs))
   (fun c=>OwnFrom.and (OwnFrom.and (fun s X Y row hs hg hr=>by obtain ⟨r,h1,h2⟩:=hs;exact ⟨r,(Own.from (boxed_own (w.heap.size+1) 3 (fun _:Unit=>.int .i64 r)) _) () X Y row h1 hg hr,h2⟩) (OwnFrom.and (ownFrom_below (Nat.le_refl _) (by omega)) (fun s A B row hs hg hr=>Nat.le_trans hs hg.size))) (fun _ _ _ _ hs _ _=>hs))
   ⟨⟨⟨⟨x0,x1⟩,x2⟩,hb0,by omega⟩,fun k hk=>by cases hk⟩
   (fun x a' W=>a'={ tmps:=#[.slice aa a.length ac,.slice ba b.length bc,undef,.pointer (some ⟨w.heap.size,0,none⟩),.pointer (some ⟨w.heap.size+1,0,none⟩),.int .i64 ((a.length:Int) - 1 - x.1),.int .i64 (lim a (a.length - 1 - x.1)),.slice aa a.length ac,.int .i64 a.length,.slice ba b.length bc,.int .i64 b.length,.bool false,undef,undef,undef,undef,undef,.slice aa a.length ac,
    .func (.func 258) #[] #[.pointer (some ⟨w.heap.size+2,0,none⟩)],.int .i64 ((a.length:Int) - 1 - x.1),.int .i64 (lim a (a.length - 1 - x.1)),undef,undef,undef,undef,undef,undef,undef,undef,undef,undef,undef,undef],defers:=[] })
   (fun x a' _ X Y row hs hg hr=>hs)
   ?assign ?body ?done ?stop
  case assign =>
   rintro l1 pre x W K ⟨⟨⟨⟨b0,b1⟩,b2⟩,hB,hz⟩,hS⟩ hK
   unfold encB
   gi_wp2
   exact hK _ _ (KeepsFrom.refl _ _) ⟨(bw0 _ _).mono hB.size,rfl⟩ ⟨⟨⟨⟨b0,b1⟩,b2⟩,hB,hz⟩,hS⟩ rfl
  case body =>
   rintro l1 pre x a' W hl1 ⟨r,hr⟩ ⟨⟨⟨⟨b0,b1⟩,b2⟩,hB,hz⟩,hS⟩ rfl hlt
   have hx:=x.2
   obtain ⟨bb,ob,rfl,hcell⟩:=HCB.out (by have:=HLEN.out;omega)
   have hlb:=HLEN.out
   have ck:=keep hB (hcell (a.length - 1 - x.1) (by omega))
   have c0:=b0.cell
   have c1:=b1.cell
   have f1:=b1.frozen
   have hs:((a.length:Int) - 1 - (x.1:Int)).toNat=a.length - 1 - x.1:=by omega
   have hge:(0:Int)≤(a.length:Int) - 1 - (x.1:Int):=by omega
   have hlt2:(a.length:Int) - 1 - (x.1:Int) < (b.length:Int):=by omega
   obtain ⟨q1,q2⟩:=HA.out.digs (a.length - 1 - x.1)
   obtain ⟨q3,q4⟩:=HB.out.digs (a.length - 1 - x.1)
   have hw1:IntKind.i64.wrap (lim a (a.length - 1 - x.1) - lim b (a.length - 1 - x.1))=lim a (a.length - 1 - x.1) - lim b (a.length - 1 - x.1):=IntWalk.i64_in _ (by omega)
   have HS:=Lib.hid (fun h=>sameTop_snoc (k:=x) hS h)
   have HS0:=Lib.hid hS
   clear hlb hcell hS hlt
   by_cases hd:lim a (a.length - 1 - x.1)=lim b (a.length - 1 - x.1)
   ·have hdb:(lim a (a.length - 1 - x.1) != lim b (a.length - 1 - x.1))=false:=by simp [hd]
    have HS2:=Lib.hid (HS.out hd)
    clear hd
    gi_wp2
    exact ⟨KeepsFrom.refl _ _,⟨(bw0 _ _).mono hB.size,rfl⟩,⟨⟨⟨b0,b1⟩,b2⟩,hB,hz⟩,HS2.out⟩
   ·have hdb:(lim a (a.length - 1 - x.1) != lim b (a.length - 1 - x.1))=true:=by simp [hd]
    have HD:=Lib.hid hd
    clear hd
    gi_wp2
    have hS2:=sameBut_setCell W (w.heap.size+1) 0 (.int .i64 (lim a (a.length - 1 - x.1) - lim b (a.length - 1 - x.1)))
    exact ⟨keepsFrom_but hS2 (by omega),⟨⟨_,b1.set _,pre,x,rfl,HS0.out,rfl,by have:=HD.out;omega⟩,hS2.below hB (by omega),by rw [hS2.size];exact hz⟩,rfl⟩
  case done =>
   rintro D ys W hD rfl ⟨⟨⟨⟨b0,b1⟩,b2⟩,hB,hz⟩,hS⟩ hK
   have hc:=b1.cell
   have hf:=b1.frozen
   have he:=Lib.hid (sameTop_all HA.out HB.out HLEN.out hS)
   gi_wp2
   have hS2:=sameBut_setCell W (w.heap.size+1) 0 (.int .i64 0)
   have x1':=b1.set (.int .i64 0)
   refine leaves_marks (w.heap.size+3) [D] _ (by simp) (fun E hE=>?_) (fun W' hB' hcc=>?_)
   ·obtain rfl:E=D:=by simpa using hE
    exact ⟨by omega,(hS2.block E (by omega)).trans hK⟩
   ·have z1:W'.cell? ⟨w.heap.size+1,0,none⟩=some (.int .i64 0):=cell_keeps x1'.cell hcc
    have l1:(loadVar 3 ⟨w.heap.size+1,0,none⟩).run Tryz.prog W'=.ok (.int .i64 0) W':=by simp [go_sem,z1]
    have he':=he.out
    exact ⟨_,results_cell1 Tryz.results187 rfl l1,0,rfl,by omega,by omega,(hS2.below hB (by omega)).trans (hB'.mono (by omega))⟩
  case stop =>
   rintro D c pre W hD ⟨k0,hk0,rfl⟩ ⟨⟨⟨r,q1,hF⟩,hB,hz⟩,rfl⟩ hK
   have he:=Lib.hid (found_sign HA.out HB.out HLEN.out hk0 hF)
   gi_wp2
   refine leaves_marks (w.heap.size+3) [D] _ (by simp) (fun E hE=>?_) (fun W' hB' hcc=>?_)
   ·obtain rfl:E=D:=by simpa using hE
    exact ⟨by omega,hK⟩
   ·have z1:W'.cell? ⟨w.heap.size+1,0,none⟩=some (.int .i64 r):=cell_keeps q1.cell hcc
    have l1:(loadVar 3 ⟨w.heap.size+1,0,none⟩).run Tryz.prog W'=.ok (.int .i64 r) W':=by simp [go_sem,z1]
    exact ⟨_,results_cell1 Tryz.results187 rfl l1,r,rfl,he.out.1,he.out.2,hB.trans (hB'.mono (by omega))⟩
 ·have hne:((a.length:Int) != (b.length:Int))=true:=by simp;omega
  have HR:=Lib.hid (show ((a.length:Int) - (b.length:Int) < 0↔x < y)∧((a.length:Int) - (b.length:Int)=0↔x=y) by
   rcases Nat.lt_or_gt_of_ne hlen with h|h
   ·have:=HL.out h;omega
   ·have:=HM.out h;omega)
  clear hlen HL HM
  gi_wp2
  refine leaves_marks w.heap.size [] _ List.nodup_nil (fun D hD=>by cases hD) (fun W' hB' hcc=>?_)
  have x1:Boxed ((w.alloc (.cells #[.slice ba b.length bc] 51)).alloc (.cells #[.int .i64 ((a.length:Int) - b.length)] 3)) (w.heap.size+1) 3 (.int .i64 ((a.length:Int) - b.length)):=boxed_new' (by simp)
  have z1:W'.cell? ⟨w.heap.size+1,0,none⟩=some (.int .i64 ((a.length:Int) - b.length)):=cell_keeps x1.cell hcc
  have l1:(loadVar 3 ⟨w.heap.size+1,0,none⟩).run Tryz.prog W'=.ok (.int .i64 ((a.length:Int) - b.length)) W':=by simp [go_sem,z1]
  refine ⟨_,results_cell1 Tryz.results187 rfl l1,_,rfl,HR.out.1,HR.out.2,?_⟩
  exact (show Below w.heap.size w _ from qbl).trans hB'
end Go.Proofs.YteepphiomcedfaaGreatDoor
namespace Go.Proofs.YteepphiomcedfaaGreatDoor
open Go.RowKit Go.Shelf
def sgnV (m:Bool) (n:Int):Int:=if m then -n else n
def IsBig (w:World) (v:Value) (z:Int) (k:Nat):Prop:=∃ m u l n,v=.agg #[.bool m,u]∧IsInts w u l∧Num l n∧z=sgnV m n∧l.length≤k
theorem IsBig.below {w w':World} {v:Value} {z:Int} {k:Nat} (h:IsBig w v z k) (hB:Below w.heap.size w w'):IsBig w' v z k:=by
 obtain ⟨m,u,l,n,h1,h2,h3⟩:=h
 exact ⟨m,u,l,n,h1,h2.below hB,h3⟩
def RetBig (z:Int) (k:Nat) (w:World) (e:Ending) (w':World):Prop:=∃ v,e=.returned v∧IsBig w' v z k∧Below w.heap.size w w'
def BoxN (W:World) (b:Nat) (x y:Value):Prop:=W.heap[b]?=some (.cells #[x,y] 151 (0,0))
theorem BoxN.lt {W:World} {b:Nat} {x y:Value} (h:BoxN W b x y):b < W.heap.size:=(Array.getElem?_eq_some_iff.1 h).1
theorem BoxN.below {w w':World} {b:Nat} {x y:Value} (h:BoxN w b x y) (hB:Below w.heap.size w w'):BoxN w' b x y:=(hB.block b h.lt).trans h
theorem BoxN.c0 {W:World} {b:Nat} {x y:Value} (h:BoxN W b x y):W.cell? ⟨b,0,none⟩=some x:=by simp only [World.cell?,show W.heap[b]?=_ from h];rfl
theorem BoxN.c1 {W:World} {b:Nat} {x y:Value} (h:BoxN W b x y):W.cell? ⟨b,1,none⟩=some y:=by simp only [World.cell?,show W.heap[b]?=_ from h];rfl
theorem BoxN.new {X:World} {n:Nat} {x y:Value} (h:X.heap.size=n):BoxN (X.alloc (.cells #[x,y] 151)) n x y:=by subst h;exact World.alloc_heap_new _ _
theorem Tryz.infoBig:(Tryz.prog.info? 151).map (·.size)=some 2:=by kernel_rfl
theorem wp_store2 {o:Oper} {a:Act} {Q:Exit→Act→World→Prop} {K:Act→World→Prop} (p x:Operand) (ho:o.op=.store 151 p x) {w:World} {b:Nat} {x0 y0 x1 y1:Value} (hA:BoxN w b x0 y0)
  (h1:x1.oneCell'=true) (h2:y1.oneCell'=true) (hp:a.eval p=.pointer (some ⟨b,0,none⟩)) (hx:a.eval x=.agg #[x1,y1]) (h:∀ W,SameBut b w W→BoxN W b x1 y1→K (a.put o.dst undef) W) :
  o.wp Tryz.prog a w K Q:=by
 have hrow:=run_storeVar_row (P:=Tryz.prog) w b 151 151 #[x0,y0] #[x1,y1] hA Tryz.infoBig rfl (by simp [h1,h2])
 unfold Oper.wp execOp
 rw [ho]
 simp only [hp,hx,Sem.run_bind,Instr.storeAt,Instr.sureAddr,Sem.run_pure,Result.andThen_ok,hrow]
 exact h _ (setRow_sameBut _ _ _) (setRow_at hA)
theorem OwnInts.but {w W:World} {B b:Nat} {v:Value} {l:List Int} (h:OwnInts w B v l) (hs:SameBut b w W) (hb:b < B):OwnInts W B v l:=by
 refine ⟨h.1,?_⟩
 rcases h.2 with hn|⟨g,cap,cur,e,hB,hg,rest⟩
 ·exact .inl hn
 ·exact .inr ⟨g,cap,cur,e,hB,(hs.block g (by omega)).trans hg,rest⟩
theorem add_same {m1 m2:Bool} {l1 l2:List Int} {n1 n2:Int} (v1 v2:Value) (w:World) (h1:IsInts w v1 l1) (h2:IsInts w v2 l2) (d1:Num l1 n1) (d2:Num l2 n2) (k1:l1.length≤900) (k2:l2.length≤900) (hm:m1=m2) :
  Calls Tryz.prog 129 #[.agg #[.bool m1,v1],.agg #[.bool m2,v2]] w (RetBig (sgnV m1 n1+sgnV m2 n2) (max l1.length l2.length+1) w):=by
 obtain ⟨a1,c1,rfl⟩:=h1.slice
 obtain ⟨a2,c2,rfl⟩:=h2.slice
 have HP:=Lib.hid (fun W (hB:Below w.heap.size w W)=>plusL_ok _ _ W (h1.below hB) (h2.below hB) d1 d2 (by omega) (by omega))
 have hmb:(m1 == m2)=true:=by simp [hm]
 have HS:=Lib.hid (show sgnV m1 n1+sgnV m2 n2=sgnV m1 (n1+n2) from by subst hm;cases m1<;>simp [sgnV];omega)
 clear h1 h2 d1 d2 hm
 go_enter Tryz.func129,Tryz.ntmps129
 go_wp2_with fail
 have hb0:Below w.heap.size w (((w.alloc (.cells #[.bool m1,.slice a1 l1.length c1] 151)).alloc (.cells #[.bool m2,.slice a2 l2.length c2] 151)).alloc (.cells #[.bool false,.slice none 0 0] 151)):=qbl
 have x0:BoxN (((w.alloc (.cells #[.bool m1,.slice a1 l1.length c1] 151)).alloc (.cells #[.bool m2,.slice a2 l2.length c2] 151)).alloc (.cells #[.bool false,.slice none 0 0] 151)) w.heap.size (.bool m1) (.slice a1 l1.length c1):=((BoxN.new rfl).below (bw4 (bw0 _ _) _)).below (bw4 (bw0 _ _) _)
 have x1:BoxN (((w.alloc (.cells #[.bool m1,.slice a1 l1.length c1] 151)).alloc (.cells #[.bool m2,.slice a2 l2.length c2] 151)).alloc (.cells #[.bool false,.slice none 0 0] 151)) (w.heap.size+1) (.bool m2) (.slice a2 l2.length c2):=(BoxN.new (by simp)).below (bw4 (bw0 _ _) _)
 have x2:BoxN (((w.alloc (.cells #[.bool m1,.slice a1 l1.length c1] 151)).alloc (.cells #[.bool m2,.slice a2 l2.length c2] 151)).alloc (.cells #[.bool false,.slice none 0 0] 151)) (w.heap.size+2) (.bool false) (.slice none 0 0):=BoxN.new (by simp)
 have hz0:(((w.alloc (.cells #[.bool m1,.slice a1 l1.length c1] 151)).alloc (.cells #[.bool m2,.slice a2 l2.length c2] 151)).alloc (.cells #[.bool false,.slice none 0 0] 151)).heap.size=w.heap.size+3:=by simp
 generalize (((w.alloc (.cells #[.bool m1,.slice a1 l1.length c1] 151)).alloc (.cells #[.bool m2,.slice a2 l2.length c2] 151)).alloc (.cells #[.bool false,.slice none 0 0] 151))=W0 at *
 have hR:Below W0.heap.size W0 W0.drew:=(bw0 _ _).drew
 refine region_S (F:=[8]) (R:=(fun w'=>Below W0.heap.size W0 w')) 9 #[false,false,false,false,false,false,false,false,false] (by kernel_rfl) (by kernel_rfl) (by kernel_rfl) (fun _ _ _ _ _ h=>h) (fun Q' hQ' hN=>?_)
 generalize W0.drew=wd at *
 refine tS 11 0 (hy:=by intro wq hRq;have e0:=(x0.below hRq).c0;have e1:=(x0.below hRq).c1;have e2:=(x1.below hRq).c0;have e3:=(x1.below hRq).c1;go_simp;(try with_reducible rfl)) ?_
 refine tS 12 1 (hy:=by intro wq hRq;have e0:=(x0.below hRq).c0;have e1:=(x0.below hRq).c1;have e2:=(x1.below hRq).c0;have e3:=(x1.below hRq).c1;go_simp;(try with_reducible rfl)) ?_
 refine tS 13 2 (hy:=by intro wq hRq;have e0:=(x0.below hRq).c0;have e1:=(x0.below hRq).c1;have e2:=(x1.below hRq).c0;have e3:=(x1.below hRq).c1;go_simp;(try with_reducible rfl)) ?_
 refine tS 14 3 (hy:=by intro wq hRq;have e0:=(x0.below hRq).c0;have e1:=(x0.below hRq).c1;have e2:=(x1.below hRq).c0;have e3:=(x1.below hRq).c1;go_simp;(try with_reducible rfl)) ?_
 refine tS 15 4 (hy:=by intro wq hRq;have e0:=(x0.below hRq).c0;have e1:=(x0.below hRq).c1;have e2:=(x1.below hRq).c0;have e3:=(x1.below hRq).c1;go_simp;(try with_reducible rfl)) ?_
 refine tS 16 5 (hy:=by intro wq hRq;have e0:=(x0.below hRq).c0;have e1:=(x0.below hRq).c1;have e2:=(x1.below hRq).c0;have e3:=(x1.below hRq).c1;go_simp;(try with_reducible rfl)) ?_
 refine wpAnyS_ready (rs:=[6]) (by kernel_rfl) (by simp) ?_
 refine stepR (i:=6) rfl (by kernel_rfl) (fun K hK=>?_) (AllReadyS.nil)
 go_simp
 refine (HP.out _ (below_trans' hb0 hR)).mono ?_
 rintro e wn ⟨lr,vr,rfl,hown,hnum,hlen,hB'⟩
 have hzr:=hR.size
 have hR:Below W0.heap.size W0 wn:=below_trans' hR hB'
 obtain ⟨ar,cr,rfl,_⟩:=row_shape1 hown
 clear hB'
 refine hK.out _ _ hR ?_
 clear hK K
 (try simp only [Act.put,bw7,bw8,bw9])
 refine tS 18 7 (hy:=by intro wq hRq;have e0:=(x0.below hRq).c0;have e1:=(x0.below hRq).c1;have e2:=(x1.below hRq).c0;have e3:=(x1.below hRq).c1;go_simp;(try with_reducible rfl)) ?_
 refine wpAnyS_ready (rs:=[8]) (by kernel_rfl) (by simp) ?_
 refine stepF (i:=8) rfl (by kernel_rfl) (by kernel_rfl) (fun K hK=>?_) (AllReadyS.nil)
 refine wp_store2 _ _ rfl (x2.below hR) rfl rfl rfl rfl (fun wx hS hbx=>?_)
 have hown:=hown.but hS (by omega)
 have hBn:=hS.below (hb0.trans (hR.mono hb0.size)) (by omega)
 clear hS
 refine hK.out _ _ ?_
 clear hK K
 (try simp only [Act.put,bw7,bw8,bw9])
 refine wpAnyS_done (by kernel_rfl) ?_ _
 refine hN.out _ _ ?_
 go_wp2_with fail
 refine bodyPost_ret (results_cell_row rfl _ _ (w.heap.size+2) 151 #[.bool m1,.slice ar lr.length cr] (0,0) _ rfl hbx Tryz.underlying151 rfl (by kernel_rfl)) rfl ?_
 exact ⟨_,rfl,⟨_,_,lr,_,rfl,hown.is,hnum,HS.out,hlen⟩,hBn⟩
theorem add_great {m1 m2:Bool} {l1 l2:List Int} {n1 n2:Int} (v1 v2:Value) (w:World) (h1:IsInts w v1 l1) (h2:IsInts w v2 l2) (d1:Num l1 n1) (d2:Num l2 n2) (k1:l1.length≤900) (k2:l2.length≤900) (hm:¬ m1=m2) (hn:n2≤n1) :
  Calls Tryz.prog 129 #[.agg #[.bool m1,v1],.agg #[.bool m2,v2]] w (RetBig (sgnV m1 n1+sgnV m2 n2) (max l1.length l2.length+1) w):=by
 obtain ⟨a1,c1,rfl⟩:=h1.slice
 obtain ⟨a2,c2,rfl⟩:=h2.slice
 have HP:=Lib.hid (fun W (hB:Below w.heap.size w W)=>minusL_ok _ _ W (h1.below hB) (h2.below hB) d1 d2 (by omega) (by omega) hn)
 have hmb:(m1 == m2)=false:=by simp [hm]
 have HC:=Lib.hid (fun W (hB:Below w.heap.size w W)=>compareL_ok _ _ W (h1.below hB) (h2.below hB) d1 d2 (by omega) (by omega))
 have HN:=Lib.hid hn
 have HS:=Lib.hid (show sgnV m1 n1+sgnV m2 n2=sgnV m1 (n1 - n2) from by cases m1<;>cases m2<;>simp [sgnV] at hm ⊢<;>omega)
 clear h1 h2 d1 d2 hm hn
 go_enter Tryz.func129,Tryz.ntmps129
 go_wp2_with fail
 have hb0:Below w.heap.size w (((w.alloc (.cells #[.bool m1,.slice a1 l1.length c1] 151)).alloc (.cells #[.bool m2,.slice a2 l2.length c2] 151)).alloc (.cells #[.bool false,.slice none 0 0] 151)):=qbl
 have x0:BoxN (((w.alloc (.cells #[.bool m1,.slice a1 l1.length c1] 151)).alloc (.cells #[.bool m2,.slice a2 l2.length c2] 151)).alloc (.cells #[.bool false,.slice none 0 0] 151)) w.heap.size (.bool m1) (.slice a1 l1.length c1):=((BoxN.new rfl).below (bw4 (bw0 _ _) _)).below (bw4 (bw0 _ _) _)
 have x1:BoxN (((w.alloc (.cells #[.bool m1,.slice a1 l1.length c1] 151)).alloc (.cells #[.bool m2,.slice a2 l2.length c2] 151)).alloc (.cells #[.bool false,.slice none 0 0] 151)) (w.heap.size+1) (.bool m2) (.slice a2 l2.length c2):=(BoxN.new (by simp)).below (bw4 (bw0 _ _) _)
 have x2:BoxN (((w.alloc (.cells #[.bool m1,.slice a1 l1.length c1] 151)).alloc (.cells #[.bool m2,.slice a2 l2.length c2] 151)).alloc (.cells #[.bool false,.slice none 0 0] 151)) (w.heap.size+2) (.bool false) (.slice none 0 0):=BoxN.new (by simp)
 have hz0:(((w.alloc (.cells #[.bool m1,.slice a1 l1.length c1] 151)).alloc (.cells #[.bool m2,.slice a2 l2.length c2] 151)).alloc (.cells #[.bool false,.slice none 0 0] 151)).heap.size=w.heap.size+3:=by simp
 generalize (((w.alloc (.cells #[.bool m1,.slice a1 l1.length c1] 151)).alloc (.cells #[.bool m2,.slice a2 l2.length c2] 151)).alloc (.cells #[.bool false,.slice none 0 0] 151))=W0 at *
 refine (HC.out _ hb0).mono ?_
 rintro e w1 ⟨r,rfl,hr1,hr2,hB1⟩
 have hb1:Below w.heap.size w w1:=below_trans' hb0 hB1
 have x0:=x0.below hB1
 have x1:=x1.below hB1
 have x2:=x2.below hB1
 have hz1:=hB1.size
 have hr:0≤r:=by have:=HN.out;omega
 clear hr1 hr2 hB1
 go_wp2_with fail
 have hR:Below w1.heap.size w1 w1.drew:=(bw0 _ _).drew
 refine region_S (F:=[8]) (R:=(fun w'=>Below w1.heap.size w1 w')) 9 #[false,false,false,false,false,false,false,false,false] (by kernel_rfl) (by kernel_rfl) (by kernel_rfl) (fun _ _ _ _ _ h=>h) (fun Q' hQ' hN=>?_)
 generalize w1.drew=wd at *
 refine tS 26 0 (hy:=by intro wq hRq;have e0:=(x0.below hRq).c0;have e1:=(x0.below hRq).c1;have e2:=(x1.below hRq).c0;have e3:=(x1.below hRq).c1;go_simp;(try with_reducible rfl)) ?_
 refine tS 27 1 (hy:=by intro wq hRq;have e0:=(x0.below hRq).c0;have e1:=(x0.below hRq).c1;have e2:=(x1.below hRq).c0;have e3:=(x1.below hRq).c1;go_simp;(try with_reducible rfl)) ?_
 refine tS 28 2 (hy:=by intro wq hRq;have e0:=(x0.below hRq).c0;have e1:=(x0.below hRq).c1;have e2:=(x1.below hRq).c0;have e3:=(x1.below hRq).c1;go_simp;(try with_reducible rfl)) ?_
 refine tS 29 3 (hy:=by intro wq hRq;have e0:=(x0.below hRq).c0;have e1:=(x0.below hRq).c1;have e2:=(x1.below hRq).c0;have e3:=(x1.below hRq).c1;go_simp;(try with_reducible rfl)) ?_
 refine tS 30 4 (hy:=by intro wq hRq;have e0:=(x0.below hRq).c0;have e1:=(x0.below hRq).c1;have e2:=(x1.below hRq).c0;have e3:=(x1.below hRq).c1;go_simp;(try with_reducible rfl)) ?_
 refine tS 31 5 (hy:=by intro wq hRq;have e0:=(x0.below hRq).c0;have e1:=(x0.below hRq).c1;have e2:=(x1.below hRq).c0;have e3:=(x1.below hRq).c1;go_simp;(try with_reducible rfl)) ?_
 refine wpAnyS_ready (rs:=[6]) (by kernel_rfl) (by simp) ?_
 refine stepR (i:=6) rfl (by kernel_rfl) (fun K hK=>?_) (AllReadyS.nil)
 go_simp
 refine (HP.out _ (below_trans' hb1 hR)).mono ?_
 rintro e wn ⟨lr,vr,rfl,hown,hnum,hlen,hB'⟩
 have hzr:=hR.size
 have hR:Below w1.heap.size w1 wn:=below_trans' hR hB'
 obtain ⟨ar,cr,rfl,_⟩:=row_shape1 hown
 clear hB'
 refine hK.out _ _ hR ?_
 clear hK K
 (try simp only [Act.put,bw7,bw8,bw9])
 refine tS 33 7 (hy:=by intro wq hRq;have e0:=(x0.below hRq).c0;have e1:=(x0.below hRq).c1;have e2:=(x1.below hRq).c0;have e3:=(x1.below hRq).c1;go_simp;(try with_reducible rfl)) ?_
 refine wpAnyS_ready (rs:=[8]) (by kernel_rfl) (by simp) ?_
 refine stepF (i:=8) rfl (by kernel_rfl) (by kernel_rfl) (fun K hK=>?_) (AllReadyS.nil)
 refine wp_store2 _ _ rfl (x2.below hR) rfl rfl rfl rfl (fun wx hS hbx=>?_)
 have hown:=hown.but hS (by omega)
 have hBn:=hS.below (hb1.trans (hR.mono hb1.size)) (by omega)
 clear hS
 refine hK.out _ _ ?_
 clear hK K
 (try simp only [Act.put,bw7,bw8,bw9])
 refine wpAnyS_done (by kernel_rfl) ?_ _
 refine hN.out _ _ ?_
 go_wp2_with fail
 refine bodyPost_ret (results_cell_row rfl _ _ (w.heap.size+2) 151 #[.bool m1,.slice ar lr.length cr] (0,0) _ rfl hbx Tryz.underlying151 rfl (by kernel_rfl)) rfl ?_
 exact ⟨_,rfl,⟨_,_,lr,_,rfl,hown.is,hnum,HS.out,hlen⟩,hBn⟩
theorem add_less {m1 m2:Bool} {l1 l2:List Int} {n1 n2:Int} (v1 v2:Value) (w:World) (h1:IsInts w v1 l1) (h2:IsInts w v2 l2) (d1:Num l1 n1) (d2:Num l2 n2) (k1:l1.length≤900) (k2:l2.length≤900) (hm:¬ m1=m2) (hn:n1 < n2) :
  Calls Tryz.prog 129 #[.agg #[.bool m1,v1],.agg #[.bool m2,v2]] w (RetBig (sgnV m1 n1+sgnV m2 n2) (max l1.length l2.length+1) w):=by
 obtain ⟨a1,c1,rfl⟩:=h1.slice
 obtain ⟨a2,c2,rfl⟩:=h2.slice
 have HP:=Lib.hid (fun W (hB:Below w.heap.size w W)=>minusL_ok _ _ W (h2.below hB) (h1.below hB) d2 d1 (by omega) (by omega) (by omega))
 have hmb:(m1 == m2)=false:=by simp [hm]
 have HC:=Lib.hid (fun W (hB:Below w.heap.size w W)=>compareL_ok _ _ W (h1.below hB) (h2.below hB) d1 d2 (by omega) (by omega))
 have HN:=Lib.hid hn
 have HS:=Lib.hid (show sgnV m1 n1+sgnV m2 n2=sgnV m2 (n2 - n1) from by cases m1<;>cases m2<;>simp [sgnV] at hm ⊢<;>omega)
 clear h1 h2 d1 d2 hm hn
 go_enter Tryz.func129,Tryz.ntmps129
 go_wp2_with fail
 have hb0:Below w.heap.size w (((w.alloc (.cells #[.bool m1,.slice a1 l1.length c1] 151)).alloc (.cells #[.bool m2,.slice a2 l2.length c2] 151)).alloc (.cells #[.bool false,.slice none 0 0] 151)):=qbl
 have x0:BoxN (((w.alloc (.cells #[.bool m1,.slice a1 l1.length c1] 151)).alloc (.cells #[.bool m2,.slice a2 l2.length c2] 151)).alloc (.cells #[.bool false,.slice none 0 0] 151)) w.heap.size (.bool m1) (.slice a1 l1.length c1):=((BoxN.new rfl).below (bw4 (bw0 _ _) _)).below (bw4 (bw0 _ _) _)
 have x1:BoxN (((w.alloc (.cells #[.bool m1,.slice a1 l1.length c1] 151)).alloc (.cells #[.bool m2,.slice a2 l2.length c2] 151)).alloc (.cells #[.bool false,.slice none 0 0] 151)) (w.heap.size+1) (.bool m2) (.slice a2 l2.length c2):=(BoxN.new (by simp)).below (bw4 (bw0 _ _) _)
 have x2:BoxN (((w.alloc (.cells #[.bool m1,.slice a1 l1.length c1] 151)).alloc (.cells #[.bool m2,.slice a2 l2.length c2] 151)).alloc (.cells #[.bool false,.slice none 0 0] 151)) (w.heap.size+2) (.bool false) (.slice none 0 0):=BoxN.new (by simp)
 have hz0:(((w.alloc (.cells #[.bool m1,.slice a1 l1.length c1] 151)).alloc (.cells #[.bool m2,.slice a2 l2.length c2] 151)).alloc (.cells #[.bool false,.slice none 0 0] 151)).heap.size=w.heap.size+3:=by simp
 generalize (((w.alloc (.cells #[.bool m1,.slice a1 l1.length c1] 151)).alloc (.cells #[.bool m2,.slice a2 l2.length c2] 151)).alloc (.cells #[.bool false,.slice none 0 0] 151))=W0 at *
 refine (HC.out _ hb0).mono ?_
 rintro e w1 ⟨r,rfl,hr1,hr2,hB1⟩
 have hb1:Below w.heap.size w w1:=below_trans' hb0 hB1
 have x0:=x0.below hB1
 have x1:=x1.below hB1
 have x2:=x2.below hB1
 have hz1:=hB1.size
 have hr:¬ 0≤r:=by have:=HN.out;omega
 clear hr1 hr2 hB1
 go_wp2_with fail
 have hR:Below w1.heap.size w1 w1.drew:=(bw0 _ _).drew
 refine region_S (F:=[8]) (R:=(fun w'=>Below w1.heap.size w1 w')) 9 #[false,false,false,false,false,false,false,false,false] (by kernel_rfl) (by kernel_rfl) (by kernel_rfl) (fun _ _ _ _ _ h=>h) (fun Q' hQ' hN=>?_)
 generalize w1.drew=wd at *
 refine tS 34 0 (hy:=by intro wq hRq;have e0:=(x0.below hRq).c0;have e1:=(x0.below hRq).c1;have e2:=(x1.below hRq).c0;have e3:=(x1.below hRq).c1;go_simp;(try with_reducible rfl)) ?_
 refine tS 35 1 (hy:=by intro wq hRq;have e0:=(x0.below hRq).c0;have e1:=(x0.below hRq).c1;have e2:=(x1.below hRq).c0;have e3:=(x1.below hRq).c1;go_simp;(try with_reducible rfl)) ?_
 refine tS 36 2 (hy:=by intro wq hRq;have e0:=(x0.below hRq).c0;have e1:=(x0.below hRq).c1;have e2:=(x1.below hRq).c0;have e3:=(x1.below hRq).c1;go_simp;(try with_reducible rfl)) ?_
 refine tS 37 3 (hy:=by intro wq hRq;have e0:=(x0.below hRq).c0;have e1:=(x0.below hRq).c1;have e2:=(x1.below hRq).c0;have e3:=(x1.below hRq).c1;go_simp;(try with_reducible rfl)) ?_
 refine tS 38 4 (hy:=by intro wq hRq;have e0:=(x0.below hRq).c0;have e1:=(x0.below hRq).c1;have e2:=(x1.below hRq).c0;have e3:=(x1.below hRq).c1;go_simp;(try with_reducible rfl)) ?_
 refine tS 39 5 (hy:=by intro wq hRq;have e0:=(x0.below hRq).c0;have e1:=(x0.below hRq).c1;have e2:=(x1.below hRq).c0;have e3:=(x1.below hRq).c1;go_simp;(try with_reducible rfl)) ?_
 refine wpAnyS_ready (rs:=[6]) (by kernel_rfl) (by simp) ?_
 refine stepR (i:=6) rfl (by kernel_rfl) (fun K hK=>?_) (AllReadyS.nil)
 go_simp
 refine (HP.out _ (below_trans' hb1 hR)).mono ?_
 rintro e wn ⟨lr,vr,rfl,hown,hnum,hlen,hB'⟩
 have hzr:=hR.size
 have hR:Below w1.heap.size w1 wn:=below_trans' hR hB'
 obtain ⟨ar,cr,rfl,_⟩:=row_shape1 hown
 clear hB'
 refine hK.out _ _ hR ?_
 clear hK K
 (try simp only [Act.put,bw7,bw8,bw9])
 refine tS 41 7 (hy:=by intro wq hRq;have e0:=(x0.below hRq).c0;have e1:=(x0.below hRq).c1;have e2:=(x1.below hRq).c0;have e3:=(x1.below hRq).c1;go_simp;(try with_reducible rfl)) ?_
 refine wpAnyS_ready (rs:=[8]) (by kernel_rfl) (by simp) ?_
 refine stepF (i:=8) rfl (by kernel_rfl) (by kernel_rfl) (fun K hK=>?_) (AllReadyS.nil)
 refine wp_store2 _ _ rfl (x2.below hR) rfl rfl rfl rfl (fun wx hS hbx=>?_)
 have hown:=hown.but hS (by omega)
 have hBn:=hS.below (hb1.trans (hR.mono hb1.size)) (by omega)
 clear hS
 refine hK.out _ _ ?_
 clear hK K
 (try simp only [Act.put,bw7,bw8,bw9])
 refine wpAnyS_done (by kernel_rfl) ?_ _
 refine hN.out _ _ ?_
 go_wp2_with fail
 refine bodyPost_ret (results_cell_row rfl _ _ (w.heap.size+2) 151 #[.bool m2,.slice ar lr.length cr] (0,0) _ rfl hbx Tryz.underlying151 rfl (by kernel_rfl)) rfl ?_
 exact ⟨_,rfl,⟨_,_,lr,_,rfl,hown.is,hnum,HS.out,by omega⟩,hBn⟩
theorem addL_ok {z1 z2:Int} {k1 k2:Nat} (v1 v2:Value) (w:World) (h1:IsBig w v1 z1 k1) (h2:IsBig w v2 z2 k2) (hk1:k1≤900) (hk2:k2≤900) :
  Calls Tryz.prog 129 #[v1,v2] w (RetBig (z1+z2) (max k1 k2+1) w):=by
 obtain ⟨m1,u1,l1,n1,rfl,i1,d1,rfl,q1⟩:=h1
 obtain ⟨m2,u2,l2,n2,rfl,i2,d2,rfl,q2⟩:=h2
 have key:∀ {e w'},RetBig (sgnV m1 n1+sgnV m2 n2) (max l1.length l2.length+1) w e w'→RetBig (sgnV m1 n1+sgnV m2 n2) (max k1 k2+1) w e w':=by
  rintro e w' ⟨v,h,⟨m,u,l,n,e1,e2,e3,e4,e5⟩,hB⟩
  exact ⟨v,h,⟨m,u,l,n,e1,e2,e3,e4,by omega⟩,hB⟩
 by_cases hm:m1=m2
 ·exact (add_same u1 u2 w i1 i2 d1 d2 (by omega) (by omega) hm).mono fun _ _=>key
 ·by_cases hn:n2≤n1
  ·exact (add_great u1 u2 w i1 i2 d1 d2 (by omega) (by omega) hm hn).mono fun _ _=>key
  ·exact (add_less u1 u2 w i1 i2 d1 d2 (by omega) (by omega) hm (by omega)).mono fun _ _=>key
end Go.Proofs.YteepphiomcedfaaGreatDoor
namespace Go.Proofs.YteepphiomcedfaaGreatDoor
open Go.RowKit Go.Shelf
def BlkI (W:World) (g:Nat) (l:List Int):Prop:=W.heap[g]?=some (.cells (intVs l).toArray 3 (0,0))
theorem BlkI.lt {W:World} {g:Nat} {l:List Int} (h:BlkI W g l):g < W.heap.size:=(Array.getElem?_eq_some_iff.1 h).1
theorem BlkI.below {w w':World} {g:Nat} {l:List Int} (h:BlkI w g l) (hB:Below w.heap.size w w'):BlkI w' g l:=(hB.block g h.lt).trans h
theorem BlkI.but {w w':World} {g b:Nat} {l:List Int} (h:BlkI w g l) (hs:SameBut b w w') (hne:g≠b):BlkI w' g l:=(hs.block g hne).trans h
theorem BlkI.cell {W:World} {g:Nat} {l:List Int} (h:BlkI W g l) {p:Nat} (hp:p < l.length):W.cell? ⟨g,p,none⟩=some (.int .i64 (lim l p)):=by
 have:=intVs_get hp
 simp [World.cell?,show W.heap[g]?=_ from h,this]
theorem BlkI.frozen {W:World} {g:Nat} {l:List Int} (h:BlkI W g l) (p:Nat):W.frozen? ⟨g,p,none⟩=false:=by
 simp [World.frozen?,show W.heap[g]?=_ from h]
theorem intVs_set (l:List Int) (p:Nat) (x:Int):intVs (l.set p x)=(intVs l).set p (.int .i64 x):=by simp [intVs,List.map_set]
theorem BlkI.set {W:World} {g:Nat} {l:List Int} (h:BlkI W g l) (p:Nat) (x:Int):BlkI (W.setCell ⟨g,p,none⟩ (.int .i64 x)) g (l.set p x):=by
 obtain ⟨hlt,hk⟩:=Array.getElem?_eq_some_iff.1 h
 show (W.heap.modify g _)[g]?=_
 rw [Array.getElem?_eq_getElem (by rw [Array.size_modify];exact hlt),Array.getElem_modify_self,hk]
 simp [intVs_set]
theorem BlkI.own {W:World} {B g:Nat} {l:List Int} (h:BlkI W g l) (hB:B≤g) (hl:l.length≤100000):OwnInts W B (.slice (some ⟨g,0,none⟩) l.length l.length) l:=by
 refine ⟨by rw [intVs_len,Nat.mul_one],.inr ⟨g,l.length,(intVs l).toArray,rfl,hB,h,Nat.le_refl _,by unfold maxLen;omega,by simp [intVs_len],?_⟩⟩
 rw [Nat.mul_one,← intVs_len l]
 exact List.take_length
theorem BlkI.is {W:World} {g:Nat} {l:List Int} (h:BlkI W g l):IsInts W (.slice (some ⟨g,0,none⟩) l.length l.length) l :=
 ⟨some ⟨g,0,none⟩,l.length,rfl,Nat.le_refl _,fun _=>⟨g,0,rfl,fun k hk=>by rw [Nat.zero_add];exact h.cell hk⟩⟩
theorem after_setI {K:Act→World→Prop} {a:Act} {w:World} {g p:Nat} {l:List Int} {x:Int} (hx:BlkI w g l) (h:∀ W,SameBut g w W→BlkI W g (l.set p x)→K a W):K a (w.setCell ⟨g,p,none⟩ (.int .i64 x)) :=
 h _ (sameBut_setCell _ _ _ _) (hx.set p x)
def zerosL (n:Nat):List Int:=List.replicate n 0
theorem zerosL_len (n:Nat):(zerosL n).length=n:=by simp [zerosL]
theorem lim_zerosL (n i:Nat):lim (zerosL n) i=0:=by
 by_cases h:i < n
 ·rw [lim_eq (by rw [zerosL_len];exact h)];simp [zerosL]
 ·exact lim_out (by rw [zerosL_len];omega)
theorem run_makeI (w:World) (n:Nat) (hn:n≤100000) (x:Int) (hx:x=n):(Instr.makeSlice 51 (.int .i64 x) (.int .i64 x)).run Tryz.prog w=.ok (.slice (some ⟨w.heap.size,0,none⟩) n n) (w.alloc (.cells (intVs (zerosL n)).toArray 3)):=by
 subst hx
 obtain ⟨i0,hi0,hz0,hz1,hz2⟩:=info_parts Tryz.infoInt
 have h:=run_make (P:=Tryz.prog) w 51 3 i0 (.int .i64 0) Tryz.underlying51 hi0 hz0 .i64 .i64 n n (by omega) (Int.le_refl _) (by rw [hz2];omega) (by omega)
 have e:madeCells (Value.int .i64 0).cells ((n:Int).toNat * i0.size)=(intVs (zerosL n)).toArray:=by
  rw [hz1,Int.toNat_natCast,Nat.mul_one]
  apply Array.ext
  ·simp [madeCells,intVs,zerosL]
  ·intro i h1 h2
   simp [madeCells,intVs,zerosL,Value.cells,Nat.mod_one]
 rw [e,Int.toNat_natCast] at h
 exact h
theorem BlkI.new {X:World} {n:Nat} {l:List Int} (h:X.heap.size=n):BlkI (X.alloc (.cells (intVs l).toArray 3)) n l:=by subst h;exact World.alloc_heap_new _ _
end Go.Proofs.YteepphiomcedfaaGreatDoor
namespace Go.Proofs.YteepphiomcedfaaGreatDoor
open Go.RowKit Go.Shelf
theorem vt_set {l:List Int} {p:Nat} {x:Int} (h:p < l.length) (m:Nat):vt (lim (l.set p x)) m=vt (lim l) m+(if p < m then (x - lim l p) * pw p else 0):=by
 induction m with
 | zero=>simp [vt]
 | succ m ih =>
  rw [vt,vt,ih,lim_set h]
  by_cases hm:m=p
  ·subst hm
   rw [if_pos rfl,if_neg (by omega),if_pos (by omega)]
   grind
  ·rw [if_neg hm]
   by_cases hp:p < m
   ·rw [if_pos hp,if_pos (by omega)];grind
   ·rw [if_neg hp,if_neg (by omega)];grind
theorem val_set {l:List Int} {p:Nat} {x:Int} (h:p < l.length):val (l.set p x)=val l+(x - lim l p) * pw p:=by
 unfold val
 rw [List.length_set,vt_set h,if_pos h]
structure TimesIn (a b l0:List Int) (i k:Nat) (l:List Int) (c:Int):Prop where
 len:l.length=a.length+b.length+1
 digs:Digs l
 car:Dig c
 sum:val l+c * pw (i+k)=val l0+lim a i * vt (lim b) k * pw i
 same:∀ j,i+k≤j→lim l j=lim l0 j
 fin:b.length < k→c=0
theorem dig_div {n:Int} (h0:0≤n) (h1:n≤999999999999999999):Dig (n / 1000000000):=⟨by omega,by omega⟩
theorem dig_mod (n:Int):Dig (n % 1000000000):=⟨by omega,by omega⟩
theorem mul_dig {x y:Int} (hx:Dig x) (hy:Dig y):0≤x * y∧x * y≤999999998000000001:=by
 refine ⟨Int.mul_nonneg hx.1 hy.1,?_⟩
 have h1:=Int.mul_le_mul hx.2 hy.2 hy.1 (by omega)
 omega
theorem TimesIn.step {a b l0 l:List Int} {i k:Nat} {c:Int} (h:TimesIn a b l0 i k l c) (ha:Digs a) (hb:Digs b) (hi:i < a.length) (hk:k≤b.length) (h0:lim l0 (i+b.length)=0) :
  TimesIn a b l0 i (k+1) (l.set (i+k) ((lim l (i+k)+lim a i * lim b k+c) % 1000000000)) ((lim l (i+k)+lim a i * lim b k+c) / 1000000000):=by
 obtain ⟨m1,m2⟩:=mul_dig (ha i) (hb k)
 obtain ⟨o1,o2⟩:=h.digs (i+k)
 obtain ⟨c1,c2⟩:=h.car
 have hp:i+k < l.length:=by rw [h.len];omega
 refine ⟨by rw [List.length_set];exact h.len,fun j=>?_,dig_div (by omega) (by omega),?_,fun j hj=>?_,fun hf=>?_⟩
 ·rw [lim_set hp]
  split
  ·exact dig_mod _
  ·exact h.digs j
 ·rw [val_set hp]
  have hv:=h.sum
  have hdm:lim l (i+k)+lim a i * lim b k+c=(lim l (i+k)+lim a i * lim b k+c) % 1000000000+1000000000 * ((lim l (i+k)+lim a i * lim b k+c) / 1000000000):=by omega
  rw [show i+(k+1)=i+k+1 from rfl,pw,vt]
  have hpa:=pw_add i k
  generalize (lim l (i+k)+lim a i * lim b k+c) % 1000000000=r at *
  generalize (lim l (i+k)+lim a i * lim b k+c) / 1000000000=q at *
  grind
 ·rw [lim_set hp,if_neg (by omega)];exact h.same j (by omega)
 ·have e:k=b.length:=by omega
  subst e
  have e1:lim b b.length=0:=lim_out (Nat.le_refl _)
  have e2:lim l (i+b.length)=0:=by rw [h.same _ (Nat.le_refl _),h0]
  rw [e1,e2]
  omega
structure TimesTo (a b:List Int) (i:Nat) (l:List Int):Prop where
 len:l.length=a.length+b.length+1
 digs:Digs l
 sum:val l=vt (lim a) i * val b
 zero:∀ j,i+b.length≤j→lim l j=0
theorem TimesTo.start {a b l:List Int} {i:Nat} (h:TimesTo a b i l):TimesIn a b l i 0 l 0:=⟨h.len,h.digs,⟨by omega,by omega⟩,by simp [vt],fun _ _=>rfl,fun _=>rfl⟩
theorem TimesTo.zeros (a b:List Int):TimesTo a b 0 (zerosL (a.length+b.length+1)):=⟨zerosL_len _,fun i=>by rw [lim_zerosL];exact ⟨by omega,by omega⟩,by
 unfold val
 rw [vt_congr (g:=fun _=>0) (fun i _=>lim_zerosL _ i)]
 have:∀ n,vt (fun _=>0) n=0:=fun n=>by
  induction n with
  | zero=>rfl
  | succ n ih=>rw [vt,ih];simp
 rw [this];simp [vt],fun j _=>lim_zerosL _ j⟩
theorem TimesIn.next {a b l0 l:List Int} {i:Nat} {c:Int} (h0:TimesTo a b i l0) (h:TimesIn a b l0 i (b.length+1) l c):TimesTo a b (i+1) l:=by
 refine ⟨h.len,h.digs,?_,fun j hj=>?_⟩
 ·have hc:=h.fin (by omega)
  have hv:=h.sum
  rw [hc,vt_val (show b.length≤b.length+1 by omega),h0.sum] at hv
  rw [vt]
  grind
 ·rw [h.same j (by omega)];exact h0.zero j (by omega)
theorem timesL_ok {a b:List Int} {x y:Int} (va vb:Value) (w:World) (hva:IsInts w va a) (hvb:IsInts w vb b) (ha:Num a x) (hb:Num b y) (hal:a.length≤900) (hbl:b.length≤900) :
  Calls Tryz.prog 184 #[va,vb] w fun e w'=>∃ (m:Nat) (l:List Int),e=.returned (.slice (some ⟨w.heap.size,0,none⟩) m (a.length+b.length+1))∧BlkI w' w.heap.size l∧l.length=a.length+b.length+1∧m≤l.length∧Num (l.take m) (x * y)∧(∀ i,m≤i→lim l i=0)∧Below w.heap.size w w':=by
 have HVA:=Lib.hid hva
 have HVB:=Lib.hid hvb
 obtain ⟨aa,ac,rfl⟩:=hva.slice
 obtain ⟨ba,bc,rfl⟩:=hvb.slice
 obtain ⟨_,_,hca⟩:=hva.cells
 have HCA:=Lib.hid hca
 have HA:=Lib.hid ha
 have HB:=Lib.hid hb
 have hmk:=fun (w:World)=>run_makeI w (a.length+b.length+1) (by omega) ((a.length:Int)+(b.length:Int)+1) (by omega)
 clear ha hb hva hvb hca
 obtain ⟨N,hN⟩:∃ N,a.length+b.length+1=N:=⟨_,rfl⟩
 rw [hN] at hmk ⊢
 go_enter Tryz.func184,Tryz.ntmps184
 go_wp2_with fail
 have hb0:Below w.heap.size w (w.alloc (.cells (intVs (zerosL N)).toArray 3)):=qbl
 have x0:BlkI (w.alloc (.cells (intVs (zerosL N)).toArray 3)) w.heap.size (zerosL N):=BlkI.new rfl
 have hT:=Lib.hid (TimesTo.zeros a b)
 rw [hN] at hT
 generalize w.alloc (.cells (intVs (zerosL N)).toArray 3)=W0 at *
 go_loopw [20] (fun i wr=>∃ (k:Nat) (l:List Int),k≤a.length∧i=.int .i64 k∧BlkI wr w.heap.size l∧Hid (TimesTo a b k l)∧Below w.heap.size w wr) (fun i _=>a.length - (intOf i).toNat)
 case atStart=>exact ⟨0,zerosL N,by omega,rfl,x0,hT,hb0⟩
 case round =>
  obtain ⟨i,l,hi,rfl,hblk,hTo,hB⟩:=hrel
  by_cases hlt:i < a.length
  ·obtain ⟨b1,o1,rfl,hcell⟩:=HCA.out (by omega)
   have ck:=keep hB (hcell i hlt)
   clear hcell
   have HTO:=Lib.hid hTo.out.start
   have HZ:=Lib.hid (hTo.out.zero (i+b.length) (Nat.le_refl _))
   have HNX:=Lib.hid (fun l' c h=>TimesIn.next (l:=l') (c:=c) hTo.out h)
   have HBI:=Lib.hid hB
   clear hTo hB
   go_wp2_with fail
   go_loopw [8,28] (fun cy k wi=>∃ (j:Nat) (c:Int) (l':List Int),j≤b.length+1∧k=.int .i64 j∧cy=.int .i64 c∧BlkI wi w.heap.size l'∧Hid (TimesIn a b l i j l' c)∧Below w.heap.size w wi) (fun _ k _=>b.length+1 - (intOf k).toNat)
   case atStart=>exact ⟨0,0,l,by omega,rfl,rfl,hblk,HTO,HBI.out⟩
   case round =>
    obtain ⟨j,c,l',hj,rfl,rfl,hbk,hTi,hBi⟩:=hrel
    by_cases hjl:j < b.length+1
    ·have HL:=Lib.hid (fun (W:World) (h:Below w.heap.size w W)=>limb_ok b _ j W (HVB.out.below h) (by omega))
     obtain ⟨o1,o2⟩:=hTi.out.digs (i+j)
     obtain ⟨m1,m2⟩:=mul_dig (HA.out.digs i) (HB.out.digs j)
     obtain ⟨c1,c2⟩:=hTi.out.car
     have hst:=hTi.out.step HA.out.digs HB.out.digs hlt (by omega) HZ.out
     have hp:i+j < l'.length:=by rw [hTi.out.len];omega
     have hlen:l'.length=N:=by rw [hTi.out.len];exact hN
     have hpN:i+j < N:=by omega
     have hpI:(i:Int)+(j:Int) < (N:Int):=by omega
     have hp0:(0:Int)≤(i:Int)+(j:Int):=by omega
     have ck2:=hbk.cell hp
     have fr2:=hbk.frozen (i+j)
     have hp2:=hp
     obtain ⟨o,ho⟩:∃ o,lim l' (i+j)=o:=⟨_,rfl⟩
     rw [ho] at ck2 o1 o2 hst
     obtain ⟨P,hP⟩:∃ P,lim a i * lim b j=P:=⟨_,rfl⟩
     rw [hP] at m1 m2 hst
     obtain ⟨n,hn⟩:∃ n,o+P+c=n:=⟨_,rfl⟩
     rw [hn] at hst
     have hw1:IntKind.i64.wrap (lim a i * lim b j)=P:=by rw [hP];exact IntWalk.i64_in _ (by omega)
     have hw2:IntKind.i64.wrap (o+P)=o+P:=IntWalk.i64_in _ (by omega)
     have hw3:IntKind.i64.wrap (o+P+c)=n:=by rw [hn];exact IntWalk.i64_in _ (by omega)
     have hw4:IntKind.i64.wrap ((i:Int)+(j:Int))=(i:Int)+(j:Int):=IntWalk.i64_in _ (by omega)
     have hix:((i:Int)+(j:Int)).toNat=i+j:=by omega
     have hn0:0≤n:=by omega
     have hn1:n≤999999999999999999:=by omega
     have ht1:n.tmod 1000000000=n % 1000000000:=Int.tmod_eq_emod_of_nonneg hn0
     have ht2:n.tdiv 1000000000=n / 1000000000:=Int.tdiv_eq_ediv_of_nonneg hn0
     have HST:=Lib.hid hst
     have HLE:=Lib.hid hlen
     have HBB:=Lib.hid hBi
     clear hst hn hP hTi hlen
     go_wp2_with fail
     have hR:BlkI wr.drew w.heap.size l'∧Below w.heap.size w wr.drew:=⟨hbk.below (bw0 _ _).drew,HBB.out.trans ((bw0 _ _).drew.mono HBB.out.size)⟩
     clear hbk ck2 fr2
     refine region_S (F:=[]) (R:=(fun w'=>BlkI w' w.heap.size l'∧Below w.heap.size w w')) 15 #[false,false,false,false,false,false,false,false,false,false,false,false,false,false,false] (by kernel_rfl) (by kernel_rfl) (by kernel_rfl) (fun _ _ _ _ _ h=>h) (fun Q' hQ' hN=>?_)
     generalize wr.drew=wd at *
     refine tS 31 0 (hy:=by intro wq hRq;have ck2:=hRq.1.cell hp2;go_simp;(try with_reducible rfl)) ?_
     refine tS 32 1 (hy:=by intro wq hRq;have ck2:=hRq.1.cell hp2;go_simp;(try with_reducible rfl)) ?_
     refine tS 33 2 (hy:=by intro wq hRq;have ck2:=hRq.1.cell hp2;go_simp;(try with_reducible rfl)) ?_
     refine tS 34 3 (hy:=by intro wq hRq;have ck2:=hRq.1.cell hp2;go_simp;(try with_reducible rfl)) ?_
     refine tS 35 4 (hy:=by intro wq hRq;have ck2:=hRq.1.cell hp2;go_simp;(try with_reducible rfl)) ?_
     refine tS 36 5 (hy:=by intro wq hRq;have ck2:=hRq.1.cell hp2;go_simp;(try with_reducible rfl)) ?_
     refine tS 37 6 (hy:=by intro wq hRq;have ck2:=hRq.1.cell hp2;go_simp;(try with_reducible rfl)) ?_
     refine tS 38 7 (hy:=by intro wq hRq;have ck2:=hRq.1.cell hp2;go_simp;(try with_reducible rfl)) ?_
     refine tS 39 8 (hy:=by intro wq hRq;have ck2:=hRq.1.cell hp2;go_simp;(try with_reducible rfl)) ?_
     refine tS 43 12 (hy:=by intro wq hRq;have ck2:=hRq.1.cell hp2;go_simp;(try with_reducible rfl)) ?_
     refine wpAnyS_ready (rs:=[9]) (by kernel_rfl) (by simp) ?_
     refine stepR (i:=9) rfl (by kernel_rfl) (fun K hK=>?_) (AllReadyS.nil)
     go_simp
     refine (HL.out _ hR.2).mono ?_
     rintro e wn ⟨rfl,rfl⟩
     refine hK.out _ _ hR ?_
     clear hK K
     (try simp only [Act.put,bw7,bw8,bw9])
     refine tS 41 10 (hy:=by intro wq hRq;have ck2:=hRq.1.cell hp2;go_simp;(try with_reducible rfl)) ?_
     refine tS 42 11 (hy:=by intro wq hRq;have ck2:=hRq.1.cell hp2;go_simp;(try with_reducible rfl)) ?_
     refine tS 44 13 (hy:=by intro wq hRq;have ck2:=hRq.1.cell hp2;go_simp;(try with_reducible rfl)) ?_
     refine tS 10 14 (hy:=by intro wq hRq;have ck2:=hRq.1.cell hp2;go_simp;(try with_reducible rfl)) ?_
     refine wpAnyS_done (by kernel_rfl) ?_ _
     refine hN.out _ _ ?_
     have ck2:=hR.1.cell hp2
     have fr2:=hR.1.frozen (i+j)
     go_wp2_with fail
     have hS:=sameBut_setCell wn w.heap.size (i+j) (.int .i64 (n % 1000000000))
     go_roundw
     case rel=>exact ⟨j+1,_,_,by omega,by go_num,rfl,hR.1.set _ _,HST,hS.below hR.2 (Nat.le_refl _)⟩
     case measure=>simp [intOf];omega
    ·obtain rfl:j=b.length+1:=by omega
     have hTN:=Lib.hid (HNX.out l' c hTi.out)
     go_wp2_with fail
     go_roundw
     case rel=>exact ⟨i+1,l',by omega,by go_num,hbk,hTN,hBi⟩
     case measure=>simp [intOf];omega
  ·obtain rfl:i=a.length:=by omega
   have hlen:l.length=N:=by rw [hTo.out.len];exact hN
   have HT:=Lib.hid (trim_ok l (some ⟨w.heap.size,0,none⟩) N N wr (by have:=hblk.is;rwa [hlen] at this) (by omega))
   have HTO:=Lib.hid hTo.out
   have HLE:=Lib.hid hlen
   have HBI:=Lib.hid hB
   have HBK:=Lib.hid hblk
   clear hlen hTo hB hblk
   go_wp2_with fail
   refine HT.out.mono ?_
   rintro e w1 ⟨m,hm,rfl,ht,hl,rfl⟩
   have HTR:=Lib.hid ht
   have HL:=Lib.hid hl
   have HM:=Lib.hid hm
   clear ht hl hm
   go_wp2_with fail
   go_ret
   refine ⟨m,l,rfl,HBK.out,HLE.out,HM.out,⟨fun k=>by rw [HL.out];exact HTO.out.digs k,HTR.out,?_⟩,fun k hk=>?_,HBI.out⟩
   ·rw [val_of_lim HL.out,HTO.out.sum,show vt (lim a) a.length=val a from rfl,HA.out.sum,HB.out.sum]
   ·rw [← HL.out,lim_out (by rw [List.length_take];omega)]
end Go.Proofs.YteepphiomcedfaaGreatDoor
