/- Joined texts: Limb6, W6a, W6b, Times6, W6c. -/
import Derived.Test.YteepphiomcedfaaGreatDoorJ15
import Derived.Test.YteepphiomcedfaaGreatDoorJ16
import Derived.Test.YteepphiomcedfaaGreatDoorJ07
set_option maxRecDepth 100000
set_option linter.unusedVariables false
set_option linter.unusedSimpArgs false
set_option maxHeartbeats 6400000
namespace Go.Proofs.YteepphiomcedfaaGreatDoor.R6
def pw:Nat→Int
 | 0=>1
 | k+1=>1000000 * pw k
def vt (f:Nat→Int):Nat→Int
 | 0=>0
 | k+1=>vt f k+f k * pw k
def val (l:List Int):Int:=vt (lim l) l.length
def Dig (x:Int):Prop:=0≤x∧x≤999999
def Digs (l:List Int):Prop:=∀ k,Dig (lim l k)
structure Num (l:List Int) (n:Int):Prop where
 digs:Digs l
 trim:Trimmed l
 sum:val l=n
theorem pw_pos (k:Nat):0 < pw k:=by
 induction k with
 | zero=>decide
 | succ k ih=>unfold pw;omega
theorem pw_mono {k m:Nat} (h:k≤m):pw k≤pw m:=by
 induction m with
 | zero=>rw [Nat.le_zero.1 h];exact Int.le_refl _
 | succ m ih =>
  by_cases hk:k=m+1
  ·rw [hk];exact Int.le_refl _
  ·have:=ih (by omega)
   have:=pw_pos m
   show _≤1000000 * pw m
   omega
theorem pw_add (k m:Nat):pw (k+m)=pw k * pw m:=by
 induction m with
 | zero=>simp [pw]
 | succ m ih=>rw [Nat.add_succ,pw,ih,pw];grind
theorem vt_congr {f g:Nat→Int} {k:Nat} (h:∀ i,i < k→f i=g i):vt f k=vt g k:=by
 induction k with
 | zero=>rfl
 | succ k ih=>rw [vt,vt,ih fun i hi=>h i (by omega),h k (by omega)]
theorem vt_bound {f:Nat→Int} {k:Nat} (h:∀ i,i < k→Dig (f i)):0≤vt f k∧vt f k < pw k:=by
 induction k with
 | zero=>exact ⟨Int.le_refl _,by show (0:Int) < 1;omega⟩
 | succ k ih =>
  obtain ⟨i1,i2⟩:=ih fun i hi=>h i (by omega)
  obtain ⟨h1,h2⟩:=h k (by omega)
  have hp:=pw_pos k
  have h3:0≤f k * pw k:=Int.mul_nonneg h1 (by omega)
  have h4:f k * pw k≤999999 * pw k:=Int.mul_le_mul_of_nonneg_right h2 (by omega)
  show 0≤vt f k+f k * pw k∧vt f k+f k * pw k < 1000000 * pw k
  omega
theorem vt_tail {f:Nat→Int} {n m:Nat} (hnm:n≤m) (h:∀ i,n≤i→i < m→f i=0):vt f m=vt f n:=by
 induction m with
 | zero=>rw [Nat.le_zero.1 hnm]
 | succ m ih =>
  by_cases hk:n=m+1
  ·rw [hk]
  ·rw [vt,h m (by omega) (by omega),ih (by omega) fun i h1 h2=>h i h1 (by omega)]
   omega
theorem vt_val {l:List Int} {n:Nat} (h:l.length≤n):vt (lim l) n=val l:=vt_tail h fun _ h1 _=>lim_out h1
theorem vt_split (f:Nat→Int) (j k:Nat):vt f (j+k)=vt f j+pw j * vt (fun i=>f (j+i)) k:=by
 induction k with
 | zero=>simp [vt]
 | succ k ih=>rw [Nat.add_succ,vt,ih,vt,pw_add];grind
theorem digs_of {l:List Int} (h:∀ i,i < l.length→Dig (lim l i)):Digs l:=fun k=>by
 by_cases hk:k < l.length
 ·exact h k hk
 ·rw [lim_out (by omega)];exact ⟨by omega,by omega⟩
theorem Digs.bound {l:List Int} (h:Digs l):0≤val l∧val l < pw l.length:=vt_bound fun i _=>h i
theorem val_of_lim {l l':List Int} (h:∀ i,lim l i=lim l' i):val l=val l':=by
 have h1:=vt_val (l:=l) (n:=max l.length l'.length) (Nat.le_max_left _ _)
 have h2:=vt_val (l:=l') (n:=max l.length l'.length) (Nat.le_max_right _ _)
 rw [← h1,← h2]
 exact vt_congr fun i _=>h i
theorem Num.low {l:List Int} {n:Int} (h:Num l n) (hl:l.length≠0):pw (l.length - 1)≤n:=by
 have h0:=h.trim hl
 obtain ⟨k,hk⟩:∃ k,l.length=k+1:=⟨l.length - 1,by omega⟩
 rw [hk,Nat.add_sub_cancel] at h0 ⊢
 have hv:val l=vt (lim l) k+lim l k * pw k:=by unfold val;rw [hk];rfl
 rw [← h.sum,hv]
 have h1:=(vt_bound (f:=lim l) (k:=k) fun i _=>h.digs i).1
 have h2:=h.digs k
 have h3:1 * pw k≤lim l k * pw k:=Int.mul_le_mul_of_nonneg_right (by have:=h2.1;omega) (by have:=pw_pos k;omega)
 omega
theorem Num.high {l:List Int} {n:Int} (h:Num l n):0≤n∧n < pw l.length:=by rw [← h.sum];exact h.digs.bound
theorem Num.zero {l:List Int} {n:Int} (h:Num l n):l.length=0↔n=0:=by
 constructor
 ·intro h0
  rw [← h.sum];unfold val;rw [h0];rfl
 ·intro h0
  refine Decidable.byContradiction fun hl=>?_
  have:=h.low hl
  have:=pw_pos (l.length - 1)
  omega
theorem Num.lt_of_length {a b:List Int} {x y:Int} (ha:Num a x) (hb:Num b y) (h:a.length < b.length):x < y:=by
 have h1:=ha.high.2
 have h2:=hb.low (by omega)
 have h3:=pw_mono (show a.length≤b.length - 1 by omega)
 omega
theorem Num.length_le {a:List Int} {x:Int} {k:Nat} (ha:Num a x) (h:x < pw k):a.length≤k:=by
 refine Decidable.byContradiction fun hc=>?_
 have h2:=ha.low (by omega)
 have h3:=pw_mono (show k≤a.length - 1 by omega)
 omega
theorem vt_top {f g:Nat→Int} {k m:Nat} (hk:k < m) (hf:∀ i,i < k→Dig (f i)) (hg:∀ i,i < k→Dig (g i)) (he:∀ i,k < i→i < m→f i=g i) (h:f k < g k):vt f m < vt g m:=by
 induction m with
 | zero=>omega
 | succ m ih =>
  by_cases hm:k=m
  ·subst hm
   have h1:=(vt_bound hf).2
   have h2:=(vt_bound hg).1
   have h3:(f k+1) * pw k≤g k * pw k:=Int.mul_le_mul_of_nonneg_right (by omega) (by have:=pw_pos k;omega)
   rw [Int.add_mul] at h3
   show vt f k+f k * pw k < vt g k+g k * pw k
   omega
  ·have h1:=ih (by omega) fun i h1 h2=>he i h1 (by omega)
   have h2:=he m (by omega) (by omega)
   show vt f m+f m * pw m < vt g m+g m * pw m
   rw [h2];omega
theorem sum_limbs {a b d c:Nat→Int} (h0:c 0=0) (h:∀ k,d k+1000000 * c (k+1)=a k+b k+c k) (k:Nat):vt d k+c k * pw k=vt a k+vt b k:=by
 induction k with
 | zero=>simp [vt,h0]
 | succ k ih =>
  have:=h k
  show vt d k+d k * pw k+c (k+1) * (1000000 * pw k)=vt a k+a k * pw k+(vt b k+b k * pw k)
  grind
theorem diff_limbs {a b d c:Nat→Int} (h0:c 0=0) (h:∀ k,d k=a k - b k - c k+1000000 * c (k+1)) (k:Nat):vt d k+vt b k=vt a k+c k * pw k:=by
 induction k with
 | zero=>simp [vt,h0]
 | succ k ih =>
  have:=h k
  show vt d k+d k * pw k+(vt b k+b k * pw k)=vt a k+a k * pw k+c (k+1) * (1000000 * pw k)
  grind
theorem vt_set {l:List Int} {p:Nat} {x:Int} (h:p < l.length) (m:Nat):vt (lim (l.set p x)) m=vt (lim l) m+(if p < m then (x - lim l p) * pw p else 0):=by
 induction m with
 | zero=>simp [vt]
 | succ m ih =>
  rw [vt,vt,ih,lim_set h]
  by_cases hm:m=p
  ·subst hm
   rw [if_pos rfl,if_neg (by omega),if_pos (by omega)]
   grind
  ·rw [if_neg hm]
   by_cases hp:p < m
   ·rw [if_pos hp,if_pos (by omega)];grind
   ·rw [if_neg hp,if_neg (by omega)];grind
theorem val_set {l:List Int} {p:Nat} {x:Int} (h:p < l.length):val (l.set p x)=val l+(x - lim l p) * pw p:=by
 unfold val
 rw [List.length_set,vt_set h,if_pos h]
end Go.Proofs.YteepphiomcedfaaGreatDoor.R6
namespace Go.Proofs.YteepphiomcedfaaGreatDoor.R6
open Go.RowKit Go.Shelf
theorem trim6_ok (l:List Int) (a:Option Addr) (n cap:Nat) (w:World) (hv:IsInts w (.slice a n cap) l) (hl:l.length≤2000) :
  Calls Tryz.prog 232 #[.slice a n cap] w (RetTrim l a cap w):=by
 obtain ⟨rfl,hcap,hc⟩:=hv.cells
 have HC:=Lib.hid hc
 clear hc hv
 go_enter Tryz.func232,Tryz.ntmps232
 go_wp2_with fail
 go_loopw [3] (fun s wr=>∃ k:Nat,k≤l.length∧s=.int .i64 k∧Hid (∀ i,k≤i→lim l i=0)∧wr=w) (fun s _=>(intOf s).toNat)
 case atStart=>exact ⟨l.length,Nat.le_refl _,rfl,Lib.hid (fun i hi=>lim_out hi),rfl⟩
 case round =>
  obtain ⟨k,hk,rfl,hz,hwr⟩:=hrel
  subst wr
  have hkc:((k:Int)).toNat=k:=by omega
  have hkl:(k:Int)≤(l.length:Int):=by omega
  have hkcap:(k:Int)≤(cap:Int):=by omega
  by_cases hk0:k=0
  ·subst hk0
   go_wp2_with fail
   go_ret
   exact ⟨0,by omega,rfl,fun h=>absurd (by simp) h,lim_take_all hz.out,rfl⟩
  ·obtain ⟨b,off,rfl,hcell⟩:=HC.out (by omega)
   have ck:=hcell (k - 1) (by omega)
   have hk1:(0:Int) < (k:Int):=by omega
   have hs:((k:Int) - 1).toNat=k - 1:=by omega
   have hs0:(0:Int)≤(k:Int) - 1:=by omega
   have hs1:(k:Int) - 1 < (l.length:Int):=by omega
   have hw1:IntKind.i64.wrap ((k:Int) - 1)=(k:Int) - 1:=IntWalk.i64_in _ (by omega)
   have hcs:=Lib.hid (fun h:lim l (k - 1)=0=>(fun i hi=>by
    by_cases hik:i=k - 1
    ·rw [hik];exact h
    ·exact hz.out i (by omega):∀ i,k - 1≤i→lim l i=0))
   by_cases h0:lim l (k - 1)=0
   ·have h0b:(lim l (k - 1) == 0)=true:=by rw [h0];rfl
    have hcs2:=Lib.hid (hcs.out h0)
    clear hcell hcs h0
    go_wp2_with fail
    go_roundw
    case rel=>exact ⟨k - 1,by omega,by go_num,hcs2,by trivial⟩
    case measure=>simp [intOf];omega
   ·have h0b:(lim l (k - 1) == 0)=false:=by rw [beq_eq_false_iff_ne];exact h0
    have HH:=Lib.hid h0
    clear hcell hcs h0
    go_wp2_with fail
    go_ret
    exact ⟨k,hk,rfl,fun h=>by rw [List.length_take,Nat.min_eq_left hk,lim_take (by omega)];exact HH.out,lim_take_all hz.out,rfl⟩
theorem limb6_ok (l:List Int) (v:Value) (i:Nat) (w:World) (hv:IsInts w v l) (hl:l.length≤2000) :
  Calls Tryz.prog 234 #[v,.int .i64 i] w fun e w'=>e=.returned (.int .i64 (lim l i))∧w'=w:=by
 obtain ⟨a,cap,rfl⟩:=hv.slice
 obtain ⟨_,hcap,hc⟩:=hv.cells
 clear hv
 by_cases hi:i < l.length
 ·obtain ⟨b,off,rfl,hcell⟩:=hc (by omega)
  have ck:=hcell i hi
  clear hc hcell
  go_enter Tryz.func234,Tryz.ntmps234
  go_wp2_with fail
  go_ret
  exact ⟨rfl,rfl⟩
 ·have h0:=lim_out (Nat.not_lt.1 hi)
  rw [h0]
  clear hc
  go_enter Tryz.func234,Tryz.ntmps234
  go_wp2_with fail
  go_ret
  exact ⟨rfl,rfl⟩
def RetDiv6 (q r:Int) (k:Nat) (w:World) (e:Ending) (w':World):Prop:=∃ lq vq lr vr,e=.returned (.tuple #[vq,vr])∧IsInts w' vq lq∧IsInts w' vr lr∧Num lq q∧Num lr r∧lq.length≤k∧lr.length≤k∧Below w.heap.size w w'
structure ShortAt (a:List Int) (d:Int) (k:Nat) (q:List Int) (r:Int):Prop where
 len:q.length=a.length
 digs:Digs q
 r0:0≤r
 r1:r < d
 sum:vt (lim a) k+pw k * r+d * val q=val a
 zero:∀ i,i < k→lim q i=0
theorem ShortAt.start (a:List Int) {d:Int} (hd:0 < d):ShortAt a d a.length (zerosL a.length) 0:=by
 have e:val (zerosL a.length)=0:=by
  have:val (zerosL a.length)=val []:=val_of_lim fun i=>by rw [lim_zerosL,lim_nil]
  rw [this];rfl
 exact ⟨zerosL_len _,fun i=>by rw [lim_zerosL];exact ⟨by omega,by omega⟩,by omega,hd,by rw [e];show vt (lim a) a.length+_+_=vt (lim a) a.length;omega,fun i _=>lim_zerosL _ _⟩
theorem ShortAt.step {a:List Int} {d:Int} {k:Nat} {q:List Int} {r:Int} (h:ShortAt a d (k+1) q r) (hk:k < a.length) (ha:Dig (lim a k)) :
  ShortAt a d k (q.set k ((r * 1000000+lim a k) / d)) ((r * 1000000+lim a k) % d):=by
 obtain ⟨a0,a1⟩:=ha
 have h0:=h.r0
 have h1:=h.r1
 have hkq:k < q.length:=by rw [h.len];exact hk
 have hdm:=Int.mul_ediv_add_emod (r * 1000000+lim a k) d
 have hs:=h.sum
 have hz:=h.zero k (by omega)
 refine ⟨by rw [List.length_set];exact h.len,fun i=>?_,Int.emod_nonneg _ (by omega),Int.emod_lt_of_pos _ (by omega),?_,fun i hi=>?_⟩
 ·rw [lim_set hkq]
  split
  ·refine ⟨Int.ediv_nonneg (by omega) (by omega),?_⟩
   have:(r * 1000000+lim a k) / d < 1000000:=Int.ediv_lt_of_lt_mul (by omega) (by
    have h2:(r+1) * 1000000≤d * 1000000:=Int.mul_le_mul_of_nonneg_right (by omega) (by omega)
    rw [Int.mul_comm 1000000 d]
    omega)
   omega
  ·exact h.digs i
 ·rw [val_set hkq,hz]
  rw [vt,pw] at hs
  generalize (r * 1000000+lim a k) / d=Q at *
  generalize (r * 1000000+lim a k) % d=R at *
  grind
 ·rw [lim_set hkq,if_neg (by omega)]
  exact h.zero i (by omega)
theorem short6_ok {a:List Int} {x d:Int} (va:Value) (w:World) (hva:IsInts w va a) (ha:Num a x) (hal:a.length≤900) (d0:1≤d) (d1:d≤999999) :
  Calls Tryz.prog 233 #[va,.int .i64 d] w (RetDiv6 (x / d) (x % d) (max a.length 1) w):=by
 have HVA:=Lib.hid hva
 obtain ⟨aa,ac,rfl⟩:=hva.slice
 obtain ⟨_,hcap,hc⟩:=hva.cells
 have HC:=Lib.hid hc
 have HA:=Lib.hid ha
 have hmk:=fun (w:World)=>run_makeI w a.length (by omega) (a.length:Int) rfl
 have hw0:IntKind.i64.wrap ((a.length:Int) - 1)=(a.length:Int) - 1:=IntWalk.i64_in _ (by omega)
 clear ha hva hc
 go_enter Tryz.func233,Tryz.ntmps233
 go_wp2_with fail
 have x0:BlkI (w.alloc (.cells (intVs (zerosL a.length)).toArray 3)) w.heap.size (zerosL a.length):=BlkI.new rfl
 have hb0:Below w.heap.size w (w.alloc (.cells (intVs (zerosL a.length)).toArray 3)):=qbl
 generalize w.alloc (.cells (intVs (zerosL a.length)).toArray 3)=W0 at *
 go_loopw [7,8] (fun s i wr=>∃ (k:Nat) (q:List Int) (r:Int),k≤a.length∧s=.int .i64 r∧i=.int .i64 ((k:Int) - 1)∧BlkI wr w.heap.size q∧Hid (ShortAt a d k q r)∧Below w.heap.size w wr) (fun _ i _=>(intOf i+1).toNat)
 case atStart=>exact ⟨a.length,_,0,by omega,rfl,rfl,x0,Lib.hid (ShortAt.start a (by omega)),hb0⟩
 case round =>
  clear x0 hb0
  obtain ⟨k,q,r,hk,rfl,rfl,hq,hS,hB⟩:=hrel
  have hql:=hS.out.len
  by_cases hk0:k=0
  ·subst hk0
   have hT:=Lib.hid (trim6_ok q (some ⟨w.heap.size,0,none⟩) a.length a.length wr (by have:=hq.is;rwa [hql] at this) (by omega))
   clear hql
   go_wp2_with fail
   refine hT.out.mono ?_
   rintro e w1 ⟨m1,hm1,rfl,ht1,hl1,rfl⟩
   have hnew:BlkI (w1.alloc (.cells #[.int .i64 r] 3)) w1.heap.size [r]:=BlkI.new (X:=w1) (l:=[r]) rfl
   have hT2:=Lib.hid (trim6_ok [r] (some ⟨w1.heap.size,0,none⟩) 1 1 _ hnew.is (by simp))
   have HQ:=Lib.hid (And.intro hm1 (And.intro ht1 hl1))
   clear hm1 ht1 hl1
   go_wp2_with fail
   refine hT2.out.mono ?_
   rintro e w2 ⟨m2,hm2,rfl,ht2,hl2,rfl⟩
   have HQ2:=Lib.hid (And.intro hm2 (And.intro ht2 hl2))
   have hBB:Below w.heap.size w (w1.alloc (.cells #[.int .i64 r] 3)):=bw4 hB _
   have hq2:=hq.below (bw4 (bw0 _ _) (.cells #[.int .i64 r] 3))
   clear hm2 ht2 hl2
   go_wp2_with fail
   go_ret2
   obtain ⟨hm1,ht1,hl1⟩:=HQ.out
   obtain ⟨hm2,ht2,hl2⟩:=HQ2.out
   have hsum:=hS.out.sum
   rw [HA.out.sum] at hsum
   have hv2:r+d * val q=x:=by rw [← hsum];simp [vt,pw]
   have r0:=hS.out.r0
   have r1:=hS.out.r1
   obtain ⟨e1,e2⟩:=(Int.ediv_emod_unique (a:=x) (b:=d) (r:=r) (q:=val q) (by omega)).2 ⟨hv2,r0,r1⟩
   refine ⟨q.take m1,_,[r].take m2,_,rfl,hq2.isTake hm1 hS.out.len,hnew.isTake hm2 rfl,⟨fun i=>by rw [hl1];exact hS.out.digs i,ht1,by rw [val_of_lim hl1,e1]⟩,⟨fun i=>?_,ht2,?_⟩,?_,?_,hBB⟩
   ·rw [hl2]
    cases i with
    | zero=>show Dig r;exact ⟨r0,by omega⟩
    | succ i=>show Dig (lim [r] (i+1));rw [lim_out (by simp)];exact ⟨by omega,by omega⟩
   ·rw [val_of_lim hl2,e2]
    show 0+r * 1=r
    omega
   ·rw [List.length_take,hS.out.len];omega
   ·rw [List.length_take];simp at hm2 ⊢;omega
  ·obtain ⟨b,off,rfl,hcell⟩:=HC.out (by omega)
   obtain ⟨j,rfl⟩:∃ j,k=j+1:=⟨k - 1,by omega⟩
   have hjl:j < a.length:=by omega
   have ck:=keep hB (hcell j hjl)
   obtain ⟨a0,a1⟩:=HA.out.digs j
   have hst:=Lib.hid (hS.out.step hjl (HA.out.digs j))
   have r0:=hS.out.r0
   have r1:=hS.out.r1
   have hj:(((j+1:Nat):Int) - 1)=(j:Int):=by omega
   have hj0:(0:Int)≤(j:Int):=by omega
   have hj1:(j:Int) < (a.length:Int):=by omega
   have hjt:((j:Int)).toNat=j:=by omega
   obtain ⟨n,hn⟩:∃ n,r * 1000000+lim a j=n:=⟨_,rfl⟩
   have hw1:IntKind.i64.wrap (r * 1000000)=r * 1000000:=IntWalk.i64_in _ (by omega)
   have hw2:IntKind.i64.wrap (r * 1000000+lim a j)=n:=by rw [hn];exact IntWalk.i64_in _ (by omega)
   have hn0:0≤n:=by omega
   have hn1:n≤999999999999:=by omega
   have ht1:n.tmod d=n % d:=Int.tmod_eq_emod_of_nonneg hn0
   have ht2:n.tdiv d=n / d:=Int.tdiv_eq_ediv_of_nonneg hn0
   obtain ⟨m1,m2⟩:0≤n % d∧n % d < d:=⟨Int.emod_nonneg _ (by omega),Int.emod_lt_of_pos _ (by omega)⟩
   obtain ⟨m3,m4⟩:0≤n / d∧n / d≤n:=⟨Int.ediv_nonneg hn0 (by omega),Int.ediv_le_self _ hn0⟩
   have hw3:IntKind.i64.wrap (n % d)=n % d:=IntWalk.i64_in _ (by omega)
   have hw4:IntKind.i64.wrap (n / d)=n / d:=IntWalk.i64_in _ (by omega)
   have hw5:IntKind.i64.wrap ((j:Int) - 1)=(j:Int) - 1:=IntWalk.i64_in _ (by omega)
   have hdz:¬ d=0:=by omega
   have hdzb:(d == 0)=false:=by simp [hdz]
   rw [hn] at hst
   have hjq:j < q.length:=by omega
   have f1:=hq.cell hjq
   have g1:=hq.frozen j
   rw [hj]
   clear hn hcell hql
   go_wp2_with fail
   have hSb:=sameBut_setCell wr w.heap.size j (.int .i64 (n / d))
   have hqs:=hq.set j (n / d)
   have hB2:=hSb.below hB (Nat.le_refl _)
   go_roundw
   case rel=>exact ⟨j,_,_,by omega,rfl,by go_num,hqs,hst,hB2⟩
   case measure=>simp [intOf]
end Go.Proofs.YteepphiomcedfaaGreatDoor.R6
namespace Go.Proofs.YteepphiomcedfaaGreatDoor.R6
open Go.RowKit Go.Shelf
def RetNum6 (n:Int) (k:Nat) (w:World) (e:Ending) (w':World):Prop:=∃ l m g c,l.length=m∧e=.returned (.slice (some ⟨g,0,none⟩) m c)∧OwnInts w' w.heap.size (.slice (some ⟨g,0,none⟩) m c) l∧Num l n∧m≤k∧Below w.heap.size w w'
theorem row_some {w:World} {B e size n:Nat} {v:Value} {xs:List Value} (h:w.ownsRow B e size v n xs) (hv:v≠.slice none 0 0):∃ g c,v=.slice (some ⟨g,0,none⟩) n c∧B≤g:=by
 rcases h.2 with ⟨h0,_⟩|⟨g,cap,cur,e,hb,_⟩
 ·exact absurd h0 hv
 ·exact ⟨g,cap,e,hb⟩
def mdg (a b:List Int) (k:Nat):Int:=lim a k - lim b k - mcar (lim a) (lim b) k+1000000 * mcar (lim a) (lim b) (k+1)
theorem mdg_dig {a b:List Int} (ha:Digs a) (hb:Digs b) (i:Nat):Dig (mdg a b i):=by
 obtain ⟨a1,a2⟩:=ha i
 obtain ⟨b1,b2⟩:=hb i
 have:=mcar_bd (a:=lim a) (b:=lim b) i
 show Dig (_ - _ - _+1000000 * (if 0≤lim a i - lim b i - mcar (lim a) (lim b) i then 0 else 1))
 split<;>exact ⟨by omega,by omega⟩
theorem minus6_ok {a b:List Int} {x y:Int} (va vb:Value) (w:World) (hva:IsInts w va a) (hvb:IsInts w vb b) (ha:Num a x) (hb:Num b y) (hal:a.length≤1000) (hbl:b.length≤1000) (hyx:y≤x) :
  Calls Tryz.prog 235 #[va,vb] w (RetNum6 (x - y) a.length w):=by
 obtain ⟨i0,hi0,hz0,hz1,hz2⟩:=info_parts Tryz.infoInt
 have HA:=Lib.hid hva
 have HB:=Lib.hid hvb
 obtain ⟨aa,ac,rfl⟩:=hva.slice
 obtain ⟨ba,bc,rfl⟩:=hvb.slice
 obtain ⟨_,_,hc⟩:=hva.cells
 have HCA:=Lib.hid hc
 have HNA:=Lib.hid ha
 have HNB:=Lib.hid hb
 have HDG:=Lib.hid (mdg_dig ha.digs hb.digs)
 have HMC:=Lib.hid (mcar_bd (a:=lim a) (b:=lim b))
 clear hva hvb hc ha hb
 go_enter Tryz.func235,Tryz.ntmps235
 go_wp2_with fail
 have hb0:Below w.heap.size w (w.alloc (.cells #[] 3)):=qbl
 have hr0:OwnInts (w.alloc (.cells #[] 3)) w.heap.size (.slice (some ⟨w.heap.size,0,none⟩) 0 0) []:=⟨rfl,.inr ⟨w.heap.size,0,#[],rfl,Nat.le_refl _,World.alloc_heap_new _ _,Nat.le_refl _,by unfold maxLen;omega,rfl,rfl⟩⟩
 generalize w.alloc (.cells #[] 3)=W0 at *
 go_loopw [5,6,7] (fun s cy i wr=>∃ k:Nat,k≤a.length∧cy=.int .i64 (mcar (lim a) (lim b) k)∧i=.int .i64 k∧(∃ sg sc,s=.slice (some ⟨sg,0,none⟩) k sc∧Hid (OwnInts wr w.heap.size (.slice (some ⟨sg,0,none⟩) k sc) (limbsTo (mdg a b) k)))∧Below w.heap.size w wr) (fun _ _ i _=>a.length - (intOf i).toNat)
 case atStart=>exact ⟨0,by omega,rfl,rfl,⟨_,_,rfl,Lib.hid hr0⟩,hb0⟩
 case round =>
  clear hr0 hb0
  obtain ⟨k,hk,rfl,rfl,⟨sg,sc,rfl,hown⟩,hB⟩:=hrel
  by_cases hkn:k < a.length
  ·obtain ⟨bb,off,rfl,hcell⟩:=HCA.out (by omega)
   have ck:=hcell k hkn
   have LB:=Lib.hid (fun W (h:Below w.heap.size w W∧OwnInts W w.heap.size (.slice (some ⟨sg,0,none⟩) k sc) (limbsTo (mdg a b) k))=>limb6_ok b _ k W (HB.out.below h.1) (by omega))
   have hkI:(k:Int) < (a.length:Int):=by omega
   have hk0:(0:Int)≤(k:Int):=by omega
   have hkt:((k:Int)).toNat=k:=by omega
   have hwk:IntKind.i64.wrap ((k:Int)+1)=(k:Int)+1:=IntWalk.i64_in _ (by omega)
   have M1:=Lib.hid (show k+1≤maxLen by unfold maxLen;omega)
   have M2:=Lib.hid (show (k+1) * 8≤140737488355328 by omega)
   obtain ⟨a0,a1⟩:=HNA.out.digs k
   obtain ⟨b0,b1⟩:=HNB.out.digs k
   obtain ⟨c0,c1⟩:=HMC.out k
   obtain ⟨n,hn⟩:∃ n,lim a k - lim b k - mcar (lim a) (lim b) k=n:=⟨_,rfl⟩
   have hw1:IntKind.i64.wrap (lim a k - lim b k)=lim a k - lim b k:=IntWalk.i64_in _ (by omega)
   have hw2:IntKind.i64.wrap (lim a k - lim b k - mcar (lim a) (lim b) k)=n:=by rw [hn];exact IntWalk.i64_in _ (by omega)
   have HN:=Lib.hid hn
   have hn0 : -2000000≤n:=by omega
   have hn1:n≤1000000:=by omega
   have hR:Below w.heap.size w wr.drew∧OwnInts wr.drew w.heap.size (.slice (some ⟨sg,0,none⟩) k sc) (limbsTo (mdg a b) k):=⟨hB.drew,hown.out⟩
   clear hcell hown hB hn
   go_wp2_with fail
   refine region_S (F:=[]) (R:=(fun w'=>Below w.heap.size w w'∧OwnInts w' w.heap.size (.slice (some ⟨sg,0,none⟩) k sc) (limbsTo (mdg a b) k))) 11 #[false,false,false,false,false,false,false,false,false,false,false] (by kernel_rfl) (by kernel_rfl) (by kernel_rfl) (fun _ _ _ _ _ h=>h) (fun Q' hQ' hN=>?_)
   generalize wr.drew=wd at *
   refine tS 16 0 ?_
   refine tS 17 1 ?_
   refine tS 18 2 ?_
   refine tS 19 3 (hy:=by intro wq hRq;have e0:=keep hRq.1 ck;go_simp;(try with_reducible rfl)) ?_
   refine tS 20 4 ?_
   refine tS 21 5 ?_
   refine tS 24 8 ?_
   refine wpAnyS_ready (rs:=[6]) (by kernel_rfl) (by simp) ?_
   refine stepR (i:=6) rfl (by kernel_rfl) (fun K hK=>?_) (AllReadyS.nil)
   have hq:=LB.out _ hR
   go_simp
   refine hq.mono ?_
   rintro e wn ⟨rfl,rfl⟩
   clear hq
   refine hK.out _ _ hR ?_
   clear hK K
   (try simp only [Act.put,bw7,bw8,bw9])
   refine tS 23 7 ?_
   refine tS 25 9 ?_
   refine tS 8 10 ?_
   refine wpAnyS_done (by kernel_rfl) ?_ _
   refine hN.out _ _ ?_
   by_cases hneg:n < 0
   ·have hnb:n < 0:=hneg
    have HC:Hid (mcar (lim a) (lim b) (k+1)=1):=Lib.hid (by show (if 0≤lim a k - lim b k - mcar (lim a) (lim b) k then (0:Int) else 1)=1;rw [HN.out,if_neg (by omega)])
    have HD:Hid (mdg a b k=n+1000000):=Lib.hid (by show lim a k - lim b k - mcar (lim a) (lim b) k+1000000 * mcar (lim a) (lim b) (k+1)=_;rw [HC.out,HN.out];omega)
    have hwn:IntKind.i64.wrap (n+1000000)=n+1000000:=IntWalk.i64_in _ (by omega)
    clear hneg
    have HR:Hid (wn.ownsRow w.heap.size 3 1 (.slice (some ⟨sg,0,none⟩) k sc) k (intVs (limbsTo (mdg a b) k))):=Lib.hid (by have:=hR.2;unfold OwnInts at this;rwa [limbsTo_len] at this)
    have HBL:=Lib.hid hR.1
    have hsz:=Lib.hid hR.1.size
    have N4:=Lib.hid (fun (W:World) (o:Obj) (W':World) (hW:Below w.heap.size w W) (h:(W.alloc o).grownBy W' (Value.slice (some ⟨sg,0,none⟩) k sc).ownBlock)=>Below.grown (bw4 hW o) h (by have:=hW.size;simp;omega) (fun j hj=>by
     obtain ⟨_,_,e,hge⟩:=row_shape1 HR.out
     injection e with e1 e2 e3
     subst e1 e3
     exact hge j hj))
    clear hR
    go_wp2_with (at_builtin;refine wpList_append_own _ rfl _ _ 51 rfl w.heap.size 3 i0 (.int .i64 0) 1 8 Tryz.underlying51 hi0 hz0 hz1 hz2 rfl (by decide) _ _ _ rfl (HR.out.alloc _) ⟨_,0,none⟩ 1 1 [.int .i64 (n+1000000)] rfl rfl (cell_one_new _ _ _) (by simp [Value.oneCell']) M1.out M2.out (by simp;have:=hsz.out;omega) ?_;intro v' w4 hown0 hgrow hnil;have hb4:=Lib.hid (N4.out _ _ _ HBL.out hgrow);obtain ⟨sg',sc',rfl,_⟩:=row_some hown0 (fun h=>by have:=hnil.1 h;simp at this);clear hnil;have hown1:=Lib.hid hown0;clear hown0 hgrow)
    go_roundw
    case rel=>exact ⟨k+1,by omega,by rw [HC.out],by go_num,⟨_,_,rfl,Lib.hid (by have:=hown1.out;rw [intVs_snoc,show (n+1000000)=mdg a b k from HD.out.symm,← limbsTo_succ] at this;unfold OwnInts;rwa [limbsTo_len])⟩,hb4.out⟩
    case measure=>simp [intOf];omega
   ·have hnb:¬ n < 0:=hneg
    have HC:Hid (mcar (lim a) (lim b) (k+1)=0):=Lib.hid (by show (if 0≤lim a k - lim b k - mcar (lim a) (lim b) k then (0:Int) else 1)=0;rw [HN.out,if_pos (by omega)])
    have HD:Hid (mdg a b k=n):=Lib.hid (by show lim a k - lim b k - mcar (lim a) (lim b) k+1000000 * mcar (lim a) (lim b) (k+1)=_;rw [HC.out,HN.out];omega)
    clear hneg
    have HR:Hid (wn.ownsRow w.heap.size 3 1 (.slice (some ⟨sg,0,none⟩) k sc) k (intVs (limbsTo (mdg a b) k))):=Lib.hid (by have:=hR.2;unfold OwnInts at this;rwa [limbsTo_len] at this)
    have HBL:=Lib.hid hR.1
    have hsz:=Lib.hid hR.1.size
    have N4:=Lib.hid (fun (W:World) (o:Obj) (W':World) (hW:Below w.heap.size w W) (h:(W.alloc o).grownBy W' (Value.slice (some ⟨sg,0,none⟩) k sc).ownBlock)=>Below.grown (bw4 hW o) h (by have:=hW.size;simp;omega) (fun j hj=>by
     obtain ⟨_,_,e,hge⟩:=row_shape1 HR.out
     injection e with e1 e2 e3
     subst e1 e3
     exact hge j hj))
    clear hR
    go_wp2_with (at_builtin;refine wpList_append_own _ rfl _ _ 51 rfl w.heap.size 3 i0 (.int .i64 0) 1 8 Tryz.underlying51 hi0 hz0 hz1 hz2 rfl (by decide) _ _ _ rfl (HR.out.alloc _) ⟨_,0,none⟩ 1 1 [.int .i64 n] rfl rfl (cell_one_new _ _ _) (by simp [Value.oneCell']) M1.out M2.out (by simp;have:=hsz.out;omega) ?_;intro v' w4 hown0 hgrow hnil;have hb4:=Lib.hid (N4.out _ _ _ HBL.out hgrow);obtain ⟨sg',sc',rfl,_⟩:=row_some hown0 (fun h=>by have:=hnil.1 h;simp at this);clear hnil;have hown1:=Lib.hid hown0;clear hown0 hgrow)
    go_roundw
    case rel=>exact ⟨k+1,by omega,by rw [HC.out],by go_num,⟨_,_,rfl,Lib.hid (by have:=hown1.out;rw [intVs_snoc,show n=mdg a b k from HD.out.symm,← limbsTo_succ] at this;unfold OwnInts;rwa [limbsTo_len])⟩,hb4.out⟩
    case measure=>simp [intOf];omega
  ·obtain rfl:k=a.length:=by omega
   have hkI:¬ (a.length:Int) < (a.length:Int):=by omega
   have HO:=Lib.hid (fun m (h:m≤(limbsTo (mdg a b) a.length).length)=>hown.out.take' m h)
   have HT:=Lib.hid (trim6_ok (limbsTo (mdg a b) a.length) (some ⟨sg,0,none⟩) a.length sc wr hown.out.is (by rw [limbsTo_len];omega))
   clear hown
   go_wp2_with fail
   refine HT.out.mono ?_
   rintro e w1 ⟨m,hm,rfl,ht,hl,rfl⟩
   have HTR:=Lib.hid ht
   have HL:=Lib.hid hl
   clear ht hl
   rw [limbsTo_len] at hm
   go_wp2_with fail
   go_ret
   refine ⟨(limbsTo (mdg a b) a.length).take m,m,sg,sc,by rw [List.length_take,limbsTo_len];omega,rfl,HO.out m (by rw [limbsTo_len];exact hm),⟨fun i=>?_,HTR.out,?_⟩,hm,hB⟩
   ·rw [HL.out]
    by_cases hi:i < a.length
    ·rw [lim_limbsTo hi];exact HDG.out i
    ·rw [lim_out (by rw [limbsTo_len];omega)];exact ⟨by omega,by omega⟩
   ·rw [val_of_lim HL.out]
    have hs:=diff_limbs (a:=lim a) (b:=lim b) (d:=mdg a b) (c:=mcar (lim a) (lim b)) rfl (fun k=>rfl) a.length
    have hlen:b.length≤a.length:=by
     refine Nat.le_of_not_lt fun h=>?_
     have:=HNA.out.lt_of_length HNB.out h
     omega
    have ea:=vt_val (l:=a) (n:=a.length) (Nat.le_refl _)
    have eb:=vt_val (l:=b) (n:=a.length) hlen
    have h4:=vt_bound (f:=mdg a b) (k:=a.length) (fun i _=>HDG.out i)
    have hcn:=HMC.out a.length
    rw [ea,eb,HNA.out.sum,HNB.out.sum] at hs
    have h0:mcar (lim a) (lim b) a.length=0:=by
     refine Decidable.byContradiction fun hne=>?_
     have h5:mcar (lim a) (lim b) a.length=1:=by omega
     rw [h5] at hs
     omega
    rw [h0] at hs
    have e1:val (limbsTo (mdg a b) a.length)=vt (mdg a b) a.length:=by
     unfold val
     rw [limbsTo_len]
     exact vt_congr fun i hi=>lim_limbsTo hi
    rw [e1]
    omega
end Go.Proofs.YteepphiomcedfaaGreatDoor.R6
namespace Go.Proofs.YteepphiomcedfaaGreatDoor.R6
structure TimesIn (a b l0:List Int) (i k:Nat) (l:List Int) (c:Int):Prop where
 len:l.length=a.length+b.length+1
 digs:Digs l
 car:Dig c
 sum:val l+c * pw (i+k)=val l0+lim a i * vt (lim b) k * pw i
 same:∀ j,i+k≤j→lim l j=lim l0 j
 fin:b.length < k→c=0
theorem dig_div {n:Int} (h0:0≤n) (h1:n≤999999999999):Dig (n / 1000000):=⟨by omega,by omega⟩
theorem dig_mod (n:Int):Dig (n % 1000000):=⟨by omega,by omega⟩
theorem mul_dig {x y:Int} (hx:Dig x) (hy:Dig y):0≤x * y∧x * y≤999998000001:=by
 refine ⟨Int.mul_nonneg hx.1 hy.1,?_⟩
 have h1:=Int.mul_le_mul hx.2 hy.2 hy.1 (by omega)
 omega
theorem TimesIn.step {a b l0 l:List Int} {i k:Nat} {c:Int} (h:TimesIn a b l0 i k l c) (ha:Digs a) (hb:Digs b) (hi:i < a.length) (hk:k≤b.length) (h0:lim l0 (i+b.length)=0) :
  TimesIn a b l0 i (k+1) (l.set (i+k) ((lim l (i+k)+lim a i * lim b k+c) % 1000000)) ((lim l (i+k)+lim a i * lim b k+c) / 1000000):=by
 obtain ⟨m1,m2⟩:=mul_dig (ha i) (hb k)
 obtain ⟨o1,o2⟩:=h.digs (i+k)
 obtain ⟨c1,c2⟩:=h.car
 have hp:i+k < l.length:=by rw [h.len];omega
 refine ⟨by rw [List.length_set];exact h.len,fun j=>?_,dig_div (by omega) (by omega),?_,fun j hj=>?_,fun hf=>?_⟩
 ·rw [lim_set hp]
  split
  ·exact dig_mod _
  ·exact h.digs j
 ·rw [val_set hp]
  have hv:=h.sum
  have hdm:lim l (i+k)+lim a i * lim b k+c=(lim l (i+k)+lim a i * lim b k+c) % 1000000+1000000 * ((lim l (i+k)+lim a i * lim b k+c) / 1000000):=by omega
  rw [show i+(k+1)=i+k+1 from rfl,pw,vt]
  have hpa:=pw_add i k
  generalize (lim l (i+k)+lim a i * lim b k+c) % 1000000=r at *
  generalize (lim l (i+k)+lim a i * lim b k+c) / 1000000=q at *
  grind
 ·rw [lim_set hp,if_neg (by omega)];exact h.same j (by omega)
 ·have e:k=b.length:=by omega
  subst e
  have e1:lim b b.length=0:=lim_out (Nat.le_refl _)
  have e2:lim l (i+b.length)=0:=by rw [h.same _ (Nat.le_refl _),h0]
  rw [e1,e2]
  omega
structure TimesTo (a b:List Int) (i:Nat) (l:List Int):Prop where
 len:l.length=a.length+b.length+1
 digs:Digs l
 sum:val l=vt (lim a) i * val b
 zero:∀ j,i+b.length≤j→lim l j=0
theorem TimesTo.start {a b l:List Int} {i:Nat} (h:TimesTo a b i l):TimesIn a b l i 0 l 0:=⟨h.len,h.digs,⟨by omega,by omega⟩,by simp [vt],fun _ _=>rfl,fun _=>rfl⟩
theorem TimesTo.zeros (a b:List Int):TimesTo a b 0 (zerosL (a.length+b.length+1)):=⟨zerosL_len _,fun i=>by rw [lim_zerosL];exact ⟨by omega,by omega⟩,by
 unfold val
 rw [vt_congr (g:=fun _=>0) (fun i _=>lim_zerosL _ i)]
 have:∀ n,vt (fun _=>0) n=0:=fun n=>by
  induction n with
  | zero=>rfl
  | succ n ih=>rw [vt,ih];simp
 rw [this];simp [vt],fun j _=>lim_zerosL _ j⟩
theorem TimesIn.next {a b l0 l:List Int} {i:Nat} {c:Int} (h0:TimesTo a b i l0) (h:TimesIn a b l0 i (b.length+1) l c):TimesTo a b (i+1) l:=by
 refine ⟨h.len,h.digs,?_,fun j hj=>?_⟩
 ·have hc:=h.fin (by omega)
  have hv:=h.sum
  rw [hc,vt_val (show b.length≤b.length+1 by omega),h0.sum] at hv
  rw [vt]
  grind
 ·rw [h.same j (by omega)];exact h0.zero j (by omega)
theorem TimesIn.next' {a b l0 l:List Int} {i k:Nat} {c:Int} (h0:TimesTo a b i l0) (h:TimesIn a b l0 i k l c) (hk:b.length≤k) (hk2:k≤b.length+1) (hc:c=0):TimesTo a b (i+1) l:=by
 refine ⟨h.len,h.digs,?_,fun j hj=>?_⟩
 ·have hv:=h.sum
  rw [hc,vt_val hk,h0.sum] at hv
  rw [vt]
  grind
 ·rw [h.same j (by omega)];exact h0.zero j (by omega)
end Go.Proofs.YteepphiomcedfaaGreatDoor.R6
namespace Go.Proofs.YteepphiomcedfaaGreatDoor.R6
open Go.RowKit Go.Shelf
structure NumW (l:List Int) (n:Int):Prop where
 digs:Digs l
 sum:val l=n
theorem Num.w {l:List Int} {n:Int} (h:Num l n):NumW l n:=⟨h.digs,h.sum⟩
theorem size6_ok {a b:List Int} {x y:Int} (va vb:Value) (w:World) (hva:IsInts w va a) (hvb:IsInts w vb b) (ha:Num a x) (hb:Num b y) (hal:a.length≤1000) (hbl:b.length≤1000) :
  Calls Tryz.prog 237 #[va,vb] w (RetSgn x y w):=by
 obtain ⟨aa,ac,rfl⟩:=hva.slice
 obtain ⟨ba,bc,rfl⟩:=hvb.slice
 obtain ⟨_,_,hca⟩:=hva.cells
 obtain ⟨_,_,hcb⟩:=hvb.cells
 have HCA:=Lib.hid hca
 have HCB:=Lib.hid hcb
 have HA:=Lib.hid ha
 have HB:=Lib.hid hb
 have HL:=Lib.hid (fun h:a.length < b.length=>ha.lt_of_length hb h)
 have HM:=Lib.hid (fun h:b.length < a.length=>hb.lt_of_length ha h)
 clear ha hb hva hvb hca hcb
 rcases Nat.lt_trichotomy a.length b.length with hlt|heq|hgt
 ·have h1:((a.length:Int) != (b.length:Int))=true:=by simp;omega
  have h2:(a.length:Int) < (b.length:Int):=by omega
  go_enter Tryz.func237,Tryz.ntmps237
  go_wp2_with fail
  go_ret
  have:=HL.out hlt
  exact ⟨-1,rfl,by omega,by omega,qbl⟩
 ·have h1:((a.length:Int) != (b.length:Int))=false:=by simp [heq]
  have hw0:IntKind.i64.wrap ((a.length:Int) - 1)=(a.length:Int) - 1:=IntWalk.i64_in _ (by omega)
  have HEQ:=Lib.hid heq
  clear HL HM heq
  go_enter Tryz.func237,Tryz.ntmps237
  go_wp2_with fail
  go_loopw [5] (fun i wr=>∃ k:Nat,k≤a.length∧i=.int .i64 ((k:Int) - 1)∧Hid (∀ j,k≤j→j < a.length→lim a j=lim b j)∧Below w.heap.size w wr) (fun i _=>(intOf i+1).toNat)
  case atStart=>exact ⟨a.length,by omega,rfl,Lib.hid (fun j h1 h2=>by omega),bw0 _ _⟩
  case round =>
   obtain ⟨k,hk,rfl,hS,hBr⟩:=hrel
   by_cases hk0:k=0
   ·subst hk0
    have hxy:Hid (x=y):=Lib.hid (by
     rw [← HA.out.sum,← HB.out.sum]
     exact val_of_lim fun j=>by
      by_cases hj:j < a.length
      ·exact hS.out j (by omega) hj
      ·rw [lim_out (by omega),lim_out (by have:=HEQ.out;omega)])
    go_wp2_with fail
    go_ret
    have:=hxy.out
    exact ⟨0,rfl,by omega,by omega,hBr⟩
   ·obtain ⟨j,rfl⟩:∃ j,k=j+1:=⟨k - 1,by omega⟩
    have hlb:=HEQ.out
    obtain ⟨b1,o1,rfl,hcella⟩:=HCA.out (by omega)
    obtain ⟨b2,o2,rfl,hcellb⟩:=HCB.out (by omega)
    have ca:=keep hBr (hcella j (by omega))
    have cb:=keep hBr (hcellb j (by omega))
    have hj:(((j+1:Nat):Int) - 1)=(j:Int):=by omega
    have hj0:(0:Int)≤(j:Int):=by omega
    have hj1:(j:Int) < (a.length:Int):=by omega
    have hj2:(j:Int) < (b.length:Int):=by omega
    have hjt:((j:Int)).toNat=j:=by omega
    have hwj:IntKind.i64.wrap ((j:Int) - 1)=(j:Int) - 1:=IntWalk.i64_in _ (by omega)
    have HTA:=Lib.hid (fun (f g:Nat→Int) (m:Nat) (h:j < m) (hf:∀ i,Dig (f i)) (hg:∀ i,Dig (g i)) (he:∀ i,j < i→i < m→f i=g i) (hlt:f j < g j)=>vt_top h (fun i _=>hf i) (fun i _=>hg i) he hlt)
    have hxl:Hid (lim a j < lim b j→x < y):=Lib.hid (fun h=>by
     have:=HTA.out (lim a) (lim b) a.length (by omega) HA.out.digs HB.out.digs (fun i h1 h2=>hS.out i (by omega) h2) h
     rw [← HA.out.sum,← HB.out.sum]
     unfold val
     rwa [← hlb])
    have hxg:Hid (lim b j < lim a j→y < x):=Lib.hid (fun h=>by
     have:=HTA.out (lim b) (lim a) a.length (by omega) HB.out.digs HA.out.digs (fun i h1 h2=>(hS.out i (by omega) h2).symm) h
     rw [← HA.out.sum,← HB.out.sum]
     unfold val
     rwa [← hlb])
    rw [hj]
    clear hcella hcellb hlb
    by_cases h1:lim a j < lim b j
    ·have hx:=Lib.hid (hxl.out h1)
     go_wp2_with fail
     go_quiet (fail)
     go_wp2_with fail
     go_ret
     have:=hx.out
     exact ⟨-1,rfl,by omega,by omega,qbl⟩
    ·by_cases h2:lim b j < lim a j
     ·have hx:=Lib.hid (hxg.out h2)
      go_wp2_with fail
      go_quiet (fail)
      go_wp2_with fail
      go_quiet (fail)
      go_wp2_with fail
      go_ret
      have:=hx.out
      exact ⟨1,rfl,by omega,by omega,qbl⟩
     ·have HE:Hid (∀ i,j≤i→i < a.length→lim a i=lim b i):=Lib.hid (fun i h3 h4=>by
       by_cases hij:i=j
       ·subst hij;omega
       ·exact hS.out i (by omega) h4)
      go_wp2_with fail
      go_quiet (fail)
      go_wp2_with fail
      go_quiet (fail)
      go_wp2_with fail
      go_roundw
      case rel=>exact ⟨j,by omega,by go_num,HE,qbl⟩
      case measure=>simp [intOf]
 ·have h1:((a.length:Int) != (b.length:Int))=true:=by simp;omega
  have h2:¬ (a.length:Int) < (b.length:Int):=by omega
  go_enter Tryz.func237,Tryz.ntmps237
  go_wp2_with fail
  go_ret
  have:=HM.out hgt
  exact ⟨1,rfl,by omega,by omega,qbl⟩
theorem times6_ok {a b:List Int} {x y:Int} (va vb:Value) (w:World) (hva:IsInts w va a) (hvb:IsInts w vb b) (ha:NumW a x) (hb:NumW b y) (hal:a.length≤900) (hbl:b.length≤900) :
  Calls Tryz.prog 236 #[va,vb] w (RetNum6 (x * y) (a.length+b.length+1) w):=by
 have HVB:=Lib.hid hvb
 obtain ⟨aa,ac,rfl⟩:=hva.slice
 obtain ⟨ba,bc,rfl⟩:=hvb.slice
 obtain ⟨_,_,hca⟩:=hva.cells
 have HCA:=Lib.hid hca
 have HA:=Lib.hid ha
 have HB:=Lib.hid hb
 have hmk:=fun (w:World)=>run_makeI w (a.length+b.length+1) (by omega) ((a.length:Int)+(b.length:Int)+1) (by omega)
 clear ha hb hva hvb hca
 obtain ⟨N,hN⟩:∃ N,a.length+b.length+1=N:=⟨_,rfl⟩
 rw [hN] at hmk ⊢
 go_enter Tryz.func236,Tryz.ntmps236
 go_wp2_with fail
 have hb0:Below w.heap.size w (w.alloc (.cells (intVs (zerosL N)).toArray 3)):=qbl
 have x0:BlkI (w.alloc (.cells (intVs (zerosL N)).toArray 3)) w.heap.size (zerosL N):=BlkI.new rfl
 have hT:=Lib.hid (TimesTo.zeros a b)
 rw [hN] at hT
 generalize w.alloc (.cells (intVs (zerosL N)).toArray 3)=W0 at *
 go_loopw [6] (fun i wr=>∃ (k:Nat) (l:List Int),k≤a.length∧i=.int .i64 k∧BlkI wr w.heap.size l∧Hid (TimesTo a b k l)∧Below w.heap.size w wr) (fun i _=>a.length - (intOf i).toNat)
 case atStart=>exact ⟨0,zerosL N,by omega,rfl,x0,hT,hb0⟩
 case round =>
  clear x0 hT hb0
  obtain ⟨i,l,hi,rfl,hblk,hTo,hB⟩:=hrel
  by_cases hlt:i < a.length
  ·obtain ⟨b1,o1,rfl,hcell⟩:=HCA.out (by omega)
   have CKA:=Lib.hid (hcell i hlt)
   have hltI:(i:Int) < (a.length:Int):=by omega
   have hwi:IntKind.i64.wrap ((i:Int)+1)=(i:Int)+1:=IntWalk.i64_in _ (by omega)
   have HTO:=Lib.hid hTo.out.start
   have HZ:=Lib.hid (hTo.out.zero (i+b.length) (Nat.le_refl _))
   have HNX:=Lib.hid (fun l' k c h h1 h2 h3=>TimesIn.next' (l:=l') (k:=k) (c:=c) hTo.out h h1 h2 h3)
   have HBI:=Lib.hid hB
   clear hTo hB hcell
   go_wp2_with fail
   go_loopw [7,8] (fun cy k wi=>∃ (j:Nat) (c:Int) (l':List Int),j≤b.length+1∧k=.int .i64 j∧cy=.int .i64 c∧BlkI wi w.heap.size l'∧Hid (TimesIn a b l i j l' c)∧Below w.heap.size w wi) (fun _ k _=>b.length+1 - (intOf k).toNat)
   case atStart=>exact ⟨0,0,l,by omega,rfl,rfl,hblk,HTO,HBI.out⟩
   case round =>
    clear hblk HTO HBI
    obtain ⟨j,c,l',hj,rfl,rfl,hbk,hTi,hBi⟩:=hrel
    obtain ⟨c1,c2⟩:=hTi.out.car
    by_cases hgo:j < b.length∨0 < c
    ·have hjl:j < b.length+1:=by
      rcases hgo with h|h
      ·omega
      ·refine Decidable.byContradiction fun hn=>?_
       have:=hTi.out.fin (by omega)
       omega
     have LB:=Lib.hid (fun (W:World) (h:Below w.heap.size w W)=>limb6_ok b _ j W (HVB.out.below h) (by omega))
     obtain ⟨o1',o2'⟩:=hTi.out.digs (i+j)
     obtain ⟨m1,m2⟩:=mul_dig (HA.out.digs i) (HB.out.digs j)
     have hst:=hTi.out.step HA.out.digs HB.out.digs hlt (by omega) HZ.out
     have hp:i+j < l'.length:=by rw [hTi.out.len];omega
     have hlen:l'.length=N:=by rw [hTi.out.len];exact hN
     have hpI:(i:Int)+(j:Int) < (N:Int):=by omega
     have hp0:(0:Int)≤(i:Int)+(j:Int):=by omega
     have hpt:((i:Int)+(j:Int)).toNat=i+j:=by omega
     have hi0:(0:Int)≤(i:Int):=by omega
     have hit:((i:Int)).toNat=i:=by omega
     have cka:=CKA.out
     have hw1:IntKind.i64.wrap ((i:Int)+(j:Int))=(i:Int)+(j:Int):=IntWalk.i64_in _ (by omega)
     have hw2:IntKind.i64.wrap (lim a i * lim b j)=lim a i * lim b j:=IntWalk.i64_in _ (by omega)
     have hw3:IntKind.i64.wrap (lim l' (i+j)+lim a i * lim b j)=lim l' (i+j)+lim a i * lim b j:=IntWalk.i64_in _ (by omega)
     obtain ⟨n,hn⟩:∃ n,lim l' (i+j)+lim a i * lim b j+c=n:=⟨_,rfl⟩
     have hw4:IntKind.i64.wrap (lim l' (i+j)+lim a i * lim b j+c)=n:=by rw [hn];exact IntWalk.i64_in _ (by omega)
     have hn0:0≤n:=by omega
     have hn1:n≤999999999999:=by omega
     have ht1:n.tmod 1000000=n % 1000000:=Int.tmod_eq_emod_of_nonneg hn0
     have ht2:n.tdiv 1000000=n / 1000000:=Int.tdiv_eq_ediv_of_nonneg hn0
     have hw5:IntKind.i64.wrap (n % 1000000)=n % 1000000:=IntWalk.i64_in _ (by omega)
     have hw6:IntKind.i64.wrap (n / 1000000)=n / 1000000:=IntWalk.i64_in _ (by omega)
     have hw7:IntKind.i64.wrap ((j:Int)+1)=(j:Int)+1:=IntWalk.i64_in _ (by omega)
     rw [hn] at hst
     have HST:=Lib.hid hst
     have hR:Below w.heap.size w wr.drew∧BlkI wr.drew w.heap.size l':=⟨hBi.drew,hbk.below (bw0 _ _).drew⟩
     clear hn hst hTi hbk hBi
     by_cases hjb:j < b.length
     ·have hjI:(j:Int) < (b.length:Int):=by omega
      clear hgo
      go_wp2_with fail
      refine region_S (F:=[]) (R:=(fun w'=>Below w.heap.size w w'∧BlkI w' w.heap.size l')) 18 #[false,false,false,false,false,false,false,false,false,false,false,false,false,false,false,false,false,false] (by kernel_rfl) (by kernel_rfl) (by kernel_rfl) (fun _ _ _ _ _ h=>h) (fun Q' hQ' hN=>?_)
      generalize wr.drew=wd at *
      refine tS 33 0 ?_
      refine tS 34 1 ?_
      refine tS 35 2 ?_
      refine tS 36 3 ?_
      refine tS 37 4 ?_
      refine tS 38 5 (hy:=by intro wq hRq;have e0:=hRq.2.cell hp;go_simp;(try with_reducible rfl)) ?_
      refine tS 39 6 ?_
      refine tS 40 7 ?_
      refine tS 41 8 ?_
      refine tS 42 9 (hy:=by intro wq hRq;have e0:=keep hRq.1 cka;go_simp;(try with_reducible rfl)) ?_
      refine tS 43 10 ?_
      refine tS 44 11 ?_
      refine tS 48 15 ?_
      refine wpAnyS_ready (rs:=[12]) (by kernel_rfl) (by simp) ?_
      refine stepR (i:=12) rfl (by kernel_rfl) (fun K hK=>?_) (AllReadyS.nil)
      have hq:=LB.out _ hR.1
      go_simp
      refine hq.mono ?_
      rintro e wn ⟨rfl,rfl⟩
      clear hq
      refine hK.out _ _ hR ?_
      clear hK K
      (try simp only [Act.put,bw7,bw8,bw9])
      refine tS 46 13 ?_
      refine tS 47 14 ?_
      refine tS 49 16 ?_
      refine tS 9 17 ?_
      refine wpAnyS_done (by kernel_rfl) ?_ _
      refine hN.out _ _ ?_
      obtain ⟨hBn,hbn⟩:=hR
      have ck3:=hbn.cell hp
      have fr3:=hbn.frozen (i+j)
      go_wp2_with fail
      have hSb:=sameBut_setCell wn w.heap.size (i+j) (.int .i64 (n % 1000000))
      have hbs:=hbn.set (i+j) (n % 1000000)
      have hB3:=hSb.below hBn (Nat.le_refl _)
      go_roundw
      case rel=>exact ⟨j+1,_,_,by omega,by go_num,rfl,hbs,HST.out,hB3⟩
      case measure=>simp [intOf];omega
     ·have hjI:¬ (j:Int) < (b.length:Int):=by omega
      have hcI:(0:Int) < c:=hgo.resolve_left hjb
      clear hgo
      go_wp2_with fail
      refine region_S (F:=[]) (R:=(fun w'=>Below w.heap.size w w'∧BlkI w' w.heap.size l')) 18 #[false,false,false,false,false,false,false,false,false,false,false,false,false,false,false,false,false,false] (by kernel_rfl) (by kernel_rfl) (by kernel_rfl) (fun _ _ _ _ _ h=>h) (fun Q' hQ' hN=>?_)
      generalize wr.drew=wd at *
      refine tS 33 0 ?_
      refine tS 34 1 ?_
      refine tS 35 2 ?_
      refine tS 36 3 ?_
      refine tS 37 4 ?_
      refine tS 38 5 (hy:=by intro wq hRq;have e0:=hRq.2.cell hp;go_simp;(try with_reducible rfl)) ?_
      refine tS 39 6 ?_
      refine tS 40 7 ?_
      refine tS 41 8 ?_
      refine tS 42 9 (hy:=by intro wq hRq;have e0:=keep hRq.1 cka;go_simp;(try with_reducible rfl)) ?_
      refine tS 43 10 ?_
      refine tS 44 11 ?_
      refine tS 48 15 ?_
      refine wpAnyS_ready (rs:=[12]) (by kernel_rfl) (by simp) ?_
      refine stepR (i:=12) rfl (by kernel_rfl) (fun K hK=>?_) (AllReadyS.nil)
      have hq:=LB.out _ hR.1
      go_simp
      refine hq.mono ?_
      rintro e wn ⟨rfl,rfl⟩
      clear hq
      refine hK.out _ _ hR ?_
      clear hK K
      (try simp only [Act.put,bw7,bw8,bw9])
      refine tS 46 13 ?_
      refine tS 47 14 ?_
      refine tS 49 16 ?_
      refine tS 9 17 ?_
      refine wpAnyS_done (by kernel_rfl) ?_ _
      refine hN.out _ _ ?_
      obtain ⟨hBn,hbn⟩:=hR
      have ck3:=hbn.cell hp
      have fr3:=hbn.frozen (i+j)
      go_wp2_with fail
      have hSb:=sameBut_setCell wn w.heap.size (i+j) (.int .i64 (n % 1000000))
      have hbs:=hbn.set (i+j) (n % 1000000)
      have hB3:=hSb.below hBn (Nat.le_refl _)
      go_roundw
      case rel=>exact ⟨j+1,_,_,by omega,by go_num,rfl,hbs,HST.out,hB3⟩
      case measure=>simp [intOf];omega
    ·have hjI:¬ (j:Int) < (b.length:Int):=by omega
     have hcI:¬ (0:Int) < c:=by omega
     have hNX:=Lib.hid (HNX.out l' j c hTi.out (by omega) hj (by omega))
     clear hTi hgo
     go_wp2_with fail
     go_roundw
     case rel=>exact ⟨i+1,l',by omega,by go_num,hbk,hNX,hBi⟩
     case measure=>simp [intOf];omega
  ·obtain rfl:i=a.length:=by omega
   have hltI:¬ (a.length:Int) < (a.length:Int):=by omega
   have hlen:l.length=N:=by rw [hTo.out.len];exact hN
   have HT:=Lib.hid (trim6_ok l (some ⟨w.heap.size,0,none⟩) N N wr (by have:=hblk.is;rwa [hlen] at this) (by omega))
   have HLN:=Lib.hid hlen
   clear hlen
   go_wp2_with fail
   refine HT.out.mono ?_
   rintro e w1 ⟨m,hm,rfl,ht,hl,rfl⟩
   have HQ:=Lib.hid (And.intro hm (And.intro ht hl))
   clear hm ht hl
   go_wp2_with fail
   go_ret
   obtain ⟨hm,ht,hl⟩:=HQ.out
   have hsum:=hTo.out.sum
   rw [show vt (lim a) a.length=val a from rfl,HA.out.sum,HB.out.sum] at hsum
   have how:=(hblk.own (Nat.le_refl _) (by have:=HLN.out;omega)).take' m hm
   rw [HLN.out] at how
   exact ⟨l.take m,m,w.heap.size,N,by rw [List.length_take,HLN.out];have:=HLN.out;omega,rfl,how,⟨fun i=>by rw [hl];exact hTo.out.digs i,ht,by rw [val_of_lim hl];exact hsum⟩,by have:=HLN.out;omega,hB⟩
end Go.Proofs.YteepphiomcedfaaGreatDoor.R6
