/- Joined texts: WEst, DivPlain, WDivB, WDivC, WDivL, WBuild, DecPlain. -/
import Derived.Test.YtbbclfbpllbbbaaGreatDoorJ04
import Derived.BigFrameIn
import Derived.Test.YtbbclfbpllbbbaaGreatDoorJ01
import Derived.Shelf.Strings.BuilderK
set_option maxRecDepth 100000
set_option linter.unusedVariables false
set_option linter.unusedSimpArgs false
set_option maxHeartbeats 12800000
namespace Go.Proofs.YtbbclfbpllbbbaaGreatDoor
open Go.RowKit Go.Shelf
theorem estimateL_ok {u v:List Int} {j:Nat} {g cap:Nat} (vv:Value) (w:World) (hu:RowI w g cap u) (hvv:IsInts w vv v) (du:Digs u) (dv:Digs v) (h2:2≤v.length) (hj:j+v.length < u.length) (hul:u.length≤2000) (htop:500000000≤lim v (v.length - 1))
  (I:Int→Prop) (hI0:I ((lim u (j+v.length) * 1000000000+lim u (j+v.length - 1)) / lim v (v.length - 1)))
  (hI1:∀ q,1000000000≤q→I q→I (q - 1))
  (hI2:∀ q r,0≤q→q * lim v (v.length - 1)+r=lim u (j+v.length) * 1000000000+lim u (j+v.length - 1)→q * lim v (v.length - 2) > r * 1000000000+lim u (j+v.length - 2)→I q→I (q - 1)) :
  Calls Tryz.prog 224 #[.slice (some ⟨g,0,none⟩) u.length cap,vv,.int .i64 j] w fun e w'=>∃ q:Int,e=.returned (.int .i64 q)∧0≤q∧q≤2000000000∧I q∧∃ n,w'=w.drewN n:=by
 obtain ⟨va,vc,rfl⟩:=hvv.slice
 obtain ⟨_,hcapv,hcv⟩:=hvv.cells
 obtain ⟨bv,ov,rfl,hcell⟩:=hcv (by omega)
 have ck0:=hu.cell (p:=j+v.length) (by omega)
 have ck1:=hu.cell (p:=j+v.length - 1) (by omega)
 have ck2:=hu.cell (p:=j+v.length - 2) (by omega)
 have cv1:=hcell (v.length - 1) (by omega)
 have cv2:=hcell (v.length - 2) (by omega)
 obtain ⟨a0,b0⟩:=du (j+v.length)
 obtain ⟨a1,b1⟩:=du (j+v.length - 1)
 obtain ⟨a2,b2⟩:=du (j+v.length - 2)
 obtain ⟨a3,b3⟩:=dv (v.length - 1)
 obtain ⟨a4,b4⟩:=dv (v.length - 2)
 clear du dv hu hvv
 clear hcell hcv
 generalize v.length=n at *
 generalize u.length=N at *
 generalize lim u (j+n)=u0 at *
 generalize lim u (j+n - 1)=u1 at *
 generalize lim u (j+n - 2)=u2 at *
 generalize lim v (n - 1)=v1 at *
 generalize lim v (n - 2)=v2 at *
 have HI0:=Lib.hid hI0
 have HI1:=Lib.hid hI1
 have HI2:=Lib.hid hI2
 have hw0:IntKind.i64.wrap ((j:Int)+(n:Int))=(j:Int)+(n:Int):=IntWalk.i64_in _ (by omega)
 have hw1:IntKind.i64.wrap ((j:Int)+(n:Int) - 1)=(j:Int)+(n:Int) - 1:=IntWalk.i64_in _ (by omega)
 have hw2:IntKind.i64.wrap ((j:Int)+(n:Int) - 2)=(j:Int)+(n:Int) - 2:=IntWalk.i64_in _ (by omega)
 have hw3:IntKind.i64.wrap ((n:Int) - 1)=(n:Int) - 1:=IntWalk.i64_in _ (by omega)
 have hw4:IntKind.i64.wrap ((n:Int) - 2)=(n:Int) - 2:=IntWalk.i64_in _ (by omega)
 have hx0:((j:Int)+(n:Int)).toNat=j+n:=by omega
 have hx1:((j:Int)+(n:Int) - 1).toNat=j+n - 1:=by omega
 have hx2:((j:Int)+(n:Int) - 2).toNat=j+n - 2:=by omega
 have hx3:((n:Int) - 1).toNat=n - 1:=by omega
 have hx4:((n:Int) - 2).toNat=n - 2:=by omega
 have y0:(0:Int)≤(j:Int)+(n:Int):=by omega
 have y1:(j:Int)+(n:Int) < (N:Int):=by omega
 have y2:(0:Int)≤(j:Int)+(n:Int) - 1:=by omega
 have y3:(j:Int)+(n:Int) - 1 < (N:Int):=by omega
 have y4:(0:Int)≤(j:Int)+(n:Int) - 2:=by omega
 have y5:(j:Int)+(n:Int) - 2 < (N:Int):=by omega
 have y6:(0:Int)≤(n:Int) - 1:=by omega
 have y7:(0:Int)≤(n:Int) - 2:=by omega
 obtain ⟨top,htp⟩:∃ t,u0 * 1000000000+u1=t:=⟨_,rfl⟩
 have hw5:IntKind.i64.wrap (u0 * 1000000000)=u0 * 1000000000:=IntWalk.i64_in _ (by omega)
 have hw6:IntKind.i64.wrap (u0 * 1000000000+u1)=top:=by rw [htp];exact IntWalk.i64_in _ (by omega)
 have ht0:0≤top:=by omega
 have ht1:top≤999999999999999999:=by omega
 rw [htp] at HI0 HI2
 have hd1:top.tdiv v1=top / v1:=Int.tdiv_eq_ediv_of_nonneg ht0
 have hd2:top.tmod v1=top % v1:=Int.tmod_eq_emod_of_nonneg ht0
 have hz:¬ v1=0:=by omega
 have hzb:(v1 == 0)=false:=by simp [hz]
 obtain ⟨q,hq⟩:∃ q,top / v1=q:=⟨_,rfl⟩
 obtain ⟨r,hr⟩:∃ q,top % v1=q:=⟨_,rfl⟩
 have hqr:q * v1+r=top:=by rw [← hq,← hr,Int.mul_comm];exact Int.mul_ediv_add_emod _ _
 have hr0:0≤r:=by rw [← hr];exact Int.emod_nonneg _ hz
 have hr1:r < v1:=by rw [← hr];exact Int.emod_lt_of_pos _ (by omega)
 have hq0:0≤q:=by rw [← hq];exact Int.ediv_nonneg ht0 (by omega)
 have hq1:q≤2000000000:=by
  refine Decidable.byContradiction fun hc=>?_
  have:=Int.mul_le_mul (show (2000000001:Int)≤q by omega) htop (by omega) (by omega)
  omega
 rw [hq] at hd1 HI0
 rw [hr] at hd2
 have hw7:IntKind.i64.wrap q=q:=IntWalk.i64_in _ (by omega)
 have hw8:IntKind.i64.wrap r=r:=IntWalk.i64_in _ (by omega)
 have HQR:=Lib.hid hqr
 clear hq hr hqr hI0 hI1 hI2 htp
 go_enter Tryz.func224,Tryz.ntmps224
 go_wp2_with fail
 go_quiet (fail)
 go_wp2_with fail
 go_quiet (fail)
 go_wp2_with fail
 go_loopw [9,10] (fun x y wr=>∃ q r:Int,x=.int .i64 q∧y=.int .i64 r∧0≤q∧q≤2000000000∧0≤r∧r≤999999999∧Hid (q * v1+r=top)∧Hid (I q)∧∃ m,wr=w.drewN m) (fun x _ _=>(intOf x).toNat)
 case atStart=>exact ⟨q,r,rfl,rfl,hq0,hq1,hr0,by omega,HQR,HI0,by (try simp only [drewN_add]);exact ⟨_,rfl⟩⟩
 case round =>
  clear hq0 hq1 hr0 hr1 hw7 hw8 hd1 hd2 HQR HI0
  obtain ⟨q,r,rfl,rfl,hq0,hq1,hr0,hr1,hsum,HIQ,m,rfl⟩:=hrel
  have hsum:=hsum.out
  have hr2:r < 1000000000:=by omega
  by_cases hge:1000000000≤q
  ·have hI':=HI1.out q hge HIQ.out
   have hs1:(q - 1) * v1+(r+v1)=top:=by rw [← hsum];grind
   have hw9:IntKind.i64.wrap (q - 1)=q - 1:=IntWalk.i64_in _ (by omega)
   have hw10:IntKind.i64.wrap (r+v1)=r+v1:=IntWalk.i64_in _ (by omega)
   have HS1:=Lib.hid hs1
   have HIQ2:=Lib.hid hI'
   clear hs1 hsum hI'
   by_cases hbr:1000000000≤r+v1
   ·go_wp2_with fail
    go_quiet (fail)
    go_wp2_with fail
    go_quiet (fail)
    go_wp2_with fail
    go_ret
    exact ⟨q - 1,rfl,by omega,by omega,HIQ2.out,by (try simp only [drewN_add]);exact ⟨_,rfl⟩⟩
   ·go_wp2_with fail
    go_quiet (fail)
    go_wp2_with fail
    go_quiet (fail)
    go_wp2_with fail
    go_roundw
    case rel=>exact ⟨q - 1,r+v1,rfl,rfl,by omega,by omega,by omega,by omega,HS1,HIQ2,by (try simp only [drewN_add]);exact ⟨_,rfl⟩⟩
    case measure=>simp [intOf];omega
  ·have hgB:decide ((1000000000:Int)≤q)=false:=decide_eq_false hge
   have hlB:decide (r < (1000000000:Int))=true:=decide_eq_true hr2
   obtain ⟨P,hP⟩:∃ P,q * v2=P:=⟨_,rfl⟩
   have hP0:0≤P:=by rw [← hP];exact Int.mul_nonneg hq0 a4
   have hP1:P≤999999998000000001:=by rw [← hP];have:=Int.mul_le_mul (show q≤999999999 by omega) b4 a4 (by omega);omega
   have hp1:IntKind.i64.wrap (q * v2)=P:=by rw [hP];exact IntWalk.i64_in _ (by omega)
   have hp2:IntKind.i64.wrap (r * 1000000000)=r * 1000000000:=IntWalk.i64_in _ (by omega)
   have hp3:IntKind.i64.wrap (r * 1000000000+u2)=r * 1000000000+u2:=IntWalk.i64_in _ (by omega)
   have HP:=Lib.hid hP
   by_cases hgt:r * 1000000000+u2 < P
   ·have hI':=HI2.out q r hq0 hsum (by have:=HP.out;omega) HIQ.out
    have hq2:1≤q:=by
     refine Decidable.byContradiction fun hc=>?_
     have h0:q=0:=by omega
     rw [h0,Int.zero_mul] at hP
     omega
    clear hP
    have hs1:(q - 1) * v1+(r+v1)=top:=by rw [← hsum];grind
    have hw9:IntKind.i64.wrap (q - 1)=q - 1:=IntWalk.i64_in _ (by omega)
    have hw10:IntKind.i64.wrap (r+v1)=r+v1:=IntWalk.i64_in _ (by omega)
    have HS1:=Lib.hid hs1
    have HIQ2:=Lib.hid hI'
    clear hs1 hsum hI'
    by_cases hbr:1000000000≤r+v1
    ·go_wp2_with fail
     go_quiet (fail)
     go_wp2_with fail
     go_quiet (fail)
     go_wp2_with fail
     go_ret
     exact ⟨q - 1,rfl,by omega,by omega,HIQ2.out,by (try simp only [drewN_add]);exact ⟨_,rfl⟩⟩
    ·go_wp2_with fail
     go_quiet (fail)
     go_wp2_with fail
     go_quiet (fail)
     go_wp2_with fail
     go_roundw
     case rel=>exact ⟨q - 1,r+v1,rfl,rfl,by omega,by omega,by omega,by omega,HS1,HIQ2,by (try simp only [drewN_add]);exact ⟨_,rfl⟩⟩
     case measure=>simp [intOf];omega
   ·clear hP hsum
    go_wp2_with fail
    go_quiet (fail)
    go_wp2_with fail
    go_ret
    exact ⟨q,rfl,hq0,hq1,HIQ.out,by (try simp only [drewN_add]);exact ⟨_,rfl⟩⟩
end Go.Proofs.YtbbclfbpllbbbaaGreatDoor
namespace Go.Proofs.YtbbclfbpllbbbaaGreatDoor
theorem norm_top {b1 f:Int} (h1:1≤b1) (h2:b1≤999999999) (hf:f=1000000000 / (b1+1)):1≤f∧f≤500000000∧f * (b1+1)≤1000000000∧500000000≤f * b1:=by
 have e1:f * (b1+1)≤1000000000:=by rw [hf];exact Int.ediv_mul_le _ (by omega)
 have e2:1000000000 < (f+1) * (b1+1):=by rw [hf];exact Int.lt_ediv_add_one_mul_self _ (by omega)
 have f0:0≤f:=by rw [hf];exact Int.ediv_nonneg (by omega) (by omega)
 have f1:1≤f:=by
  refine Decidable.byContradiction fun hc=>?_
  have:f=0:=by omega
  rw [this] at e2
  omega
 have f2:f≤500000000:=by
  have:f * 2≤f * (b1+1):=Int.mul_le_mul_of_nonneg_left (by omega) (by omega)
  omega
 refine ⟨f1,f2,e1,?_⟩
 by_cases hb:500000000≤b1
 ·have:1 * b1≤f * b1:=Int.mul_le_mul_of_nonneg_right f1 (by omega)
  omega
 ·refine Decidable.byContradiction fun hc=>?_
  have h3:(b1+1) * (f * b1)≤(b1+1) * 499999999:=Int.mul_le_mul_of_nonneg_left (by omega) (by omega)
  have h4:(1000000001) * b1≤((f+1) * (b1+1)) * b1:=Int.mul_le_mul_of_nonneg_right (by omega) (by omega)
  have h5:0≤(b1 - 1) * (500000000 - b1):=Int.mul_nonneg (by omega) (by omega)
  grind
theorem val_top {l:List Int} {n:Nat} (h:l.length=n+1):val l=vt (lim l) n+lim l n * pw n:=by unfold val;rw [h];rfl
theorem top_bounds {l:List Int} {x:Int} {n:Nat} (h:Num l x) (hl:l.length=n+1):lim l n * pw n≤x∧x < (lim l n+1) * pw n:=by
 rw [← h.sum,val_top hl]
 have:=vt_bound (f:=lim l) (k:=n) (fun i _=>h.digs i)
 rw [Int.add_mul]
 omega
theorem Num.length_eq {l:List Int} {x:Int} {n:Nat} (h:Num l x) (h1:pw n≤x) (h2:x < pw (n+1)):l.length=n+1:=by
 have a:=h.length_le h2
 refine Nat.le_antisymm a (Nat.lt_of_not_le fun hc=>?_)
 have:=h.high.2
 have:=pw_mono hc
 omega
theorem norm_div {b v:List Int} {y f:Int} {n:Nat} (hb:Num b y) (hn:b.length=n+1) (hf:f=1000000000 / (lim b n+1)) (hv:Num v (y * f)):v.length=n+1∧500000000≤lim v n:=by
 have hb1:1≤lim b n:=by
  have h0:=hb.trim (by omega)
  rw [hn,Nat.add_sub_cancel] at h0
  have:=(hb.digs n).1
  omega
 obtain ⟨f1,f2,f3,f4⟩:=norm_top hb1 (hb.digs n).2 hf
 obtain ⟨t1,t2⟩:=top_bounds hb hn
 have hp:=pw_pos n
 have hlow:pw n≤y:=by have:=Int.mul_le_mul_of_nonneg_right hb1 (Int.le_of_lt hp);omega
 have h1:pw n≤y * f:=by
  have:y * 1≤y * f:=Int.mul_le_mul_of_nonneg_left f1 (by omega)
  omega
 have h2:y * f < pw (n+1):=by
  have e1:y * f < ((lim b n+1) * pw n) * f:=Int.mul_lt_mul_of_pos_right t2 (by omega)
  have e2:(f * (lim b n+1)) * pw n≤1000000000 * pw n:=Int.mul_le_mul_of_nonneg_right f3 (by omega)
  show _ < 1000000000 * pw n
  grind
 have hl:=hv.length_eq h1 h2
 refine ⟨hl,?_⟩
 obtain ⟨s1,s2⟩:=top_bounds hv hl
 refine Decidable.byContradiction fun hc=>?_
 have e1:(lim v n+1) * pw n≤500000000 * pw n:=Int.mul_le_mul_of_nonneg_right (by omega) (by omega)
 have e2:500000000 * pw n≤(f * lim b n) * pw n:=Int.mul_le_mul_of_nonneg_right f4 (by omega)
 have e3:(lim b n * pw n) * f≤y * f:=Int.mul_le_mul_of_nonneg_right t1 (by omega)
 grind
def part (u:List Int) (j k:Nat):Int:=vt (fun i=>lim u (j+i)) k
theorem part_bound {u:List Int} (h:Digs u) (j k:Nat):0≤part u j k∧part u j k < pw k:=vt_bound fun i _=>h (j+i)
theorem part_top (u:List Int) (j n:Nat):part u j (n+2+1)=part u j n+pw n * (lim u (j+n)+1000000000 * (lim u (j+n+1)+1000000000 * lim u (j+n+2))):=by
 unfold part
 simp only [vt,pw]
 rw [show j+(n+1)=j+n+1 from rfl,show j+(n+2)=j+n+2 from rfl]
 grind
def EstI (u v:List Int) (j:Nat) (q:Int):Prop:=part u j (v.length+1) < 1000000000 * val v→part u j (v.length+1) < (q+1) * val v
theorem est_facts {u v:List Int} {j n:Nat} (du:Digs u) (dv:Digs v) (hn:v.length=n+2) :
  (∀ q r,0≤q→q * lim v (n+1)+r=lim u (j+(n+2)) * 1000000000+lim u (j+(n+2) - 1)→r < lim v (n+1)→EstI u v j q)∧(∀ q,1000000000≤q→EstI u v j q→EstI u v j (q - 1)) ∧
  (∀ q r,0≤q→q * lim v (n+1)+r=lim u (j+(n+2)) * 1000000000+lim u (j+(n+2) - 1)→q * lim v n > r * 1000000000+lim u (j+(n+2) - 2)→EstI u v j q→EstI u v j (q - 1)):=by
 have e1:j+(n+2) - 1=j+n+1:=by omega
 have e2:j+(n+2) - 2=j+n:=by omega
 have e3:j+(n+2)=j+n+2:=rfl
 have hp:=pw_pos n
 have hP:=part_top u j n
 have hb:=part_bound du j n
 have hV:val v=vt (lim v) n+pw n * (lim v n+1000000000 * lim v (n+1)):=by
  unfold val
  rw [hn]
  simp only [vt,pw]
  grind
 have hvb:=vt_bound (f:=lim v) (k:=n) (fun i _=>dv i)
 have hv2:=dv n
 have hv1:=dv (n+1)
 have hu2:=du (j+n)
 rw [e1,e2,e3]
 unfold EstI
 rw [hn,show n+2+1=n+2+1 from rfl,hP,hV]
 generalize part u j n=p0 at *
 generalize vt (lim v) n=w0 at *
 generalize pw n=B at *
 generalize lim u (j+n)=u2 at *
 generalize lim u (j+n+1)=u1 at *
 generalize lim u (j+n+2)=u0 at *
 generalize lim v n=v2 at *
 generalize lim v (n+1)=v1 at *
 obtain ⟨w1,w2⟩:=hvb
 obtain ⟨p1,p2⟩:=hb
 obtain ⟨a1,a2⟩:=hv2
 obtain ⟨a3,a4⟩:=hv1
 obtain ⟨a5,a6⟩:=hu2
 refine ⟨fun q r hq hs hr _=>?_,fun q hq h hlt=>?_,fun q r hq hs hgt h _=>?_⟩
 ·-- part < (top+1) * B^(n+1) <= (q+1) * v1 * B^(n+1)
  have h1:(u0 * 1000000000+u1+1)≤(q+1) * v1:=by rw [Int.add_mul];omega
  have h2:(B * 1000000000) * (u0 * 1000000000+u1+1)≤(B * 1000000000) * ((q+1) * v1):=Int.mul_le_mul_of_nonneg_left h1 (by omega)
  have h3:B * u2≤B * 999999999:=Int.mul_le_mul_of_nonneg_left a6 (by omega)
  have h4:0≤(q+1) * (w0+B * v2):=Int.mul_nonneg (by omega) (by have:=Int.mul_nonneg (Int.le_of_lt hp) a1;omega)
  grind
 ·have h1:=h hlt
  have h2:1000000000 * (w0+B * (v2+1000000000 * v1))≤q * (w0+B * (v2+1000000000 * v1)):=Int.mul_le_mul_of_nonneg_right hq (by
   have:=Int.mul_nonneg (Int.le_of_lt hp) (show 0≤v2+1000000000 * v1 by omega);omega)
  rw [Int.sub_add_cancel]
  exact Int.lt_of_lt_of_le hlt h2
 ·rw [Int.sub_add_cancel]
  have h1:B * (r * 1000000000+u2+1)≤B * (q * v2):=Int.mul_le_mul_of_nonneg_left (by omega) (by omega)
  have h2:0≤q * w0:=Int.mul_nonneg hq w1
  have h3:(B * 1000000000) * (q * v1+r)=(B * 1000000000) * (u0 * 1000000000+u1):=by rw [hs]
  grind
theorem part_split {u:List Int} {j k:Nat} (h:j+k≤u.length):val u=vt (lim u) j+pw j * part u j k+pw (j+k) * part u (j+k) (u.length - (j+k)):=by
 have e1:val u=vt (lim u) (j+k)+pw (j+k) * part u (j+k) (u.length - (j+k)):=by
  have:=vt_split (lim u) (j+k) (u.length - (j+k))
  rw [show j+k+(u.length - (j+k))=u.length by omega] at this
  exact this
 rw [e1,vt_split (lim u) j k]
 rfl
theorem part_congr {u l:List Int} {j k:Nat} (h:∀ i,j≤i→lim l i=lim u i):part l j k=part u j k:=vt_congr fun i _=>h (j+i) (by omega)
theorem mul_cancel {p a b:Int} (hp:0 < p) (h:p * a=p * b):a=b:=Int.eq_of_mul_eq_mul_left (by omega) h
theorem TakeAt.prt {u v l:List Int} {j:Nat} {q c:Int} (h:TakeAt u v j q (v.length+1) l c) (hj:j+v.length < u.length):part l j (v.length+1)+q * val v=part u j (v.length+1)+c * pw (v.length+1):=by
 have e1:=part_split (u:=u) (j:=j) (k:=v.length+1) (by omega)
 have e2:=part_split (u:=l) (j:=j) (k:=v.length+1) (by rw [h.len];omega)
 have hs:=h.sum
 rw [vt_val (show v.length≤v.length+1 by omega),e1,e2,pw_add,h.len,part_congr (u:=u) (l:=l) (j:=j+(v.length+1)) (fun i hi=>h.same i (Or.inr hi)),vt_congr (f:=lim l) (g:=lim u) (k:=j) (fun i hi=>h.same i (Or.inl hi))] at hs
 refine mul_cancel (pw_pos j) ?_
 grind
theorem TakeAt.carry {u v l:List Int} {j:Nat} {q c:Int} (h:TakeAt u v j q (v.length+1) l c) (hj:j+v.length < u.length):0 < c↔part u j (v.length+1) < q * val v:=by
 have hp:=h.prt hj
 have hb:=part_bound h.digs j (v.length+1)
 have hpw:=pw_pos (v.length+1)
 have c0:=h.c0
 constructor
 ·intro hc
  have:1 * pw (v.length+1)≤c * pw (v.length+1):=Int.mul_le_mul_of_nonneg_right (by omega) (by omega)
  omega
 ·intro hlt
  refine Decidable.byContradiction fun hc=>?_
  have e:c=0:=by omega
  rw [e,Int.zero_mul] at hp
  omega
theorem GiveAt.prt {u v l:List Int} {j:Nat} {q c:Int} (h:GiveAt u v j q (v.length+1) l c) (hj:j+v.length < u.length):part l j (v.length+1)+c * pw (v.length+1)=part u j (v.length+1)+q * val v:=by
 have e1:=part_split (u:=u) (j:=j) (k:=v.length+1) (by omega)
 have e2:=part_split (u:=l) (j:=j) (k:=v.length+1) (by rw [h.len];omega)
 have hs:=h.sum
 rw [vt_val (show v.length≤v.length+1 by omega),e1,e2,pw_add,h.len,part_congr (u:=u) (l:=l) (j:=j+(v.length+1)) (fun i hi=>h.same i (Or.inr hi)),vt_congr (f:=lim l) (g:=lim u) (k:=j) (fun i hi=>h.same i (Or.inl hi))] at hs
 refine mul_cancel (pw_pos j) ?_
 grind
theorem limbs_uniq {f g:Nat→Int} {k:Nat} (hf:∀ i,Dig (f i)) (hg:∀ i,Dig (g i)) (h:vt f k=vt g k):∀ i,i < k→f i=g i:=by
 induction k with
 | zero=>intro i hi;omega
 | succ k ih =>
  have b1:=vt_bound (f:=f) (k:=k) (fun i _=>hf i)
  have b2:=vt_bound (f:=g) (k:=k) (fun i _=>hg i)
  have hp:=pw_pos k
  rw [vt,vt] at h
  have e:f k=g k:=by
   rcases Int.lt_trichotomy (f k) (g k) with hlt|he|hlt
   ·have:(f k+1) * pw k≤g k * pw k:=Int.mul_le_mul_of_nonneg_right (by omega) (by omega)
    rw [Int.add_mul] at this;omega
   ·exact he
   ·have:(g k+1) * pw k≤f k * pw k:=Int.mul_le_mul_of_nonneg_right (by omega) (by omega)
    rw [Int.add_mul] at this;omega
  intro i hi
  by_cases hik:i=k
  ·rw [hik];exact e
  ·exact ih (by rw [e] at h;omega) i (by omega)
theorem give_back {u v l m:List Int} {j:Nat} {q c d:Int} (du:Digs u) (h:TakeAt u v j q (v.length+1) l c) (k:GiveAt l v j q (v.length+1) m d) (hj:j+v.length < u.length):m=u:=by
 have e1:=h.prt hj
 have e2:=k.prt (by rw [h.len];exact hj)
 have b1:=part_bound du j (v.length+1)
 have b2:=part_bound k.digs j (v.length+1)
 have hp:=pw_pos (v.length+1)
 have e3:part m j (v.length+1)+d * pw (v.length+1)=part u j (v.length+1)+c * pw (v.length+1):=by omega
 have e4:part m j (v.length+1)=part u j (v.length+1):=by
  rcases Int.lt_trichotomy c d with hlt|he|hlt
  ·have:(c+1) * pw (v.length+1)≤d * pw (v.length+1):=Int.mul_le_mul_of_nonneg_right (by omega) (by omega)
   rw [Int.add_mul] at this;omega
  ·rw [he] at e3;omega
  ·have:(d+1) * pw (v.length+1)≤c * pw (v.length+1):=Int.mul_le_mul_of_nonneg_right (by omega) (by omega)
   rw [Int.add_mul] at this;omega
 have hu:=limbs_uniq (f:=fun i=>lim m (j+i)) (g:=fun i=>lim u (j+i)) (fun i=>k.digs _) (fun i=>du _) e4
 refine lim_ext (k.len.trans h.len) fun i hi=>?_
 by_cases h1:i < j
 ·rw [k.same i (Or.inl h1),h.same i (Or.inl h1)]
 ·by_cases h2:j+(v.length+1)≤i
  ·rw [k.same i (Or.inr h2),h.same i (Or.inr h2)]
  ·have:=hu (i - j) (by omega)
   rwa [show j+(i - j)=i by omega] at this
structure LongAt (u0 v:List Int) (m k:Nat) (u q:List Int):Prop where
 sum:val u+val q * val v=val u0
 low:val u < val v * pw (m - k)
 zero:∀ i,i < m - k→lim q i=0
 digs:Digs q
theorem LongAt.start {u v:List Int} {m:Nat} (h:val u < val v * pw m):LongAt u v m 0 u (zerosL m):=by
 have e:val (zerosL m)=0:=by
  have h:=(DivAt.start (zerosL m) 1) 0 (by omega) (fst_zero _).symm
  have h2:=h.1
  unfold val
  rw [vt_congr (g:=fun _=>0) (fun i _=>lim_zerosL _ i)]
  have:∀ n,vt (fun _=>0) n=0:=fun n=>by
   induction n with
   | zero=>rfl
   | succ n ih=>rw [vt,ih];simp
  rw [this]
 exact ⟨by rw [e];omega,h,fun i _=>lim_zerosL _ _,fun i=>by rw [lim_zerosL];exact ⟨by omega,by omega⟩⟩
theorem LongAt.pre {u0 v u q:List Int} {m k j:Nat} (h:LongAt u0 v m k u q) (du:Digs u) (dv:Digs v) (hk:k < m) (hj:j=m - 1 - k) (hu:u.length=m+v.length) :
  part u j (v.length+1) < 1000000000 * val v∧part u (j+(v.length+1)) (u.length - (j+(v.length+1)))=0:=by
 have e1:=part_split (u:=u) (j:=j) (k:=v.length+1) (by omega)
 have hl:=h.low
 rw [show m - k=j+1 by omega,pw] at hl
 have b0:=vt_bound (f:=lim u) (k:=j) (fun i _=>du i)
 have b1:=part_bound du j (v.length+1)
 have b2:=part_bound du (j+(v.length+1)) (u.length - (j+(v.length+1)))
 have bv:=vt_bound (f:=lim v) (k:=v.length) (fun i _=>dv i)
 rw [show vt (lim v) v.length=val v from rfl] at bv
 have pj:=pw_pos j
 have pn:=pw_pos v.length
 have hpa:=pw_add j (v.length+1)
 rw [show pw (v.length+1)=1000000000 * pw v.length from rfl] at hpa
 have h1:(0:Int)≤pw j * part u j (v.length+1):=Int.mul_nonneg (by omega) b1.1
 generalize part u (j+(v.length+1)) (u.length - (j+(v.length+1)))=t at *
 have ht:t=0:=by
  refine Decidable.byContradiction fun hne=>?_
  have h2:pw (j+(v.length+1)) * 1≤pw (j+(v.length+1)) * t:=Int.mul_le_mul_of_nonneg_left (by omega) (by have:=pw_pos (j+(v.length+1));omega)
  have h3:val v * (1000000000 * pw j)≤(pw v.length) * (1000000000 * pw j):=Int.mul_le_mul_of_nonneg_right (by omega) (by omega)
  grind
 refine ⟨?_,ht⟩
 rw [ht] at e1
 refine Decidable.byContradiction fun hc=>?_
 have h4:pw j * (1000000000 * val v)≤pw j * part u j (v.length+1):=Int.mul_le_mul_of_nonneg_left (by omega) (by omega)
 grind
theorem LongAt.step {u0 v u q l:List Int} {m k j:Nat} {qh c:Int} (h:LongAt u0 v m k u q) (du:Digs u) (dv:Digs v) (hv0:0 < val v) (hk:k < m) (hj:j=m - 1 - k) (hu:u.length=m+v.length) (hq:q.length=m) (h0:0≤qh)
  (ht:TakeAt u v j qh (v.length+1) l c) (hc:¬ 0 < c) (hp:part u j (v.length+1) < (qh+1) * val v):LongAt u0 v m (k+1) l (q.set j qh):=by
 obtain ⟨p1,p2⟩:=h.pre du dv hk hj hu
 have hcz:c=0:=by have:=ht.c0;omega
 have hprt:=ht.prt (by omega)
 rw [hcz,Int.zero_mul] at hprt
 have hs:=ht.sum
 rw [hcz,Int.zero_mul,vt_val (show v.length≤v.length+1 by omega)] at hs
 have e2:=part_split (u:=l) (j:=j) (k:=v.length+1) (by rw [ht.len];omega)
 rw [ht.len,part_congr (u:=u) (l:=l) (j:=j+(v.length+1)) (fun i hi=>ht.same i (Or.inr hi)),p2] at e2
 have b0:=vt_bound (f:=lim l) (k:=j) (fun i _=>ht.digs i)
 have b1:=part_bound ht.digs j (v.length+1)
 have pj:=pw_pos j
 have hqB:qh≤999999999:=by
  refine Decidable.byContradiction fun hcc=>?_
  have:1000000000 * val v≤qh * val v:=Int.mul_le_mul_of_nonneg_right (by omega) (by omega)
  omega
 have hjl:j < q.length:=by omega
 have hz:=h.zero j (by omega)
 refine ⟨?_,?_,fun i hi=>?_,fun i=>?_⟩
 ·have:=h.sum
  rw [val_set hjl,hz]
  grind
 ·rw [show m - (k+1)=j by omega,e2]
  have h1:pw j * (part l j (v.length+1)+1)≤pw j * val v:=Int.mul_le_mul_of_nonneg_left (by rw [Int.add_mul] at hp;omega) (by omega)
  grind
 ·rw [lim_set hjl,if_neg (by omega)];exact h.zero i (by omega)
 ·rw [lim_set hjl]
  split
  ·exact ⟨h0,hqB⟩
  ·exact h.digs i
theorem LongAt.fin {u0 v u q:List Int} {m:Nat} {x y f:Int} (h:LongAt u0 v m m u q) (du:Digs u) (hx:val u0=x * f) (hy:val v=y * f) (hf:1≤f) (h0:0 < y):val q=x / y∧val u / f=x % y∧val u % f=0:=by
 have hs:=h.sum
 have hl:=h.low
 rw [Nat.sub_self,show pw 0=1 from rfl,Int.mul_one,hy] at hl
 rw [hx,hy] at hs
 have b:=du.bound.1
 have e:val u=(x - val q * y) * f:=by grind
 have hr:val u / f=x - val q * y:=by rw [e];exact Int.mul_ediv_cancel _ (by omega)
 have hm:val u % f=0:=by rw [e];exact Int.mul_emod_left _ _
 rw [e] at b hl
 have r0:0≤x - val q * y:=by
  refine Decidable.byContradiction fun hc=>?_
  have:=Int.mul_neg_of_neg_of_pos (show x - val q * y < 0 by omega) (show 0 < f by omega)
  omega
 have r1:x - val q * y < y:=by
  refine Decidable.byContradiction fun hc=>?_
  have:=Int.mul_le_mul_of_nonneg_right (show y≤x - val q * y by omega) (show 0≤f by omega)
  omega
 obtain ⟨e1,e2⟩:=(Int.ediv_emod_unique (a:=x) (b:=y) (r:=x - val q * y) (q:=val q) h0).2 ⟨by rw [Int.mul_comm];omega,r0,r1⟩
 exact ⟨e1.symm,by rw [hr,e2],hm⟩
end Go.Proofs.YtbbclfbpllbbbaaGreatDoor
namespace Go.Proofs.YtbbclfbpllbbbaaGreatDoor
open Go.RowKit Go.Shelf
theorem OwnInts.row {W:World} {B n cap:Nat} {su:Option Addr} {l:List Int} (h:OwnInts W B (.slice su n cap) l) (hl:0 < l.length):∃ g,su=some ⟨g,0,none⟩∧B≤g∧n=l.length∧RowI W g cap l:=by
 rcases h.2 with ⟨_,hz⟩|⟨g,cap',cur,e,hB,hg,rest⟩
 ·omega
 ·injection e with e1 e2 e3
  subst e1 e3
  have e2':n=l.length:=by have:=e2;omega
  subst e2'
  exact ⟨g,rfl,hB,rfl,h.1,.inr ⟨g,_,cur,rfl,Nat.le_refl _,hg,rest⟩⟩
structure DivB (rb gU vg ub sc nu nq nv cv:Nat) (U Q lv:List Int) (W:World):Prop where
 o1:rb < gU
 o2:gU < vg
 o3:vg < ub
 r:Boxed W rb 229 (.slice (some ⟨ub+2,0,none⟩) nq nq)
 u:Boxed W ub 229 (.slice (some ⟨gU,0,none⟩) nu sc)
 v:Boxed W (ub+1) 229 (.slice (some ⟨vg,0,none⟩) nv cv)
 i:Boxed W (ub+3) 229 (.slice (some ⟨ub+2,0,none⟩) nq nq)
 q:BlkI W (ub+2) Q
 l:BlkI W vg lv
 w:RowI W gU sc U
theorem DivB.below {rb gU vg ub sc nu nq nv cv:Nat} {U Q lv:List Int} {W W':World} (h:DivB rb gU vg ub sc nu nq nv cv U Q lv W) (hB:Below W.heap.size W W'):DivB rb gU vg ub sc nu nq nv cv U Q lv W' :=
 ⟨h.o1,h.o2,h.o3,boxed_below h.r hB,boxed_below h.u hB,boxed_below h.v hB,boxed_below h.i hB,h.q.below hB,h.l.below hB,h.w.below hB⟩
theorem DivB.row {rb gU vg ub sc nu nq nv cv:Nat} {U U' Q lv:List Int} {W W':World} (h:DivB rb gU vg ub sc nu nq nv cv U Q lv W) (hs:SameBut gU W W') (hr:RowI W' gU sc U'):DivB rb gU vg ub sc nu nq nv cv U' Q lv W':=by
 have a:=h.o1
 have b:=h.o2
 have c:=h.o3
 exact ⟨a,b,c,Boxed.but h.r hs (by omega),Boxed.but h.u hs (by omega),Boxed.but h.v hs (by omega),Boxed.but h.i hs (by omega),h.q.but hs (by omega),h.l.but hs (by omega),hr⟩
theorem DivB.box {rb gU vg ub sc nu nq nv cv:Nat} {U Q lv:List Int} {W W':World} (h:DivB rb gU vg ub sc nu nq nv cv U Q lv W) (hs:SameBut ub W W') (hr:Boxed W' ub 229 (.slice (some ⟨gU,0,none⟩) nu sc)):DivB rb gU vg ub sc nu nq nv cv U Q lv W':=by
 have a:=h.o1
 have b:=h.o2
 have c:=h.o3
 exact ⟨a,b,c,Boxed.but h.r hs (by omega),hr,Boxed.but h.v hs (by omega),Boxed.but h.i hs (by omega),h.q.but hs (by omega),h.l.but hs (by omega),h.w.but hs (by omega)⟩
theorem DivB.quo {rb gU vg ub sc nu nq nv cv:Nat} {U Q Q' lv:List Int} {W W':World} (h:DivB rb gU vg ub sc nu nq nv cv U Q lv W) (hs:SameBut (ub+2) W W') (hr:BlkI W' (ub+2) Q'):DivB rb gU vg ub sc nu nq nv cv U Q' lv W':=by
 have a:=h.o1
 have b:=h.o2
 have c:=h.o3
 exact ⟨a,b,c,Boxed.but h.r hs (by omega),Boxed.but h.u hs (by omega),Boxed.but h.v hs (by omega),Boxed.but h.i hs (by omega),hr,h.l.but hs (by omega),h.w.but hs (by omega)⟩
theorem rowI_own {β:Type} {m g cap:Nat} {l:List Int}:OwnFrom m (fun (_:β) W=>RowI W g cap l):=fun s W W' row hs hg hr=>by
 obtain ⟨cur,hc,_⟩:=hs.heap
 exact hs.of ((cells_own (β:=β) (m:=m) (b:=g) rfl s W W' row hc hg hr).trans hc.symm)
theorem divB_own {β:Type} {m rb gU vg ub sc nu nq nv cv:Nat} {U Q lv:List Int}:OwnFrom m (fun (_:β) W=>DivB rb gU vg ub sc nu nq nv cv U Q lv W):=fun s X Y row h hg hr =>
 ⟨h.o1,h.o2,h.o3,(Own.from (boxed_own rb 229 (fun _:Unit=>.slice (some ⟨ub+2,0,none⟩) nq nq)) _) () X Y row h.r hg hr,(Own.from (boxed_own ub 229 (fun _:Unit=>.slice (some ⟨gU,0,none⟩) nu sc)) _) () X Y row h.u hg hr,
  (Own.from (boxed_own (ub+1) 229 (fun _:Unit=>.slice (some ⟨vg,0,none⟩) nv cv)) _) () X Y row h.v hg hr,(Own.from (boxed_own (ub+3) 229 (fun _:Unit=>.slice (some ⟨ub+2,0,none⟩) nq nq)) _) () X Y row h.i hg hr,
  blkI_own () X Y row h.q hg hr,blkI_own () X Y row h.l hg hr,rowI_own () X Y row h.w hg hr⟩
structure DivSt (u0 v:List Int) (nq:Nat) (pre:List (Fin nq × Int)) (U Q:List Int):Prop where
 len:U.length=nq+v.length
 digs:Digs U
 qlen:Q.length=nq
 at':∀ k,k≤nq→pre.map Prod.fst=fst nq k→LongAt u0 v nq k U Q
theorem DivSt.start {u0 v:List Int} {nq:Nat} (hl:u0.length=nq+v.length) (hd:Digs u0) (h:val u0 < val v * pw nq):DivSt u0 v nq [] u0 (zerosL nq) :=
 ⟨hl,hd,zerosL_len _,fun k hk e=>by
  have h0:k=0:=by have:=congrArg List.length e;rw [fst_length hk] at this;simpa using this.symm
  subst h0
  exact LongAt.start h⟩
theorem DivSt.step {u0 v:List Int} {nq:Nat} {pre:List (Fin nq × Int)} {U Q l:List Int} {qh c:Int} (h:DivSt u0 v nq pre U Q) (x:Fin nq × Int) (dv:Digs v) (hv0:0 < val v) (h0:0≤qh)
  (hE:EstI U v (nq - 1 - x.1.1) qh) (ht:TakeAt U v (nq - 1 - x.1.1) qh (v.length+1) l c) (hc:¬ 0 < c):DivSt u0 v nq (pre++[x]) l (Q.set (nq - 1 - x.1.1) qh):=by
 refine ⟨by rw [ht.len];exact h.len,ht.digs,by rw [List.length_set];exact h.qlen,fun k hk e=>?_⟩
 rw [List.map_append] at e
 obtain ⟨m,rfl,hp,hx⟩:=fst_snoc hk e
 have hL:=h.at' m (by omega) hp
 rw [show nq - 1 - x.1.1=nq - 1 - m by omega] at *
 exact hL.step h.digs dv hv0 (by omega) rfl h.len h.qlen h0 ht hc (hE (hL.pre h.digs dv (by omega) rfl h.len).1)
theorem est_less {U v l:List Int} {j:Nat} {q c:Int} (du:Digs U) (h0:0≤q) (hj:j+v.length < U.length) (ht:TakeAt U v j q (v.length+1) l c) (hc:0 < c):1≤q∧EstI U v j (q - 1):=by
 have h:=(ht.carry hj).1 hc
 refine ⟨Decidable.byContradiction fun hn=>?_,fun _=>by rw [Int.sub_add_cancel];exact h⟩
 have:q=0:=by omega
 rw [this,Int.zero_mul] at h
 have:=(part_bound du j (v.length+1)).1
 omega
theorem KpQ.but {N B b1 g c:Nat} {W W':World} (h:SameBut c W W') (hB:B≤c) (h1:b1≠c) (h2:g≠c):KpQ N B b1 g W W':=⟨h.below (bw0 _ _) hB,h.block _ h1,fun l hl e=>⟨l,hl.but h h2,e⟩⟩
theorem KpQ.belowB {N B b1 g:Nat} {W W':World} (h:Below W.heap.size W W') (hB:B≤W.heap.size) (h1:b1 < W.heap.size):KpQ N B b1 g W W':=⟨h.mono hB,h.block _ h1,fun l hl e=>⟨l,hl.below h,e⟩⟩
theorem fold2 (t:Array Value) (p q:Tmp) (a b:Value):(#[p,q].zip #[a,b]).foldl (fun t (p,v)=>t.setIfInBounds p v) t=(t.setIfInBounds p a).setIfInBounds q b:=by simp
end Go.Proofs.YtbbclfbpllbbbaaGreatDoor
namespace Go.Proofs.YtbbclfbpllbbbaaGreatDoor
open Go.RowKit Go.Shelf
theorem Boxed.load {W:World} {b:Nat} {v:Value} (h:Boxed W b 229 v):(loadVar 229 ⟨b,0,none⟩).run Tryz.prog W=.ok v W:=by simp [go_sem,h.cell]
theorem takeV {W:World} {vg n cv:Nat} {lv V:List Int} (hl:BlkI W vg lv) (hV:lv.take n=V) (hn:n≤lv.length) (hc:lv.length=cv):V.length=n∧IsInts W (.slice (some ⟨vg,0,none⟩) n cv) V:=by
 subst hV
 exact ⟨by rw [List.length_take];omega,hl.isTake hn hc⟩
theorem estD {U V lv:List Int} {n j gU sc vg cv N:Nat} (W:World) (hr:RowI W gU sc U) (hl:BlkI W vg lv) (hn:n≤lv.length) (hc:lv.length=cv) (hV:lv.take n=V) (h2:2≤n) (du:Digs U) (dv:Digs V) (hN:U.length=N) (hj:j+n < N) (hul:N≤2000) (htop:500000000≤lim V (n - 1)) :
  Calls Tryz.prog 224 #[.slice (some ⟨gU,0,none⟩) N sc,.slice (some ⟨vg,0,none⟩) n cv,.int .i64 j] W fun e w'=>∃ q:Int,e=.returned (.int .i64 q)∧0≤q∧q≤2000000000∧EstI U V j q∧Below W.heap.size W w':=by
 obtain ⟨hVn,hI⟩:=takeV hl hV hn hc
 obtain ⟨m,rfl⟩:∃ m,n=m+2:=⟨n - 2,by omega⟩
 obtain ⟨f1,f2,f3⟩:=est_facts (u:=U) (v:=V) (j:=j) (n:=m) du dv hVn
 subst hN
 have e1:V.length - 1=m+1:=by omega
 have e2:V.length - 2=m:=by omega
 refine (estimateL_ok (u:=U) (v:=V) (j:=j) _ W hr hI du dv (by omega) (by omega) hul (by rw [e1];exact htop) (EstI U V j) ?_ f2 ?_).mono ?_
 ·rw [e1,hVn]
  have hz:(0:Int) < lim V (m+1):=by have:(500000000:Int)≤lim V (m+1):=htop;omega
  have h0:0≤lim U (j+(m+2)) * 1000000000+lim U (j+(m+2) - 1):=by
   have:=(du (j+(m+2))).1
   have:=(du (j+(m+2) - 1)).1
   omega
  refine f1 _ ((lim U (j+(m+2)) * 1000000000+lim U (j+(m+2) - 1)) % lim V (m+1)) (Int.ediv_nonneg h0 (by omega)) ?_ (Int.emod_lt_of_pos _ hz)
  rw [Int.mul_comm]
  exact Int.mul_ediv_add_emod _ _
 ·rw [e1,e2,hVn]
  exact f3
 ·rintro e w' ⟨q,rfl,q0,q1,hq,k,rfl⟩
  exact ⟨q,rfl,q0,q1,hq,bw2 (bw0 _ _) _⟩
theorem takeD {U V lv:List Int} {n j gU sc vg cv N:Nat} {q:Int} (W:World) (hr:RowI W gU sc U) (hl:BlkI W vg lv) (hne:gU≠vg) (hn:n≤lv.length) (hc:lv.length=cv) (hV:lv.take n=V) (du:Digs U) (dv:Digs V) (hN:U.length=N) (hj:j+n < N) (hul:N≤2000) (q0:0≤q) (q1:q≤4000000000) :
  Calls Tryz.prog 225 #[.slice (some ⟨gU,0,none⟩) N sc,.slice (some ⟨vg,0,none⟩) n cv,.int .i64 j,.int .i64 q] W fun e w'=>∃ l c,e=.returned (.bool (decide (0 < c)))∧RowI w' gU sc l∧TakeAt U V j q (V.length+1) l c∧SameBut gU W w':=by
 obtain ⟨hVn,hI⟩:=takeV hl hV hn hc
 subst hN
 exact takeL_ok _ W hr hI (fun b off k cap e=>by injection e with e1 _ _;injection e1 with e1;injection e1 with e1;omega) du dv (by omega) hul q0 q1
theorem restoreD {U V lv:List Int} {n j gU sc vg cv N:Nat} {q:Int} (W:World) (hr:RowI W gU sc U) (hl:BlkI W vg lv) (hne:gU≠vg) (hn:n≤lv.length) (hc:lv.length=cv) (hV:lv.take n=V) (du:Digs U) (dv:Digs V) (hN:U.length=N) (hj:j+n < N) (hul:N≤2000) (q0:0≤q) (q1:q≤4000000000) :
  Calls Tryz.prog 226 #[.slice (some ⟨gU,0,none⟩) N sc,.slice (some ⟨vg,0,none⟩) n cv,.int .i64 j,.int .i64 q] W fun e w'=>∃ l c,e=.returned (.slice (some ⟨gU,0,none⟩) N sc)∧RowI w' gU sc l∧GiveAt U V j q (V.length+1) l c∧SameBut gU W w':=by
 obtain ⟨hVn,hI⟩:=takeV hl hV hn hc
 subst hN
 exact restoreL_ok _ W hr hI (fun b off k cap e=>by injection e with e1 _ _;injection e1 with e1;injection e1 with e1;omega) du dv (by omega) hul q0 q1
end Go.Proofs.YtbbclfbpllbbbaaGreatDoor
namespace Go.Proofs.YtbbclfbpllbbbaaGreatDoor
open Go.RowKit Go.Shelf
attribute [local go_sem] Oper.semAt_some
theorem divide_less {a b:List Int} {x y:Int} (va vb:Value) (w:World) (hva:IsInts w va a) (hvb:IsInts w vb b) (ha:Num a x) (hb:Num b y) (hal:a.length≤900) (hbl:b.length≤900) (hlt:x < y) :
  Calls Tryz.prog 177 #[va,vb] w (RetDiv (x / y) (x % y) (max a.length 1) w):=by
 have HC:=Lib.hid (fun (W:World) (hB:Below w.heap.size w W)=>compareL_ok _ _ W (hva.below hB) (hvb.below hB) ha hb (by omega) (by omega))
 have HVA:=Lib.hid hva
 have HA:=Lib.hid ha
 have hx0:=ha.high.1
 obtain ⟨aa,ac,rfl⟩:=hva.slice
 obtain ⟨ba,bc,rfl⟩:=hvb.slice
 clear hva hvb ha hb
 refine (callsIn_wide (n:=5)).1 ?_
 refine callsIn_of_wp_marks Tryz.func177 rfl trivial ?_ rfl
 simp only [Tryz.ntmps177,List.size_toArray,List.length_cons,List.length_nil,Nat.reduceAdd,Nat.reduceSub,Array.replicate_succ,Array.replicate_zero,List.push_toArray,List.append_toArray,List.nil_append,List.cons_append]
 gi_wp2
 refine ⟨trivial,?_⟩
 have hb0:Below w.heap.size w (w.alloc (.cells #[.slice none 0 0] 229)):=qbl
 have x0:Boxed (w.alloc (.cells #[.slice none 0 0] 229)) w.heap.size 229 (.slice none 0 0):=Boxed.new _ _ _
 have hz0:(w.alloc (.cells #[.slice none 0 0] 229)).heap.size=w.heap.size+1:=by simp
 generalize w.alloc (.cells #[.slice none 0 0] 229)=W0 at *
 refine (callsIn_wide.2 (HC.out _ hb0)).mono ?_
 rintro e w1 ⟨r,rfl,hr1,hr2,hB1⟩
 have hr:r < 0:=hr1.2 hlt
 have x1:=boxed_below x0 hB1
 have hb1:Below w.heap.size w w1:=below_trans' hb0 hB1
 have f1:=x1.cell
 have g1:=x1.frozen
 clear hr1 hr2 hB1
 gi_wp2
 have hS:=sameBut_setCell w1 w.heap.size 0 (.slice none 0 0)
 have x2:=x1.set (.slice none 0 0)
 refine leaves_marks w.heap.size [] _ List.nodup_nil (fun D hD=>by cases hD) (fun W' hB' hcc=>?_)
 have z1:W'.cell? ⟨w.heap.size,0,none⟩=some (.slice none 0 0):=cell_keeps x2.cell hcc
 have l1:(loadVar 229 ⟨w.heap.size,0,none⟩).run Tryz.prog W'=.ok (.slice none 0 0) W':=by simp [go_sem,z1]
 have hbw:Below w.heap.size w W':=(hS.below hb1 (Nat.le_refl _)).trans hB'
 exact ⟨_,results_cell_tmp Tryz.results177 rfl l1,[],_,a,_,rfl,isInts_nil _,HVA.out.below hbw,⟨fun i=>by rw [lim_nil];exact ⟨by omega,by omega⟩,fun h=>absurd rfl h,by rw [Int.ediv_eq_zero_of_lt hx0 hlt];rfl⟩,by rw [Int.emod_eq_of_lt hx0 hlt];exact HA.out,by simp,by omega,hbw⟩
theorem divide_one {a b:List Int} {x y:Int} (va vb:Value) (w:World) (hva:IsInts w va a) (hvb:IsInts w vb b) (ha:Num a x) (hb:Num b y) (hal:a.length≤900) (hbl:b.length=1) (hlt:y≤x) :
  Calls Tryz.prog 177 #[va,vb] w (RetDiv (x / y) (x % y) (max a.length 1) w):=by
 have HC:=Lib.hid (fun (W:World) (hB:Below w.heap.size w W)=>compareL_ok _ _ W (hva.below hB) (hvb.below hB) ha hb (by omega) (by omega))
 have hy:lim b 0=y:=by rw [← hb.sum,val_top (n:=0) hbl];simp [vt,pw]
 have hy0:=hb.trim (by omega)
 rw [hbl,Nat.sub_self,hy] at hy0
 have hy1:=(hb.digs 0)
 rw [hy] at hy1
 obtain ⟨hy1,hy2⟩:=hy1
 have HD:=Lib.hid (fun (W:World) (hB:Below w.heap.size w W)=>divideShortL_ok (d:=y) va W (hva.below hB) ha hal (by omega) hy2)
 obtain ⟨aa,ac,rfl⟩:=hva.slice
 obtain ⟨ba,bc,rfl⟩:=hvb.slice
 obtain ⟨_,_,hcb⟩:=hvb.cells
 obtain ⟨bb,ob,rfl,hcell⟩:=hcb (by omega)
 have cb:=hcell 0 (by omega)
 rw [hy,Nat.add_zero] at cb
 have hl1:((b.length:Int) == 1)=true:=by rw [hbl];rfl
 have hl2:(0:Int) < (b.length:Int):=by omega
 clear hva hvb ha hb hcb hcell hbl hy
 refine (callsIn_wide (n:=5)).1 ?_
 refine callsIn_of_wp_marks Tryz.func177 rfl trivial ?_ rfl
 simp only [Tryz.ntmps177,List.size_toArray,List.length_cons,List.length_nil,Nat.reduceAdd,Nat.reduceSub,Array.replicate_succ,Array.replicate_zero,List.push_toArray,List.append_toArray,List.nil_append,List.cons_append]
 gi_wp2
 refine ⟨trivial,?_⟩
 have hb0:Below w.heap.size w (w.alloc (.cells #[.slice none 0 0] 229)):=qbl
 have x0:Boxed (w.alloc (.cells #[.slice none 0 0] 229)) w.heap.size 229 (.slice none 0 0):=Boxed.new _ _ _
 have hz0:(w.alloc (.cells #[.slice none 0 0] 229)).heap.size=w.heap.size+1:=by simp
 generalize w.alloc (.cells #[.slice none 0 0] 229)=W0 at *
 refine (callsIn_wide.2 (HC.out _ hb0)).mono ?_
 rintro e w1 ⟨r,rfl,hr1,hr2,hB1⟩
 have hr:¬ r < 0:=fun h=>by have:=hr1.1 h;omega
 have x1:=boxed_below x0 hB1
 have hb1:Below w.heap.size w w1:=below_trans' hb0 hB1
 have cb1:=keep hb1 cb
 clear hr1 hr2 hB1
 gi_wp2
 refine ⟨trivial,?_⟩
 refine (callsIn_wide.2 (HD.out _ hb1)).mono ?_
 rintro e w2 ⟨lq,vq,lr,vr,rfl,iq,ir,nq,nr,kq,kr,hB2⟩
 have hb2:Below w.heap.size w w2:=below_trans' hb1 hB2
 have x2:=boxed_below x1 hB2
 have f2:=x2.cell
 have g2:=x2.frozen
 obtain ⟨qa,qc,rfl⟩:=iq.is.slice
 obtain ⟨ra,rc,rfl⟩:=ir.is.slice
 have HQ:=Lib.hid iq
 have HR:=Lib.hid ir
 clear iq ir
 gi_wp2
 have hS:=sameBut_setCell w2 w.heap.size 0 (.slice qa lq.length qc)
 have x3:=x2.set (.slice qa lq.length qc)
 have iq2:=HQ.out.but hS (by have:=hb1.size;have:=x1.lt;omega)
 have ir2:=HR.out.but hS (by have:=hb1.size;have:=x1.lt;omega)
 refine leaves_marks w.heap.size [] _ List.nodup_nil (fun D hD=>by cases hD) (fun W' hB' hcc=>?_)
 have z1:W'.cell? ⟨w.heap.size,0,none⟩=some (.slice qa lq.length qc):=cell_keeps x3.cell hcc
 have l1:(loadVar 229 ⟨w.heap.size,0,none⟩).run Tryz.prog W'=.ok (.slice qa lq.length qc) W':=by simp [go_sem,z1]
 have hbw:Below w.heap.size w W':=(hS.below hb2 (Nat.le_refl _)).trans hB'
 exact ⟨_,results_cell_tmp Tryz.results177 rfl l1,lq,_,lr,_,rfl,OwnInts.is (ownsRow_keeps iq2 hcc),OwnInts.is (ownsRow_keeps ir2 hcc),nq,nr,kq,kr,hbw⟩
theorem num_one {f:Int} (h0:1≤f) (h1:f≤999999999):Num [f] f:=⟨digs_of fun i hi=>by
  have:i=0:=by simpa using hi
  subst this
  exact ⟨by show 0≤f;omega,h1⟩,fun _=>by show f≠0;omega,by show 0+f * 1=f;omega⟩
theorem divide_long {a b:List Int} {x y:Int} (va vb:Value) (w:World) (hva:IsInts w va a) (hvb:IsInts w vb b) (ha:Num a x) (hb:Num b y) (hal:a.length≤800) (hbl:b.length≤800) (h2:2≤b.length) (hlt:y≤x) :
  Calls Tryz.prog 177 #[va,vb] w (RetDiv (x / y) (x % y) (max a.length 1) w):=by
 have HC:=Lib.hid (fun (W:World) (hB:Below w.heap.size w W)=>compareL_ok _ _ W (hva.below hB) (hvb.below hB) ha hb (by omega) (by omega))
 obtain ⟨b1,hb1⟩:∃ t,lim b (b.length - 1)=t:=⟨_,rfl⟩
 have hb1d:=hb.digs (b.length - 1)
 rw [hb1] at hb1d
 obtain ⟨p1,p2⟩:=hb1d
 have hb1n:=hb.trim (by omega)
 rw [hb1] at hb1n
 obtain ⟨f,hf⟩:∃ f,1000000000 / (b1+1)=f:=⟨_,rfl⟩
 obtain ⟨f1,f2,_,_⟩:=norm_top (show 1≤b1 by omega) p2 hf.symm
 have hw1:IntKind.i64.wrap (b1+1)=b1+1:=IntWalk.i64_in _ (by omega)
 have ht1:(1000000000:Int).tdiv (b1+1)=f:=by rw [Int.tdiv_eq_ediv_of_nonneg (by omega)];exact hf
 have hz1:¬ b1+1=0:=by omega
 have hz2:(b1+1 == 0)=false:=by simp [hz1]
 have hw2:IntKind.i64.wrap f=f:=IntWalk.i64_in _ (by omega)
 have HND:=Lib.hid (fun v (hv:Num v (y * f))=>norm_div (n:=b.length - 1) hb (by omega) (by rw [hb1];exact hf.symm) hv)
 have HTA:=Lib.hid (fun (W:World) (hB:Below w.heap.size w W) (u:Value) (hu:IsInts W u [f])=>timesL_ok va u W (hva.below hB) hu ha (num_one f1 (by omega)) (by omega) (by simp))
 have HTB:=Lib.hid (fun (W:World) (hB:Below w.heap.size w W) (u:Value) (hu:IsInts W u [f])=>timesL_ok vb u W (hvb.below hB) hu hb (num_one f1 (by omega)) (by omega) (by simp))
 obtain ⟨aa,ac,rfl⟩:=hva.slice
 obtain ⟨ba,bc,rfl⟩:=hvb.slice
 obtain ⟨_,_,hcb⟩:=hvb.cells
 obtain ⟨bb,ob,rfl,hcell⟩:=hcb (by omega)
 have cb:=hcell (b.length - 1) (by omega)
 rw [hb1] at cb
 have hl1:((b.length:Int) == 1)=false:=by rw [beq_eq_false_iff_ne];omega
 have hl2:(b.length:Int) - 1 < (b.length:Int):=by omega
 have hl3:(0:Int)≤(b.length:Int) - 1:=by omega
 have hl4:((b.length:Int) - 1).toNat=b.length - 1:=by omega
 have hab:b.length≤a.length:=Nat.le_of_not_lt fun h=>by have:=ha.lt_of_length hb h;omega
 have HA:=Lib.hid ha
 have HB:=Lib.hid hb
 clear hva hvb ha hb hcb hcell hb1 hf
 refine (callsIn_wide (n:=5)).1 ?_
 refine callsIn_of_wp_marks Tryz.func177 rfl trivial ?_ rfl
 simp only [Tryz.ntmps177,List.size_toArray,List.length_cons,List.length_nil,Nat.reduceAdd,Nat.reduceSub,Array.replicate_succ,Array.replicate_zero,List.push_toArray,List.append_toArray,List.nil_append,List.cons_append]
 gi_wp2
 refine ⟨trivial,?_⟩
 have hb0:Below w.heap.size w (w.alloc (.cells #[.slice none 0 0] 229)):=qbl
 have x0:Boxed (w.alloc (.cells #[.slice none 0 0] 229)) w.heap.size 229 (.slice none 0 0):=Boxed.new _ _ _
 have hz0:(w.alloc (.cells #[.slice none 0 0] 229)).heap.size=w.heap.size+1:=by simp
 generalize w.alloc (.cells #[.slice none 0 0] 229)=W0 at *
 refine (callsIn_wide.2 (HC.out _ hb0)).mono ?_
 rintro e w1 ⟨r,rfl,hr1,hr2,hB1⟩
 have hr:¬ r < 0:=fun h=>by have:=hr1.1 h;omega
 have x1:=boxed_below x0 hB1
 have hb1:Below w.heap.size w w1:=below_trans' hb0 hB1
 have cb1:=keep hb1 cb
 clear hr1 hr2 hB1 x0
 gi_wp2
 refine ⟨trivial,?_⟩
 have hbA:Below w1.heap.size w1 (w1.alloc (.cells #[.int .i64 f] 3)):=qbl
 have xA:BlkI (w1.alloc (.cells #[.int .i64 f] 3)) w1.heap.size [f]:=BlkI.new (X:=w1) (l:=[f]) rfl
 generalize w1.alloc (.cells #[.int .i64 f] 3)=WA at *
 refine (callsIn_wide.2 (HTA.out _ (below_trans' hb1 hbA) _ xA.is)).mono ?_
 rintro e w2 ⟨mu,lu,rfl,blu,hlu,hmu,nu,zu,hB2⟩
 obtain ⟨i0,hi0,hz0',hz1',hz2'⟩:=info_parts Tryz.infoInt
 have hlu':lu.length=a.length+1+1:=by rw [hlu];rfl
 have hlt0:(lu.take mu).length=mu:=by rw [List.length_take];omega
 have hou:w2.ownsRow WA.heap.size 3 1 (.slice (some ⟨WA.heap.size,0,none⟩) mu (a.length+1+1)) mu (intVs (lu.take mu)):=by
  have h:=(blu.own (Nat.le_refl _) (by omega)).take' mu hmu
  unfold OwnInts at h
  rw [hlt0,hlu'] at h
  exact h
 have HOU:=Lib.hid hou
 have HNU:=Lib.hid nu
 have HBA:=Lib.hid (And.intro hbA hB2)
 have M1:=Lib.hid (show mu+1≤maxLen by unfold maxLen;omega)
 have M2:=Lib.hid (show (mu+1) * 8≤140737488355328 by omega)
 have M3:=Lib.hid (show WA.heap.size≤(w2.alloc (.cells #[.int .i64 0] 3)).heap.size by have:=hB2.size;simp;omega)
 have N4:=Lib.hid (fun (W':World) (h:(w2.alloc (.cells #[.int .i64 0] 3)).grownBy W' (some WA.heap.size))=>Below.grown (bw4 hB2 _) h (by have:=hB2.size;simp;omega) (fun j hj=>by cases hj;exact Nat.le_refl _))
 clear hou nu zu blu hlu hbA hB2
 gi_wp2_with (gi_at_builtin;refine wpListIn_append_own _ rfl _ _ 229 rfl WA.heap.size 3 i0 (.int .i64 0) 1 8 Tryz.underlying229 hi0 hz0' hz1' hz2' rfl (by decide) _ _ _ rfl (HOU.out.alloc _) ⟨w2.heap.size,0,none⟩ 1 1 [.int .i64 0] rfl rfl (cell_one_new _ _ _) (by simp [Value.oneCell']) M1.out M2.out M3.out ?_;intro v' w4 hown0 hgrow _;have hb4:=Lib.hid (N4.out _ hgrow);obtain ⟨su,sc,rfl,_⟩:=row_shape1 hown0;have HOW:=Lib.hid hown0;clear hown0 hgrow)
 have hmu2:a.length≤mu:=by
  refine Decidable.byContradiction fun hc=>?_
  have h1:=HA.out.low (by omega)
  have h2:=HNU.out.high.2
  rw [hlt0] at h2
  have h3:=pw_mono (show mu≤a.length - 1 by omega)
  have h4:x * 1≤x * f:=Int.mul_le_mul_of_nonneg_left f1 (by have:=HA.out.high.1;omega)
  omega
 refine ⟨trivial,?_⟩
 have hbw4:Below w.heap.size w w4:=below_trans' hb1 (below_trans' HBA.out.1 hb4.out)
 have hbC:Below w4.heap.size w4 (w4.alloc (.cells #[.int .i64 f] 3)):=qbl
 have xC:BlkI (w4.alloc (.cells #[.int .i64 f] 3)) w4.heap.size [f]:=BlkI.new (X:=w4) (l:=[f]) rfl
 generalize w4.alloc (.cells #[.int .i64 f] 3)=WC at *
 refine (callsIn_wide.2 (HTB.out _ (below_trans' hbw4 hbC) _ xC.is)).mono ?_
 rintro e w5 ⟨mv,lv,rfl,blv,hlv,hmv,nv,zv,hB5⟩
 have hlv':lv.length=b.length+1+1:=by rw [hlv];rfl
 have hlt1:(lv.take mv).length=mv:=by rw [List.length_take];omega
 obtain ⟨hnd1,hnd2⟩:=HND.out _ nv
 have hmvb:mv=b.length:=by rw [← hlt1,hnd1];omega
 subst hmvb
 have HNV:=Lib.hid nv
 have HBV:=Lib.hid blv
 have HND2:=Lib.hid hnd2
 have hb5:Below w.heap.size w w5:=below_trans' (below_trans' hbw4 hbC) hB5
 have x5:=boxed_below (boxed_below (boxed_below (boxed_below x1 HBA.out.1) hb4.out) hbC) hB5
 have HU5:=Lib.hid (fun j (hj:j < w4.heap.size)=>(hB5.block j (by have:=hbC.size;omega)).trans (hbC.block j hj))
 have hWC:=hbC.size
 have hW45:=hB5.size
 have hW4A:=hb4.out.size
 have hWA1:=HBA.out.1.size
 have hgv:w4.heap.size≤WC.heap.size:=hWC
 clear nv zv blv hlv hnd1 hnd2 hB5 hbC
 gi_wp2
 have hb6:Below w5.heap.size w5 ((w5.alloc (.cells #[.slice su (mu+1) sc] 229)).alloc (.cells #[.slice (some ⟨WC.heap.size,0,none⟩) b.length (b.length+1+1)] 229)):=qbl
 have y7:Boxed ((w5.alloc (.cells #[.slice su (mu+1) sc] 229)).alloc (.cells #[.slice (some ⟨WC.heap.size,0,none⟩) b.length (b.length+1+1)] 229)) w5.heap.size 229 (.slice su (mu+1) sc):=(Boxed.new w5 _ _).alloc _
 have y8:Boxed ((w5.alloc (.cells #[.slice su (mu+1) sc] 229)).alloc (.cells #[.slice (some ⟨WC.heap.size,0,none⟩) b.length (b.length+1+1)] 229)) (w5.heap.size+1) 229 (.slice (some ⟨WC.heap.size,0,none⟩) b.length (b.length+1+1)):=boxed_new' (by simp)
 have hz6:((w5.alloc (.cells #[.slice su (mu+1) sc] 229)).alloc (.cells #[.slice (some ⟨WC.heap.size,0,none⟩) b.length (b.length+1+1)] 229)).heap.size=w5.heap.size+2:=by simp
 generalize ((w5.alloc (.cells #[.slice su (mu+1) sc] 229)).alloc (.cells #[.slice (some ⟨WC.heap.size,0,none⟩) b.length (b.length+1+1)] 229))=W6 at *
 have x6:=boxed_below x5 hb6
 have c7:=y7.cell
 have hml:¬ ((mu:Int)+1 < (a.length:Int)+1):=by omega
 have hml2:¬ ((mu:Int) < (a.length:Int)):=by omega
 gi_loopg [44] 0 (fun g v wr=>g=0∧wr=W6)
 case atStart=>exact ⟨rfl,rfl⟩
 case round =>
  obtain ⟨rfl,hwr⟩:=hrel
  subst wr
  obtain ⟨nq,hnq⟩:∃ nq:Nat,mu+1 - b.length=nq:=⟨_,rfl⟩
  have hnq2:(mu:Int)+1 - (b.length:Int)=(nq:Int):=by omega
  have hmk:=fun (W:World)=>run_makeI W nq (by omega) (nq:Int) rfl
  have hw9:IntKind.i64.wrap ((mu:Int)+1 - (b.length:Int))=(nq:Int):=by rw [hnq2];exact IntWalk.i64_in _ (by omega)
  have f6:=x6.frozen
  have c6:=x6.cell
  have c8:=y8.cell
  have z6:=x6.lt
  have z5:=x5.lt
  have x6a:=x6.alloc (.cells (intVs (zerosL nq)).toArray 3)
  have c6a:=x6a.cell
  have f6a:=x6a.frozen
  have c6b:=(x6a.set (.slice (some ⟨W6.heap.size,0,none⟩) nq nq)).cell
  gi_wp2
  refine ⟨trivial,?_⟩
  have hS7:=sameBut_setCell (W6.alloc (.cells (intVs (zerosL nq)).toArray 3)) w.heap.size 0 (.slice (some ⟨w5.heap.size+2,0,none⟩) nq nq)
  have xq:=(BlkI.new (X:=W6) (n:=w5.heap.size+2) (l:=zerosL nq) hz6).but hS7 (by omega)
  have x7:=x6a.set (.slice (some ⟨w5.heap.size+2,0,none⟩) nq nq)
  have z7:=Boxed.but (y7.alloc (.cells (intVs (zerosL nq)).toArray 3)) hS7 (by omega)
  have z8:=Boxed.but (y8.alloc (.cells (intVs (zerosL nq)).toArray 3)) hS7 (by omega)
  have hsz7:((W6.alloc (.cells (intVs (zerosL nq)).toArray 3)).setCell ⟨w.heap.size,0,none⟩ (.slice (some ⟨w5.heap.size+2,0,none⟩) nq nq)).heap.size=w5.heap.size+3:=by simp [hz6]
  generalize ((W6.alloc (.cells (intVs (zerosL nq)).toArray 3)).setCell ⟨w.heap.size,0,none⟩ (.slice (some ⟨w5.heap.size+2,0,none⟩) nq nq))=W7 at *
  refine (callsIn_wide.2 (backward_any _ _ _ _)).mono ?_
  rintro e w9 ⟨rfl,rfl⟩
  clear c6a f6a c6b c7 c8 c6 f6
  gi_wp2
  have hwlt:=Boxed.lt x1
  have hwle:=hb1.size
  have hle:(lu.take mu++[(0:Int)]).length=mu+1:=by rw [List.length_append,hlt0];rfl
  have hvle:intVs (lu.take mu++[(0:Int)])=intVs (lu.take mu)++[Value.int .i64 0]:=by simp [intVs]
  have hOW:OwnInts w4 WA.heap.size (.slice su (mu+1) sc) (lu.take mu++[0]):=by
   have h:=HOW.out
   unfold OwnInts
   rw [hle,hvle]
   exact h
  obtain ⟨gU,rfl,hgU,-,hrow4⟩:=hOW.row (by simp)
  have hgU4:=hrow4.lt
  have hrow7:=((((hrow4.of (HU5.out gU hgU4)).below hb6).below (bw4 (bw0 _ _) (.cells (intVs (zerosL nq)).toArray 3))).but hS7 (by omega))
  have hlv7:=(((HBV.out.below hb6).below (bw4 (bw0 _ _) (.cells (intVs (zerosL nq)).toArray 3))).but hS7 (by omega))
  have hb7:Below w.heap.size w W7:=hS7.below (bw4 (below_trans' hb5 hb6) _) (Nat.le_refl _)
  have hb8:Below w.heap.size w (W7.alloc (.cells #[.slice (some ⟨w5.heap.size+2,0,none⟩) nq nq] 229)):=bw4 hb7 _
  have hz8:(W7.alloc (.cells #[.slice (some ⟨w5.heap.size+2,0,none⟩) nq nq] 229)).heap.size=w5.heap.size+4:=by simp [hsz7]
  have hBa:Below W7.heap.size W7 (W7.alloc (.cells #[.slice (some ⟨w5.heap.size+2,0,none⟩) nq nq] 229)):=bw4 (bw0 _ _) _
  have hgv5:=HBV.out.lt
  have hDB:DivB w.heap.size gU WC.heap.size w5.heap.size sc (mu+1) nq b.length (b.length+1+1) (lu.take mu++[0]) (zerosL nq) lv (W7.alloc (.cells #[.slice (some ⟨w5.heap.size+2,0,none⟩) nq nq] 229)) :=
   ⟨by have:=hb1.size;omega,by omega,hgv5,boxed_below x7 hBa,boxed_below z7 hBa,boxed_below z8 hBa,boxed_new' hsz7,xq.below hBa,hlv7.below hBa,hrow7.below hBa⟩
  obtain ⟨V,hV⟩:∃ V,lv.take b.length=V:=⟨_,rfl⟩
  have hVl:V.length=b.length:=by rw [← hV];exact hlt1
  have hNV:=HNV.out
  rw [hV] at hNV
  have htop:=HND2.out
  rw [hV] at htop
  have hval0:val (lu.take mu++[0])=x * f:=by
   rw [← HNU.out.sum]
   refine val_of_lim fun i=>?_
   by_cases hi:i < (lu.take mu).length
   ·exact lim_snoc_lt hi
   ·by_cases hi2:i=(lu.take mu).length
    ·rw [hi2,lim_snoc,lim_out (Nat.le_refl _)]
    ·rw [lim_out (by simp at hi hi2 ⊢;omega),lim_out (by omega)]
  have hdig0:Digs (lu.take mu++[0]):=digs_of fun i hi=>by
   by_cases hi2:i < (lu.take mu).length
   ·rw [lim_snoc_lt hi2];exact HNU.out.digs i
   ·have:i=(lu.take mu).length:=by rw [List.length_append] at hi;simp only [List.length_cons,List.length_nil] at hi;omega
    rw [this,lim_snoc];exact ⟨by omega,by omega⟩
  have hvpos:0 < val V:=by
   have h1:=hNV.low (by omega)
   have h2:=pw_pos (V.length - 1)
   rw [hNV.sum];omega
  have hlt0':val (lu.take mu++[0]) < val V * pw nq:=by
   have h1:=HNU.out.high.2
   rw [hlt0] at h1
   have h2:=hNV.low (by omega)
   rw [hVl] at h2
   have h3:pw (b.length - 1) * pw nq≤y * f * pw nq:=Int.mul_le_mul_of_nonneg_right h2 (Int.le_of_lt (pw_pos _))
   rw [← pw_add,show b.length - 1+nq=mu by omega] at h3
   rw [hval0,hNV.sum]
   omega
  have hSt0:DivSt (lu.take mu++[0]) V nq [] (lu.take mu++[0]) (zerosL nq):=DivSt.start (by rw [List.length_append,hlt0,hVl];simp only [List.length_cons,List.length_nil];omega) hdig0 hlt0'
  have HNV':=Lib.hid hNV
  have HTOP:=Lib.hid htop
  have HVP:=Lib.hid hvpos
  have HV:=Lib.hid hV
  have HVL:=Lib.hid hVl
  have HV0:=Lib.hid hval0
  have HY0:=Lib.hid (show 0 < y by have h1:=HB.out.low (by omega);have h2:=pw_pos (b.length - 1);omega)
  clear hOW hrow4 hrow7 hlv7 hNV htop hvpos hV hVl hval0 hdig0 hlt0' hBa hS7 x7 xq z7 z8
  generalize (W7.alloc (.cells #[.slice (some ⟨w5.heap.size+2,0,none⟩) nq nq] 229))=W8 at *
  refine wpIn_rangeFunc_ownH rfl (by omega) (gf:=253) (lb:=#[.pointer (some ⟨w5.heap.size+3,0,none⟩)]) rfl trivial (enters_of Tryz.func253 (by kernel_rfl) rfl)
   (back2_stops nq _ (by omega) (w5.heap.size+3) w.heap.size (w5.heap.size+2) nq (by omega) W8 ⟨_,hDB.q,zerosL_len _⟩ (Boxed.cell hDB.i)) KpQ.t (KpQ.b (m:=W8.heap.size) hb8.size (by omega) (by omega)) (bw0 _ _) (fun _=>rfl)
   (fun pre W=>(Below w.heap.size w W∧w5.heap.size+4≤W.heap.size)∧(∃ U Q,DivB w.heap.size gU WC.heap.size w5.heap.size sc (mu+1) nq b.length (b.length+1+1) U Q lv W∧DivSt (lu.take mu++[0]) V nq pre U Q))
   (fun _ _ _=>False)
   (OwnFrom.and (OwnFrom.and (ownFrom_below (Nat.le_refl _) (by omega)) (fun s A B row hs hg hr=>Nat.le_trans hs hg.size)) (fun s X Y row hs hg hr=>by obtain ⟨U,Q,h1,h2⟩:=hs;exact ⟨U,Q,divB_own () X Y row h1 hg hr,h2⟩))
   (fun _ _ _ _ _ hs _ _=>hs)
   ⟨⟨hb8,by omega⟩,_,_,hDB,hSt0⟩
   (fun x a' W=>∃ jj:Nat,jj=nq - 1 - x.1.1∧a'={ tmps:=#[.slice aa a.length ac,.slice (some ⟨bb,ob,none⟩) b.length bc,undef,undef,.pointer (some ⟨w.heap.size,0,none⟩),.slice none 0 0,.int .i64 f,.pointer (some ⟨w5.heap.size,0,none⟩),.pointer (some ⟨w5.heap.size+1,0,none⟩),.int .i64 (jj:Int),undef,.slice aa a.length ac,.slice (some ⟨bb,ob,none⟩) b.length bc,.int .i64 r,.bool (decide (r < 0)),undef,.slice (some ⟨bb,ob,none⟩) b.length bc,.int .i64 b.length,.bool false,undef,undef,undef,undef,undef,undef,undef,.slice (some ⟨bb,ob,none⟩) b.length bc,.slice (some ⟨bb,ob,none⟩) b.length bc,.int .i64 b.length,.int .i64 ((b.length:Int) - 1),.pointer (some ⟨bb,ob+(b.length - 1),none⟩),.int .i64 b1,.int .i64 (b1+1),.int .i64 f,.slice aa a.length ac,.int .i64 f,.slice (some ⟨w1.heap.size,0,none⟩) 1 1,.slice (some ⟨WA.heap.size,0,none⟩) mu (a.length+1+1),.slice (some ⟨w2.heap.size,0,none⟩) 1 1,.slice (some ⟨gU,0,none⟩) (mu+1) sc,.slice (some ⟨bb,ob,none⟩) b.length bc,.int .i64 f,.slice (some ⟨w4.heap.size,0,none⟩) 1 1,.slice (some ⟨WC.heap.size,0,none⟩) b.length (b.length+1+1),.slice (some ⟨gU,0,none⟩) (mu+1) sc,.int .i64 ((mu:Int)+1),.slice aa a.length ac,.int .i64 a.length,.int .i64 ((a.length:Int)+1),.bool false,u50,u51,u52,.slice (some ⟨gU,0,none⟩) (mu+1) sc,.int .i64 ((mu:Int)+1),.slice (some ⟨WC.heap.size,0,none⟩) b.length (b.length+1+1),.int .i64 b.length,.int .i64 nq,.slice (some ⟨w5.heap.size+2,0,none⟩) nq nq,.slice (some ⟨w5.heap.size+2,0,none⟩) nq nq,.func (.func 253) #[] #[.pointer (some ⟨w5.heap.size+3,0,none⟩)],.int .i64 (jj:Int),.int .i64 x.2,undef,undef,undef,undef,undef,undef,undef,undef,undef,undef,undef,undef,undef,undef,undef,undef,undef,undef,undef,undef,undef,undef,undef,undef,undef,undef,undef,undef,undef,undef],defers:=[] })
   (fun x a' _ X Y row hs hg hr=>hs)
   ?assign ?body ?done ?stop
  case assign =>
   rintro l1 pre x W K ⟨⟨hB,hz⟩,hS⟩ hK
   unfold encQ
   simp only [fold2,bw7,bw9,bw8]
   gi_wp2
   exact hK _ _ (KeepsFrom.refl _ _) ⟨(bw0 _ _).mono hB.size,rfl,fun l h1 h2=>⟨l,h1,h2⟩⟩ ⟨⟨hB,hz⟩,hS⟩ ⟨nq - 1 - x.1.1,rfl,by rw [show ((nq - 1 - x.1.1:Nat):Int)=(nq:Int) - 1 - (x.1.1:Int) by have:=x.1.2;omega]⟩
  case body =>
   rintro l1 pre x a' W hl1 ⟨rr,hr⟩ ⟨⟨hB,hz⟩,U,Q,hD,hSt⟩ ⟨jj,hjj,rfl⟩ hlt
   have hxl:=x.1.2
   have hUl:U.length=mu+1:=by rw [hSt.len,HVL.out];omega
   have hjn:jj+b.length < mu+1:=by omega
   have HE:=Lib.hid (fun (W':World) (hr:RowI W' gU sc U) (hl:BlkI W' WC.heap.size lv)=>estD (n:=b.length) (j:=jj) (cv:=b.length+1+1) (N:=mu+1) W' hr hl (by omega) hlv' HV.out h2 hSt.digs HNV'.out.digs hUl hjn (by omega) HTOP.out)
   have HTK:=Lib.hid (fun (q:Int) (W':World) (hr:RowI W' gU sc U) (hl:BlkI W' WC.heap.size lv) (q0:0≤q) (q1:q≤4000000000)=>takeD (q:=q) (n:=b.length) (j:=jj) (cv:=b.length+1+1) (N:=mu+1) W' hr hl (by omega) (by omega) hlv' HV.out hSt.digs HNV'.out.digs hUl hjn (by omega) q0 q1)
   have HRS:=Lib.hid (fun (q:Int) (l:List Int) (c:Int) (hT:TakeAt U V jj q (V.length+1) l c) (W':World) (hr:RowI W' gU sc l) (hl:BlkI W' WC.heap.size lv) (q0:0≤q) (q1:q≤4000000000)=>restoreD (q:=q) (n:=b.length) (j:=jj) (cv:=b.length+1+1) (N:=mu+1) W' hr hl (by omega) (by omega) hlv' HV.out hT.digs HNV'.out.digs (by rw [hT.len];exact hUl) hjn (by omega) q0 q1)
   have HLS:=Lib.hid (fun (q:Int) (l:List Int) (c:Int) (hT:TakeAt U V jj q (V.length+1) l c) (q0:0≤q) (hc:0 < c)=>est_less hSt.digs q0 (by rw [hUl,HVL.out];exact hjn) hT hc)
   have HGB:=Lib.hid (fun (q:Int) (l m:List Int) (c d:Int) (hT:TakeAt U V jj q (V.length+1) l c) (hG:GiveAt l V jj q (V.length+1) m d)=>give_back hSt.digs hT hG (by rw [hUl,HVL.out];exact hjn))
   have HSP:=Lib.hid (fun (q:Int) (l:List Int) (c:Int) (q0:0≤q) (hE:EstI U V jj q) (hT:TakeAt U V jj q (V.length+1) l c) (hc:¬ 0 < c)=>hSt.step x HNV'.out.digs HVP.out q0 (hjj ▸ hE) (hjj ▸ hT) hc)
   have hQl:=hSt.qlen
   have hjq:jj < nq:=by omega
   have HDD:=Lib.hid hD
   have cu:=Boxed.cell hD.u
   have cv:=Boxed.cell hD.v
   have HJJ:=Lib.hid hjj
   clear hSt hD hjj
   simp only []
   gi_wp2
   refine ⟨trivial,?_⟩
   refine (CallsIn.inRound l1 (callsIn_wide.2 (HE.out _ HDD.out.w HDD.out.l))).mono ?_
   rintro e wa ⟨q,rfl,q0,q1,hq,hBa⟩
   have HQ:=Lib.hid hq
   have HD1:=Lib.hid (HDD.out.below hBa)
   have HK1:=Lib.hid (And.intro (keepsFrom_below (m:=W8.heap.size) hBa) (KpQ.belowB (N:=nq) (B:=w.heap.size) (b1:=w5.heap.size+3) (g:=w5.heap.size+2) hBa hB.size (by omega)))
   have hBw:=hB.trans (hBa.mono hB.size)
   have hzw:w5.heap.size+4≤wa.heap.size:=Nat.le_trans hz hBa.size
   clear hq hBa cu cv HE
   gi_wp2
   gi_loopg [10] (q.toNat) (fun g v wr=>∃ q:Int,g=q.toNat∧v=.int .i64 q∧0≤q∧q≤2000000000∧Hid (EstI U V jj q)∧Hid (DivB w.heap.size gU WC.heap.size w5.heap.size sc (mu+1) nq b.length (b.length+1+1) U Q lv wr)∧Hid (KeepsFrom W8.heap.size W wr∧KpQ nq w.heap.size (w5.heap.size+3) (w5.heap.size+2) W wr)∧Below w.heap.size w wr∧w5.heap.size+4≤wr.heap.size)
   case atStart=>exact ⟨q,rfl,rfl,q0,q1,HQ,HD1,HK1,hBw,hzw⟩
   case round =>
    clear q0 q1 HQ HD1 HK1 hBw hzw
    obtain ⟨q,rfl,rfl,q0,q1,HQ,HD1,HK1,hBw,hzw⟩:=hrel
    have cu:=Boxed.cell HD1.out.u
    have cv:=Boxed.cell HD1.out.v
    gi_wp2
    refine ⟨trivial,?_⟩
    refine (CallsIn.inRound l1 (callsIn_wide.2 (HTK.out q _ HD1.out.w HD1.out.l q0 (by omega)))).mono ?_
    rintro e wt ⟨l,c,rfl,hrt,hTA,hSt1⟩
    have HTA:=Lib.hid hTA
    have HD2:=Lib.hid (HD1.out.row hSt1 hrt)
    have HK2:=Lib.hid (And.intro (HK1.out.1.trans (keepsFrom_but (m:=W8.heap.size) hSt1 (by omega))) (HK1.out.2.t (KpQ.but (N:=nq) (B:=w.heap.size) (b1:=w5.heap.size+3) (g:=w5.heap.size+2) hSt1 (by omega) (by omega) (by omega))))
    have hBw2:Below w.heap.size w wt:=hSt1.below hBw (by omega)
    have hzw2:w5.heap.size+4≤wt.heap.size:=by rw [hSt1.size];exact hzw
    clear hTA hrt hSt1 cu cv HD1 HK1 hBw hzw
    by_cases hc:0 < c
    ·obtain ⟨hq1,hEq⟩:=HLS.out q l c HTA.out q0 hc
     have HEQ:=Lib.hid hEq
     have hcb:decide (0 < c)=true:=decide_eq_true hc
     have hwq:IntKind.i64.wrap (q - 1)=q - 1:=IntWalk.i64_in _ (by omega)
     have cu:=Boxed.cell HD2.out.u
     have cv:=Boxed.cell HD2.out.v
     clear hEq
     gi_wp2
     refine ⟨trivial,?_⟩
     refine (CallsIn.inRound l1 (callsIn_wide.2 (HRS.out q l c HTA.out _ HD2.out.w HD2.out.l q0 (by omega)))).mono ?_
     rintro e wg ⟨m,d,rfl,hrg,hGA,hSg⟩
     obtain rfl:=HGB.out q l m c d HTA.out hGA
     have HD3:=Lib.hid (HD2.out.row hSg hrg)
     have HK3:=Lib.hid (And.intro (HK2.out.1.trans (keepsFrom_but (m:=W8.heap.size) hSg (by omega))) (HK2.out.2.t (KpQ.but (N:=nq) (B:=w.heap.size) (b1:=w5.heap.size+3) (g:=w5.heap.size+2) hSg (by omega) (by omega) (by omega))))
     have hBw3:Below w.heap.size w wg:=hSg.below hBw2 (by omega)
     have hzw3:w5.heap.size+4≤wg.heap.size:=by rw [hSg.size];exact hzw2
     have fu:=Boxed.frozen HD3.out.u
     have cu3:=Boxed.cell HD3.out.u
     have zu:=Boxed.lt HD3.out.u
     clear hrg hGA hSg HD2 HK2 hBw2 hzw2 cu cv
     gi_wp2
     have hSb:=sameBut_setCell wg w5.heap.size 0 (.slice (some ⟨gU,0,none⟩) (mu+1) sc)
     have HD4:=Lib.hid (HD3.out.box hSb (Boxed.set _ HD3.out.u))
     have HK4:=Lib.hid (And.intro (HK3.out.1.trans (keepsFrom_but (m:=W8.heap.size) hSb (by omega))) (HK3.out.2.t (KpQ.but (N:=nq) (B:=w.heap.size) (b1:=w5.heap.size+3) (g:=w5.heap.size+2) hSb (by omega) (by omega) (by omega))))
     have hBw4:=hSb.below hBw3 (by omega)
     have hzw4:=hSb.size
     clear hSb
     gi_roundg (q - 1).toNat
     case rel=>exact ⟨q - 1,rfl,rfl,by omega,by omega,HEQ,HD4,HK4,hBw4,by rw [hzw4];exact hzw3⟩
     case measure=>omega
    ·have hcb:decide (0 < c)=false:=decide_eq_false hc
     have cr:=Boxed.cell HD2.out.r
     have f1:=HD2.out.q.cell (p:=jj) (by omega)
     have g1:=HD2.out.q.frozen jj
     have hj1:(jj:Int) < (nq:Int):=by omega
     have hj0:(0:Int)≤(jj:Int):=by omega
     have hjt:((jj:Int)).toNat=jj:=by omega
     gi_wp2
     have hSq:=sameBut_setCell wt (w5.heap.size+2) jj (.int .i64 q)
     have HD3:=HD2.out.quo hSq (HD2.out.q.set jj q)
     have hST:=HSP.out q l c q0 HQ.out HTA.out hc
     rw [← HJJ.out] at hST
     exact ⟨HK2.out.1.trans (keepsFrom_but hSq (by omega)),⟨HK2.out.2.1.trans ((hSq.below (bw0 _ _) (by omega)).mono (Nat.le_refl _)),(hSq.block _ (by omega)).trans HK2.out.2.2.1,fun l' hl' e'=>⟨_,HD3.q,by rw [List.length_set];exact hQl⟩⟩,⟨hSq.below hBw2 (by omega),by rw [hSq.size];exact hzw2⟩,_,_,HD3,hST⟩
  case done =>
   rintro D ys W hD hys ⟨⟨hB,hz⟩,U,Q,hDv,hSt⟩ hK
   have hUl:U.length=mu+1:=by rw [hSt.len,HVL.out];omega
   have hQl:=hSt.qlen
   have hLA:=hSt.at' nq (Nat.le_refl _) (by rw [hys,fst_all])
   have HFIN:=Lib.hid (hLA.fin hSt.digs HV0.out HNV'.out.sum f1 HY0.out)
   have HTU:=Lib.hid (fun (W':World) (h:RowI W' gU sc U)=>trim_ok U (some ⟨gU,0,none⟩) (mu+1) sc W' (by have:=h.is;rwa [hUl] at this) (by omega))
   have HTQ:=Lib.hid (fun (W':World) (h:BlkI W' (w5.heap.size+2) Q)=>trim_ok Q (some ⟨w5.heap.size+2,0,none⟩) nq nq W' (by have:=h.is;rwa [hQl] at this) (by omega))
   have HDG:=Lib.hid (And.intro hSt.digs hLA.digs)
   have HDV:=Lib.hid hDv
   have cu:=Boxed.cell hDv.u
   clear hSt hLA hDv
   gi_wp2
   refine ⟨trivial,?_⟩
   refine (callsIn_wide.2 (HTU.out _ HDV.out.w)).mono ?_
   rintro e wt ⟨m1,hm1,rfl,ht1,hl1,rfl⟩
   have hnu:Num (U.take m1) (val U):=⟨fun i=>by rw [hl1];exact HDG.out.1 i,ht1,val_of_lim hl1⟩
   have hrt:=(HDV.out.w.take' m1 hm1).is
   have HDS:=Lib.hid (divideShortL_ok (d:=f) _ wt hrt hnu (by rw [List.length_take];omega) f1 (by omega))
   clear hnu hrt ht1 hl1 HTU
   have hl9:(U.take m1).length=m1:=by rw [List.length_take];omega
   rw [hl9] at HDS
   clear cu
   gi_wp2
   refine ⟨trivial,?_⟩
   refine (callsIn_wide.2 HDS.out).mono ?_
   rintro e wd ⟨lr,vr,lz,vz,rfl,ir,iz,nr,nz,kr,kz,hBd⟩
   obtain ⟨ra,rc,rfl⟩:=ir.is.slice
   obtain ⟨za,zc,rfl⟩:=iz.is.slice
   have HDV2:=Lib.hid (HDV.out.below hBd)
   have HIR:=Lib.hid ir
   have HNR:=Lib.hid nr
   have hbd:=hB.trans (hBd.mono hB.size)
   have hKd:=(hBd.block D (Array.getElem?_eq_some_iff.1 hK).1).trans hK
   have HZ:=Lib.hid hB.size
   have cr:=Boxed.cell HDV2.out.r
   have HW0:=Lib.hid (show w.heap.size < wt.heap.size by omega)
   clear ir iz nr nz kr kz hBd HDS
   gi_wp2
   refine ⟨trivial,?_⟩
   refine (callsIn_wide.2 (HTQ.out _ HDV2.out.q)).mono ?_
   rintro e we ⟨m2,hm2,rfl,ht2,hl2,rfl⟩
   have HQ2:=Lib.hid (And.intro hm2 (And.intro ht2 hl2))
   have fr:=Boxed.frozen HDV2.out.r
   have zr:=Boxed.lt HDV2.out.r
   clear hm2 ht2 hl2
   gi_wp2
   have hSr:=sameBut_setCell we w.heap.size 0 (.slice (some ⟨w5.heap.size+2,0,none⟩) m2 nq)
   have xr:=Boxed.set (.slice (some ⟨w5.heap.size+2,0,none⟩) m2 nq) HDV2.out.r
   have hqb:=HDV2.out.q.but hSr (by omega)
   have hir:=HIR.out.but hSr HW0.out
   refine leaves_marks w.heap.size [D] _ (by simp) (fun E hE=>?_) (fun W' hB' hcc=>?_)
   ·obtain rfl:E=D:=by simpa using hE
    exact ⟨by omega,(hSr.block _ (by omega)).trans hKd⟩
   ·have z1:W'.cell? ⟨w.heap.size,0,none⟩=some (.slice (some ⟨w5.heap.size+2,0,none⟩) m2 nq):=cell_keeps (Boxed.cell xr) hcc
    have l1:(loadVar 229 ⟨w.heap.size,0,none⟩).run Tryz.prog W'=.ok (.slice (some ⟨w5.heap.size+2,0,none⟩) m2 nq) W':=by simp [go_sem,z1]
    obtain ⟨g1,g2,_⟩:=HFIN.out
    obtain ⟨hm2,ht2,hl2⟩:=HQ2.out
    have hy0:=HY0.out
    have hx1:=HA.out.high
    have hq1:x / y≤x:=Int.ediv_le_self _ hx1.1
    have hr1:x % y < y:=Int.emod_lt_of_pos _ hy0
    have hnQ:Num (Q.take m2) (x / y):=⟨fun i=>by rw [hl2];exact HDG.out.2 i,ht2,(val_of_lim hl2).trans g1⟩
    have hnR:Num lr (x % y):=by have:=HNR.out;rwa [g2] at this
    have hqblk:BlkI W' (w5.heap.size+2) Q:=hcc _ _ hqb rfl
    exact ⟨_,results_cell_tmp Tryz.results177 rfl l1,Q.take m2,_,lr,_,rfl,hqblk.isTake hm2 hQl,OwnInts.is (ownsRow_keeps hir hcc),hnQ,hnR,Nat.le_trans (hnQ.length_le (by omega)) (Nat.le_max_left _ _),Nat.le_trans (hnR.length_le (by omega)) (Nat.le_max_left _ _),(hSr.below hbd (Nat.le_refl _)).trans hB'⟩
  case stop =>
   rintro D c pre W _ _ h _
   exact h.elim
end Go.Proofs.YtbbclfbpllbbbaaGreatDoor
namespace Go.Proofs.YtbbclfbpllbbbaaGreatDoor
open Go.RowKit Go.Shelf
theorem Tryz.sizeBuilder:(Tryz.prog.info? 77).map (·.size)=some 2:=by kernel_rfl
theorem Tryz.liesBuilder:liesAt Tryz.prog Tryz.prog.depth 77 (2 / Tryz.prog.cellsOf 77) 0 77 1=true:=by kernel_rfl
theorem Tryz.infoByte:(Tryz.prog.info? 5).map (fun i=>(i.zero,i.size,i.bytes))=some (some (.int .u8 0),1,1):=by kernel_rfl
theorem copyCheck_used (b:Nat) (w:World) (h0:w.cell? ⟨b,0,none⟩=some (.pointer (some ⟨b,0,none⟩))) :
  Calls Tryz.prog 81 #[.pointer (some ⟨b,0,none⟩)] w fun e w'=>e=.returned (.tuple #[])∧w'=w:=by
 obtain ⟨j,hj,_⟩:=Option.map_eq_some_iff.1 Tryz.sizeBuilder
 go_enter Tryz.func81,Tryz.ntmps81
 go_wp2
 rw [Lib.run_neq_ptr_same w _ Tryz.underlying74 hj]
 go_wp2
 go_end0
 exact ⟨rfl,rfl⟩
theorem copyCheck_fresh (b:Nat) (w:World) (h0:w.cell? ⟨b,0,none⟩=some (.pointer none)) (hsh:w.shape? b=some (77,2)) (hfz:w.frozen? ⟨b,0,none⟩=false) :
  Calls Tryz.prog 81 #[.pointer (some ⟨b,0,none⟩)] w fun e w'=>e=.returned (.tuple #[])∧w'=w.setCell ⟨b,0,none⟩ (.pointer (some ⟨b,0,none⟩)):=by
 obtain ⟨j,hj,hjs⟩:=Option.map_eq_some_iff.1 Tryz.sizeBuilder
 go_enter Tryz.func81,Tryz.ntmps81
 go_wp2
 rw [Lib.run_to_unsafe w ⟨b,0,none⟩ Tryz.underlying74 Tryz.underlying209 hj (by rw [hjs];decide) hsh (Nat.zero_lt_succ 1)]
 simp only [Result.andThen]
 rw [Oper.upon_value]
 go_wp2
 rw [run_callFunc_extern Tryz.func133 (by kernel_rfl) (by kernel_rfl) (by kernel_rfl) (e:=Extern.AbiNoEscape.same) (by kernel_rfl)]
 rw [Lib.run_noEscape]
 simp only [Result.andThen]
 rw [Oper.upon_value]
 go_wp2
 rw [Lib.run_from_unsafe w ⟨b,0,none⟩ Tryz.underlying209 Tryz.underlying74 hj hsh Tryz.liesBuilder]
 simp only [Result.andThen]
 rw [Oper.upon_value]
 go_wp2
 go_end0
 exact ⟨rfl,rfl⟩
theorem copyCheck_k (B b:Nat) (bs:List Value) (w:World) (h:Lib.IsBuilderF 77 5 B b bs w) :
  Calls Tryz.prog 81 #[.pointer (some ⟨b,0,none⟩)] w fun e w'=>e=.returned (.tuple #[])∧(Lib.BuilderAtF 77 5 B b (.pointer (some ⟨b,0,none⟩)) bs w'∧Below B w w'∧Lib.OthersKept 5 (some b) w w'):=by
 rcases h with h|h
 ·refine (copyCheck_fresh b w h.cell0 h.shape h.frozen0).mono ?_
  rintro e w' ⟨rfl,rfl⟩
  exact ⟨rfl,h.used _,(bw0 B w).setCell (p:=⟨b,0,none⟩) h.1 _,(Lib.OthersKept.refl _ _ w).setCell ⟨b,0,none⟩ rfl _⟩
 ·refine (copyCheck_used b w h.cell0).mono ?_
  rintro e w' ⟨rfl,rfl⟩
  exact ⟨rfl,h,bw0 B _,Lib.OthersKept.refl _ _ _⟩
theorem writeByte_k (B b:Nat) (bs:List Value) (c:Int) (w:World) (h:Lib.IsBuilderF 77 5 B b bs w) (hlen:bs.length+1≤140737488355328) (hBw:B≤w.heap.size) :
  Calls Tryz.prog 32 #[.pointer (some ⟨b,0,none⟩),.int .u8 c] w fun e w'=>e=.returned .nilIface∧(Lib.BuilderAtF 77 5 B b (.pointer (some ⟨b,0,none⟩)) (bs++[.int .u8 c]) w'∧Below B w w'∧Lib.OthersKept 5 (some b) w w'):=by
 obtain ⟨i0,hi,hz0,hz1,hz2⟩:=info_parts Tryz.infoByte
 go_enter Tryz.func32,Tryz.ntmps32
 go_wp2_with fail
 refine (copyCheck_k B b bs _ h).mono ?_
 rintro e w1 ⟨rfl,h1,hb1,hk1⟩
 obtain ⟨hB,v,hbk,hown,hne⟩:=h1
 have c0:w1.cell? ⟨b,0,none⟩=some (.pointer (some ⟨b,0,none⟩)):=by rw [Lib.cell_of_heap hbk];rfl
 have c1:w1.cell? ⟨b,1,none⟩=some v:=by rw [Lib.cell_of_heap hbk];rfl
 go_wp2_with (at_builtin;refine wpList_append_ownF _ rfl _ _ 75 rfl B 5 i0 (.int .u8 0) 1 1 Tryz.underlying75 hi hz0 hz1 hz2 rfl (by decide) _ _ _ rfl (hown.alloc _) ⟨w1.heap.size,0,none⟩ 1 1 [.int .u8 c] rfl rfl ?c1 ?c2 ?c3 ?c4 ?c5 ?_)
 case c1 =>
  intro j u hj
  match j,hj with
  | 0,hj=>simp at hj;subst hj;simp [Addr.add]
 case c2=>intro u hu;simp at hu;subst hu;rfl
 case c3=>unfold maxLen;omega
 case c4=>omega
 case c5=>have:=hb1.size;simp;omega
 intro v' w2 hown' hgrow _
 have hlt:b < w1.heap.size:=by
  rcases Nat.lt_or_ge b w1.heap.size with h'|h'
  ·exact h'
  ·simp [Array.getElem?_eq_none h'] at hbk
 have hb2:w2.heap[b]?=some (.cells #[.pointer (some ⟨b,0,none⟩),v] 77 (0,0)):=by
  rw [hgrow.block b (by simp;omega) (fun e=>hne e.symm),Lib.alloc_old w1 _ b hlt]
  exact hbk
 have d0:w2.cell? ⟨b,0,none⟩=some (.pointer (some ⟨b,0,none⟩)):=by rw [Lib.cell_of_heap hb2];rfl
 have d1:w2.cell? ⟨b,1,none⟩=some v:=by rw [Lib.cell_of_heap hb2];rfl
 have f1:w2.frozen? ⟨b,1,none⟩=false:=Lib.frozen_of_heap hb2 1
 obtain ⟨g,cap,rfl⟩:∃ g cap,v'=.slice (some ⟨g,0,none⟩) (bs.length+1) cap:=by
  rcases hown'.2 with ⟨_,h0⟩|⟨g,cap,cur,fz,hv,_⟩
  ·omega
  ·exact ⟨g,cap,hv⟩
 go_wp2
 go_ret
 refine ⟨rfl,?_,?_,((hk1.alloc _).grown hgrow (Lib.ownsRowF_kind (hown.alloc _))).setCell ⟨b,1,none⟩ rfl _⟩
 ·exact Lib.BuilderAtF.put (T:=77) (e:=5) hB hb2 (bs':=bs++[.int .u8 c]) (by simpa using hown') (by decide)
 ·exact ((hb1.alloc (by have:=hb1.size;omega) _).grown hgrow (by have:=hb1.size;simp;omega) (fun k hk=>(hown.lt k hk).1)).setCell (p:=⟨b,1,none⟩) hB _
theorem writeString_k (B b:Nat) (bs:List Value) (s:ByteArray) (w:World) (h:Lib.IsBuilderF 77 5 B b bs w) (hlen:bs.length+s.size≤140737488355328) (hBw:B≤w.heap.size) :
  Calls Tryz.prog 33 #[.pointer (some ⟨b,0,none⟩),.string s] w fun e w'=>e=.returned (.tuple #[.int .i64 s.size,.nilIface])∧(Lib.BuilderAtF 77 5 B b (.pointer (some ⟨b,0,none⟩)) (bs++Lib.strCells s) w'∧Below B w w'∧Lib.OthersKept 5 (some b) w w'):=by
 obtain ⟨i0,hi,hz0,hz1,hz2⟩:=info_parts Tryz.infoByte
 go_enter Tryz.func33,Tryz.ntmps33
 go_wp2_with fail
 refine (copyCheck_k B b bs _ h).mono ?_
 rintro e w1 ⟨rfl,h1,hb1,hk1⟩
 obtain ⟨hB,v,hbk,hown,hne⟩:=h1
 have c0:w1.cell? ⟨b,0,none⟩=some (.pointer (some ⟨b,0,none⟩)):=by rw [Lib.cell_of_heap hbk];rfl
 have c1:w1.cell? ⟨b,1,none⟩=some v:=by rw [Lib.cell_of_heap hbk];rfl
 go_wp2_with (at_builtin;refine Lib.wpList_append_own_stringF _ rfl _ _ 75 9 rfl B 5 i0 Tryz.underlying75 Tryz.underlying9 hi hz0 hz1 hz2 _ _ _ rfl hown s rfl ?c3 ?c4 ?c5 ?_)
 case c3=>unfold maxLen;omega
 case c4=>omega
 case c5=>have:=hb1.size;omega
 intro v' w2 hown' hgrow _
 have hlt:b < w1.heap.size:=by
  rcases Nat.lt_or_ge b w1.heap.size with h'|h'
  ·exact h'
  ·simp [Array.getElem?_eq_none h'] at hbk
 have hb2:w2.heap[b]?=some (.cells #[.pointer (some ⟨b,0,none⟩),v] 77 (0,0)):=by
  rw [hgrow.block b hlt (fun e=>hne e.symm)]
  exact hbk
 have d0:w2.cell? ⟨b,0,none⟩=some (.pointer (some ⟨b,0,none⟩)):=by rw [Lib.cell_of_heap hb2];rfl
 have d1:w2.cell? ⟨b,1,none⟩=some v:=by rw [Lib.cell_of_heap hb2];rfl
 have f1:w2.frozen? ⟨b,1,none⟩=false:=Lib.frozen_of_heap hb2 1
 obtain ⟨ao,n',cap,rfl⟩:∃ ao n' cap,v'=.slice ao n' cap:=by
  rcases hown'.2 with ⟨hv,_⟩|⟨g,cap,cur,fz,hv,_⟩
  ·exact ⟨_,_,_,hv⟩
  ·exact ⟨_,_,_,hv⟩
 go_wp2
 go_ret2
 refine ⟨rfl,?_,?_,(hk1.grown hgrow (Lib.ownsRowF_kind hown)).setCell ⟨b,1,none⟩ rfl _⟩
 ·exact Lib.BuilderAtF.put (T:=77) (e:=5) hB hb2 (bs':=bs++Lib.strCells s) (by simpa [Lib.strCells_length] using hown') (by decide)
 ·exact (hb1.grown hgrow (by have:=hb1.size;omega) (fun k hk=>(hown.lt k hk).1)).setCell (p:=⟨b,1,none⟩) hB _
end Go.Proofs.YtbbclfbpllbbbaaGreatDoor
namespace Go.Proofs.YtbbclfbpllbbbaaGreatDoor
def pad:Nat→Nat→List UInt8
 | 0,_=>[]
 | m+1,x=>pad m (x / 10)++[UInt8.ofNat (48+x % 10)]
theorem pad_zero (m:Nat):pad m 0=List.replicate m 48:=by
 induction m with
 | zero=>rfl
 | succ m ih=>rw [pad,ih,List.replicate_succ'];rfl
theorem pad_eq {m x:Nat} (h:x < 10 ^ (m+1)):pad (m+1) x=List.replicate (m+1 - (Lib.decDigits x).length) 48++Lib.decDigits x:=by
 induction m generalizing x with
 | zero =>
  have hx:x < 10:=by simpa using h
  rw [pad,pad,Lib.decDigits,dif_pos hx,Nat.mod_eq_of_lt hx]
  rfl
 | succ m ih =>
  by_cases hx:x < 10
  ·rw [pad,show x / 10=0 by omega,pad_zero,Lib.decDigits,dif_pos hx,Nat.mod_eq_of_lt hx]
   simp
  ·have e:Lib.decDigits x=Lib.decDigits (x / 10)++[UInt8.ofNat (48+x % 10)]:=by rw [Lib.decDigits,dif_neg hx]
   rw [pad,ih (by rw [Nat.pow_succ] at h;omega),e]
   rw [List.length_append]
   simp only [List.length_cons,List.length_nil,List.append_assoc]
   rw [show m+1+1 - ((Lib.decDigits (x / 10)).length+(0+1))=m+1 - (Lib.decDigits (x / 10)).length by omega]
theorem decDigits_cat {N x m:Nat} (hN:0 < N) (hx:x < 10 ^ m):Lib.decDigits (N * 10 ^ m+x)=Lib.decDigits N++pad m x:=by
 induction m generalizing x with
 | zero=>simp at hx;subst hx;simp [pad]
 | succ m ih =>
  have hp:0 < 10 ^ m:=Nat.pow_pos (by omega)
  have e:N * 10 ^ (m+1)=10 * (N * 10 ^ m):=by rw [Nat.pow_succ];grind
  have h1:10≤N * 10 ^ (m+1):=by
   have:1 * 1≤N * 10 ^ m:=Nat.mul_le_mul hN hp
   omega
  rw [Lib.decDigits,dif_neg (by omega),show (N * 10 ^ (m+1)+x) / 10=N * 10 ^ m+x / 10 by rw [e];omega,show (N * 10 ^ (m+1)+x) % 10=x % 10 by rw [e];omega,ih (by rw [Nat.pow_succ] at hx;omega),pad,List.append_assoc]
theorem foldl_dval (l:List UInt8):∀ a:Nat,l.foldl (fun a c=>10 * a+(c.toNat - 48)) a=a * 10 ^ l.length+dval l:=by
 induction l with
 | nil=>intro a;simp [dval]
 | cons c t ih =>
  intro a
  have e:dval (c::t)=(10 * 0+(c.toNat - 48)) * 10 ^ t.length+dval t:=by unfold dval;rw [List.foldl_cons,ih];rfl
  rw [List.foldl_cons,ih,e]
  simp only [List.length_cons,Nat.pow_succ]
  grind
theorem dval_head (c:UInt8) (t:List UInt8):dval (c::t)=(c.toNat - 48) * 10 ^ t.length+dval t:=by
 rw [dval,List.foldl_cons,foldl_dval]
 simp
theorem pw_ten (j:Nat):pw j=((10 ^ (9 * j):Nat):Int):=by
 induction j with
 | zero=>rfl
 | succ j ih =>
  have e:(10:Nat) ^ (9 * (j+1))=1000000000 * 10 ^ (9 * j):=by
   rw [show 9 * (j+1)=9 * j+9 by omega,Nat.pow_add,Nat.mul_comm]
  rw [pw,ih,e,Int.natCast_mul]
  rfl
def dgAt (s:List UInt8) (i:Nat):Int:=((s.getD (s.length - 1 - i) 48).toNat:Int) - 48
structure ReadAt (s:List UInt8) (k:Nat) (l:List Int):Prop where
 sum:val l=(dval (s.drop (s.length - k)):Int)
 lims:∀ i,0≤lim l i∧lim l i < ((10 ^ (min 9 (k - 9 * i)):Nat):Int)
theorem ReadAt.start (s:List UInt8) (n:Nat):ReadAt s 0 (zerosL n):=by
 refine ⟨?_,fun i=>?_⟩
 ·rw [Nat.sub_zero,List.drop_length]
  have e:val (zerosL n)=val []:=val_of_lim fun i=>by rw [lim_zerosL,lim_nil]
  rw [e];rfl
 ·rw [lim_zerosL]
  simp
theorem ReadAt.step {s:List UInt8} {k:Nat} {l:List Int} (h:ReadAt s k l) (hd:∀ c ∈ s,isDig c=true) (hk:k < s.length) (hl:l.length=(s.length+8) / 9) :
  (0≤dgAt s k∧dgAt s k≤9)∧(0≤lim l (k / 9)∧lim l (k / 9) < ((10 ^ (k % 9):Nat):Int))∧ReadAt s (k+1) (l.set (k / 9) (lim l (k / 9)+dgAt s k * ((10 ^ (k % 9):Nat):Int))):=by
 have hi:s.length - 1 - k < s.length:=by omega
 have hc:=hd _ (List.getElem_mem hi)
 rw [isDig_iff] at hc
 have hg:dgAt s k=(s[s.length - 1 - k].toNat:Int) - 48:=by unfold dgAt;rw [List.getD_eq_getElem?_getD,List.getElem?_eq_getElem hi];rfl
 have hdd:s.drop (s.length - (k+1))=s[s.length - 1 - k]::s.drop (s.length - k):=by
  rw [show s.length - (k+1)=s.length - 1 - k by omega,List.drop_eq_getElem_cons hi,show s.length - 1 - k+1=s.length - k by omega]
 have hL:=h.lims (k / 9)
 rw [show min 9 (k - 9 * (k / 9))=k % 9 by omega] at hL
 have hg0:0≤dgAt s k:=by rw [hg];omega
 have hg1:dgAt s k≤9:=by rw [hg];omega
 have hjl:k / 9 < l.length:=by rw [hl];omega
 refine ⟨⟨hg0,hg1⟩,hL,?_,fun i=>?_⟩
 ·rw [val_set hjl,h.sum,hdd,dval_head,List.length_drop,show s.length - (s.length - k)=k by omega,pw_ten]
  have e:(10:Nat) ^ k=10 ^ (k % 9) * 10 ^ (9 * (k / 9)):=by rw [← Nat.pow_add];congr 1;omega
  rw [e,hg]
  have e2:((s[s.length - 1 - k].toNat - 48:Nat):Int)=(s[s.length - 1 - k].toNat:Int) - 48:=by omega
  rw [Int.natCast_add,Int.natCast_mul,e2,Int.natCast_mul]
  generalize ((10 ^ (k % 9):Nat):Int)=P
  generalize ((10 ^ (9 * (k / 9)):Nat):Int)=Q
  grind
 ·rw [lim_set hjl]
  split
  ·rename_i hik
   subst hik
   have e:min 9 (k+1 - 9 * (k / 9))=k % 9+1:=by omega
   rw [e,Nat.pow_succ]
   have hp:(0:Int) < ((10 ^ (k % 9):Nat):Int):=by have:0 < 10 ^ (k % 9):=Nat.pow_pos (by omega);omega
   have m0:0≤dgAt s k * ((10 ^ (k % 9):Nat):Int):=Int.mul_nonneg hg0 (by omega)
   have m1:dgAt s k * ((10 ^ (k % 9):Nat):Int)≤9 * ((10 ^ (k % 9):Nat):Int):=Int.mul_le_mul_of_nonneg_right hg1 (by omega)
   refine ⟨by omega,?_⟩
   rw [Int.natCast_mul]
   generalize ((10 ^ (k % 9):Nat):Int)=P at *
   omega
  ·have h1:=h.lims i
   refine ⟨h1.1,Int.lt_of_lt_of_le h1.2 ?_⟩
   have:(10:Nat) ^ (min 9 (k - 9 * i))≤10 ^ (min 9 (k+1 - 9 * i)):=Nat.pow_le_pow_right (by omega) (by omega)
   omega
theorem ReadAt.digs {s:List UInt8} {k:Nat} {l:List Int} (h:ReadAt s k l):Digs l:=fun i=>by
 have h1:=h.lims i
 have:(10:Nat) ^ (min 9 (k - 9 * i))≤10 ^ 9:=Nat.pow_le_pow_right (by omega) (by omega)
 exact ⟨h1.1,by have:=h1.2;omega⟩
theorem ReadAt.fin {s:List UInt8} {l:List Int} (h:ReadAt s s.length l):val l=(dval s:Int):=by rw [h.sum,Nat.sub_self,List.drop_zero]
def topTxt (l:List Int) (k:Nat):List UInt8:=if k=0 then [] else Lib.decDigits (vt (fun i=>lim l (l.length - k+i)) k).toNat
theorem topTxt_step {l:List Int} {k:Nat} (hd:Digs l) (ht:Trimmed l) (hk:k < l.length) :
  topTxt l (k+1)=topTxt l k++(if k=0 then Lib.decDigits (lim l (l.length - 1 - k)).toNat else List.replicate (9 - (Lib.decDigits (lim l (l.length - 1 - k)).toNat).length) 48++Lib.decDigits (lim l (l.length - 1 - k)).toNat):=by
 have hs:vt (fun i=>lim l (l.length - (k+1)+i)) (k+1)=lim l (l.length - 1 - k)+1000000000 * vt (fun i=>lim l (l.length - k+i)) k:=by
  rw [Nat.add_comm k 1,vt_split]
  have e1:vt (fun i=>lim l (l.length - (1+k)+i)) 1=lim l (l.length - 1 - k):=by simp [vt,pw,show l.length - (1+k)=l.length - 1 - k by omega]
  have e2:pw 1=1000000000:=by simp [pw]
  rw [e1,e2]
  congr 2
  exact vt_congr fun i _=>by show lim l (l.length - (1+k)+(1+i))=_;congr 1;omega
 have hx:=hd (l.length - 1 - k)
 unfold topTxt
 rw [if_neg (by omega),hs]
 by_cases h0:k=0
 ·subst h0
  rw [if_pos rfl,if_pos rfl]
  simp [vt]
 ·rw [if_neg h0,if_neg h0]
  have hV:0 < vt (fun i=>lim l (l.length - k+i)) k:=by
   obtain ⟨m,rfl⟩:∃ m,k=m+1:=⟨k - 1,by omega⟩
   rw [vt]
   have hb:=vt_bound (f:=fun i=>lim l (l.length - (m+1)+i)) (k:=m) (fun i _=>hd _)
   have hn:=ht (by omega)
   have hn2:=(hd (l.length - 1)).1
   rw [show l.length - (m+1)+m=l.length - 1 by omega]
   have hp:=pw_pos m
   have:1 * pw m≤lim l (l.length - 1) * pw m:=Int.mul_le_mul_of_nonneg_right (by omega) (by omega)
   omega
  generalize vt (fun i=>lim l (l.length - k+i)) k=V at *
  generalize lim l (l.length - 1 - k)=x at *
  obtain ⟨x0,x1⟩:=hx
  rw [show (x+1000000000 * V).toNat=V.toNat * 10 ^ 9+x.toNat by omega,decDigits_cat (by omega) (by omega),pad_eq (m:=8) (by omega)]
theorem topTxt_all {l:List Int} {n:Int} (h:Num l n):topTxt l l.length=if l.length=0 then [] else Lib.decDigits n.natAbs:=by
 unfold topTxt
 split
 ·rfl
 ·have e:vt (fun i=>lim l (l.length - l.length+i)) l.length=n:=by
   rw [← h.sum]
   exact vt_congr fun i _=>by show lim l (l.length - l.length+i)=_;congr 1;omega
  have:=h.high.1
  rw [e,show n.toNat=n.natAbs by omega]
end Go.Proofs.YtbbclfbpllbbbaaGreatDoor
