/- Joined texts: RebPlain, WRebRat, WLawNum, WLenReb, WVec, WVec2, WVLen, WHipC, WNoNum, WHipK, WDirect, WTrueL, WRebAt, WBevC. -/
import Derived.Test.YtbbclfbpllbbbaaGreatDoorJ11
import Derived.Test.YtbbclfbpllbbbaaGreatDoorJ13
import Derived.Test.YtbbclfbpllbbbaaGreatDoorJ08
set_option maxRecDepth 100000
set_option linter.unusedVariables false
set_option linter.unusedSimpArgs false
set_option maxHeartbeats 12800000
namespace Go.Proofs.YtbbclfbpllbbbaaGreatDoor
open Go
theorem longD_of_sz {k:Nat} {q:Rat} (h:Sz k q) (hk:1≤k):longD q≤k:=by
 unfold longD
 have h1:=nDigits_le_of_lt h.1 hk
 have h2:=nDigits_le_of_lt h.2 hk
 rw [Lib.decDigits_length,Lib.decDigits_length]
 omega
theorem len_of_lt {n k:Nat} (h:n < 10 ^ k) (hk:1≤k):(Lib.decDigits n).length≤k:=by
 rw [Lib.decDigits_length];exact nDigits_le_of_lt h hk
theorem sz0 {k:Nat} (hk:1≤k):Sz k 0:=⟨by show 0 < _;exact Nat.pow_pos (by decide),by show 1 < _;exact Nat.one_lt_pow (by omega) (by decide)⟩
theorem sz1 {k:Nat} (hk:1≤k):Sz k 1:=⟨by show 1 < _;exact Nat.one_lt_pow (by omega) (by decide),by show 1 < _;exact Nat.one_lt_pow (by omega) (by decide)⟩
theorem gsum_one (x:Rat × Rat):gsum [x]=tv x:=by simp [gsum,Rat.zero_add]
theorem tv_pos {c q:Rat} (hc:c≠0) (hq:q≠0):tv (c,q)=c * (normQ q).1:=by
 unfold tv nzB;rw [if_pos (by simp [hc,hq])]
theorem tv_zero {q:Rat}:tv (0,q)=0:=by unfold tv nzB;simp
theorem tv_unit (c:Rat):tv (c,1)=c:=by
 by_cases h:c=0
 ·rw [h,tv_zero]
 ·rw [tv_pos h (by decide +kernel),normQ_one,Rat.mul_one]
theorem oneC_single {c q:Rat} {n:Nat} (hc:Sz 90 c) (hq:Sz 90 q) (h0:0≤q.num) (hn:c≠0→q≠0→(normQ q).2=n) (h1:1≤n) (h40:n < 10 ^ 40) (hnm:n=1∨normalN n=(1,n)) (hf:Sz 60 (tv (c,q))):OneC [(c,q)] n:=by
 refine ⟨by simp,fun k hk=>?_,fun k hk=>?_,fun k hk=>?_,fun k hk hz=>?_,fun k hk=>?_,h1,len_of_lt h40 (by decide),hnm,by rw [gsum_one];exact longD_of_sz hf (by decide)⟩
 ·obtain rfl:k=0:=by simpa using hk
  exact hc
 ·obtain rfl:k=0:=by simpa using hk
  exact hq
 ·obtain rfl:k=0:=by simpa using hk
  exact h0
 ·obtain rfl:k=0:=by simpa using hk
  have hz2:nzB (c,q)=true:=hz
  unfold nzB at hz2
  simp at hz2
  exact hn hz2.1 hz2.2
 ·rcases Nat.lt_or_ge k 1 with h|h
  ·obtain rfl:k=0:=by omega
   exact sz0 (by decide)
  ·rw [List.take_of_length_le (by simpa using h),gsum_one]
   exact hf.mono (by decide)
theorem oneC_nil:OneC [] 1 :=
 ⟨by decide,fun k hk=>by simp at hk,fun k hk=>by simp at hk,fun k hk=>by simp at hk,fun k hk=>by simp at hk,fun k hk=>by rw [List.take_nil];exact sz0 (by decide),by decide,by decide +kernel,.inl rfl,by decide +kernel⟩
theorem normQ_nm {q:Rat} (h:0 < q.num):normalN (normQ q).2=(1,(normQ q).2):=by
 have hm:0 < q.num.toNat * q.den:=Nat.mul_pos (by omega) q.den_pos
 have h1:=normalN_idem hm
 have e:normQ q=(Rat.divInt ((normalN (q.num.toNat * q.den)).1:Nat) (q.den:Nat),(normalN (q.num.toNat * q.den)).2):=by unfold normQ;rw [if_neg (by omega)]
 rw [e]
 generalize normalN (q.num.toNat * q.den)=r at *
 exact h1
theorem oneC_root {c q:Rat} {k:Nat} (hc:Sz k c) (hc0:c≠0) (hq:Sz k q) (h0:0 < q.num) (hk:k≤20):OneC [(c,q)] (normQ q).2∧gsum [(c,q)]=c * (normQ q).1∧0 < (normQ q).1∧Sz k (normQ q).1∧(normQ q).2 < 10 ^ (k+k)∧1≤(normQ q).2:=by
 have hq0:q≠0:=fun h=>by rw [h] at h0;simp at h0
 obtain ⟨z1,z2⟩:=normQ_sz h0 hq
 obtain ⟨v1,v2,v3⟩:=normQ_val h0
 have e:tv (c,q)=c * (normQ q).1:=tv_pos hc0 hq0
 refine ⟨oneC_single (hc.mono (by omega)) (hq.mono (by omega)) (by omega) (fun _ _=>rfl) v3 (Nat.lt_of_lt_of_le z2 (Nat.pow_le_pow_right (by decide) (by omega))) (.inr (normQ_nm h0)) (by rw [e];exact (hc.mul z1).mono (by omega)),by rw [gsum_one,e],v2,z1,z2,v3⟩
theorem oneC_unit {c:Rat} (hc:Sz 60 c):OneC [(c,1)] 1∧gsum [(c,1)]=c :=
 ⟨oneC_single (hc.mono (by decide)) (sz1 (by decide)) (by decide) (fun _ _=>by rw [normQ_one]) (by decide) (by decide) (.inl rfl) (by rw [tv_unit];exact hc),by rw [gsum_one,tv_unit]⟩
theorem oneC_unit2 {c d:Rat} (hc:Sz 60 c) (hd:Sz 60 d) (hs:Sz 60 (c+d)):OneC [(c,1),(d,1)] 1∧gsum [(c,1),(d,1)]=c+d:=by
 have e2:gsum [(c,1),(d,1)]=c+d:=by
  have:[(c,(1:Rat)),(d,1)]=[(c,1)]++[(d,1)]:=rfl
  rw [this,gsum_snoc,gsum_one,tv_unit,tv_unit]
 refine ⟨⟨by simp,fun k hk=>?_,fun k hk=>?_,fun k hk=>?_,fun k hk _=>?_,fun k hk=>?_,by decide,by decide +kernel,.inl rfl,by rw [e2];exact longD_of_sz hs (by decide)⟩,e2⟩
 ·match k,hk with
  | 0,_=>exact hc.mono (by decide)
  | 1,_=>exact hd.mono (by decide)
 ·match k,hk with
  | 0,_=>exact sz1 (by decide)
  | 1,_=>exact sz1 (by decide)
 ·match k,hk with
  | 0,_=>show (0:Int)≤(1:Rat).num;decide
  | 1,_=>show (0:Int)≤(1:Rat).num;decide
 ·match k,hk with
  | 0,_=>exact congrArg Prod.snd normQ_one
  | 1,_=>exact congrArg Prod.snd normQ_one
 ·match k,hk with
  | 0,_=>exact sz0 (by decide)
  | 1,_ =>
   show Sz 90 (gsum [(c,1)])
   rw [gsum_one,tv_unit];exact hc.mono (by decide)
  | 2,_ =>
   show Sz 90 (gsum [(c,1),(d,1)])
   rw [e2];exact hs.mono (by decide)
theorem oneT_ne {S:Rat} {n:Nat} (h:S≠0):oneT S n=[(S,n)]:=if_neg h
theorem oneT_zero {n:Nat}:oneT 0 n=[]:=if_pos rfl
theorem oneC_sum {c d:Rat} (hc:Sz 60 c) (hd:Sz 60 d) (hs:Sz 60 (c+d)):OneC (toQ (oneT c 1)++toQ (oneT d 1)) 1∧gsum (toQ (oneT c 1)++toQ (oneT d 1))=c+d:=by
 have e1:((1:Nat):Int)=1:=rfl
 by_cases h1:c=0
 ·subst h1
  rw [oneT_zero]
  by_cases h2:d=0
  ·subst h2
   rw [oneT_zero]
   exact ⟨oneC_nil,by decide +kernel⟩
  ·rw [oneT_ne h2,Rat.zero_add]
   exact oneC_unit hd
 ·rw [oneT_ne h1]
  by_cases h2:d=0
  ·subst h2
   rw [oneT_zero,Rat.add_zero]
   exact oneC_unit hc
  ·rw [oneT_ne h2]
   exact oneC_unit2 hc hd hs
theorem oneC_square {p q R:Rat} {n m:Nat} (hp:0 < p) (hq:0 < q) (hn:1≤n) (hm:1≤m) (hR:0 < R) (hv:R * R=(p * p * ((n:Nat):Rat)) * (q * q * ((m:Nat):Rat))) (hpq:Sz 90 (p * q)) (hnm:Sz 90 (((n:Int):Rat) * ((m:Int):Rat))) (hRz:Sz 60 R) :
  OneC [(p * q,((n:Int):Rat) * ((m:Int):Rat))] 1∧gsum [(p * q,((n:Int):Rat) * ((m:Int):Rat))]=R:=by
 have e1:((n:Int):Rat)=((n:Nat):Rat):=rfl
 have e2:((m:Int):Rat)=((m:Nat):Rat):=rfl
 rw [e1,e2] at hnm ⊢
 have hn0:(0:Rat) < ((n:Nat):Rat):=Rat.natCast_pos.2 hn
 have hm0:(0:Rat) < ((m:Nat):Rat):=Rat.natCast_pos.2 hm
 generalize ((n:Nat):Rat)=a at *
 generalize ((m:Nat):Rat)=b at *
 have hpq0:0 < p * q:=Rat.mul_pos hp hq
 have hpqn:p * q≠0:=fun h=>by rw [h] at hpq0;exact Rat.lt_irrefl hpq0
 have hab:0 < a * b:=Rat.mul_pos hn0 hm0
 have habn:a * b≠0:=fun h=>by rw [h] at hab;exact Rat.lt_irrefl hab
 have hx:0 < R / (p * q):=by rw [Rat.div_def];exact Rat.mul_pos hR (Rat.inv_pos.2 hpq0)
 have hsq:a * b=(R / (p * q)) * (R / (p * q)):=by
  have hpn:p≠0:=fun h=>by rw [h] at hp;exact Rat.lt_irrefl hp
  have hqn:q≠0:=fun h=>by rw [h] at hq;exact Rat.lt_irrefl hq
  clear hpq hnm hRz hx hab habn hn0 hm0 hR hp hq hpq0
  grind
 have hN:=normQ_sq hx hsq
 have e:tv (p * q,a * b)=R:=by
  rw [tv_pos hpqn habn,hN]
  dsimp only
  rw [Rat.mul_comm,Rat.div_mul_cancel hpqn]
 have hnum:0≤(a * b).num:=by
  have:=(Rat.lt_iff 0 (a * b)).1 hab
  simp at this
  omega
 exact ⟨oneC_single hpq hnm hnum (fun _ _=>by rw [hN]) (by decide) (by decide) (.inl rfl) (by rw [e];exact hRz),by rw [gsum_one,e]⟩
end Go.Proofs.YtbbclfbpllbbbaaGreatDoor
namespace Go.Proofs.YtbbclfbpllbbbaaGreatDoor
open Go.RowKit Go.Shelf
theorem oneC_rootN {c:Rat} {n m:Nat} (hc:Sz 40 c) (hc0:c≠0) (hn:1≤n) (hm:1≤m) (hnm:n * m < 10 ^ 40) :
  ∃ (d:Rat) (l:Nat),OneC [(c,((n:Int):Rat) * ((m:Int):Rat))] l∧gsum [(c,((n:Int):Rat) * ((m:Int):Rat))]=c * d∧0 < d∧Sz 20 d∧l < 10 ^ 40∧1≤l∧d * d * ((l:Nat):Rat)=((n:Nat):Rat) * ((m:Nat):Rat):=by
 have e1:((n:Int):Rat) * ((m:Int):Rat)=(((n * m:Nat):Int):Rat):=by rw [Int.natCast_mul,Rat.intCast_mul]
 have e2:((n:Nat):Rat) * ((m:Nat):Rat)=(((n * m:Nat):Int):Rat):=e1
 have h1:1≤n * m:=Nat.mul_pos hn hm
 rw [e1,e2]
 generalize n * m=N at *
 have hnum:(((N:Int):Rat)).num=(N:Int):=rfl
 have hden:(((N:Int):Rat)).den=1:=rfl
 have h0:0 < (((N:Int):Rat)).num:=by rw [hnum];omega
 obtain ⟨v1,v2,v3⟩:=normQ_val h0
 obtain ⟨i1,i2,i3,i4⟩:=normalN_inv (show 0 < N by omega)
 have hcl:=sq_lt_pow (k:=20) i1 i3 (by simpa using hnm)
 have eN:normQ ((N:Int):Rat)=(((((normalN N).1:Nat):Int):Rat),(normalN N).2):=by
  unfold normQ
  rw [if_neg (by omega),hnum,hden,Nat.mul_one,Int.toNat_natCast,Rat.divInt_ofNat,Rat.mkRat_one]
 have hnm2:=normQ_nm h0
 obtain ⟨a,l,hr⟩:∃ a l,normalN N=(a,l):=by
  cases normalN N with
  | mk x y=>exact ⟨x,y,rfl⟩
 rw [hr] at eN i1 i2 i3 i4 hcl
 rw [eN] at v1 v2 v3 hnm2
 dsimp only at v1 v2 v3 hnm2 i1 i2 i3 i4 hcl
 have hl40:l < 10 ^ 40:=Nat.lt_of_le_of_lt i4 hnm
 have hz20:Sz 20 (((a:Nat):Int):Rat):=sz_natR hcl (by decide)
 have hne:(((N:Int):Rat))≠0:=fun h=>by rw [h] at h0;simp at h0
 have e:tv (c,((N:Int):Rat))=c * (((a:Nat):Int):Rat):=by rw [tv_pos hc0 hne,eN]
 exact ⟨(((a:Nat):Int):Rat),l,oneC_single (hc.mono (by decide)) (sz_natR (Nat.lt_of_lt_of_le hnm (Nat.pow_le_pow_right (by decide) (by decide))) (by decide)) (by omega) (fun _ _=>by rw [eN]) v3 hl40 (.inr hnm2) (by rw [e];exact (hc.mul hz20).mono (by decide)),by rw [gsum_one,e],v2,hz20,hl40,v3,v1⟩
def IsR (k:Nat) (s:ByteArray) (q:Rat):Prop:=s.data.toList=ratText q∧Sz k q
theorem IsR.q {k:Nat} {s:ByteArray} {q:Rat} (h:IsR k s q) (hk:k≤90):IsQ s q:=⟨h.1,h.2.mono hk⟩
theorem ne_of_pos {q:Rat} (h:0 < q):q≠0:=fun h2=>by rw [h2] at h;exact Rat.lt_irrefl h
theorem num_of_pos {q:Rat} (h:0 < q):0 < q.num:=by
 have:=(Rat.lt_iff 0 q).1 h
 simpa using this
def Seat (S:Terms) (sq:Rat):Prop:=(S=[]∧sq=0)∨∃ s m,S=[(s,m)]∧0 < s∧Sz 20 s∧m < 10 ^ 14∧sq=s * s * ((m:Nat):Rat)
theorem Rebuild_rat (px py pz ax ay l sq F R:Rat) (n:Nat) (L M:TTexts) (S:Terms) (fx fy fz sx sy az:ByteArray) (u v:Value) (w:World) (hG:Glo w) (hP:Pri w)
  (h1:IsR 10 fx px) (h2:IsR 10 fy py) (h3:IsR 10 fz pz) (h4:IsR 10 sx ax) (h5:IsR 10 sy ay) (h6:az.data.toList=[48])
  (hu:IsTerms w u L) (hv:IsTerms w v M) (hT:SurdIs L [(l,n)]) (hS:SurdIs M S) (hl:0 < l) (hlz:Sz 20 l) (hn:n < 10 ^ 14) (hse:Seat S sq)
  (hW:0 < 1+sq) (hWz:Sz 10 (1 / (1+sq))) (hWz2:Sz 90 (1+sq)) (hH:0 < ax * ax+ay * ay) (hHz:Sz 10 (1 / (ax * ax+ay * ay)))
  (hF:0 < F) (hFz:Sz 20 F) (hFv:F * F=l * l * ((n:Nat):Rat) * (1 / (1+sq)) * (1 / (ax * ax+ay * ay)))
  (hR:(S=[]∧R=0)∨(0 < R∧Sz 20 R∧R * R=l * l * ((n:Nat):Rat) * (1 / (1+sq)) * sq)) :
  Calls Tryz.prog 17 #[.agg #[.string fx,.string fy,.string fz],.agg #[.string sx,.string sy,.string az],u,v] w (RetMk (oneL (px+F * ax) 1) (oneL (py+F * ay) 1) (oneL (pz+R) 1) w):=by
 have hW1:0 < 1 / (1+sq):=by rw [Rat.div_def,Rat.one_mul];exact Rat.inv_pos.2 hW
 have hH1:0 < 1 / (ax * ax+ay * ay):=by rw [Rat.div_def,Rat.one_mul];exact Rat.inv_pos.2 hH
 have hn1:1≤n:=(hT.ok 0 (by rw [← hT.same];simp)).m1
 obtain ⟨w1,w2,w3,w4,w5,w6⟩:=oneC_root (c:=1) (k:=10) (sz1 (by decide)) (by decide +kernel) hWz (num_of_pos hW1) (by decide)
 obtain ⟨g1,g2,g3,g4,g5,g6⟩:=oneC_root (c:=1) (k:=10) (sz1 (by decide)) (by decide +kernel) hHz (num_of_pos hH1) (by decide)
 have wv:=(normQ_val (num_of_pos hW1)).1
 have gv:=(normQ_val (num_of_pos hH1)).1
 generalize (normQ (1 / (1+sq))).1=cw at *
 generalize (normQ (1 / (1+sq))).2=nw at *
 generalize (normQ (1 / (ax * ax+ay * ay))).1=ch at *
 generalize (normQ (1 / (ax * ax+ay * ay))).2=nh at *
 rw [Rat.one_mul] at w2 g2
 have hTW:=w1.is
 have hTH:=g1.is
 rw [w2,oneT_ne (ne_of_pos w3)] at hTW
 rw [g2,oneT_ne (ne_of_pos g3)] at hTH
 have hnw:n * nw < 10 ^ 40:=Nat.lt_of_lt_of_le (Nat.mul_lt_mul'' hn w5) (by decide)
 obtain ⟨d,nr,r1,r2,r3,r4,r5,r6,r7⟩:=oneC_rootN (c:=l * cw) (n:=n) (m:=nw) ((hlz.mul w4).mono (by decide)) (ne_of_pos (Rat.mul_pos hl w3)) hn1 w6 hnw
 have hPr:prodQ [(l,n)] [(cw,nw)]=[(l * cw,((n:Int):Rat) * ((nw:Int):Rat))]:=rfl
 have hrho:0 < l * cw * d:=Rat.mul_pos (Rat.mul_pos hl w3) r3
 have hTR:=r1.is
 rw [r2,oneT_ne (ne_of_pos hrho)] at hTR
 have hrz:Sz 50 (l * cw * d):=((hlz.mul w4).mul r4).mono (by decide)
 have hrv:(l * cw * d) * (l * cw * d) * ((nr:Nat):Rat)=l * l * ((n:Nat):Rat) * (1 / (1+sq)):=by
  rw [← wv]
  clear hFv hR wv gv hWz hWz2 hHz
  grind
 obtain ⟨f1,f2⟩:=oneC_square (p:=l * cw * d) (q:=ch) (R:=F) (n:=nr) (m:=nh) hrho g3 r6 g6 hF (by rw [hrv,gv,hFv]) ((hrz.mul g4).mono (by decide)) ((sz_natR r5 (by decide)).mul (sz_natR g5 (by decide)) |>.mono (by decide)) (hFz.mono (by decide))
 have hTF:=f1.is
 rw [f2,oneT_ne (ne_of_pos hF)] at hTF
 obtain ⟨x1,x2⟩:=oneC_unit (c:=F * ax) ((hFz.mul h4.2).mono (by decide))
 obtain ⟨y1,y2⟩:=oneC_unit (c:=F * ay) ((hFz.mul h5.2).mono (by decide))
 have hTX:=x1.is
 have hTY:=y1.is
 rw [x2] at hTX
 rw [y2] at hTY
 obtain ⟨sx1,sx2⟩:=oneC_sum (c:=px) (d:=F * ax) (h1.2.mono (by decide)) ((hFz.mul h4.2).mono (by decide)) ((h1.2.add (hFz.mul h4.2)).mono (by decide))
 obtain ⟨sy1,sy2⟩:=oneC_sum (c:=py) (d:=F * ay) (h2.2.mono (by decide)) ((hFz.mul h5.2).mono (by decide)) ((h2.2.add (hFz.mul h5.2)).mono (by decide))
 have hRz:Sz 20 R:=by
  rcases hR with ⟨_,h⟩|h
  ·rw [h];exact sz0 (by decide)
  ·exact h.2.1
 obtain ⟨sz1',sz2'⟩:=oneC_sum (c:=pz) (d:=R) (h3.2.mono (by decide)) (hRz.mono (by decide)) ((h3.2.add hRz).mono (by decide))
 have hZ:OneC (prodQ [(l * cw * d,nr)] S) 1∧gsum (prodQ [(l * cw * d,nr)] S)=R:=by
  rcases hse with ⟨rfl,rfl⟩|⟨s,m,rfl,q1,q2,q3,q4⟩
  ·have e:prodQ [(l * cw * d,nr)] []=[]:=rfl
   rw [e]
   rcases hR with ⟨_,h⟩|⟨h,_,h3⟩
   ·rw [h];exact ⟨oneC_nil,by decide +kernel⟩
   ·rw [Rat.mul_zero] at h3
    have:=Rat.mul_pos h h
    rw [h3] at this
    exact absurd this Rat.lt_irrefl
  ·rcases hR with ⟨h,_⟩|⟨h,hz,h3⟩
   ·cases h
   ·have hm1:1≤m:=(hS.ok 0 (by rw [← hS.same];simp)).m1
    exact oneC_square (p:=l * cw * d) (q:=s) (R:=R) (n:=nr) (m:=m) hrho q1 r6 hm1 h (by rw [hrv,h3,q4]) ((hrz.mul q2).mono (by decide)) ((sz_natR r5 (by decide)).mul (sz_natR q3 (by decide)) |>.mono (by decide)) (hz.mono (by decide))
 obtain ⟨z1,z2⟩:=hZ
 have hTZ:=z1.is
 rw [z2] at hTZ
 have hSl:M.length≤1:=by
  rw [← hS.same]
  rcases hse with ⟨rfl,_⟩|⟨s,m,rfl,_⟩<;>simp
 have hax0:¬ (ax=0∧ay=0):=by
  rintro ⟨rfl,rfl⟩
  exact absurd hH (by decide +kernel)
 have hsqz:Sz 54 sq:=by
  rcases hse with ⟨_,rfl⟩|⟨s,m,_,_,q2,q3,q4⟩
  ·exact sz0 (by decide)
  ·rw [q4];exact ((q2.mul q2).mul (show Sz 14 ((m:Nat):Rat) from sz_natR q3 (by decide))).mono (by decide)
 have key:∃ (sc sr s2 s3:ByteArray),(M.length=0→numS sq=⟨#[48]⟩)∧(M.length=1→tt M 0=(sc,sr)∧numS sq=s3)∧(∀ W,Glo W→Calls Tryz.prog 49 #[.string sc,.string sc] W (RetB (.tuple #[.string s2,.int .i64 0]) W))∧(∀ W,Glo W→Calls Tryz.prog 49 #[.string s2,.string sr] W (RetB (.tuple #[.string s3,.int .i64 0]) W)):=by
  rcases hse with ⟨rfl,rfl⟩|⟨s,m,rfl,q1,q2,q3,q4⟩
  ·refine ⟨numS 0,numS 0,numS (0 * 0),numS (0 * 0 * 0),fun _=>?_,fun h=>?_,fun W hG=>?_,fun W hG=>?_⟩
   ·exact (numS_of (s:=⟨#[48]⟩) (by decide +kernel)).symm
   ·have:=hS.same;rw [h] at this;cases this
   ·exact (RMul_ok (a:=1) (b:=1) _ _ W hG (numS_list 0) (sz0 (by decide)) (numS_list 0) (sz0 (by decide)) (by decide)).mono fun e w' h=>h.b
   ·exact (RMul_ok (a:=2) (b:=1) _ _ W hG (numS_list (0 * 0)) (by rw [Rat.mul_zero];exact sz0 (by decide)) (numS_list 0) (sz0 (by decide)) (by decide)).mono fun e w' h=>h.b
  ·have hok:=hS.ok 0 (by rw [← hS.same];simp)
   have e:tq [(s,m)] 0=(s,m):=rfl
   rw [e] at hok
   have e2:(tt M 0).1=numS s:=numS_of hok.c
   have e3:(tt M 0).2=numS ((m:Int):Rat):=by rw [← decS_num];exact decS_of hok.r
   refine ⟨numS s,numS ((m:Int):Rat),numS (s * s),numS sq,fun h=>?_,fun _=>⟨Prod.ext e2 e3,rfl⟩,fun W hG=>?_,fun W hG=>?_⟩
   ·have:=hS.same;rw [h] at this;cases this
   ·exact (RMul_ok (a:=20) (b:=20) _ _ W hG (numS_list s) q2 (numS_list s) q2 (by decide)).mono fun e w' h=>h.b
   ·rw [q4]
    exact (RMul_ok (a:=40) (b:=14) _ _ W hG (numS_list (s * s)) (q2.mul q2) (numS_list _) (sz_natR q3 (by decide)) (by decide)).mono fun e w' h=>h.b
 obtain ⟨sc,sr,s2,s3,k0,k1,k2,k3⟩:=key
 have hrun:∀ X,X=oneL (gsum (prodQ [(l,n)] [(cw,nw)])) nr→X=oneL (l * cw * d) nr:=fun X h=>by rw [h,hPr,r2]
 refine rebuild_walk fx fy fz sx sy az sc sr s2 s3 (numS sq) (numS (1+sq)) (numS (ax * ax)) (numS (ay * ay)) (numS (ax * ax+ay * ay)) L M (oneL cw nw) (oneL ch nh) (oneL (l * cw * d) nr) (oneL F 1) (oneL (F * ax) 1) (oneL (px+F * ax) 1) (oneL (F * ay) 1) (oneL (py+F * ay) 1) (oneL R 1) (oneL (pz+R) 1) u v w hu hv hSl
  ?start k0 k1 (fun W hB=>k2 W (hG.below hB)) (fun W hB=>k3 W (hG.below hB)) ?c51 ?crw ?c60 ?c68 ?c72 ?crh ?c79 ?c85 ?c94 ?c98 ?c104 ?c108 ?c113 ?c117
 case start =>
  have hB:Below w.heap.size w (((w.alloc (.cells #[.string fx,.string fy,.string fz] 37)).alloc (.cells #[.string sx,.string sy,.string az] 37)).alloc (.cells #[.slice none 0 0,.slice none 0 0,.slice none 0 0] 41)):=qbl
  exact start_ok fx fy fz sx sy az px py pz ax ay [(l,n)] S L M u v _ (hG.below hB) (hP.below hB) (h1.q (by decide)) (h2.q (by decide)) (h3.q (by decide)) (h4.q (by decide)) (h5.q (by decide)) h6 (hu.below hB) (hv.below hB) hT hS hSl hax0
 case c51=>exact fun W hB=>(RAdd_ok (a:=1) (b:=54) ⟨#[49]⟩ (numS sq) W (hG.below hB) one_list (sz1 (by decide)) (numS_list sq) hsqz (by decide)).mono fun e w' h=>h.b
 case crw=>exact fun W b hB hc=>(by rw [← w2];exact root_ok b (1+sq) nw (numS (1+sq)) W (hG.below hB) (hP.below hB) hc (numS_list _) hWz2 (num_of_pos hW) w1)
 case c60=>exact fun W hB=>(RMul_ok (a:=10) (b:=10) sx sx W (hG.below hB) h4.1 h4.2 h4.1 h4.2 (by decide)).mono fun e w' h=>h.b
 case c68=>exact fun W hB=>(RMul_ok (a:=10) (b:=10) sy sy W (hG.below hB) h5.1 h5.2 h5.1 h5.2 (by decide)).mono fun e w' h=>h.b
 case c72=>exact fun W hB=>(RAdd_ok (a:=20) (b:=20) _ _ W (hG.below hB) (numS_list _) (h4.2.mul h4.2) (numS_list _) (h5.2.mul h5.2) (by decide)).mono fun e w' h=>h.b
 case crh=>exact fun W b hB hc=>(by rw [← g2];exact root_ok b (ax * ax+ay * ay) nh _ W (hG.below hB) (hP.below hB) hc (numS_list _) (((h4.2.mul h4.2).add (h5.2.mul h5.2)).mono (by decide)) (num_of_pos hH) g1)
 case c79=>exact fun W x y hB hx hy=>(by rw [← r2,← hPr];exact Mul_ok [(l,n)] [(cw,nw)] nr L (oneL cw nw) x y W (hG.below hB) (hP.below hB) hx hy hT hTW (by rw [hPr];exact r1))
 case c85=>exact fun W x y hB hx hy=>(by
  have e:prodQ [(l * cw * d,nr)] [(ch,nh)]=[(l * cw * d * ch,((nr:Int):Rat) * ((nh:Int):Rat))]:=rfl
  rw [← f2,← e]
  exact Mul_ok [(l * cw * d,nr)] [(ch,nh)] 1 _ _ x y W (hG.below hB) (hP.below hB) hx hy hTR hTH (by rw [e];exact f1))
 case c94=>exact fun W x hB hx=>(by
  have e:scaledQ [(F,1)] ax=[(F * ax,1)]:=rfl
  have h0:=Scale_ok [(F,1)] ax 1 (oneL F 1) x sx W (hG.below hB) (hP.below hB) hx hTF h4.1 (h4.2.mono (by decide)) (by rw [e];exact x1)
  rw [e,x2] at h0
  exact h0)
 case c98=>exact fun W b x hB hc hx=>(by
  have h0:=cPlus_ok b px 1 fx (oneT (F * ax) 1) (oneL (F * ax) 1) x W (hG.below hB) (hP.below hB) hc h1.1 (oneC_unit (h1.2.mono (by decide))).1 hx hTX sx1
  rw [sx2] at h0
  exact h0)
 case c104=>exact fun W x hB hx=>(by
  have e:scaledQ [(F,1)] ay=[(F * ay,1)]:=rfl
  have h0:=Scale_ok [(F,1)] ay 1 (oneL F 1) x sy W (hG.below hB) (hP.below hB) hx hTF h5.1 (h5.2.mono (by decide)) (by rw [e];exact y1)
  rw [e,y2] at h0
  exact h0)
 case c108=>exact fun W b x hB hc hx=>(by
  have h0:=cPlus_ok b py 1 fy (oneT (F * ay) 1) (oneL (F * ay) 1) x W (hG.below hB) (hP.below hB) hc h2.1 (oneC_unit (h2.2.mono (by decide))).1 hx hTY sy1
  rw [sy2] at h0
  exact h0)
 case c113=>exact fun W x y hB hx hy=>(by rw [← z2];exact Mul_ok [(l * cw * d,nr)] S 1 _ M x y W (hG.below hB) (hP.below hB) hx hy hTR hS z1)
 case c117=>exact fun W b x hB hc hx=>(by
  have h0:=cPlus_ok b pz 1 fz (oneT R 1) (oneL R 1) x W (hG.below hB) (hP.below hB) hc h3.1 (oneC_unit (h3.2.mono (by decide))).1 hx hTZ sz1'
  rw [sz2'] at h0
  exact h0)
end Go.Proofs.YtbbclfbpllbbbaaGreatDoor
namespace Go.Proofs.YtbbclfbpllbbbaaGreatDoor
open Go.RowKit Go.Shelf
theorem OfI_ok (n:Int) (d:Nat) (w:World) (hG:Glo w) (hn0 : -1000000000000000000≤n) (hn:n≤1000000000000000000) (hd:d≤1000000000000000000) (hd0:0 < d) :
  Calls Tryz.prog 23 #[.int .i64 n,.int .i64 (d:Int)] w (RetN (Rat.divInt n d) w):=by
 have HI:=Lib.hid (fun (x:Int) (hx0 : -1000000000000000000≤x) (hx:x≤1000000000000000000) W hG=>itoa_any x (by omega) (by omega) W hG)
 have HG:=Lib.hid hG
 have d0:¬ ((d:Int)=0):=by omega
 by_cases h1:d=1
 ·subst h1
  have e:Lib.itoa n=ratText (Rat.divInt n (1:Nat)):=by
   rw [show Rat.divInt n ((1:Nat):Int)=(n:Rat) from by rw [Rat.divInt_ofNat,Rat.mkRat_one],ratText_int]
  have HE:=Lib.hid e
  clear e hG
  go_enter Tryz.func23,Tryz.ntmps23
  go_wp2_with fail
  refine (HI.out n hn0 hn _ (HG.out.below qbl)).mono ?_
  rintro e w1 ⟨r,hr,rfl,hB1⟩
  have HR:=Lib.hid hr
  clear hr
  go_wp2_with fail
  go_ret2
  exact ⟨r,by rw [HR.out,HE.out],rfl,hB1⟩
 ·have d1:¬ ((d:Int)=1):=by omega
  have HN:=Lib.hid (fun (s t:ByteArray) W hG hs ht=>Qnumber_ok n (d:Int) s t W hG hs (fit_of_lt (Nat.lt_of_le_of_lt (show n.natAbs≤1000000000000000000 by omega) (Nat.lt_of_lt_of_le (by decide:1000000000000000000 < 10 ^ 19) (pow10_le (a:=19) (b:=300) (by decide))))) ht (fit_nat (Nat.lt_of_le_of_lt hd (Nat.lt_of_lt_of_le (by decide:1000000000000000000 < 10 ^ 19) (pow10_le (a:=19) (b:=300) (by decide))))) (by omega))
  clear hG h1 hd0
  go_enter Tryz.func23,Tryz.ntmps23
  go_wp2_with fail
  refine (HI.out n hn0 hn _ (HG.out.below qbl)).mono ?_
  rintro e w1 ⟨r,hr,rfl,hB1⟩
  have HR:=Lib.hid hr
  clear hr
  go_wp2_with fail
  refine (HI.out (d:Int) (by omega) (by omega) _ (HG.out.below hB1)).mono ?_
  rintro e w2 ⟨s,hs,rfl,hB2⟩
  have hb2:=below_trans' hB1 hB2
  have HS:=Lib.hid hs
  clear hs hB2 hB1
  go_wp2_with fail
  refine (HN.out r s _ (HG.out.below hb2) HR.out HS.out).mono ?_
  rintro e w3 ⟨t,ht,rfl,hB3⟩
  have hb3:=below_trans' hb2 hB3
  have HT:=Lib.hid ht
  clear ht hB3
  go_wp2_with fail
  go_ret2
  exact ⟨t,HT.out,rfl,hb3⟩
theorem lawNum_ok (q:Rat) (n d:Int) (w:World) (h:Calls Tryz.prog 23 #[.int .i64 n,.int .i64 d] w (RetN q w)) :
  Calls Tryz.prog 14 #[.int .i64 n,.int .i64 d] w (RetB (.string (numS q)) w):=by
 have H:=Lib.hid h
 clear h
 go_enter Tryz.func14,Tryz.ntmps14
 go_wp2_with fail
 refine H.out.mono ?_
 rintro e w1 ⟨r,hr,rfl,hB1⟩
 obtain rfl:=numS_of hr
 clear hr
 go_wp2_with fail
 go_ret
 exact ⟨rfl,hB1⟩
theorem oneC_diff {c:Rat} (hc:Sz 59 c):OneC (toQ (oneT c 1)++scaledQ (oneT c 1) (-1)) 1∧gsum (toQ (oneT c 1)++scaledQ (oneT c 1) (-1))=0:=by
 by_cases h:c=0
 ·subst h
  rw [oneT_zero]
  exact ⟨oneC_nil,by decide +kernel⟩
 ·rw [oneT_ne h]
  have e:c+c * -1=0:=by rw [Rat.mul_neg,Rat.mul_one,Rat.add_neg_cancel]
  have hn:Sz 60 (c * -1):=by
   rw [Rat.mul_neg,Rat.mul_one]
   exact (show Sz 59 (-c) from ⟨by rw [Rat.neg_num,Int.natAbs_neg];exact hc.1,by rw [Rat.neg_den];exact hc.2⟩).mono (by decide)
  obtain ⟨a1,a2⟩:=oneC_unit2 (c:=c) (d:=c * -1) (hc.mono (by decide)) hn (by rw [e];exact sz0 (by decide))
  exact ⟨a1,by rw [← e];exact a2⟩
end Go.Proofs.YtbbclfbpllbbbaaGreatDoor
namespace Go.Proofs.YtbbclfbpllbbbaaGreatDoor
open Go.RowKit Go.Shelf
end Go.Proofs.YtbbclfbpllbbbaaGreatDoor
namespace Go.Proofs.YtbbclfbpllbbbaaGreatDoor
open Go.RowKit Go.Shelf
def Ret3S (p q r:Rat) (w:World) (e:Ending) (w':World):Prop:=∃ x y z:ByteArray,x.data.toList=ratText p∧y.data.toList=ratText q∧z.data.toList=ratText r∧e=.returned (.tuple #[.agg #[.string x,.string y,.string z],.int .i64 0])∧Below w.heap.size w w'
theorem BoxT3.frz {t:TypeId} {W:World} {b:Nat} {x y z:Value} (h:BoxT3 t W b x y z) (k:Nat):W.frozen? ⟨b,k,none⟩=false:=by simp [World.frozen?,show W.heap[b]?=_ from h]
theorem BoxT3.set0 {t:TypeId} {W:World} {b:Nat} {x y z:Value} (h:BoxT3 t W b x y z) (v:Value):BoxT3 t (W.setCell ⟨b,0,none⟩ v) b v y z:=heap_setCell_at h
theorem BoxT3.set1 {t:TypeId} {W:World} {b:Nat} {x y z:Value} (h:BoxT3 t W b x y z) (v:Value):BoxT3 t (W.setCell ⟨b,1,none⟩ v) b x v z:=heap_setCell_at h
theorem BoxT3.set2 {t:TypeId} {W:World} {b:Nat} {x y z:Value} (h:BoxT3 t W b x y z) (v:Value):BoxT3 t (W.setCell ⟨b,2,none⟩ v) b x y v:=heap_setCell_at h
theorem Tryz.infoSpot:(Tryz.prog.info? 37).map (·.size)=some 3:=by kernel_rfl
theorem vBoth_ok (x y z x' y' z':ByteArray) (p q r p' q' r':Rat) (w:World) (hG:Glo w) (hx:IsQ x p) (hy:IsQ y q) (hz:IsQ z r) (hx':IsQ x' p') (hy':IsQ y' q') (hz':IsQ z' r') :
  Calls Tryz.prog 186 #[.agg #[.string x,.string y,.string z],.agg #[.string x',.string y',.string z']] w (RetB (.int .i64 0) w):=by
 have H1:=Lib.hid (fun W hG=>vCheck_ok x y z p q r W hG hx hy hz)
 have H2:=Lib.hid (fun W hG=>vCheck_ok x' y' z' p' q' r' W hG hx' hy' hz')
 have HG:=Lib.hid hG
 clear hG hx hy hz hx' hy' hz'
 go_enter Tryz.func186,Tryz.ntmps186
 go_wp2_with fail
 have hb0:Below w.heap.size w ((w.alloc (.cells #[.string x,.string y,.string z] 37)).alloc (.cells #[.string x',.string y',.string z'] 37)):=qbl
 have x0:BoxT3 37 ((w.alloc (.cells #[.string x,.string y,.string z] 37)).alloc (.cells #[.string x',.string y',.string z'] 37)) (w.heap.size+1) (.string x') (.string y') (.string z'):=BoxT3.new (by simp)
 generalize (w.alloc (.cells #[.string x,.string y,.string z] 37)).alloc (.cells #[.string x',.string y',.string z'] 37)=W0 at *
 refine (H1.out _ (HG.out.below hb0)).mono ?_
 rintro e w1 ⟨rfl,hB1⟩
 have hb1:=below_trans' hb0 hB1
 replace x0:=BoxT3.below x0 hB1
 clear hB1 hb0 H1
 have c0:=x0.c0
 have c1:=x0.c1
 have c2:=x0.c2
 go_wp2_with fail
 refine (H2.out _ (HG.out.below hb1)).mono ?_
 rintro e w2 ⟨rfl,hB2⟩
 have hb2:=below_trans' hb1 hB2
 clear hB2 hb1 H2
 go_wp2_with fail
 go_ret
 exact ⟨rfl,hb2⟩
theorem vOf_ok (x y z:ByteArray) (w:World):Calls Tryz.prog 230 #[.agg #[.string x,.string y,.string z]] w (RetB (.agg #[.string x,.string y,.string z]) w):=by
 go_enter Tryz.func230,Tryz.ntmps230
 go_wp2_with fail
 refine bodyPost_ret (v:=.agg #[.string x,.string y,.string z]) (by simp [results,Tryz.results230,go_sem]) rfl ?_
 exact ⟨rfl,qbl⟩
theorem vWith_ok (F:Nat) (x y z x' y' z':ByteArray) (p q r:Rat) (w:World) (hG:Glo w)
  (hE:∀ args w,(callFunc F args).run Tryz.prog w=.ok (.enter F args) w)
  (h1:∀ W,Glo W→Calls Tryz.prog F #[.string x,.string x'] W (RetN p W)) (h2:∀ W,Glo W→Calls Tryz.prog F #[.string y,.string y'] W (RetN q W)) (h3:∀ W,Glo W→Calls Tryz.prog F #[.string z,.string z'] W (RetN r W)) :
  Calls Tryz.prog 187 #[.agg #[.string x,.string y,.string z],.agg #[.string x',.string y',.string z'],.func (.func F) #[] #[]] w (Ret3S p q r w):=by
 have HL:=Lib.hid (fun a b c W=>vList_ok a b c W)
 have HO:=Lib.hid (fun a b c W=>vOf_ok a b c W)
 have H1:=Lib.hid h1
 have H2:=Lib.hid h2
 have H3:=Lib.hid h3
 have HG:=Lib.hid hG
 have hi0:=fun W=>(spot_index x y z W).1
 have hi1:=fun W=>(spot_index x y z W).2.1
 have hi2:=fun W=>(spot_index x y z W).2.2
 clear hG h1 h2 h3
 go_enter Tryz.func187,Tryz.ntmps187
 go_wp2_with fail
 have hb0:Below w.heap.size w ((((w.alloc (.cells #[.string x,.string y,.string z] 207)).alloc (.cells #[.string x',.string y',.string z'] 207)).alloc (.cells #[.string ⟨#[]⟩,.string ⟨#[]⟩,.string ⟨#[]⟩] 37)).alloc (.cells #[.string ⟨#[]⟩,.string ⟨#[]⟩,.string ⟨#[]⟩] 206)):=qbl
 have a0:BoxT3 207 ((((w.alloc (.cells #[.string x,.string y,.string z] 207)).alloc (.cells #[.string x',.string y',.string z'] 207)).alloc (.cells #[.string ⟨#[]⟩,.string ⟨#[]⟩,.string ⟨#[]⟩] 37)).alloc (.cells #[.string ⟨#[]⟩,.string ⟨#[]⟩,.string ⟨#[]⟩] 206)) w.heap.size (.string x) (.string y) (.string z):=(BoxT3.new rfl).below (bw4 (bw4 (bw4 (bw0 _ _) _) _) _)
 have a2:BoxT3 37 ((((w.alloc (.cells #[.string x,.string y,.string z] 207)).alloc (.cells #[.string x',.string y',.string z'] 207)).alloc (.cells #[.string ⟨#[]⟩,.string ⟨#[]⟩,.string ⟨#[]⟩] 37)).alloc (.cells #[.string ⟨#[]⟩,.string ⟨#[]⟩,.string ⟨#[]⟩] 206)) (w.heap.size+2) (.string ⟨#[]⟩) (.string ⟨#[]⟩) (.string ⟨#[]⟩):=(BoxT3.new (by simp)).below (bw4 (bw0 _ _) _)
 have a3:BoxT3 206 ((((w.alloc (.cells #[.string x,.string y,.string z] 207)).alloc (.cells #[.string x',.string y',.string z'] 207)).alloc (.cells #[.string ⟨#[]⟩,.string ⟨#[]⟩,.string ⟨#[]⟩] 37)).alloc (.cells #[.string ⟨#[]⟩,.string ⟨#[]⟩,.string ⟨#[]⟩] 206)) (w.heap.size+3) (.string ⟨#[]⟩) (.string ⟨#[]⟩) (.string ⟨#[]⟩):=BoxT3.new (by simp)
 generalize ((((w.alloc (.cells #[.string x,.string y,.string z] 207)).alloc (.cells #[.string x',.string y',.string z'] 207)).alloc (.cells #[.string ⟨#[]⟩,.string ⟨#[]⟩,.string ⟨#[]⟩] 37)).alloc (.cells #[.string ⟨#[]⟩,.string ⟨#[]⟩,.string ⟨#[]⟩] 206))=W0 at *
 refine (HL.out x' y' z' W0).mono ?_
 rintro e w1 ⟨rfl,hB1⟩
 have hb1:=below_trans' hb0 hB1
 replace a0:=a0.below hB1
 replace a2:=a2.below hB1
 replace a3:=a3.below hB1
 clear hB1 hb0
 have c0:=(a0.below (bw4 (bw0 _ _) (.cells #[.string x',.string y',.string z'] 206))).c0
 have c1:=(a0.below (bw4 (bw0 _ _) (.cells #[.string x',.string y',.string z'] 206))).c1
 have c2:=(a0.below (bw4 (bw0 _ _) (.cells #[.string x',.string y',.string z'] 206))).c2
 go_wp2_with fail
 have hb2:Below w.heap.size w (w1.alloc (.cells #[.string x',.string y',.string z'] 206)):=bw4 hb1 _
 have a4:BoxT3 206 (w1.alloc (.cells #[.string x',.string y',.string z'] 206)) w1.heap.size (.string x') (.string y') (.string z'):=BoxT3.new rfl
 have z1:w.heap.size+3 < w1.heap.size:=a3.lt
 replace a2:=a2.below (bw4 (bw0 _ _) (.cells #[.string x',.string y',.string z'] 206))
 replace a3:=a3.below (bw4 (bw0 _ _) (.cells #[.string x',.string y',.string z'] 206))
 clear a0 c0 c1 c2 hb1
 generalize w1.alloc (.cells #[.string x',.string y',.string z'] 206)=W1 at *
 generalize w1.heap.size=m1 at *
 refine (HL.out x y z W1).mono ?_
 rintro e w2 ⟨rfl,hB2⟩
 have hb3:=below_trans' hb2 hB2
 replace a2:=a2.below hB2
 replace a3:=a3.below hB2
 replace a4:=a4.below hB2
 clear hB2 hb2
 go_wp2_with fail
 go_loopw [18] (fun i wr=>Below w.heap.size w wr∧BoxT3 206 wr m1 (.string x') (.string y') (.string z')∧BoxT3 37 wr (w.heap.size+2) (.string ⟨#[]⟩) (.string ⟨#[]⟩) (.string ⟨#[]⟩)∧∃ a b c:ByteArray,BoxT3 206 wr (w.heap.size+3) (.string a) (.string b) (.string c)∧((i=.int .i64 0)∨(i=.int .i64 1∧Hid (a.data.toList=ratText p))∨(i=.int .i64 2∧Hid (a.data.toList=ratText p∧b.data.toList=ratText q))∨(i=.int .i64 3∧Hid (a.data.toList=ratText p∧b.data.toList=ratText q∧c.data.toList=ratText r)))) (fun i _=>3 - (intOf i).toNat)
 case atStart=>exact ⟨hb3,a4,a2,_,_,_,a3,.inl rfl⟩
 case round =>
  obtain ⟨hB,b4,b2,a,b,c,b3,hst⟩:=hrel
  have c0:=b4.c0
  have c1:=b4.c1
  have c2:=b4.c2
  rcases hst with rfl|⟨rfl,ha⟩|⟨rfl,ha⟩|⟨rfl,ha⟩
  ·go_wp2_with fail
   refine (H1.out _ (HG.out.below hB)).mono ?_
   rintro e w4 ⟨s,hs,rfl,hB4⟩
   have hb4:=below_trans' hB hB4
   replace b4:=b4.below hB4
   replace b3:=b3.below hB4
   replace b2:=b2.below hB4
   have d0:=b3.c0
   have fz:=b3.frz 0
   clear hB4 hB c0 c1 c2
   go_wp2_with fail
   go_roundw
   case rel=>exact ⟨hb4.setCell (by show w.heap.size≤w.heap.size+3;omega) _,b4.but (sameBut_setCell _ _ _ _) (by omega),b2.but (sameBut_setCell _ _ _ _) (by omega),_,_,_,b3.set0 _,Or.inr (.inl ⟨rfl,Lib.hid hs⟩)⟩
   case measure=>simp [intOf]
  ·go_wp2_with fail
   refine (H2.out _ (HG.out.below hB)).mono ?_
   rintro e w4 ⟨s,hs,rfl,hB4⟩
   have hb4:=below_trans' hB hB4
   replace b4:=b4.below hB4
   replace b3:=b3.below hB4
   replace b2:=b2.below hB4
   have d0:=b3.c1
   have fz:=b3.frz 1
   clear hB4 hB c0 c1 c2
   go_wp2_with fail
   go_roundw
   case rel=>exact ⟨hb4.setCell (by show w.heap.size≤w.heap.size+3;omega) _,b4.but (sameBut_setCell _ _ _ _) (by omega),b2.but (sameBut_setCell _ _ _ _) (by omega),_,_,_,b3.set1 _,Or.inr (.inr (.inl ⟨rfl,Lib.hid ⟨ha.out,hs⟩⟩))⟩
   case measure=>simp [intOf]
  ·go_wp2_with fail
   refine (H3.out _ (HG.out.below hB)).mono ?_
   rintro e w4 ⟨s,hs,rfl,hB4⟩
   have hb4:=below_trans' hB hB4
   replace b4:=b4.below hB4
   replace b3:=b3.below hB4
   replace b2:=b2.below hB4
   have d0:=b3.c2
   have fz:=b3.frz 2
   clear hB4 hB c0 c1 c2
   go_wp2_with fail
   go_roundw
   case rel=>exact ⟨hb4.setCell (by show w.heap.size≤w.heap.size+3;omega) _,b4.but (sameBut_setCell _ _ _ _) (by omega),b2.but (sameBut_setCell _ _ _ _) (by omega),_,_,_,b3.set2 _,Or.inr (.inr (.inr ⟨rfl,Lib.hid ⟨ha.out.1,ha.out.2,hs⟩⟩))⟩
   case measure=>simp [intOf]
  ·have e0:=b3.c0
   have e1:=b3.c1
   have e2:=b3.c2
   go_wp2_with fail
   refine (HO.out a b c _).mono ?_
   rintro e w4 ⟨rfl,hB4⟩
   have hb4:=below_trans' hB hB4
   replace b2:=b2.below hB4
   clear hB4 hB c0 c1 c2
   go_wp2_with (refine wpList_store3 rfl _ _ _ rfl b2 Tryz.infoSpot rfl rfl rfl rfl rfl ?_;intro Wz hS hx;have hbz:Below w.heap.size w Wz:=hS.below hb4 (by omega);have g0:=hx.c0;have g1:=hx.c1;have g2:=hx.c2;clear hS b2 hb4)
   refine bodyPost_ret (v:=.tuple #[.agg #[.string a,.string b,.string c],.int .i64 0]) (by simp [results,Tryz.results187,go_sem,g0,g1,g2]) rfl ?_
   exact ⟨a,b,c,ha.out.1,ha.out.2.1,ha.out.2.2,rfl,hbz⟩
end Go.Proofs.YtbbclfbpllbbbaaGreatDoor
namespace Go.Proofs.YtbbclfbpllbbbaaGreatDoor
open Go.RowKit Go.Shelf
def IsS (s:ByteArray) (q:Rat):Prop:=s.data.toList=ratText q∧Small q
theorem IsS.q {s:ByteArray} {q:Rat} (h:IsS s q):IsQ s q:=⟨h.1,Nat.lt_of_lt_of_le h.2.1 (pow10_le (a:=8) (b:=90) (by decide)),Nat.lt_of_lt_of_le h.2.2 (pow10_le (a:=8) (b:=90) (by decide))⟩
theorem vSub_ok (x y z x' y' z':ByteArray) (p q r p' q' r':Rat) (w:World) (hG:Glo w) (hx:IsS x p) (hy:IsS y q) (hz:IsS z r) (hx':IsS x' p') (hy':IsS y' q') (hz':IsS z' r') :
  Calls Tryz.prog 126 #[.agg #[.string x,.string y,.string z],.agg #[.string x',.string y',.string z']] w (Ret3S (p - p') (q - q') (r - r') w):=by
 have H1:=Lib.hid (fun W hG=>vBoth_ok x y z x' y' z' p q r p' q' r' W hG hx.q hy.q hz.q hx'.q hy'.q hz'.q)
 have H2:=Lib.hid (fun W hG=>vWith_ok 111 x y z x' y' z' (p - p') (q - q') (r - r') W hG (enters_of Tryz.func111 (by kernel_rfl) rfl) (fun W hG=>Sub_small x x' W hG hx.1 hx.2 hx'.1 hx'.2) (fun W hG=>Sub_small y y' W hG hy.1 hy.2 hy'.1 hy'.2) (fun W hG=>Sub_small z z' W hG hz.1 hz.2 hz'.1 hz'.2))
 have HG:=Lib.hid hG
 generalize p - p'=P at *
 generalize q - q'=Q at *
 generalize r - r'=R at *
 clear hG hx hy hz hx' hy' hz'
 go_enter Tryz.func126,Tryz.ntmps126
 go_wp2_with fail
 have hb0:Below w.heap.size w (((w.alloc (.cells #[.string x,.string y,.string z] 37)).alloc (.cells #[.string x',.string y',.string z'] 37)).alloc (.cells #[.string ⟨#[]⟩,.string ⟨#[]⟩,.string ⟨#[]⟩] 37)):=qbl
 have x0:BoxT3 37 (((w.alloc (.cells #[.string x,.string y,.string z] 37)).alloc (.cells #[.string x',.string y',.string z'] 37)).alloc (.cells #[.string ⟨#[]⟩,.string ⟨#[]⟩,.string ⟨#[]⟩] 37)) w.heap.size (.string x) (.string y) (.string z):=(BoxT3.new rfl).below (bw4 (bw4 (bw0 _ _) _) _)
 have x1:BoxT3 37 (((w.alloc (.cells #[.string x,.string y,.string z] 37)).alloc (.cells #[.string x',.string y',.string z'] 37)).alloc (.cells #[.string ⟨#[]⟩,.string ⟨#[]⟩,.string ⟨#[]⟩] 37)) (w.heap.size+1) (.string x') (.string y') (.string z'):=(BoxT3.new (by simp)).below (bw4 (bw0 _ _) _)
 have x2:BoxT3 37 (((w.alloc (.cells #[.string x,.string y,.string z] 37)).alloc (.cells #[.string x',.string y',.string z'] 37)).alloc (.cells #[.string ⟨#[]⟩,.string ⟨#[]⟩,.string ⟨#[]⟩] 37)) (w.heap.size+2) (.string ⟨#[]⟩) (.string ⟨#[]⟩) (.string ⟨#[]⟩):=BoxT3.new (by simp)
 generalize ((w.alloc (.cells #[.string x,.string y,.string z] 37)).alloc (.cells #[.string x',.string y',.string z'] 37)).alloc (.cells #[.string ⟨#[]⟩,.string ⟨#[]⟩,.string ⟨#[]⟩] 37)=W0 at *
 refine (H1.out _ (HG.out.below hb0)).mono ?_
 rintro e w1 ⟨rfl,hB1⟩
 have hb1:=below_trans' hb0 hB1
 replace x0:=x0.below hB1
 replace x1:=x1.below hB1
 replace x2:=x2.below hB1
 clear hB1 hb0 H1
 have c0:=x0.c0
 have c1:=x0.c1
 have c2:=x0.c2
 have d0:=x1.c0
 have d1:=x1.c1
 have d2:=x1.c2
 go_wp2_with fail
 refine (H2.out _ (HG.out.below hb1)).mono ?_
 rintro e w2 ⟨a,b,c,ha,hb,hc,rfl,hB2⟩
 have hb2:=below_trans' hb1 hB2
 replace x2:=x2.below hB2
 have HA:=Lib.hid ha
 have HB:=Lib.hid hb
 have HC:=Lib.hid hc
 clear hB2 hb1 H2 ha hb hc c0 c1 c2 d0 d1 d2 x0 x1
 go_wp2_with (refine wpList_store3 rfl _ _ _ rfl x2 Tryz.infoSpot rfl rfl rfl rfl rfl ?_;intro Wz hS hx;have hbz:Below w.heap.size w Wz:=hS.below hb2 (by omega);have g0:=hx.c0;have g1:=hx.c1;have g2:=hx.c2;clear hS x2 hb2)
 refine bodyPost_ret (v:=.tuple #[.agg #[.string a,.string b,.string c],.int .i64 0]) (by simp [results,Tryz.results126,go_sem,g0,g1,g2]) rfl ?_
 exact ⟨a,b,c,HA.out,HB.out,HC.out,rfl,hbz⟩
theorem vDot_ok (x y z:ByteArray) (p q r:Rat) (w:World) (hG:Glo w) (hx:IsS x p) (hy:IsS y q) (hz:IsS z r) (h1:Small (p * p)) (h2:Small (q * q)) (h3:Small (r * r)) (h4:Small (p * p+q * q)) :
  Calls Tryz.prog 182 #[.agg #[.string x,.string y,.string z],.agg #[.string x,.string y,.string z]] w (RetN (p * p+q * q+r * r) w):=by
 have H1:=Lib.hid (fun W hG=>vWith_ok 49 x y z x y z (p * p) (q * q) (r * r) W hG (enters_of Tryz.func49 (by kernel_rfl) rfl) (fun W hG=>Mul_small x x W hG hx.1 hx.2 hx.1 hx.2) (fun W hG=>Mul_small y y W hG hy.1 hy.2 hy.1 hy.2) (fun W hG=>Mul_small z z W hG hz.1 hz.2 hz.1 hz.2))
 have H2:=Lib.hid (fun (s t:ByteArray) W hG (hs:s.data.toList=ratText (p * p)) (ht:t.data.toList=ratText (q * q))=>Add_small s t W hG hs h1 ht h2)
 have H3:=Lib.hid (fun (s t:ByteArray) W hG (hs:s.data.toList=ratText (p * p+q * q)) (ht:t.data.toList=ratText (r * r))=>Add_small s t W hG hs h4 ht h3)
 have HG:=Lib.hid hG
 generalize p * p+q * q=S at *
 generalize p * p=P at *
 generalize q * q=Q at *
 generalize r * r=R at *
 generalize S+R=T at *
 clear hG hx hy hz h1 h2 h3 h4
 go_enter Tryz.func182,Tryz.ntmps182
 go_wp2_with fail
 have hb0:Below w.heap.size w ((w.alloc (.cells #[.string x,.string y,.string z] 207)).alloc (.cells #[.string x,.string y,.string z] 207)):=qbl
 refine (H1.out _ (HG.out.below hb0)).mono ?_
 rintro e w2 ⟨a,b,c,ha,hb,hc,rfl,hB2⟩
 have hb2:=below_trans' hb0 hB2
 have HA:=Lib.hid ha
 have HB:=Lib.hid hb
 have HC:=Lib.hid hc
 clear hB2 hb0 H1 ha hb hc
 go_wp2_with fail
 have hb3:Below w.heap.size w (w2.alloc (.cells #[.string a,.string b,.string c] 37)):=bw4 hb2 _
 have x3:BoxT3 37 (w2.alloc (.cells #[.string a,.string b,.string c] 37)) w2.heap.size (.string a) (.string b) (.string c):=BoxT3.new rfl
 generalize w2.alloc (.cells #[.string a,.string b,.string c] 37)=W3 at *
 refine (H2.out a b W3 (HG.out.below hb3) HA.out HB.out).mono ?_
 rintro e w4 ⟨s,hs,rfl,hB4⟩
 have hb4:=below_trans' hb3 hB4
 have c2:=(x3.below hB4).c2
 have HS:=Lib.hid hs
 clear hB4 hb3 hb2 hs x3
 go_wp2_with fail
 refine (H3.out s c _ (HG.out.below hb4) HS.out HC.out).mono ?_
 rintro e w5 ⟨u,hu,rfl,hB5⟩
 have hb5:=below_trans' hb4 hB5
 have HU:=Lib.hid hu
 clear hB5 hb4 hu c2
 go_wp2_with fail
 go_ret2
 exact ⟨u,HU.out,rfl,hb5⟩
end Go.Proofs.YtbbclfbpllbbbaaGreatDoor
namespace Go.Proofs.YtbbclfbpllbbbaaGreatDoor
open Go.RowKit Go.Shelf
theorem vLength_ok (x y z:ByteArray) (p q r:Rat) (w:World) (hG:Glo w) (hP:Pri w) (hx:IsS x p) (hy:IsS y q) (hz:IsS z r) (h1:Small (p * p)) (h2:Small (q * q)) (h3:Small (r * r)) (h4:Small (p * p+q * q)) (h5:Sz 20 (p * p+q * q+r * r)) (h6:0 < (p * p+q * q+r * r).num) :
  Calls Tryz.prog 122 #[.agg #[.string x,.string y,.string z]] w (RetSd (oneL (normQ (p * p+q * q+r * r)).1 (normQ (p * p+q * q+r * r)).2) w):=by
 have H1:=Lib.hid (fun W hG=>vCheck_ok x y z p q r W hG hx.q hy.q hz.q)
 have H2:=Lib.hid (fun W hG=>vDot_ok x y z p q r W hG hx hy hz h1 h2 h3 h4)
 generalize p * p+q * q+r * r=D at *
 obtain ⟨a1,a2,a3,a4,a5,a6⟩:=oneC_root (c:=1) (q:=D) (k:=20) (sz1 (by decide)) (by decide +kernel) h5 h6 (by decide)
 have H3:=Lib.hid (show ∀ W,Glo W→Pri W→Calls Tryz.prog 83 #[.string (numS D)] W (RetB (.tuple #[.string (numS (normQ D).1),.string (decS (normQ D).2),.int .i64 0]) W) from fun W hG hP=>Normal_ok D W hG hP (h5.mono (by decide)) (Int.le_of_lt h6))
 rw [Rat.one_mul] at a2
 have hIs:=a1.is
 rw [a2] at hIs
 have H4:=Lib.hid (fun u W hG hP hu=>sCheck_yes (oneL (normQ D).1 (normQ D).2) (oneT (normQ D).1 (normQ D).2) u W hG hP hu hIs)
 have hne:((numS (normQ D).1).toList == [48])=false:=by
  rw [Lib.toList_data,numS_list,text_eq0,decide_eq_false (ne_of_pos a3)]
 have hone:oneL (normQ D).1 (normQ D).2=[(numS (normQ D).1,decS (normQ D).2)]:=by unfold oneL;rw [if_neg (ne_of_pos a3)]
 have HG:=Lib.hid hG
 have HP:=Lib.hid hP
 rw [hone] at H4 ⊢
 generalize numS (normQ D).1=C at *
 generalize decS (normQ D).2=N at *
 clear hG hP hx hy hz h1 h2 h3 h4 h5 h6 hIs a1 a2 a3 a4 a5 a6 hone
 go_enter Tryz.func122,Tryz.ntmps122
 go_wp2_with fail
 have hb0:Below w.heap.size w (w.alloc (.cells #[.string x,.string y,.string z] 37)):=qbl
 have x0:BoxT3 37 (w.alloc (.cells #[.string x,.string y,.string z] 37)) w.heap.size (.string x) (.string y) (.string z):=BoxT3.new rfl
 generalize w.alloc (.cells #[.string x,.string y,.string z] 37)=W0 at *
 refine (H1.out _ (HG.out.below hb0)).mono ?_
 rintro e w1 ⟨rfl,hB1⟩
 have hb1:=below_trans' hb0 hB1
 replace x0:=x0.below hB1
 have c0:=x0.c0
 have c1:=x0.c1
 have c2:=x0.c2
 clear hB1 hb0 H1 x0
 go_wp2_with fail
 refine (H2.out _ (HG.out.below hb1)).mono ?_
 rintro e w2 ⟨s,hs,rfl,hB2⟩
 obtain rfl:=numS_of hs
 have hb2:=below_trans' hb1 hB2
 clear hB2 hb1 H2 hs c0 c1 c2
 go_wp2_with fail
 refine (H3.out _ (HG.out.below hb2) (HP.out.below hb2)).mono ?_
 rintro e w3 ⟨rfl,hB3⟩
 have hb3:=below_trans' hb2 hB3
 clear hB3 hb2 H3
 go_wp2_with fail
 have hb4:Below w.heap.size w (w3.alloc (.cells #[.string C,.string N] 70)):=bw4 hb3 _
 have y0:BoxT2 70 (w3.alloc (.cells #[.string C,.string N] 70)) w3.heap.size (.string C) (.string N):=BoxT2.new rfl
 generalize w3.alloc (.cells #[.string C,.string N] 70)=W4 at *
 have HI:=Lib.hid (isTerms_one y0)
 refine (H4.out _ W4 (HG.out.below hb4) (HP.out.below hb4) HI.out).mono ?_
 rintro e w5 ⟨rfl,hB5⟩
 have hb5:=below_trans' hb4 hB5
 have HJ:=Lib.hid (HI.out.below hB5)
 clear hB5 hb4 H4 HI y0
 go_wp2_with fail
 go_ret2
 exact ⟨_,rfl,HJ.out,hb5⟩
end Go.Proofs.YtbbclfbpllbbbaaGreatDoor
namespace Go.Proofs.YtbbclfbpllbbbaaGreatDoor
open Go.RowKit Go.Shelf
theorem longD_small {q:Rat} (h:Small q):(Lib.decDigits q.num.natAbs).length≤8∧(Lib.decDigits q.den).length≤8 :=
 ⟨len_of_lt (k:=8) h.1 (by decide),len_of_lt (k:=8) h.2 (by decide)⟩
theorem outside_ok (n a b:Int) (h1:¬ n < a) (h2:¬ b < n) (w:World):Calls Tryz.prog 183 #[.int .i64 n,.int .i64 a,.int .i64 b] w (RetB (.bool false) w):=by
 go_enter Tryz.func183,Tryz.ntmps183
 go_wp2_with fail
 go_ret
 exact ⟨rfl,bw0 _ _⟩
theorem ratText_hd {q:Rat} (h:0≤q.num):(ratText q).head?≠some 45:=by
 unfold ratText
 rcases itoa_cases q.num with ⟨h0,_⟩|⟨_,e⟩
 ·omega
 ·rw [e]
  split
  ·have:=decDigits_no45 q.num.natAbs []
   rwa [List.append_nil] at this
  ·exact decDigits_no45 _ _
theorem trim_hd {l:List UInt8} (h:l.head?≠some 45):Lib.trimPrefix l [45]=l:=by
 have h2:Lib.hasPrefix l [45]=false:=by
  cases hd:l with
  | nil=>rfl
  | cons a t =>
   rw [hd] at h
   simp only [Lib.hasPrefix,List.isPrefixOf,Bool.and_true]
   simpa using fun e=>h (by simp [← e])
 unfold Lib.trimPrefix
 rw [h2]
 rfl
theorem size_ok (q:Rat) (s:ByteArray) (w:World) (hs:s.data.toList=ratText q) (h0:0≤q.num):Calls Tryz.prog 75 #[.string s] w (RetB (.string (numS q)) w):=by
 have HTR:=Lib.hid (fun W=>trimPrefix_any s ⟨#[45]⟩ W (trim_hd (l:=s.data.toList) (by rw [hs];exact ratText_hd h0)))
 have HS:=Lib.hid hs
 clear hs h0
 go_enter Tryz.func75,Tryz.ntmps75
 go_wp2_with fail
 refine (HTR.out _).mono ?_
 rintro e wn ⟨z,hz,rfl,rfl⟩
 obtain rfl:=numS_of (hz.out.trans HS.out)
 go_wp2_with fail
 go_ret
 exact ⟨rfl,bw0 _ _⟩
theorem hLong1_ok {q:Rat} (s:ByteArray) (w:World) (hG:Glo w) (hs:IsS s q) :
  Calls Tryz.prog 229 #[.string s] w (RetB (.bool false) w):=by
 obtain ⟨hs,hq⟩:=hs
 have HPA:=Lib.hid (PartsQ_ok (k:=8) s w hG hs hq (by decide))
 obtain ⟨l1,l2⟩:=longD_small hq
 have HTR:=Lib.hid (fun (a:ByteArray) W (ha:a.data.toList=Lib.itoa q.num)=>trimPrefix_any a ⟨#[45]⟩ W (trimMinus ha))
 have HMX:=Lib.hid (fun (ts:Array TypeId) (t:TypeId) (w:World)=>max_nat (P:=Tryz.prog) (Lib.decDigits q.num.natAbs).length (Lib.decDigits q.den).length ts t w)
 have HL:=Lib.hid (fun (z:ByteArray) (hz:Hid (z.data.toList=Lib.decDigits q.num.natAbs))=>(by
  have h1:z.size=z.data.toList.length:=rfl
  rw [h1,hz.out]:z.size=(Lib.decDigits q.num.natAbs).length))
 have HK:=Lib.hid (fun (z:ByteArray) (hz:Hid (z.data.toList=Lib.decDigits q.den))=>(by
  have h1:z.size=z.data.toList.length:=rfl
  rw [h1,hz.out]:z.size=(Lib.decDigits q.den).length))
 have hM:¬ (36:Int) < ((max (Lib.decDigits q.num.natAbs).length (Lib.decDigits q.den).length:Nat):Int):=by omega
 generalize max (Lib.decDigits q.num.natAbs).length (Lib.decDigits q.den).length=M at *
 generalize (Lib.decDigits q.num.natAbs).length=X at *
 generalize (Lib.decDigits q.den).length=Y at *
 clear hs hG hq l1 l2
 go_enter Tryz.func229,Tryz.ntmps229
 go_wp2_with fail
 refine HPA.out.mono ?_
 rintro e w1 ⟨a,b,ha,hb,rfl,hB1⟩
 go_wp2_with fail
 refine (HTR.out a _ ha.out).mono ?_
 rintro e wn ⟨z,hz,rfl,rfl⟩
 have hzl:=HL.out z hz
 have hbl:=HK.out b hb
 have hmx:=HMX.out
 go_wp2_with fail
 go_ret
 exact ⟨by simp [hM],hB1⟩
theorem bLong_ok {q:Rat} (s:ByteArray) (w:World) (hG:Glo w) (hs:IsS s q) :
  Calls Tryz.prog 125 #[.string s] w (RetB (.bool false) w):=by
 obtain ⟨hs,hq⟩:=hs
 have HPA:=Lib.hid (PartsQ_ok (k:=8) s w hG hs hq (by decide))
 obtain ⟨l1,l2⟩:=longD_small hq
 have HTR:=Lib.hid (fun (a:ByteArray) W (ha:a.data.toList=Lib.itoa q.num)=>trimPrefix_any a ⟨#[45]⟩ W (trimMinus ha))
 have HL:=Lib.hid (fun (z:ByteArray) (hz:Hid (z.data.toList=Lib.decDigits q.num.natAbs))=>(by
  have h1:z.size=z.data.toList.length:=rfl
  rw [h1,hz.out]
  omega:¬ (12:Int) < (z.size:Int)))
 have HK:=Lib.hid (fun (z:ByteArray) (hz:Hid (z.data.toList=Lib.decDigits q.den))=>(by
  have h1:z.size=z.data.toList.length:=rfl
  rw [h1,hz.out]
  omega:¬ (12:Int) < (z.size:Int)))
 clear hs hG hq l1 l2
 go_enter Tryz.func125,Tryz.ntmps125
 go_wp2_with fail
 refine HPA.out.mono ?_
 rintro e w1 ⟨a,b,ha,hb,rfl,hB1⟩
 go_wp2_with fail
 refine (HTR.out a _ ha.out).mono ?_
 rintro e wn ⟨z,hz,rfl,rfl⟩
 have hzl:=HL.out z hz
 have hbl:=HK.out b hb
 go_wp2_with fail
 go_ret
 exact ⟨by simp [hzl,hbl],hB1⟩
end Go.Proofs.YtbbclfbpllbbbaaGreatDoor
namespace Go.Proofs.YtbbclfbpllbbbaaGreatDoor
open Go.RowKit Go.Shelf
theorem indexNum_no (F:Nat) (L:List ByteArray) (v:Value) (w:World) (hv:IsStrs w v L) (hl:L.length≤100000)
  (hE:∀ args w,(callFunc F args).run Tryz.prog w=.ok (.enter F args) w)
  (hF:∀ k (h:k < L.length),∀ W,Below w.heap.size w W→Calls Tryz.prog F #[.string L[k]] W (RetB (.bool false) W)) :
  Calls Tryz.prog 185 #[v,.func (.func F) #[] #[]] w (RetB (.int .i64 (-1)) w):=by
 obtain ⟨a,cap,rfl,h⟩:=hv
 have HC:=Lib.hid h
 have HF:=Lib.hid hF
 clear h hF
 go_enter Tryz.func185,Tryz.ntmps185
 go_wp2_with fail
 go_loopw [8] (fun i wr=>∃ k:Nat,k≤L.length∧i=.int .i64 k∧Below w.heap.size w wr) (fun i _=>L.length - (intOf i).toNat)
 case atStart=>exact ⟨0,by omega,rfl,bw0 _ _⟩
 case round =>
  obtain ⟨k,hk,rfl,hB⟩:=hrel
  by_cases hlt:k < L.length
  ·obtain ⟨b,off,rfl,hc⟩:=HC.out (fun h=>by rw [h] at hlt;simp at hlt)
   have d0:=keep hB (hc k hlt)
   have hf:=Lib.hid (HF.out k hlt wr hB)
   clear hc
   go_wp2_with fail
   refine hf.out.mono ?_
   rintro e w1 ⟨rfl,hB1⟩
   have hB2:Below w.heap.size w w1:=below_trans' hB hB1
   clear hB1 d0
   go_wp2_with fail
   go_roundw
   case rel=>exact ⟨k+1,hlt,by go_num,hB2⟩
   case measure=>simp [intOf];omega
  ·have e:k=L.length:=by omega
   subst e
   go_wp2_with fail
   go_ret
   exact ⟨rfl,hB⟩
theorem containsNum_no (F:Nat) (L:List ByteArray) (v:Value) (w:World) (hv:IsStrs w v L) (hl:L.length≤100000)
  (hE:∀ args w,(callFunc F args).run Tryz.prog w=.ok (.enter F args) w)
  (hF:∀ k (h:k < L.length),∀ W,Below w.heap.size w W→Calls Tryz.prog F #[.string L[k]] W (RetB (.bool false) W)) :
  Calls Tryz.prog 124 #[v,.func (.func F) #[] #[]] w (RetB (.bool false) w):=by
 have HI:=Lib.hid (indexNum_no F L v w hv hl hE hF)
 clear hF hv
 go_enter Tryz.func124,Tryz.ntmps124
 go_wp2_with fail
 refine HI.out.mono ?_
 rintro e w1 ⟨rfl,hB⟩
 go_wp2_with fail
 go_ret
 exact ⟨rfl,hB⟩
theorem isStrs3 {t:TypeId} {W:World} {b:Nat} {x y z:ByteArray} (h:BoxT3 t W b (.string x) (.string y) (.string z)):IsStrs W (.slice (some ⟨b,0,none⟩) 3 3) [x,y,z] :=
 ⟨some ⟨b,0,none⟩,3,rfl,fun _=>⟨b,0,rfl,fun k hk=>by
  match k,hk with
  | 0,_=>exact h.c0
  | 1,_=>exact h.c1
  | 2,_=>exact h.c2⟩⟩
theorem hLong_ok (x y z:ByteArray) (p q r:Rat) (w:World) (hG:Glo w) (hx:IsS x p) (hy:IsS y q) (hz:IsS z r) :
  Calls Tryz.prog 184 #[.agg #[.string x,.string y,.string z]] w (RetB (.bool false) w):=by
 have HF:=Lib.hid (fun (v:Value) W (hG:Glo W) (hv:IsStrs W v [x,y,z])=>containsNum_no 229 [x,y,z] v W hv (by show 3≤100000;decide) (enters_of Tryz.func229 (by kernel_rfl) rfl) (fun k hk W' hB=>by
  match k,hk with
  | 0,_=>exact hLong1_ok x W' (hG.below hB) hx
  | 1,_=>exact hLong1_ok y W' (hG.below hB) hy
  | 2,_=>exact hLong1_ok z W' (hG.below hB) hz))
 have HG:=Lib.hid hG
 clear hG hx hy hz
 go_enter Tryz.func184,Tryz.ntmps184
 go_wp2_with fail
 have hb0:Below w.heap.size w ((w.alloc (.cells #[.string x,.string y,.string z] 37)).alloc (.cells #[.string x,.string y,.string z] 34)):=qbl
 have x0:BoxT3 34 ((w.alloc (.cells #[.string x,.string y,.string z] 37)).alloc (.cells #[.string x,.string y,.string z] 34)) (w.heap.size+1) (.string x) (.string y) (.string z):=BoxT3.new (by simp)
 generalize (w.alloc (.cells #[.string x,.string y,.string z] 37)).alloc (.cells #[.string x,.string y,.string z] 34)=W0 at *
 refine (HF.out _ W0 (HG.out.below hb0) (isStrs3 x0)).mono ?_
 rintro e w1 ⟨rfl,hB1⟩
 have hb1:=below_trans' hb0 hB1
 clear hB1 hb0
 go_wp2_with fail
 go_ret
 exact ⟨rfl,hb1⟩
end Go.Proofs.YtbbclfbpllbbbaaGreatDoor
namespace Go.Proofs.YtbbclfbpllbbbaaGreatDoor
open Go.RowKit Go.Shelf
def memA (k f o wd dp:Int) (x y z x' y' z':ByteArray):Array Value:=#[.int .i64 k,.int .i64 f,.int .i64 o,.string x,.string y,.string z,.string x',.string y',.string z',.int .i64 wd,.int .i64 dp]
def BoxCs (t:TypeId) (W:World) (b:Nat) (A:Array Value):Prop:=W.heap[b]?=some (.cells A t (0,0))
theorem BoxCs.lt {t:TypeId} {W:World} {b:Nat} {A:Array Value} (h:BoxCs t W b A):b < W.heap.size:=(Array.getElem?_eq_some_iff.1 h).1
theorem BoxCs.below {t:TypeId} {w w':World} {b:Nat} {A:Array Value} (h:BoxCs t w b A) (hB:Below w.heap.size w w'):BoxCs t w' b A:=(hB.block b h.lt).trans h
theorem BoxCs.new {t:TypeId} {X:World} {n:Nat} {A:Array Value} (h:X.heap.size=n):BoxCs t (X.alloc (.cells A t)) n A:=by subst h;exact World.alloc_heap_new _ _
theorem BoxCs.c {t:TypeId} {W:World} {b:Nat} {A:Array Value} (h:BoxCs t W b A) (k:Nat):W.cell? ⟨b,k,none⟩=A[k]?:=by simp only [World.cell?,show W.heap[b]?=_ from h];simp
abbrev BoxM:=BoxCs 63
theorem boxM_cells {W:World} {b:Nat} {k f o wd dp:Int} {x y z x' y' z':ByteArray} (h:BoxM W b (memA k f o wd dp x y z x' y' z')) :
  W.cell? ⟨b,0,none⟩=some (.int .i64 k)∧W.cell? ⟨b,1,none⟩=some (.int .i64 f)∧W.cell? ⟨b,2,none⟩=some (.int .i64 o)∧W.cell? ⟨b,3,none⟩=some (.string x)∧W.cell? ⟨b,4,none⟩=some (.string y)∧W.cell? ⟨b,5,none⟩=some (.string z)
  ∧ W.cell? ⟨b,6,none⟩=some (.string x')∧W.cell? ⟨b,7,none⟩=some (.string y')∧W.cell? ⟨b,8,none⟩=some (.string z')∧W.cell? ⟨b,9,none⟩=some (.int .i64 wd)∧W.cell? ⟨b,10,none⟩=some (.int .i64 dp) :=
 ⟨BoxCs.c h 0,BoxCs.c h 1,BoxCs.c h 2,BoxCs.c h 3,BoxCs.c h 4,BoxCs.c h 5,BoxCs.c h 6,BoxCs.c h 7,BoxCs.c h 8,BoxCs.c h 9,BoxCs.c h 10⟩
theorem hCheck_ok (k f o wd dp:Int) (x y z x' y' z':ByteArray) (p q r p' q' r':Rat) (w:World) (hG:Glo w) (hk:¬ k < 1) (hk2:¬ 12 < k) (hf:¬ f < 0) (ho:¬ o < -1) (hw1:¬ wd < 1) (hw2:¬ 1000 < wd) (hd1:¬ dp < 1) (hd2:¬ 1000 < dp)
  (hx:IsS x p) (hy:IsS y q) (hz:IsS z r) (hx':IsS x' p') (hy':IsS y' q') (hz':IsS z' r') (hne:¬ (p=p'∧q=q'∧r=r')) :
  Calls Tryz.prog 123 #[.agg (memA k f o wd dp x y z x' y' z')] w (RetB (.int .i64 0) w):=by
 have H1:=Lib.hid (fun W=>outside_ok k 1 12 hk hk2 W)
 have H2:=Lib.hid (fun W=>outside_ok wd 1 1000 hw1 hw2 W)
 have H3:=Lib.hid (fun W=>outside_ok dp 1 1000 hd1 hd2 W)
 have H4:=Lib.hid (fun W hG=>vCheck_ok x y z p q r W hG hx.q hy.q hz.q)
 have H5:=Lib.hid (fun W hG=>vCheck_ok x' y' z' p' q' r' W hG hx'.q hy'.q hz'.q)
 have H6:=Lib.hid (fun W hG=>hLong_ok x y z p q r W hG hx hy hz)
 have H7:=Lib.hid (fun W hG=>hLong_ok x' y' z' p' q' r' W hG hx' hy' hz')
 have HG:=Lib.hid hG
 have e1:decide (f < 0)=false:=decide_eq_false hf
 have e2:decide (o < -1)=false:=decide_eq_false ho
 have HNE:=Lib.hid (show ¬ (x.toList=x'.toList∧y.toList=y'.toList∧z.toList=z'.toList) from fun h=>hne ⟨ratText_injP (by rw [← hx.1,← hx'.1,← Lib.toList_data,← Lib.toList_data];exact h.1),ratText_injP (by rw [← hy.1,← hy'.1,← Lib.toList_data,← Lib.toList_data];exact h.2.1),ratText_injP (by rw [← hz.1,← hz'.1,← Lib.toList_data,← Lib.toList_data];exact h.2.2)⟩)
 unfold memA
 clear hG hk hk2 hf ho hw1 hw2 hd1 hd2 hx hy hz hx' hy' hz' hne
 go_enter Tryz.func123,Tryz.ntmps123
 go_wp2_with fail
 have hb0:Below w.heap.size w (w.alloc (.cells (memA k f o wd dp x y z x' y' z') 63)):=bw4 (bw0 _ _) _
 have x0:BoxM (w.alloc (.cells (memA k f o wd dp x y z x' y' z') 63)) w.heap.size (memA k f o wd dp x y z x' y' z'):=BoxCs.new rfl
 unfold memA at hb0 x0
 generalize w.alloc (.cells #[.int .i64 k,.int .i64 f,.int .i64 o,.string x,.string y,.string z,.string x',.string y',.string z',.int .i64 wd,.int .i64 dp] 63)=W0 at *
 refine (H1.out W0).mono ?_
 rintro e w1 ⟨rfl,hB1⟩
 have hb1:=below_trans' hb0 hB1
 replace x0:=BoxCs.below x0 hB1
 obtain ⟨c0,c1,c2,c3,c4,c5,c6,c7,c8,c9,c10⟩:=boxM_cells x0
 clear hB1 hb0 H1
 go_wp2_with fail
 refine (H2.out _).mono ?_
 rintro e w2 ⟨rfl,hB2⟩
 have hb2:=below_trans' hb1 hB2
 replace x0:=BoxCs.below x0 hB2
 clear hB2 hb1 H2 c0 c1 c2 c3 c4 c5 c6 c7 c8 c9 c10
 obtain ⟨c0,c1,c2,c3,c4,c5,c6,c7,c8,c9,c10⟩:=boxM_cells x0
 go_wp2_with fail
 refine (H3.out _).mono ?_
 rintro e w3 ⟨rfl,hB3⟩
 have hb3:=below_trans' hb2 hB3
 replace x0:=BoxCs.below x0 hB3
 clear hB3 hb2 H3 c0 c1 c2 c3 c4 c5 c6 c7 c8 c9 c10
 obtain ⟨c0,c1,c2,c3,c4,c5,c6,c7,c8,c9,c10⟩:=boxM_cells x0
 go_wp2_with fail
 have hb4:Below w.heap.size w (w3.alloc (.cells #[.string x,.string y,.string z,.string x',.string y',.string z'] 37)):=bw4 hb3 _
 have x4:BoxCs 37 (w3.alloc (.cells #[.string x,.string y,.string z,.string x',.string y',.string z'] 37)) w3.heap.size #[.string x,.string y,.string z,.string x',.string y',.string z']:=BoxCs.new rfl
 replace x0:=BoxCs.below x0 (bw4 (bw0 _ _) (.cells #[.string x,.string y,.string z,.string x',.string y',.string z'] 37))
 clear hb3 c0 c1 c2 c3 c4 c5 c6 c7 c8 c9 c10
 generalize w3.alloc (.cells #[.string x,.string y,.string z,.string x',.string y',.string z'] 37)=W4 at *
 generalize w3.heap.size=m3 at *
 go_loopw [34] (fun i wr=>Below w.heap.size w wr∧BoxM wr w.heap.size #[.int .i64 k,.int .i64 f,.int .i64 o,.string x,.string y,.string z,.string x',.string y',.string z',.int .i64 wd,.int .i64 dp]∧BoxCs 37 wr m3 #[.string x,.string y,.string z,.string x',.string y',.string z']∧(i=.int .i64 0∨i=.int .i64 1∨i=.int .i64 2)) (fun i _=>2 - (intOf i).toNat)
 case atStart=>exact ⟨hb4,x0,x4,.inl rfl⟩
 case round =>
  obtain ⟨hB,x0,x4,hst⟩:=hrel
  obtain ⟨c0,c1,c2,c3,c4,c5,c6,c7,c8,c9,c10⟩:=boxM_cells x0
  have d0:wr.cell? ⟨m3,0,none⟩=some (.string x):=BoxCs.c x4 0
  have d1:wr.cell? ⟨m3,1,none⟩=some (.string y):=BoxCs.c x4 1
  have d2:wr.cell? ⟨m3,2,none⟩=some (.string z):=BoxCs.c x4 2
  have d3:wr.cell? ⟨m3,3,none⟩=some (.string x'):=BoxCs.c x4 3
  have d4:wr.cell? ⟨m3,4,none⟩=some (.string y'):=BoxCs.c x4 4
  have d5:wr.cell? ⟨m3,5,none⟩=some (.string z'):=BoxCs.c x4 5
  rcases hst with rfl|rfl|rfl
  ·go_wp2_with fail
   refine (H4.out _ (HG.out.below (bw4 hB _))).mono ?_
   rintro e w5 ⟨rfl,hB5⟩
   have hb5:Below w.heap.size w w5:=below_trans' (bw4 hB _) hB5
   replace x0:=BoxCs.below (BoxCs.below x0 (bw4 (bw0 _ _) _)) hB5
   replace x4:=BoxCs.below (BoxCs.below x4 (bw4 (bw0 _ _) _)) hB5
   clear hB5 hB c0 c1 c2 c3 c4 c5 c6 c7 c8 c9 c10 d0 d1 d2 d3 d4 d5
   go_wp2_with fail
   go_roundw
   case rel=>exact ⟨hb5,x0,x4,.inr (.inl rfl)⟩
   case measure=>simp [intOf]
  ·go_wp2_with fail
   refine (H5.out _ (HG.out.below (bw4 hB _))).mono ?_
   rintro e w5 ⟨rfl,hB5⟩
   have hb5:Below w.heap.size w w5:=below_trans' (bw4 hB _) hB5
   replace x0:=BoxCs.below (BoxCs.below x0 (bw4 (bw0 _ _) _)) hB5
   replace x4:=BoxCs.below (BoxCs.below x4 (bw4 (bw0 _ _) _)) hB5
   clear hB5 hB c0 c1 c2 c3 c4 c5 c6 c7 c8 c9 c10 d0 d1 d2 d3 d4 d5
   go_wp2_with fail
   go_roundw
   case rel=>exact ⟨hb5,x0,x4,.inr (.inr rfl)⟩
   case measure=>simp [intOf]
  ·clear d0 d1 d2 d3 d4 d5 x4
   go_wp2_with fail
   refine (H6.out _ (HG.out.below hB)).mono ?_
   rintro e w6 ⟨rfl,hB6⟩
   have hb6:=below_trans' hB hB6
   replace x0:=BoxCs.below x0 hB6
   clear hB6 hB c0 c1 c2 c3 c4 c5 c6 c7 c8 c9 c10
   obtain ⟨c0,c1,c2,c3,c4,c5,c6,c7,c8,c9,c10⟩:=boxM_cells x0
   go_wp2_with fail
   refine (H7.out _ (HG.out.below hb6)).mono ?_
   rintro e w7 ⟨rfl,hB7⟩
   have hb7:=below_trans' hb6 hB7
   replace x0:=BoxCs.below x0 hB7
   clear hB7 hb6 c0 c1 c2 c3 c4 c5 c6 c7 c8 c9 c10
   obtain ⟨c0,c1,c2,c3,c4,c5,c6,c7,c8,c9,c10⟩:=boxM_cells x0
   go_wp2_with fail
   all_goals first|(go_ret;exact ⟨rfl,hb7⟩)|exact absurd ⟨by assumption,by assumption,by assumption⟩ HNE.out
end Go.Proofs.YtbbclfbpllbbbaaGreatDoor
namespace Go.Proofs.YtbbclfbpllbbbaaGreatDoor
open Go.RowKit Go.Shelf
structure MemOk (k f o wd dp:Int) (x y z x' y' z':ByteArray) (p q r p' q' r':Rat):Prop where
 k1:¬ k < 1
 k2:¬ 12 < k
 f0:¬ f < 0
 o0:¬ o < -1
 w1:¬ wd < 1
 w2:¬ 1000 < wd
 d1:¬ dp < 1
 d2:¬ 1000 < dp
 hx:IsS x p
 hy:IsS y q
 hz:IsS z r
 hx':IsS x' p'
 hy':IsS y' q'
 hz':IsS z' r'
 ne:¬ (p=p'∧q=q'∧r=r')
theorem MemOk.check {k f o wd dp:Int} {x y z x' y' z':ByteArray} {p q r p' q' r':Rat} (h:MemOk k f o wd dp x y z x' y' z' p q r p' q' r') (w:World) (hG:Glo w):Calls Tryz.prog 123 #[.agg (memA k f o wd dp x y z x' y' z')] w (RetB (.int .i64 0) w) :=
 hCheck_ok k f o wd dp x y z x' y' z' p q r p' q' r' w hG h.k1 h.k2 h.f0 h.o0 h.w1 h.w2 h.d1 h.d2 h.hx h.hy h.hz h.hx' h.hy' h.hz' h.ne
theorem dir1_ok (x y z:ByteArray) (w:World):Calls Tryz.prog 227 #[.agg #[.string x,.string y,.string z]] w (RetB (.tuple #[.agg #[.string x,.string y,.string z],.int .i64 0]) w):=by
 go_enter Tryz.func227,Tryz.ntmps227
 go_wp2_with fail
 refine bodyPost_ret (v:=.tuple #[.agg #[.string x,.string y,.string z],.int .i64 0]) (by simp [results,Tryz.results227,go_sem]) rfl ?_
 exact ⟨rfl,qbl⟩
theorem question_ok {k f o wd dp:Int} {x y z x' y' z':ByteArray} {p q r p' q' r':Rat} (h:MemOk k f o wd dp x y z x' y' z' p q r p' q' r') (w:World) (hG:Glo w) :
  Calls Tryz.prog 228 #[.agg #[.func (.func 227) #[] #[]],.agg (memA k f o wd dp x y z x' y' z')] w (Ret3S (p' - p) (q' - q) (r' - r) w):=by
 have H1:=Lib.hid (fun W hG=>h.check W hG)
 have H2:=Lib.hid (fun W hG=>vSub_ok x' y' z' x y z p' q' r' p q r W hG h.hx' h.hy' h.hz' h.hx h.hy h.hz)
 have H3:=Lib.hid (fun a b c W=>dir1_ok a b c W)
 have hE:=enters_of Tryz.func227 (by kernel_rfl) rfl
 have HG:=Lib.hid hG
 generalize p' - p=P at *
 generalize q' - q=Q at *
 generalize r' - r=R at *
 unfold memA at *
 clear hG h
 go_enter Tryz.func228,Tryz.ntmps228
 go_wp2_with fail
 have hb0:Below w.heap.size w ((((w.alloc (.cells #[.func (.func 227) #[] #[]] 302)).alloc (.cells #[.int .i64 k,.int .i64 f,.int .i64 o,.string x,.string y,.string z,.string x',.string y',.string z',.int .i64 wd,.int .i64 dp] 63)).alloc (.cells #[.string ⟨#[]⟩,.string ⟨#[]⟩,.string ⟨#[]⟩] 37)).alloc (.cells #[.string ⟨#[]⟩,.string ⟨#[]⟩,.string ⟨#[]⟩] 37)):=qbl
 have x0:BoxT1 302 ((((w.alloc (.cells #[.func (.func 227) #[] #[]] 302)).alloc (.cells #[.int .i64 k,.int .i64 f,.int .i64 o,.string x,.string y,.string z,.string x',.string y',.string z',.int .i64 wd,.int .i64 dp] 63)).alloc (.cells #[.string ⟨#[]⟩,.string ⟨#[]⟩,.string ⟨#[]⟩] 37)).alloc (.cells #[.string ⟨#[]⟩,.string ⟨#[]⟩,.string ⟨#[]⟩] 37)) w.heap.size (.func (.func 227) #[] #[]):=(BoxT1.new rfl).below (bw4 (bw4 (bw4 (bw0 _ _) _) _) _)
 have x1:BoxM ((((w.alloc (.cells #[.func (.func 227) #[] #[]] 302)).alloc (.cells #[.int .i64 k,.int .i64 f,.int .i64 o,.string x,.string y,.string z,.string x',.string y',.string z',.int .i64 wd,.int .i64 dp] 63)).alloc (.cells #[.string ⟨#[]⟩,.string ⟨#[]⟩,.string ⟨#[]⟩] 37)).alloc (.cells #[.string ⟨#[]⟩,.string ⟨#[]⟩,.string ⟨#[]⟩] 37)) (w.heap.size+1) #[.int .i64 k,.int .i64 f,.int .i64 o,.string x,.string y,.string z,.string x',.string y',.string z',.int .i64 wd,.int .i64 dp]:=(BoxCs.new (by simp)).below (bw4 (bw4 (bw0 _ _) _) _)
 have x2:BoxT3 37 ((((w.alloc (.cells #[.func (.func 227) #[] #[]] 302)).alloc (.cells #[.int .i64 k,.int .i64 f,.int .i64 o,.string x,.string y,.string z,.string x',.string y',.string z',.int .i64 wd,.int .i64 dp] 63)).alloc (.cells #[.string ⟨#[]⟩,.string ⟨#[]⟩,.string ⟨#[]⟩] 37)).alloc (.cells #[.string ⟨#[]⟩,.string ⟨#[]⟩,.string ⟨#[]⟩] 37)) (w.heap.size+2) (.string ⟨#[]⟩) (.string ⟨#[]⟩) (.string ⟨#[]⟩):=(BoxT3.new (by simp)).below (bw4 (bw0 _ _) _)
 generalize ((((w.alloc (.cells #[.func (.func 227) #[] #[]] 302)).alloc (.cells #[.int .i64 k,.int .i64 f,.int .i64 o,.string x,.string y,.string z,.string x',.string y',.string z',.int .i64 wd,.int .i64 dp] 63)).alloc (.cells #[.string ⟨#[]⟩,.string ⟨#[]⟩,.string ⟨#[]⟩] 37)).alloc (.cells #[.string ⟨#[]⟩,.string ⟨#[]⟩,.string ⟨#[]⟩] 37))=W0 at *
 refine (H1.out W0 (HG.out.below hb0)).mono ?_
 rintro e w1 ⟨rfl,hB1⟩
 have hb1:=below_trans' hb0 hB1
 replace x0:=x0.below hB1
 replace x1:=BoxCs.below x1 hB1
 replace x2:=x2.below hB1
 obtain ⟨c0,c1,c2,c3,c4,c5,c6,c7,c8,c9,c10⟩:=boxM_cells x1
 clear hB1 hb0 H1
 go_wp2_with fail
 refine (H2.out _ (HG.out.below hb1)).mono ?_
 rintro e w2 ⟨a,b,c,ha,hb,hc,rfl,hB2⟩
 have hb2:=below_trans' hb1 hB2
 replace x0:=x0.below hB2
 replace x2:=x2.below hB2
 have HA:=Lib.hid ha
 have HB:=Lib.hid hb
 have HC:=Lib.hid hc
 clear hB2 hb1 H2 ha hb hc c0 c1 c2 c3 c4 c5 c6 c7 c8 c9 c10 x1
 have e0:=(x0.below (bw4 (bw0 _ _) (.cells #[.string a,.string b,.string c] 37))).c0
 go_wp2_with fail
 have hb3:Below w.heap.size w (w2.alloc (.cells #[.string a,.string b,.string c] 37)):=bw4 hb2 _
 replace x2:=x2.below (bw4 (bw0 _ _) (.cells #[.string a,.string b,.string c] 37))
 clear hb2 x0 e0
 generalize w2.alloc (.cells #[.string a,.string b,.string c] 37)=W3 at *
 refine (H3.out a b c W3).mono ?_
 rintro e w4 ⟨rfl,hB4⟩
 have hb4:=below_trans' hb3 hB4
 replace x2:=x2.below hB4
 clear hB4 hb3 H3
 go_wp2_with (refine wpList_store3 rfl _ _ _ rfl x2 Tryz.infoSpot rfl rfl rfl rfl rfl ?_;intro Wz hS hx;have hbz:Below w.heap.size w Wz:=hS.below hb4 (by omega);have g0:=hx.c0;have g1:=hx.c1;have g2:=hx.c2;clear hS x2 hb4)
 refine bodyPost_ret (v:=.tuple #[.agg #[.string a,.string b,.string c],.int .i64 0]) (by simp [results,Tryz.results228,go_sem,g0,g1,g2]) rfl ?_
 exact ⟨a,b,c,HA.out,HB.out,HC.out,rfl,hbz⟩
end Go.Proofs.YtbbclfbpllbbbaaGreatDoor
namespace Go.Proofs.YtbbclfbpllbbbaaGreatDoor
open Go.RowKit Go.Shelf
theorem hDir_ok {k f o wd dp:Int} {x y z x' y' z':ByteArray} {p q r p' q' r':Rat} (h:MemOk k f o wd dp x y z x' y' z' p q r p' q' r') (w:World) (hG:Glo w) :
  Calls Tryz.prog 181 #[.agg (memA k f o wd dp x y z x' y' z')] w (Ret3S (p' - p) (q' - q) (r' - r) w):=by
 have H1:=Lib.hid (fun W hG=>question_ok h W hG)
 have HG:=Lib.hid hG
 generalize p' - p=P at *
 generalize q' - q=Q at *
 generalize r' - r=R at *
 unfold memA at *
 clear hG h
 go_enter Tryz.func181,Tryz.ntmps181
 go_wp2_with fail
 have hb0:Below w.heap.size w ((w.alloc (.cells #[.int .i64 k,.int .i64 f,.int .i64 o,.string x,.string y,.string z,.string x',.string y',.string z',.int .i64 wd,.int .i64 dp] 63)).alloc (.cells #[.string ⟨#[]⟩,.string ⟨#[]⟩,.string ⟨#[]⟩] 37)):=qbl
 have x2:BoxT3 37 ((w.alloc (.cells #[.int .i64 k,.int .i64 f,.int .i64 o,.string x,.string y,.string z,.string x',.string y',.string z',.int .i64 wd,.int .i64 dp] 63)).alloc (.cells #[.string ⟨#[]⟩,.string ⟨#[]⟩,.string ⟨#[]⟩] 37)) (w.heap.size+1) (.string ⟨#[]⟩) (.string ⟨#[]⟩) (.string ⟨#[]⟩):=BoxT3.new (by simp)
 generalize ((w.alloc (.cells #[.int .i64 k,.int .i64 f,.int .i64 o,.string x,.string y,.string z,.string x',.string y',.string z',.int .i64 wd,.int .i64 dp] 63)).alloc (.cells #[.string ⟨#[]⟩,.string ⟨#[]⟩,.string ⟨#[]⟩] 37))=W0 at *
 refine (H1.out W0 (HG.out.below hb0)).mono ?_
 rintro e w2 ⟨a,b,c,ha,hb,hc,rfl,hB2⟩
 have hb2:=below_trans' hb0 hB2
 replace x2:=x2.below hB2
 have HA:=Lib.hid ha
 have HB:=Lib.hid hb
 have HC:=Lib.hid hc
 clear hB2 hb0 H1 ha hb hc
 go_wp2_with (refine wpList_store3 rfl _ _ _ rfl x2 Tryz.infoSpot rfl rfl rfl rfl rfl ?_;intro Wz hS hx;have hbz:Below w.heap.size w Wz:=hS.below hb2 (by omega);have g0:=hx.c0;have g1:=hx.c1;have g2:=hx.c2;clear hS x2 hb2)
 refine bodyPost_ret (v:=.tuple #[.agg #[.string a,.string b,.string c],.int .i64 0]) (by simp [results,Tryz.results181,go_sem,g0,g1,g2]) rfl ?_
 exact ⟨a,b,c,HA.out,HB.out,HC.out,rfl,hbz⟩
theorem tDir_ok {k f o wd dp:Int} {x y z x' y' z':ByteArray} {p q r p' q' r':Rat} (h:MemOk k f o wd dp x y z x' y' z' p q r p' q' r') (w:World) (hG:Glo w) :
  Calls Tryz.prog 121 #[.agg (memA k f o wd dp x y z x' y' z')] w (Ret3S (p' - p) (q' - q) (r' - r) w):=by
 have H0:=Lib.hid (fun W hG=>h.check W hG)
 have H1:=Lib.hid (fun W hG=>hDir_ok h W hG)
 have HG:=Lib.hid hG
 generalize p' - p=P at *
 generalize q' - q=Q at *
 generalize r' - r=R at *
 unfold memA at *
 clear hG h
 go_enter Tryz.func121,Tryz.ntmps121
 go_wp2_with fail
 have hb0:Below w.heap.size w ((w.alloc (.cells #[.int .i64 k,.int .i64 f,.int .i64 o,.string x,.string y,.string z,.string x',.string y',.string z',.int .i64 wd,.int .i64 dp] 63)).alloc (.cells #[.string ⟨#[]⟩,.string ⟨#[]⟩,.string ⟨#[]⟩] 37)):=qbl
 have x1:BoxM ((w.alloc (.cells #[.int .i64 k,.int .i64 f,.int .i64 o,.string x,.string y,.string z,.string x',.string y',.string z',.int .i64 wd,.int .i64 dp] 63)).alloc (.cells #[.string ⟨#[]⟩,.string ⟨#[]⟩,.string ⟨#[]⟩] 37)) w.heap.size #[.int .i64 k,.int .i64 f,.int .i64 o,.string x,.string y,.string z,.string x',.string y',.string z',.int .i64 wd,.int .i64 dp]:=(BoxCs.new rfl).below (bw4 (bw0 _ _) _)
 have x2:BoxT3 37 ((w.alloc (.cells #[.int .i64 k,.int .i64 f,.int .i64 o,.string x,.string y,.string z,.string x',.string y',.string z',.int .i64 wd,.int .i64 dp] 63)).alloc (.cells #[.string ⟨#[]⟩,.string ⟨#[]⟩,.string ⟨#[]⟩] 37)) (w.heap.size+1) (.string ⟨#[]⟩) (.string ⟨#[]⟩) (.string ⟨#[]⟩):=BoxT3.new (by simp)
 generalize ((w.alloc (.cells #[.int .i64 k,.int .i64 f,.int .i64 o,.string x,.string y,.string z,.string x',.string y',.string z',.int .i64 wd,.int .i64 dp] 63)).alloc (.cells #[.string ⟨#[]⟩,.string ⟨#[]⟩,.string ⟨#[]⟩] 37))=W0 at *
 refine (H0.out W0 (HG.out.below hb0)).mono ?_
 rintro e w1 ⟨rfl,hB1⟩
 have hb1:=below_trans' hb0 hB1
 replace x1:=BoxCs.below x1 hB1
 replace x2:=x2.below hB1
 obtain ⟨c0,c1,c2,c3,c4,c5,c6,c7,c8,c9,c10⟩:=boxM_cells x1
 clear hB1 hb0 H0
 go_wp2_with fail
 refine (H1.out _ (HG.out.below hb1)).mono ?_
 rintro e w2 ⟨a,b,c,ha,hb,hc,rfl,hB2⟩
 have hb2:=below_trans' hb1 hB2
 replace x2:=x2.below hB2
 have HA:=Lib.hid ha
 have HB:=Lib.hid hb
 have HC:=Lib.hid hc
 clear hB2 hb1 H1 ha hb hc c0 c1 c2 c3 c4 c5 c6 c7 c8 c9 c10 x1
 go_wp2_with (refine wpList_store3 rfl _ _ _ rfl x2 Tryz.infoSpot rfl rfl rfl rfl rfl ?_;intro Wz hS hx;have hbz:Below w.heap.size w Wz:=hS.below hb2 (by omega);have g0:=hx.c0;have g1:=hx.c1;have g2:=hx.c2;clear hS x2 hb2)
 refine bodyPost_ret (v:=.tuple #[.agg #[.string a,.string b,.string c],.int .i64 0]) (by simp [results,Tryz.results121,go_sem,g0,g1,g2]) rfl ?_
 exact ⟨a,b,c,HA.out,HB.out,HC.out,rfl,hbz⟩
theorem len1_ok (x y z:ByteArray) (w:World):Calls Tryz.prog 69 #[.agg #[.string x,.string y,.string z]] w (RetB (.agg #[.string x,.string y,.string z]) w):=by
 go_enter Tryz.func69,Tryz.ntmps69
 go_wp2_with fail
 refine bodyPost_ret (v:=.agg #[.string x,.string y,.string z]) (by simp [results,Tryz.results69,go_sem]) rfl ?_
 exact ⟨rfl,qbl⟩
structure DirOk (p q r:Rat):Prop where
 s1:Small p
 s2:Small q
 s3:Small r
 h1:Small (p * p)
 h2:Small (q * q)
 h3:Small (r * r)
 h4:Small (p * p+q * q)
 h5:Sz 20 (p * p+q * q+r * r)
 h6:0 < (p * p+q * q+r * r).num
theorem measure_ok {k f o wd dp:Int} {x y z x' y' z':ByteArray} {p q r p' q' r':Rat} (h:MemOk k f o wd dp x y z x' y' z' p q r p' q' r') (w:World) (hG:Glo w) (hP:Pri w) (hd:DirOk (p' - p) (q' - q) (r' - r)) {L:TTexts} (hL:oneL (normQ ((p' - p) * (p' - p)+(q' - q) * (q' - q)+(r' - r) * (r' - r))).1 (normQ ((p' - p) * (p' - p)+(q' - q) * (q' - q)+(r' - r) * (r' - r))).2=L) :
  Calls Tryz.prog 70 #[.agg #[.func (.func 69) #[] #[]],.agg (memA k f o wd dp x y z x' y' z')] w (RetSd L w):=by
 have H1:=Lib.hid (fun W hG=>tDir_ok h W hG)
 have H2:=Lib.hid (fun a b c W=>len1_ok a b c W)
 have H3:=Lib.hid (fun (a b c:ByteArray) W hG hP (ha:a.data.toList=ratText (p' - p)) (hb:b.data.toList=ratText (q' - q)) (hc:c.data.toList=ratText (r' - r))=>vLength_ok a b c (p' - p) (q' - q) (r' - r) W hG hP ⟨ha,hd.s1⟩ ⟨hb,hd.s2⟩ ⟨hc,hd.s3⟩ hd.h1 hd.h2 hd.h3 hd.h4 hd.h5 hd.h6)
 rw [hL] at H3
 have hE:=enters_of Tryz.func69 (by kernel_rfl) rfl
 have HG:=Lib.hid hG
 have HP:=Lib.hid hP
 clear hL hd
 generalize p' - p=P at *
 generalize q' - q=Q at *
 generalize r' - r=R at *
 unfold memA at *
 clear hG hP h
 go_enter Tryz.func70,Tryz.ntmps70
 go_wp2_with fail
 have hb0:Below w.heap.size w ((w.alloc (.cells #[.func (.func 69) #[] #[]] 130)).alloc (.cells #[.int .i64 k,.int .i64 f,.int .i64 o,.string x,.string y,.string z,.string x',.string y',.string z',.int .i64 wd,.int .i64 dp] 63)):=qbl
 have x0:BoxT1 130 ((w.alloc (.cells #[.func (.func 69) #[] #[]] 130)).alloc (.cells #[.int .i64 k,.int .i64 f,.int .i64 o,.string x,.string y,.string z,.string x',.string y',.string z',.int .i64 wd,.int .i64 dp] 63)) w.heap.size (.func (.func 69) #[] #[]):=(BoxT1.new rfl).below (bw4 (bw0 _ _) _)
 generalize ((w.alloc (.cells #[.func (.func 69) #[] #[]] 130)).alloc (.cells #[.int .i64 k,.int .i64 f,.int .i64 o,.string x,.string y,.string z,.string x',.string y',.string z',.int .i64 wd,.int .i64 dp] 63))=W0 at *
 refine (H1.out W0 (HG.out.below hb0)).mono ?_
 rintro e w2 ⟨a,b,c,ha,hb,hc,rfl,hB2⟩
 have hb2:=below_trans' hb0 hB2
 have HA:=Lib.hid ha
 have HB:=Lib.hid hb
 have HC:=Lib.hid hc
 have e0:=((x0.below hB2).below (bw4 (bw0 _ _) (.cells #[.string a,.string b,.string c] 37))).c0
 clear hB2 hb0 H1 ha hb hc x0
 go_wp2_with fail
 have hb3:Below w.heap.size w (w2.alloc (.cells #[.string a,.string b,.string c] 37)):=bw4 hb2 _
 clear hb2 e0
 generalize w2.alloc (.cells #[.string a,.string b,.string c] 37)=W3 at *
 refine (H2.out a b c W3).mono ?_
 rintro e w4 ⟨rfl,hB4⟩
 have hb4:=below_trans' hb3 hB4
 clear hB4 hb3 H2
 go_wp2_with fail
 refine (H3.out a b c _ (HG.out.below hb4) (HP.out.below hb4) HA.out HB.out HC.out).mono ?_
 rintro e w5 ⟨u,rfl,hu,hB5⟩
 have hb5:=below_trans' hb4 hB5
 have HU:=Lib.hid hu
 obtain ⟨ua,uc,rfl,_⟩:=hu
 clear hB5 hb4 H3
 go_wp2_with fail
 go_ret2
 exact ⟨_,rfl,HU.out,hb5⟩
theorem tLength_ok {k f o wd dp:Int} {x y z x' y' z':ByteArray} {p q r p' q' r':Rat} (h:MemOk k f o wd dp x y z x' y' z' p q r p' q' r') (w:World) (hG:Glo w) (hP:Pri w) (hd:DirOk (p' - p) (q' - q) (r' - r)) :
  Calls Tryz.prog 27 #[.agg (memA k f o wd dp x y z x' y' z')] w (RetSd (oneL (normQ ((p' - p) * (p' - p)+(q' - q) * (q' - q)+(r' - r) * (r' - r))).1 (normQ ((p' - p) * (p' - p)+(q' - q) * (q' - q)+(r' - r) * (r' - r))).2) w):=by
 generalize hL:oneL (normQ ((p' - p) * (p' - p)+(q' - q) * (q' - q)+(r' - r) * (r' - r))).1 (normQ ((p' - p) * (p' - p)+(q' - q) * (q' - q)+(r' - r) * (r' - r))).2=L
 have H1:=Lib.hid (fun W hG hP=>measure_ok h W hG hP hd hL)
 have HG:=Lib.hid hG
 have HP:=Lib.hid hP
 unfold memA at *
 clear hG hP h hd hL
 go_enter Tryz.func27,Tryz.ntmps27
 go_wp2_with fail
 have hb0:Below w.heap.size w (w.alloc (.cells #[.int .i64 k,.int .i64 f,.int .i64 o,.string x,.string y,.string z,.string x',.string y',.string z',.int .i64 wd,.int .i64 dp] 63)):=qbl
 generalize w.alloc (.cells #[.int .i64 k,.int .i64 f,.int .i64 o,.string x,.string y,.string z,.string x',.string y',.string z',.int .i64 wd,.int .i64 dp] 63)=W0 at *
 refine (H1.out W0 (HG.out.below hb0) (HP.out.below hb0)).mono ?_
 rintro e w5 ⟨u,rfl,hu,hB5⟩
 have hb5:=below_trans' hb0 hB5
 have HU:=Lib.hid hu
 obtain ⟨ua,uc,rfl,_⟩:=hu
 clear hB5 hb0 H1
 go_wp2_with fail
 go_ret2
 exact ⟨_,rfl,HU.out,hb5⟩
end Go.Proofs.YtbbclfbpllbbbaaGreatDoor
namespace Go.Proofs.YtbbclfbpllbbbaaGreatDoor
open Go.RowKit Go.Shelf
attribute [local go_sem] Oper.semAt_some
theorem lawNum3 (n:Int) (w:World) (hG:Glo w) (h0 : -1000≤n) (h1:n≤1000):Calls Tryz.prog 14 #[.int .i64 n,.int .i64 3] w (RetB (.string (numS (Rat.divInt n 3))) w) :=
 lawNum_ok (Rat.divInt n 3) n 3 w (OfI_ok n 3 w hG (by omega) (by omega) (by decide) (by decide))
theorem wrapI8 {x:Int} (h0 : -128≤x) (h1:x≤127):IntKind.i64.wrap x=x:=IntWalk.i64_in _ ⟨by omega,by omega⟩
theorem rebAt_ok (x y z:Int) (w:World) (hG:Glo w) (hx : -128≤x∧x≤127) (hy : -128≤y∧y≤127) (hz : -128≤z∧z≤127) :
  Calls Tryz.prog 26 #[.agg #[.int .i8 x,.int .i8 y,.int .i8 z]] w (RetB (.agg #[.string (numS (Rat.divInt x 3)),.string (numS (Rat.divInt y 3)),.string (numS (Rat.divInt z 3))]) w):=by
 have H1:=Lib.hid (fun W (hB:Below w.heap.size w W)=>lawNum3 x W (hG.below hB) (by omega) (by omega))
 have H2:=Lib.hid (fun W (hB:Below w.heap.size w W)=>lawNum3 y W (hG.below hB) (by omega) (by omega))
 have H3:=Lib.hid (fun W (hB:Below w.heap.size w W)=>lawNum3 z W (hG.below hB) (by omega) (by omega))
 have K1:=wrapI8 hx.1 hx.2
 have K2:=wrapI8 hy.1 hy.2
 have K3:=wrapI8 hz.1 hz.2
 generalize numS (Rat.divInt x 3)=X at *
 generalize numS (Rat.divInt y 3)=Y at *
 generalize numS (Rat.divInt z 3)=Z at *
 clear hG hx hy hz
 go_enter Tryz.func26,Tryz.ntmps26
 go_wp2_with fail
 have hb0:Below w.heap.size w ((w.alloc (.cells #[.int .i8 x,.int .i8 y,.int .i8 z] 60)).alloc (.cells #[.string ⟨#[]⟩,.string ⟨#[]⟩,.string ⟨#[]⟩] 37)):=qbl
 have x0:BoxT3 60 ((w.alloc (.cells #[.int .i8 x,.int .i8 y,.int .i8 z] 60)).alloc (.cells #[.string ⟨#[]⟩,.string ⟨#[]⟩,.string ⟨#[]⟩] 37)) w.heap.size (.int .i8 x) (.int .i8 y) (.int .i8 z):=(BoxT3.new rfl).below (bw4 (bw0 _ _) _)
 have x1:BoxT3 37 ((w.alloc (.cells #[.int .i8 x,.int .i8 y,.int .i8 z] 60)).alloc (.cells #[.string ⟨#[]⟩,.string ⟨#[]⟩,.string ⟨#[]⟩] 37)) (w.heap.size+1) (.string ⟨#[]⟩) (.string ⟨#[]⟩) (.string ⟨#[]⟩):=BoxT3.new (by simp)
 generalize ((w.alloc (.cells #[.int .i8 x,.int .i8 y,.int .i8 z] 60)).alloc (.cells #[.string ⟨#[]⟩,.string ⟨#[]⟩,.string ⟨#[]⟩] 37))=W7 at *
 have hR:Below W7.heap.size W7 W7.drew:=(bw0 _ _).drew
 refine region_S (F:=[13]) (R:=(fun w'=>Below W7.heap.size W7 w')) 14 #[false,false,false,false,false,false,false,false,false,false,false,false,false,false] (by kernel_rfl) (by kernel_rfl) (by kernel_rfl) (fun _ _ _ _ _ h=>h) (fun Q' hQ' hN=>?_)
 generalize W7.drew=wd at *
 refine tkS 3 (i:=0) (v:=?_) (fw:=5) hQ' hR rfl ?_ ?_;rotate_left;(focus (intro wq hRq;have c0:=(x0.below hRq).c0;have c1:=(x0.below hRq).c1;have c2:=(x0.below hRq).c2;go_simp;(try with_reducible rfl)));(try simp only [Act.put,bw7,bw8,bw9])
 refine tkS 4 (i:=1) (v:=?_) (fw:=5) hQ' hR rfl ?_ ?_;rotate_left;(focus (intro wq hRq;have c0:=(x0.below hRq).c0;have c1:=(x0.below hRq).c1;have c2:=(x0.below hRq).c2;go_simp;(try with_reducible rfl)));(try simp only [Act.put,bw7,bw8,bw9])
 refine tkS 5 (i:=2) (v:=?_) (fw:=5) hQ' hR rfl ?_ ?_;rotate_left;(focus (intro wq hRq;have c0:=(x0.below hRq).c0;have c1:=(x0.below hRq).c1;have c2:=(x0.below hRq).c2;go_simp;(try with_reducible rfl)));(try simp only [Act.put,bw7,bw8,bw9])
 refine tkS 7 (i:=4) (v:=?_) (fw:=5) hQ' hR rfl ?_ ?_;rotate_left;(focus (intro wq hRq;have c0:=(x0.below hRq).c0;have c1:=(x0.below hRq).c1;have c2:=(x0.below hRq).c2;go_simp;(try with_reducible rfl)));(try simp only [Act.put,bw7,bw8,bw9])
 refine tkS 8 (i:=5) (v:=?_) (fw:=5) hQ' hR rfl ?_ ?_;rotate_left;(focus (intro wq hRq;have c0:=(x0.below hRq).c0;have c1:=(x0.below hRq).c1;have c2:=(x0.below hRq).c2;go_simp;(try with_reducible rfl)));(try simp only [Act.put,bw7,bw8,bw9])
 refine tkS 9 (i:=6) (v:=?_) (fw:=5) hQ' hR rfl ?_ ?_;rotate_left;(focus (intro wq hRq;have c0:=(x0.below hRq).c0;have c1:=(x0.below hRq).c1;have c2:=(x0.below hRq).c2;go_simp;(try with_reducible rfl)));(try simp only [Act.put,bw7,bw8,bw9])
 refine tkS 11 (i:=8) (v:=?_) (fw:=5) hQ' hR rfl ?_ ?_;rotate_left;(focus (intro wq hRq;have c0:=(x0.below hRq).c0;have c1:=(x0.below hRq).c1;have c2:=(x0.below hRq).c2;go_simp;(try with_reducible rfl)));(try simp only [Act.put,bw7,bw8,bw9])
 refine tkS 12 (i:=9) (v:=?_) (fw:=5) hQ' hR rfl ?_ ?_;rotate_left;(focus (intro wq hRq;have c0:=(x0.below hRq).c0;have c1:=(x0.below hRq).c1;have c2:=(x0.below hRq).c2;go_simp;(try with_reducible rfl)));(try simp only [Act.put,bw7,bw8,bw9])
 refine tkS 13 (i:=10) (v:=?_) (fw:=5) hQ' hR rfl ?_ ?_;rotate_left;(focus (intro wq hRq;have c0:=(x0.below hRq).c0;have c1:=(x0.below hRq).c1;have c2:=(x0.below hRq).c2;go_simp;(try with_reducible rfl)));(try simp only [Act.put,bw7,bw8,bw9])
 refine wpAnyS_ready (rs:=[3]) (by kernel_rfl) (by simp) ?_
 refine stepR (i:=3) rfl (by kernel_rfl) (fun K hK=>?_) (AllReadyS.nil)
 go_simp
 refine (H1.out _ (below_trans' hb0 hR)).mono ?_
 rintro e wn ⟨rfl,hB'⟩
 replace hR:=below_trans' hR hB'
 clear hB'
 refine hK.out _ _ hR ?_
 clear hK K
 (try simp only [Act.put,bw7,bw8,bw9])
 refine wpAnyS_ready (rs:=[7]) (by kernel_rfl) (by simp) ?_
 refine stepR (i:=7) rfl (by kernel_rfl) (fun K hK=>?_) (AllReadyS.nil)
 go_simp
 refine (H2.out _ (below_trans' hb0 hR)).mono ?_
 rintro e wn ⟨rfl,hB'⟩
 replace hR:=below_trans' hR hB'
 clear hB'
 refine hK.out _ _ hR ?_
 clear hK K
 (try simp only [Act.put,bw7,bw8,bw9])
 refine wpAnyS_ready (rs:=[11]) (by kernel_rfl) (by simp) ?_
 refine stepR (i:=11) rfl (by kernel_rfl) (fun K hK=>?_) (AllReadyS.nil)
 go_simp
 refine (H3.out _ (below_trans' hb0 hR)).mono ?_
 rintro e wn ⟨rfl,hB'⟩
 replace hR:=below_trans' hR hB'
 clear hB'
 refine hK.out _ _ hR ?_
 clear hK K
 (try simp only [Act.put,bw7,bw8,bw9])
 refine tkS 15 (i:=12) (v:=?_) (fw:=5) hQ' hR rfl ?_ ?_;rotate_left;(focus (intro wq hRq;have c0:=(x0.below hRq).c0;have c1:=(x0.below hRq).c1;have c2:=(x0.below hRq).c2;go_simp;(try with_reducible rfl)));(try simp only [Act.put,bw7,bw8,bw9])
 refine wpAnyS_ready (rs:=[13]) (by kernel_rfl) (by simp) ?_
 refine stepF (i:=13) rfl (by kernel_rfl) (by kernel_rfl) (fun K hK=>?_) (AllReadyS.nil)
 refine wp_store3 _ _ _ rfl (x1.below hR) Tryz.infoSpot rfl rfl rfl rfl rfl (fun wx hS hx2=>?_)
 have hbz:Below w.heap.size w wx:=hS.below (below_trans' hb0 hR) (by omega)
 refine hK.out _ _ ?_
 clear hK K
 (try simp only [Act.put,bw7,bw8,bw9])
 refine wpAnyS_done (by kernel_rfl) ?_ _
 refine hN.out _ _ ?_
 have g0:=hx2.c0
 have g1:=hx2.c1
 have g2:=hx2.c2
 go_wp2_with fail
 refine bodyPost_ret (v:=.agg #[.string X,.string Y,.string Z]) (by simp [results,Tryz.results26,go_sem,g0,g1,g2]) rfl ?_
 exact ⟨rfl,hbz⟩
end Go.Proofs.YtbbclfbpllbbbaaGreatDoor
namespace Go.Proofs.YtbbclfbpllbbbaaGreatDoor
open Go.RowKit Go.Shelf
def BvBox (w:World) (b:Nat):Prop:=BoxT1 134 w b (.int .i64 0)
theorem BvBox.below {w w':World} {b:Nat} (h:BvBox w b) (hB:Below w.heap.size w w'):BvBox w' b:=BoxT1.below h hB
theorem Tryz.infoErrno:(Tryz.prog.info? 26).map (·.size)=some 1:=by kernel_rfl
theorem bDo_ok (F b:Nat) (s t:ByteArray) (q:Rat) (w:World) (hc:BvBox w b) (hE:∀ args w,(callFunc F args).run Tryz.prog w=.ok (.enter F args) w)
  (hF:∀ W,Below w.heap.size w W→Calls Tryz.prog F #[.string s,.string t] W (RetN q W)) :
  Calls Tryz.prog 130 #[.pointer (some ⟨b,0,none⟩),.func (.func F) #[] #[],.string s,.string t] w (RetB (.string (numS q)) w):=by
 have c0:=BoxT1.c0 hc
 have HF:=Lib.hid hF
 clear hF
 go_enter Tryz.func130,Tryz.ntmps130
 go_wp2_with fail
 refine (HF.out _ (bw0 _ _)).mono ?_
 rintro e w1 ⟨r,hr,rfl,hB1⟩
 obtain rfl:=numS_of hr
 replace hc:=hc.below hB1
 clear c0 hr HF
 generalize numS q=N at *
 go_wp2_with (refine wpList_store1 rfl _ _ _ _ rfl hc Tryz.infoErrno rfl rfl rfl ?_;intro W hS hx2;have hbW:Below w.heap.size w W:=hB1.trans (below_same hc hS hx2);clear hS hc hx2 hB1)
 go_ret
 exact ⟨rfl,hbW⟩
theorem bAdd_ok (b:Nat) (s t:ByteArray) (p q:Rat) (w:World) (hG:Glo w) (hc:BvBox w b) (hs:IsS s p) (ht:IsS t q) :
  Calls Tryz.prog 127 #[.pointer (some ⟨b,0,none⟩),.string s,.string t] w (RetB (.string (numS (p+q))) w):=by
 have H:=Lib.hid (bDo_ok 51 b s t (p+q) w hc (enters_of Tryz.func51 (by kernel_rfl) rfl) (fun W hB=>Add_small s t W (hG.below hB) hs.1 hs.2 ht.1 ht.2))
 clear hG hc hs ht
 generalize numS (p+q)=N at *
 go_enter Tryz.func127,Tryz.ntmps127
 go_wp2_with fail
 refine H.out.mono ?_
 rintro e w1 ⟨rfl,hB1⟩
 go_wp2_with fail
 go_ret
 exact ⟨rfl,hB1⟩
theorem bMul_ok (b:Nat) (s t:ByteArray) (p q:Rat) (w:World) (hG:Glo w) (hc:BvBox w b) (hs:IsS s p) (ht:IsS t q) :
  Calls Tryz.prog 128 #[.pointer (some ⟨b,0,none⟩),.string s,.string t] w (RetB (.string (numS (p * q))) w):=by
 have H:=Lib.hid (bDo_ok 49 b s t (p * q) w hc (enters_of Tryz.func49 (by kernel_rfl) rfl) (fun W hB=>Mul_small s t W (hG.below hB) hs.1 hs.2 ht.1 ht.2))
 clear hG hc hs ht
 generalize numS (p * q)=N at *
 go_enter Tryz.func128,Tryz.ntmps128
 go_wp2_with fail
 refine H.out.mono ?_
 rintro e w1 ⟨rfl,hB1⟩
 go_wp2_with fail
 go_ret
 exact ⟨rfl,hB1⟩
theorem bDiv_ok (b:Nat) (s t:ByteArray) (p q:Rat) (w:World) (hG:Glo w) (hc:BvBox w b) (hs:IsS s p) (ht:IsS t q) (h0:q≠0) :
  Calls Tryz.prog 76 #[.pointer (some ⟨b,0,none⟩),.string s,.string t] w (RetB (.string (numS (p / q))) w):=by
 have H:=Lib.hid (bDo_ok 91 b s t (p / q) w hc (enters_of Tryz.func91 (by kernel_rfl) rfl) (fun W hB=>Div_small s t W (hG.below hB) hs.1 hs.2 ht.1 ht.2 h0))
 clear hG hc hs ht
 generalize numS (p / q)=N at *
 go_enter Tryz.func76,Tryz.ntmps76
 go_wp2_with fail
 refine H.out.mono ?_
 rintro e w1 ⟨rfl,hB1⟩
 go_wp2_with fail
 go_ret
 exact ⟨rfl,hB1⟩
end Go.Proofs.YtbbclfbpllbbbaaGreatDoor
