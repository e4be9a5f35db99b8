/- Joined texts: RebPlain, WRebRat, WLawNum, WLenReb, WSame04, WAwake56. -/
import Derived.Test.YtbbclfbpllbbbaaGreatDoorJ11
import Derived.Test.YtbbclfbpllbbbaaGreatDoorJ13
import Derived.Test.YtbbclfbpllbbbaaGreatDoorJ08
import Derived.Test.YtbbclfbpllbbbaaGreatDoorJ09
set_option maxRecDepth 100000
set_option linter.unusedVariables false
set_option linter.unusedSimpArgs false
set_option maxHeartbeats 12800000
namespace Go.Proofs.YtbbclfbpllbbbaaGreatDoor
open Go
theorem longD_of_sz {k:Nat} {q:Rat} (h:Sz k q) (hk:1≤k):longD q≤k:=by
 unfold longD
 have h1:=nDigits_le_of_lt h.1 hk
 have h2:=nDigits_le_of_lt h.2 hk
 rw [Lib.decDigits_length,Lib.decDigits_length]
 omega
theorem len_of_lt {n k:Nat} (h:n < 10 ^ k) (hk:1≤k):(Lib.decDigits n).length≤k:=by
 rw [Lib.decDigits_length];exact nDigits_le_of_lt h hk
theorem sz0 {k:Nat} (hk:1≤k):Sz k 0:=⟨by show 0 < _;exact Nat.pow_pos (by decide),by show 1 < _;exact Nat.one_lt_pow (by omega) (by decide)⟩
theorem sz1 {k:Nat} (hk:1≤k):Sz k 1:=⟨by show 1 < _;exact Nat.one_lt_pow (by omega) (by decide),by show 1 < _;exact Nat.one_lt_pow (by omega) (by decide)⟩
theorem gsum_one (x:Rat × Rat):gsum [x]=tv x:=by simp [gsum,Rat.zero_add]
theorem tv_pos {c q:Rat} (hc:c≠0) (hq:q≠0):tv (c,q)=c * (normQ q).1:=by
 unfold tv nzB;rw [if_pos (by simp [hc,hq])]
theorem tv_zero {q:Rat}:tv (0,q)=0:=by unfold tv nzB;simp
theorem tv_unit (c:Rat):tv (c,1)=c:=by
 by_cases h:c=0
 ·rw [h,tv_zero]
 ·rw [tv_pos h (by decide +kernel),normQ_one,Rat.mul_one]
theorem oneC_single {c q:Rat} {n:Nat} (hc:Sz 90 c) (hq:Sz 90 q) (h0:0≤q.num) (hn:c≠0→q≠0→(normQ q).2=n) (h1:1≤n) (h40:n < 10 ^ 40) (hnm:n=1∨normalN n=(1,n)) (hf:Sz 60 (tv (c,q))):OneC [(c,q)] n:=by
 refine ⟨by simp,fun k hk=>?_,fun k hk=>?_,fun k hk=>?_,fun k hk hz=>?_,fun k hk=>?_,h1,len_of_lt h40 (by decide),hnm,by rw [gsum_one];exact longD_of_sz hf (by decide)⟩
 ·obtain rfl:k=0:=by simpa using hk
  exact hc
 ·obtain rfl:k=0:=by simpa using hk
  exact hq
 ·obtain rfl:k=0:=by simpa using hk
  exact h0
 ·obtain rfl:k=0:=by simpa using hk
  have hz2:nzB (c,q)=true:=hz
  unfold nzB at hz2
  simp at hz2
  exact hn hz2.1 hz2.2
 ·rcases Nat.lt_or_ge k 1 with h|h
  ·obtain rfl:k=0:=by omega
   exact sz0 (by decide)
  ·rw [List.take_of_length_le (by simpa using h),gsum_one]
   exact hf.mono (by decide)
theorem oneC_nil:OneC [] 1 :=
 ⟨by decide,fun k hk=>by simp at hk,fun k hk=>by simp at hk,fun k hk=>by simp at hk,fun k hk=>by simp at hk,fun k hk=>by rw [List.take_nil];exact sz0 (by decide),by decide,by decide +kernel,.inl rfl,by decide +kernel⟩
theorem normQ_nm {q:Rat} (h:0 < q.num):normalN (normQ q).2=(1,(normQ q).2):=by
 have hm:0 < q.num.toNat * q.den:=Nat.mul_pos (by omega) q.den_pos
 have h1:=normalN_idem hm
 have e:normQ q=(Rat.divInt ((normalN (q.num.toNat * q.den)).1:Nat) (q.den:Nat),(normalN (q.num.toNat * q.den)).2):=by unfold normQ;rw [if_neg (by omega)]
 rw [e]
 generalize normalN (q.num.toNat * q.den)=r at *
 exact h1
theorem oneC_root {c q:Rat} {k:Nat} (hc:Sz k c) (hc0:c≠0) (hq:Sz k q) (h0:0 < q.num) (hk:k≤20):OneC [(c,q)] (normQ q).2∧gsum [(c,q)]=c * (normQ q).1∧0 < (normQ q).1∧Sz k (normQ q).1∧(normQ q).2 < 10 ^ (k+k)∧1≤(normQ q).2:=by
 have hq0:q≠0:=fun h=>by rw [h] at h0;simp at h0
 obtain ⟨z1,z2⟩:=normQ_sz h0 hq
 obtain ⟨v1,v2,v3⟩:=normQ_val h0
 have e:tv (c,q)=c * (normQ q).1:=tv_pos hc0 hq0
 refine ⟨oneC_single (hc.mono (by omega)) (hq.mono (by omega)) (by omega) (fun _ _=>rfl) v3 (Nat.lt_of_lt_of_le z2 (Nat.pow_le_pow_right (by decide) (by omega))) (.inr (normQ_nm h0)) (by rw [e];exact (hc.mul z1).mono (by omega)),by rw [gsum_one,e],v2,z1,z2,v3⟩
theorem oneC_unit {c:Rat} (hc:Sz 60 c):OneC [(c,1)] 1∧gsum [(c,1)]=c :=
 ⟨oneC_single (hc.mono (by decide)) (sz1 (by decide)) (by decide) (fun _ _=>by rw [normQ_one]) (by decide) (by decide) (.inl rfl) (by rw [tv_unit];exact hc),by rw [gsum_one,tv_unit]⟩
theorem oneC_unit2 {c d:Rat} (hc:Sz 60 c) (hd:Sz 60 d) (hs:Sz 60 (c+d)):OneC [(c,1),(d,1)] 1∧gsum [(c,1),(d,1)]=c+d:=by
 have e2:gsum [(c,1),(d,1)]=c+d:=by
  have:[(c,(1:Rat)),(d,1)]=[(c,1)]++[(d,1)]:=rfl
  rw [this,gsum_snoc,gsum_one,tv_unit,tv_unit]
 refine ⟨⟨by simp,fun k hk=>?_,fun k hk=>?_,fun k hk=>?_,fun k hk _=>?_,fun k hk=>?_,by decide,by decide +kernel,.inl rfl,by rw [e2];exact longD_of_sz hs (by decide)⟩,e2⟩
 ·match k,hk with
  | 0,_=>exact hc.mono (by decide)
  | 1,_=>exact hd.mono (by decide)
 ·match k,hk with
  | 0,_=>exact sz1 (by decide)
  | 1,_=>exact sz1 (by decide)
 ·match k,hk with
  | 0,_=>show (0:Int)≤(1:Rat).num;decide
  | 1,_=>show (0:Int)≤(1:Rat).num;decide
 ·match k,hk with
  | 0,_=>exact congrArg Prod.snd normQ_one
  | 1,_=>exact congrArg Prod.snd normQ_one
 ·match k,hk with
  | 0,_=>exact sz0 (by decide)
  | 1,_ =>
   show Sz 90 (gsum [(c,1)])
   rw [gsum_one,tv_unit];exact hc.mono (by decide)
  | 2,_ =>
   show Sz 90 (gsum [(c,1),(d,1)])
   rw [e2];exact hs.mono (by decide)
theorem oneT_ne {S:Rat} {n:Nat} (h:S≠0):oneT S n=[(S,n)]:=if_neg h
theorem oneT_zero {n:Nat}:oneT 0 n=[]:=if_pos rfl
theorem oneC_sum {c d:Rat} (hc:Sz 60 c) (hd:Sz 60 d) (hs:Sz 60 (c+d)):OneC (toQ (oneT c 1)++toQ (oneT d 1)) 1∧gsum (toQ (oneT c 1)++toQ (oneT d 1))=c+d:=by
 have e1:((1:Nat):Int)=1:=rfl
 by_cases h1:c=0
 ·subst h1
  rw [oneT_zero]
  by_cases h2:d=0
  ·subst h2
   rw [oneT_zero]
   exact ⟨oneC_nil,by decide +kernel⟩
  ·rw [oneT_ne h2,Rat.zero_add]
   exact oneC_unit hd
 ·rw [oneT_ne h1]
  by_cases h2:d=0
  ·subst h2
   rw [oneT_zero,Rat.add_zero]
   exact oneC_unit hc
  ·rw [oneT_ne h2]
   exact oneC_unit2 hc hd hs
theorem oneC_square {p q R:Rat} {n m:Nat} (hp:0 < p) (hq:0 < q) (hn:1≤n) (hm:1≤m) (hR:0 < R) (hv:R * R=(p * p * ((n:Nat):Rat)) * (q * q * ((m:Nat):Rat))) (hpq:Sz 90 (p * q)) (hnm:Sz 90 (((n:Int):Rat) * ((m:Int):Rat))) (hRz:Sz 60 R) :
  OneC [(p * q,((n:Int):Rat) * ((m:Int):Rat))] 1∧gsum [(p * q,((n:Int):Rat) * ((m:Int):Rat))]=R:=by
 have e1:((n:Int):Rat)=((n:Nat):Rat):=rfl
 have e2:((m:Int):Rat)=((m:Nat):Rat):=rfl
 rw [e1,e2] at hnm ⊢
 have hn0:(0:Rat) < ((n:Nat):Rat):=Rat.natCast_pos.2 hn
 have hm0:(0:Rat) < ((m:Nat):Rat):=Rat.natCast_pos.2 hm
 generalize ((n:Nat):Rat)=a at *
 generalize ((m:Nat):Rat)=b at *
 have hpq0:0 < p * q:=Rat.mul_pos hp hq
 have hpqn:p * q≠0:=fun h=>by rw [h] at hpq0;exact Rat.lt_irrefl hpq0
 have hab:0 < a * b:=Rat.mul_pos hn0 hm0
 have habn:a * b≠0:=fun h=>by rw [h] at hab;exact Rat.lt_irrefl hab
 have hx:0 < R / (p * q):=by rw [Rat.div_def];exact Rat.mul_pos hR (Rat.inv_pos.2 hpq0)
 have hsq:a * b=(R / (p * q)) * (R / (p * q)):=by
  have hpn:p≠0:=fun h=>by rw [h] at hp;exact Rat.lt_irrefl hp
  have hqn:q≠0:=fun h=>by rw [h] at hq;exact Rat.lt_irrefl hq
  clear hpq hnm hRz hx hab habn hn0 hm0 hR hp hq hpq0
  grind
 have hN:=normQ_sq hx hsq
 have e:tv (p * q,a * b)=R:=by
  rw [tv_pos hpqn habn,hN]
  dsimp only
  rw [Rat.mul_comm,Rat.div_mul_cancel hpqn]
 have hnum:0≤(a * b).num:=by
  have:=(Rat.lt_iff 0 (a * b)).1 hab
  simp at this
  omega
 exact ⟨oneC_single hpq hnm hnum (fun _ _=>by rw [hN]) (by decide) (by decide) (.inl rfl) (by rw [e];exact hRz),by rw [gsum_one,e]⟩
end Go.Proofs.YtbbclfbpllbbbaaGreatDoor
namespace Go.Proofs.YtbbclfbpllbbbaaGreatDoor
open Go.RowKit Go.Shelf
theorem oneC_rootN {c:Rat} {n m:Nat} (hc:Sz 40 c) (hc0:c≠0) (hn:1≤n) (hm:1≤m) (hnm:n * m < 10 ^ 40) :
  ∃ (d:Rat) (l:Nat),OneC [(c,((n:Int):Rat) * ((m:Int):Rat))] l∧gsum [(c,((n:Int):Rat) * ((m:Int):Rat))]=c * d∧0 < d∧Sz 20 d∧l < 10 ^ 40∧1≤l∧d * d * ((l:Nat):Rat)=((n:Nat):Rat) * ((m:Nat):Rat):=by
 have e1:((n:Int):Rat) * ((m:Int):Rat)=(((n * m:Nat):Int):Rat):=by rw [Int.natCast_mul,Rat.intCast_mul]
 have e2:((n:Nat):Rat) * ((m:Nat):Rat)=(((n * m:Nat):Int):Rat):=e1
 have h1:1≤n * m:=Nat.mul_pos hn hm
 rw [e1,e2]
 generalize n * m=N at *
 have hnum:(((N:Int):Rat)).num=(N:Int):=rfl
 have hden:(((N:Int):Rat)).den=1:=rfl
 have h0:0 < (((N:Int):Rat)).num:=by rw [hnum];omega
 obtain ⟨v1,v2,v3⟩:=normQ_val h0
 obtain ⟨i1,i2,i3,i4⟩:=normalN_inv (show 0 < N by omega)
 have hcl:=sq_lt_pow (k:=20) i1 i3 (by simpa using hnm)
 have eN:normQ ((N:Int):Rat)=(((((normalN N).1:Nat):Int):Rat),(normalN N).2):=by
  unfold normQ
  rw [if_neg (by omega),hnum,hden,Nat.mul_one,Int.toNat_natCast,Rat.divInt_ofNat,Rat.mkRat_one]
 have hnm2:=normQ_nm h0
 obtain ⟨a,l,hr⟩:∃ a l,normalN N=(a,l):=by
  cases normalN N with
  | mk x y=>exact ⟨x,y,rfl⟩
 rw [hr] at eN i1 i2 i3 i4 hcl
 rw [eN] at v1 v2 v3 hnm2
 dsimp only at v1 v2 v3 hnm2 i1 i2 i3 i4 hcl
 have hl40:l < 10 ^ 40:=Nat.lt_of_le_of_lt i4 hnm
 have hz20:Sz 20 (((a:Nat):Int):Rat):=sz_natR hcl (by decide)
 have hne:(((N:Int):Rat))≠0:=fun h=>by rw [h] at h0;simp at h0
 have e:tv (c,((N:Int):Rat))=c * (((a:Nat):Int):Rat):=by rw [tv_pos hc0 hne,eN]
 exact ⟨(((a:Nat):Int):Rat),l,oneC_single (hc.mono (by decide)) (sz_natR (Nat.lt_of_lt_of_le hnm (Nat.pow_le_pow_right (by decide) (by decide))) (by decide)) (by omega) (fun _ _=>by rw [eN]) v3 hl40 (.inr hnm2) (by rw [e];exact (hc.mul hz20).mono (by decide)),by rw [gsum_one,e],v2,hz20,hl40,v3,v1⟩
def IsR (k:Nat) (s:ByteArray) (q:Rat):Prop:=s.data.toList=ratText q∧Sz k q
theorem IsR.q {k:Nat} {s:ByteArray} {q:Rat} (h:IsR k s q) (hk:k≤90):IsQ s q:=⟨h.1,h.2.mono hk⟩
theorem ne_of_pos {q:Rat} (h:0 < q):q≠0:=fun h2=>by rw [h2] at h;exact Rat.lt_irrefl h
theorem num_of_pos {q:Rat} (h:0 < q):0 < q.num:=by
 have:=(Rat.lt_iff 0 q).1 h
 simpa using this
def Seat (S:Terms) (sq:Rat):Prop:=(S=[]∧sq=0)∨∃ s m,S=[(s,m)]∧0 < s∧Sz 20 s∧m < 10 ^ 14∧sq=s * s * ((m:Nat):Rat)
theorem Rebuild_rat (px py pz ax ay l sq F R:Rat) (n:Nat) (L M:TTexts) (S:Terms) (fx fy fz sx sy az:ByteArray) (u v:Value) (w:World) (hG:Glo w) (hP:Pri w)
  (h1:IsR 10 fx px) (h2:IsR 10 fy py) (h3:IsR 10 fz pz) (h4:IsR 10 sx ax) (h5:IsR 10 sy ay) (h6:az.data.toList=[48])
  (hu:IsTerms w u L) (hv:IsTerms w v M) (hT:SurdIs L [(l,n)]) (hS:SurdIs M S) (hl:0 < l) (hlz:Sz 20 l) (hn:n < 10 ^ 14) (hse:Seat S sq)
  (hW:0 < 1+sq) (hWz:Sz 10 (1 / (1+sq))) (hWz2:Sz 90 (1+sq)) (hH:0 < ax * ax+ay * ay) (hHz:Sz 10 (1 / (ax * ax+ay * ay)))
  (hF:0 < F) (hFz:Sz 20 F) (hFv:F * F=l * l * ((n:Nat):Rat) * (1 / (1+sq)) * (1 / (ax * ax+ay * ay)))
  (hR:(S=[]∧R=0)∨(0 < R∧Sz 20 R∧R * R=l * l * ((n:Nat):Rat) * (1 / (1+sq)) * sq)) :
  Calls Tryz.prog 17 #[.agg #[.string fx,.string fy,.string fz],.agg #[.string sx,.string sy,.string az],u,v] w (RetMk (oneL (px+F * ax) 1) (oneL (py+F * ay) 1) (oneL (pz+R) 1) w):=by
 have hW1:0 < 1 / (1+sq):=by rw [Rat.div_def,Rat.one_mul];exact Rat.inv_pos.2 hW
 have hH1:0 < 1 / (ax * ax+ay * ay):=by rw [Rat.div_def,Rat.one_mul];exact Rat.inv_pos.2 hH
 have hn1:1≤n:=(hT.ok 0 (by rw [← hT.same];simp)).m1
 obtain ⟨w1,w2,w3,w4,w5,w6⟩:=oneC_root (c:=1) (k:=10) (sz1 (by decide)) (by decide +kernel) hWz (num_of_pos hW1) (by decide)
 obtain ⟨g1,g2,g3,g4,g5,g6⟩:=oneC_root (c:=1) (k:=10) (sz1 (by decide)) (by decide +kernel) hHz (num_of_pos hH1) (by decide)
 have wv:=(normQ_val (num_of_pos hW1)).1
 have gv:=(normQ_val (num_of_pos hH1)).1
 generalize (normQ (1 / (1+sq))).1=cw at *
 generalize (normQ (1 / (1+sq))).2=nw at *
 generalize (normQ (1 / (ax * ax+ay * ay))).1=ch at *
 generalize (normQ (1 / (ax * ax+ay * ay))).2=nh at *
 rw [Rat.one_mul] at w2 g2
 have hTW:=w1.is
 have hTH:=g1.is
 rw [w2,oneT_ne (ne_of_pos w3)] at hTW
 rw [g2,oneT_ne (ne_of_pos g3)] at hTH
 have hnw:n * nw < 10 ^ 40:=Nat.lt_of_lt_of_le (Nat.mul_lt_mul'' hn w5) (by decide)
 obtain ⟨d,nr,r1,r2,r3,r4,r5,r6,r7⟩:=oneC_rootN (c:=l * cw) (n:=n) (m:=nw) ((hlz.mul w4).mono (by decide)) (ne_of_pos (Rat.mul_pos hl w3)) hn1 w6 hnw
 have hPr:prodQ [(l,n)] [(cw,nw)]=[(l * cw,((n:Int):Rat) * ((nw:Int):Rat))]:=rfl
 have hrho:0 < l * cw * d:=Rat.mul_pos (Rat.mul_pos hl w3) r3
 have hTR:=r1.is
 rw [r2,oneT_ne (ne_of_pos hrho)] at hTR
 have hrz:Sz 50 (l * cw * d):=((hlz.mul w4).mul r4).mono (by decide)
 have hrv:(l * cw * d) * (l * cw * d) * ((nr:Nat):Rat)=l * l * ((n:Nat):Rat) * (1 / (1+sq)):=by
  rw [← wv]
  clear hFv hR wv gv hWz hWz2 hHz
  grind
 obtain ⟨f1,f2⟩:=oneC_square (p:=l * cw * d) (q:=ch) (R:=F) (n:=nr) (m:=nh) hrho g3 r6 g6 hF (by rw [hrv,gv,hFv]) ((hrz.mul g4).mono (by decide)) ((sz_natR r5 (by decide)).mul (sz_natR g5 (by decide)) |>.mono (by decide)) (hFz.mono (by decide))
 have hTF:=f1.is
 rw [f2,oneT_ne (ne_of_pos hF)] at hTF
 obtain ⟨x1,x2⟩:=oneC_unit (c:=F * ax) ((hFz.mul h4.2).mono (by decide))
 obtain ⟨y1,y2⟩:=oneC_unit (c:=F * ay) ((hFz.mul h5.2).mono (by decide))
 have hTX:=x1.is
 have hTY:=y1.is
 rw [x2] at hTX
 rw [y2] at hTY
 obtain ⟨sx1,sx2⟩:=oneC_sum (c:=px) (d:=F * ax) (h1.2.mono (by decide)) ((hFz.mul h4.2).mono (by decide)) ((h1.2.add (hFz.mul h4.2)).mono (by decide))
 obtain ⟨sy1,sy2⟩:=oneC_sum (c:=py) (d:=F * ay) (h2.2.mono (by decide)) ((hFz.mul h5.2).mono (by decide)) ((h2.2.add (hFz.mul h5.2)).mono (by decide))
 have hRz:Sz 20 R:=by
  rcases hR with ⟨_,h⟩|h
  ·rw [h];exact sz0 (by decide)
  ·exact h.2.1
 obtain ⟨sz1',sz2'⟩:=oneC_sum (c:=pz) (d:=R) (h3.2.mono (by decide)) (hRz.mono (by decide)) ((h3.2.add hRz).mono (by decide))
 have hZ:OneC (prodQ [(l * cw * d,nr)] S) 1∧gsum (prodQ [(l * cw * d,nr)] S)=R:=by
  rcases hse with ⟨rfl,rfl⟩|⟨s,m,rfl,q1,q2,q3,q4⟩
  ·have e:prodQ [(l * cw * d,nr)] []=[]:=rfl
   rw [e]
   rcases hR with ⟨_,h⟩|⟨h,_,h3⟩
   ·rw [h];exact ⟨oneC_nil,by decide +kernel⟩
   ·rw [Rat.mul_zero] at h3
    have:=Rat.mul_pos h h
    rw [h3] at this
    exact absurd this Rat.lt_irrefl
  ·rcases hR with ⟨h,_⟩|⟨h,hz,h3⟩
   ·cases h
   ·have hm1:1≤m:=(hS.ok 0 (by rw [← hS.same];simp)).m1
    exact oneC_square (p:=l * cw * d) (q:=s) (R:=R) (n:=nr) (m:=m) hrho q1 r6 hm1 h (by rw [hrv,h3,q4]) ((hrz.mul q2).mono (by decide)) ((sz_natR r5 (by decide)).mul (sz_natR q3 (by decide)) |>.mono (by decide)) (hz.mono (by decide))
 obtain ⟨z1,z2⟩:=hZ
 have hTZ:=z1.is
 rw [z2] at hTZ
 have hSl:M.length≤1:=by
  rw [← hS.same]
  rcases hse with ⟨rfl,_⟩|⟨s,m,rfl,_⟩<;>simp
 have hax0:¬ (ax=0∧ay=0):=by
  rintro ⟨rfl,rfl⟩
  exact absurd hH (by decide +kernel)
 have hsqz:Sz 54 sq:=by
  rcases hse with ⟨_,rfl⟩|⟨s,m,_,_,q2,q3,q4⟩
  ·exact sz0 (by decide)
  ·rw [q4];exact ((q2.mul q2).mul (show Sz 14 ((m:Nat):Rat) from sz_natR q3 (by decide))).mono (by decide)
 have key:∃ (sc sr s2 s3:ByteArray),(M.length=0→numS sq=⟨#[48]⟩)∧(M.length=1→tt M 0=(sc,sr)∧numS sq=s3)∧(∀ W,Glo W→Calls Tryz.prog 49 #[.string sc,.string sc] W (RetB (.tuple #[.string s2,.int .i64 0]) W))∧(∀ W,Glo W→Calls Tryz.prog 49 #[.string s2,.string sr] W (RetB (.tuple #[.string s3,.int .i64 0]) W)):=by
  rcases hse with ⟨rfl,rfl⟩|⟨s,m,rfl,q1,q2,q3,q4⟩
  ·refine ⟨numS 0,numS 0,numS (0 * 0),numS (0 * 0 * 0),fun _=>?_,fun h=>?_,fun W hG=>?_,fun W hG=>?_⟩
   ·exact (numS_of (s:=⟨#[48]⟩) (by decide +kernel)).symm
   ·have:=hS.same;rw [h] at this;cases this
   ·exact (RMul_ok (a:=1) (b:=1) _ _ W hG (numS_list 0) (sz0 (by decide)) (numS_list 0) (sz0 (by decide)) (by decide)).mono fun e w' h=>h.b
   ·exact (RMul_ok (a:=2) (b:=1) _ _ W hG (numS_list (0 * 0)) (by rw [Rat.mul_zero];exact sz0 (by decide)) (numS_list 0) (sz0 (by decide)) (by decide)).mono fun e w' h=>h.b
  ·have hok:=hS.ok 0 (by rw [← hS.same];simp)
   have e:tq [(s,m)] 0=(s,m):=rfl
   rw [e] at hok
   have e2:(tt M 0).1=numS s:=numS_of hok.c
   have e3:(tt M 0).2=numS ((m:Int):Rat):=by rw [← decS_num];exact decS_of hok.r
   refine ⟨numS s,numS ((m:Int):Rat),numS (s * s),numS sq,fun h=>?_,fun _=>⟨Prod.ext e2 e3,rfl⟩,fun W hG=>?_,fun W hG=>?_⟩
   ·have:=hS.same;rw [h] at this;cases this
   ·exact (RMul_ok (a:=20) (b:=20) _ _ W hG (numS_list s) q2 (numS_list s) q2 (by decide)).mono fun e w' h=>h.b
   ·rw [q4]
    exact (RMul_ok (a:=40) (b:=14) _ _ W hG (numS_list (s * s)) (q2.mul q2) (numS_list _) (sz_natR q3 (by decide)) (by decide)).mono fun e w' h=>h.b
 obtain ⟨sc,sr,s2,s3,k0,k1,k2,k3⟩:=key
 have hrun:∀ X,X=oneL (gsum (prodQ [(l,n)] [(cw,nw)])) nr→X=oneL (l * cw * d) nr:=fun X h=>by rw [h,hPr,r2]
 refine rebuild_walk fx fy fz sx sy az sc sr s2 s3 (numS sq) (numS (1+sq)) (numS (ax * ax)) (numS (ay * ay)) (numS (ax * ax+ay * ay)) L M (oneL cw nw) (oneL ch nh) (oneL (l * cw * d) nr) (oneL F 1) (oneL (F * ax) 1) (oneL (px+F * ax) 1) (oneL (F * ay) 1) (oneL (py+F * ay) 1) (oneL R 1) (oneL (pz+R) 1) u v w hu hv hSl
  ?start k0 k1 (fun W hB=>k2 W (hG.below hB)) (fun W hB=>k3 W (hG.below hB)) ?c51 ?crw ?c60 ?c68 ?c72 ?crh ?c79 ?c85 ?c94 ?c98 ?c104 ?c108 ?c113 ?c117
 case start =>
  have hB:Below w.heap.size w (((w.alloc (.cells #[.string fx,.string fy,.string fz] 37)).alloc (.cells #[.string sx,.string sy,.string az] 37)).alloc (.cells #[.slice none 0 0,.slice none 0 0,.slice none 0 0] 41)):=qbl
  exact start_ok fx fy fz sx sy az px py pz ax ay [(l,n)] S L M u v _ (hG.below hB) (hP.below hB) (h1.q (by decide)) (h2.q (by decide)) (h3.q (by decide)) (h4.q (by decide)) (h5.q (by decide)) h6 (hu.below hB) (hv.below hB) hT hS hSl hax0
 case c51=>exact fun W hB=>(RAdd_ok (a:=1) (b:=54) ⟨#[49]⟩ (numS sq) W (hG.below hB) one_list (sz1 (by decide)) (numS_list sq) hsqz (by decide)).mono fun e w' h=>h.b
 case crw=>exact fun W b hB hc=>(by rw [← w2];exact root_ok b (1+sq) nw (numS (1+sq)) W (hG.below hB) (hP.below hB) hc (numS_list _) hWz2 (num_of_pos hW) w1)
 case c60=>exact fun W hB=>(RMul_ok (a:=10) (b:=10) sx sx W (hG.below hB) h4.1 h4.2 h4.1 h4.2 (by decide)).mono fun e w' h=>h.b
 case c68=>exact fun W hB=>(RMul_ok (a:=10) (b:=10) sy sy W (hG.below hB) h5.1 h5.2 h5.1 h5.2 (by decide)).mono fun e w' h=>h.b
 case c72=>exact fun W hB=>(RAdd_ok (a:=20) (b:=20) _ _ W (hG.below hB) (numS_list _) (h4.2.mul h4.2) (numS_list _) (h5.2.mul h5.2) (by decide)).mono fun e w' h=>h.b
 case crh=>exact fun W b hB hc=>(by rw [← g2];exact root_ok b (ax * ax+ay * ay) nh _ W (hG.below hB) (hP.below hB) hc (numS_list _) (((h4.2.mul h4.2).add (h5.2.mul h5.2)).mono (by decide)) (num_of_pos hH) g1)
 case c79=>exact fun W x y hB hx hy=>(by rw [← r2,← hPr];exact Mul_ok [(l,n)] [(cw,nw)] nr L (oneL cw nw) x y W (hG.below hB) (hP.below hB) hx hy hT hTW (by rw [hPr];exact r1))
 case c85=>exact fun W x y hB hx hy=>(by
  have e:prodQ [(l * cw * d,nr)] [(ch,nh)]=[(l * cw * d * ch,((nr:Int):Rat) * ((nh:Int):Rat))]:=rfl
  rw [← f2,← e]
  exact Mul_ok [(l * cw * d,nr)] [(ch,nh)] 1 _ _ x y W (hG.below hB) (hP.below hB) hx hy hTR hTH (by rw [e];exact f1))
 case c94=>exact fun W x hB hx=>(by
  have e:scaledQ [(F,1)] ax=[(F * ax,1)]:=rfl
  have h0:=Scale_ok [(F,1)] ax 1 (oneL F 1) x sx W (hG.below hB) (hP.below hB) hx hTF h4.1 (h4.2.mono (by decide)) (by rw [e];exact x1)
  rw [e,x2] at h0
  exact h0)
 case c98=>exact fun W b x hB hc hx=>(by
  have h0:=cPlus_ok b px 1 fx (oneT (F * ax) 1) (oneL (F * ax) 1) x W (hG.below hB) (hP.below hB) hc h1.1 (oneC_unit (h1.2.mono (by decide))).1 hx hTX sx1
  rw [sx2] at h0
  exact h0)
 case c104=>exact fun W x hB hx=>(by
  have e:scaledQ [(F,1)] ay=[(F * ay,1)]:=rfl
  have h0:=Scale_ok [(F,1)] ay 1 (oneL F 1) x sy W (hG.below hB) (hP.below hB) hx hTF h5.1 (h5.2.mono (by decide)) (by rw [e];exact y1)
  rw [e,y2] at h0
  exact h0)
 case c108=>exact fun W b x hB hc hx=>(by
  have h0:=cPlus_ok b py 1 fy (oneT (F * ay) 1) (oneL (F * ay) 1) x W (hG.below hB) (hP.below hB) hc h2.1 (oneC_unit (h2.2.mono (by decide))).1 hx hTY sy1
  rw [sy2] at h0
  exact h0)
 case c113=>exact fun W x y hB hx hy=>(by rw [← z2];exact Mul_ok [(l * cw * d,nr)] S 1 _ M x y W (hG.below hB) (hP.below hB) hx hy hTR hS z1)
 case c117=>exact fun W b x hB hc hx=>(by
  have h0:=cPlus_ok b pz 1 fz (oneT R 1) (oneL R 1) x W (hG.below hB) (hP.below hB) hc h3.1 (oneC_unit (h3.2.mono (by decide))).1 hx hTZ sz1'
  rw [sz2'] at h0
  exact h0)
end Go.Proofs.YtbbclfbpllbbbaaGreatDoor
namespace Go.Proofs.YtbbclfbpllbbbaaGreatDoor
open Go.RowKit Go.Shelf
theorem OfI_ok (n:Int) (d:Nat) (w:World) (hG:Glo w) (hn0 : -1000000000000000000≤n) (hn:n≤1000000000000000000) (hd:d≤1000000000000000000) (hd0:0 < d) :
  Calls Tryz.prog 23 #[.int .i64 n,.int .i64 (d:Int)] w (RetN (Rat.divInt n d) w):=by
 have HI:=Lib.hid (fun (x:Int) (hx0 : -1000000000000000000≤x) (hx:x≤1000000000000000000) W hG=>itoa_any x (by omega) (by omega) W hG)
 have HG:=Lib.hid hG
 have d0:¬ ((d:Int)=0):=by omega
 by_cases h1:d=1
 ·subst h1
  have e:Lib.itoa n=ratText (Rat.divInt n (1:Nat)):=by
   rw [show Rat.divInt n ((1:Nat):Int)=(n:Rat) from by rw [Rat.divInt_ofNat,Rat.mkRat_one],ratText_int]
  have HE:=Lib.hid e
  clear e hG
  go_enter Tryz.func23,Tryz.ntmps23
  go_wp2_with fail
  refine (HI.out n hn0 hn _ (HG.out.below qbl)).mono ?_
  rintro e w1 ⟨r,hr,rfl,hB1⟩
  have HR:=Lib.hid hr
  clear hr
  go_wp2_with fail
  go_ret2
  exact ⟨r,by rw [HR.out,HE.out],rfl,hB1⟩
 ·have d1:¬ ((d:Int)=1):=by omega
  have HN:=Lib.hid (fun (s t:ByteArray) W hG hs ht=>Qnumber_ok n (d:Int) s t W hG hs (fit_of_lt (Nat.lt_of_le_of_lt (show n.natAbs≤1000000000000000000 by omega) (Nat.lt_of_lt_of_le (by decide:1000000000000000000 < 10 ^ 19) (pow10_le (a:=19) (b:=300) (by decide))))) ht (fit_nat (Nat.lt_of_le_of_lt hd (Nat.lt_of_lt_of_le (by decide:1000000000000000000 < 10 ^ 19) (pow10_le (a:=19) (b:=300) (by decide))))) (by omega))
  clear hG h1 hd0
  go_enter Tryz.func23,Tryz.ntmps23
  go_wp2_with fail
  refine (HI.out n hn0 hn _ (HG.out.below qbl)).mono ?_
  rintro e w1 ⟨r,hr,rfl,hB1⟩
  have HR:=Lib.hid hr
  clear hr
  go_wp2_with fail
  refine (HI.out (d:Int) (by omega) (by omega) _ (HG.out.below hB1)).mono ?_
  rintro e w2 ⟨s,hs,rfl,hB2⟩
  have hb2:=below_trans' hB1 hB2
  have HS:=Lib.hid hs
  clear hs hB2 hB1
  go_wp2_with fail
  refine (HN.out r s _ (HG.out.below hb2) HR.out HS.out).mono ?_
  rintro e w3 ⟨t,ht,rfl,hB3⟩
  have hb3:=below_trans' hb2 hB3
  have HT:=Lib.hid ht
  clear ht hB3
  go_wp2_with fail
  go_ret2
  exact ⟨t,HT.out,rfl,hb3⟩
theorem lawNum_ok (q:Rat) (n d:Int) (w:World) (h:Calls Tryz.prog 23 #[.int .i64 n,.int .i64 d] w (RetN q w)) :
  Calls Tryz.prog 14 #[.int .i64 n,.int .i64 d] w (RetB (.string (numS q)) w):=by
 have H:=Lib.hid h
 clear h
 go_enter Tryz.func14,Tryz.ntmps14
 go_wp2_with fail
 refine H.out.mono ?_
 rintro e w1 ⟨r,hr,rfl,hB1⟩
 obtain rfl:=numS_of hr
 clear hr
 go_wp2_with fail
 go_ret
 exact ⟨rfl,hB1⟩
theorem oneC_diff {c:Rat} (hc:Sz 59 c):OneC (toQ (oneT c 1)++scaledQ (oneT c 1) (-1)) 1∧gsum (toQ (oneT c 1)++scaledQ (oneT c 1) (-1))=0:=by
 by_cases h:c=0
 ·subst h
  rw [oneT_zero]
  exact ⟨oneC_nil,by decide +kernel⟩
 ·rw [oneT_ne h]
  have e:c+c * -1=0:=by rw [Rat.mul_neg,Rat.mul_one,Rat.add_neg_cancel]
  have hn:Sz 60 (c * -1):=by
   rw [Rat.mul_neg,Rat.mul_one]
   exact (show Sz 59 (-c) from ⟨by rw [Rat.neg_num,Int.natAbs_neg];exact hc.1,by rw [Rat.neg_den];exact hc.2⟩).mono (by decide)
  obtain ⟨a1,a2⟩:=oneC_unit2 (c:=c) (d:=c * -1) (hc.mono (by decide)) hn (by rw [e];exact sz0 (by decide))
  exact ⟨a1,by rw [← e];exact a2⟩
end Go.Proofs.YtbbclfbpllbbbaaGreatDoor
namespace Go.Proofs.YtbbclfbpllbbbaaGreatDoor
open Go.RowKit Go.Shelf
theorem natR_pos {n:Nat} (h:1≤n):(0:Rat) < ((n:Nat):Rat):=Rat.natCast_pos.2 h
theorem zeroS:(⟨#[48]⟩:ByteArray).data.toList=ratText 0:=by decide +kernel
theorem isR_zero:IsR 10 (⟨#[48]⟩:ByteArray) 0:=⟨zeroS,sz0 (by decide)⟩
theorem rat_lt_le {a b c:Rat} (h:a < b) (k:b≤c):a < c:=Rat.not_le.1 fun h2=>absurd h (Rat.not_lt.2 (Rat.le_trans k h2))
def lenT (D:Nat):Rat × Nat:=normQ ((D:Nat):Rat)
theorem lenT_ok {D:Nat} (h0:1≤D) (hD:D < 10 ^ 6):OneC [(1,((D:Nat):Rat))] (lenT D).2∧gsum [(1,((D:Nat):Rat))]=(lenT D).1∧0 < (lenT D).1∧Sz 6 (lenT D).1∧(lenT D).2 < 10 ^ 14∧(lenT D).1 * (lenT D).1 * (((lenT D).2:Nat):Rat)=((D:Nat):Rat):=by
 have hp:=num_of_pos (natR_pos h0)
 obtain ⟨a1,a2,a3,a4,a5,a6⟩:=oneC_root (c:=1) (k:=6) (sz1 (by decide)) (by decide +kernel) (sz_natR hD (by decide)) hp (by decide)
 exact ⟨a1,by rw [Rat.one_mul] at a2;exact a2,a3,a4,Nat.lt_of_lt_of_le a5 (by decide),(normQ_val hp).1⟩
theorem rat_eq_div (a b:Nat):Rat.divInt (a:Int) (b:Int)=((a:Nat):Rat) / ((b:Nat):Rat):=Rat.divInt_eq_div _ _
theorem lenReb (ru ri:Nat) (ax ay:Rat) (sx sy:ByteArray) (u v:Value) (w:World) (hG:Glo w) (hP:Pri w) (hru:1≤ru) (hru2:ru≤256) (hri:ri≤255) (hxy:ax * ax+ay * ay=1) (hx:IsR 10 sx ax) (hy:IsR 10 sy ay)
  (hu:IsTerms w u (oneL (lenT (ru * ru+ri * ri)).1 (lenT (ru * ru+ri * ri)).2)) (hv:IsTerms w v (oneL (Rat.divInt (ri:Int) (ru:Int)) 1)) :
  Calls Tryz.prog 17 #[.agg #[.string ⟨#[48]⟩,.string ⟨#[48]⟩,.string ⟨#[48]⟩],.agg #[.string sx,.string sy,.string ⟨#[48]⟩],u,v] w
   (RetMk (oneL (0+((ru:Nat):Rat) * ax) 1) (oneL (0+((ru:Nat):Rat) * ay) 1) (oneL (0+((ri:Nat):Rat)) 1) w):=by
 have hr2:ru * ru≤256 * 256:=Nat.mul_le_mul hru2 hru2
 have hi2:ri * ri≤255 * 255:=Nat.mul_le_mul hri hri
 have hr1:1≤ru * ru:=Nat.mul_pos hru hru
 have hD:ru * ru+ri * ri < 10 ^ 6:=Nat.lt_of_le_of_lt (Nat.add_le_add hr2 hi2) (by decide)
 obtain ⟨l1,l2,l3,l4,l5,l6⟩:=lenT_ok (D:=ru * ru+ri * ri) (by omega) hD
 have hTL:=l1.is
 rw [l2,oneT_ne (ne_of_pos l3)] at hTL
 have hcz:Sz 3 (Rat.divInt (ri:Int) (ru:Int)):=sz_divInt (by omega) (by rw [Int.natAbs_natCast];exact Nat.lt_of_le_of_lt hri (by decide)) (by rw [Int.natAbs_natCast];exact Nat.lt_of_le_of_lt hru2 (by decide))
 have hinv:Sz 10 (Rat.divInt ((ru * ru:Nat):Int) ((ru * ru+ri * ri:Nat):Int)):=sz_divInt (by omega) (by rw [Int.natAbs_natCast];exact Nat.lt_of_le_of_lt hr2 (by decide)) (by rw [Int.natAbs_natCast];exact Nat.lt_of_lt_of_le hD (by decide))
 have hS:=(oneC_unit (c:=Rat.divInt (ri:Int) (ru:Int)) (hcz.mono (by decide)))
 have hSI:=hS.1.is
 rw [hS.2] at hSI
 rw [rat_eq_div] at hcz hSI hv
 rw [rat_eq_div] at hinv
 have hq0:(0:Rat) < ((ru:Nat):Rat):=natR_pos hru
 have hri0:(0:Rat)≤((ri:Nat):Rat):=Rat.natCast_nonneg
 rw [Rat.natCast_add,Rat.natCast_mul,Rat.natCast_mul] at hinv l6
 have hruz:Sz 20 ((ru:Nat):Rat):=sz_natR (Nat.lt_of_le_of_lt hru2 (by decide)) (by decide)
 have hriz:Sz 20 ((ri:Nat):Rat):=sz_natR (Nat.lt_of_le_of_lt hri (by decide)) (by decide)
 have hri1:ri=0∨(0:Rat) < ((ri:Nat):Rat):=by
  rcases Nat.eq_zero_or_pos ri with h|h
  ·exact .inl h
  ·exact .inr (natR_pos h)
 generalize (lenT (ru * ru+ri * ri)).1=l at *
 generalize (lenT (ru * ru+ri * ri)).2=n at *
 have hz:ri=0→((ri:Nat):Rat)=0:=fun h=>by rw [h];rfl
 clear hr2 hi2 hr1 hD l1 l2 hS hri hru hru2
 generalize ((ru:Nat):Rat)=a at *
 generalize ((ri:Nat):Rat)=b at *
 have hane:a≠0:=ne_of_pos hq0
 have hnn:(0:Rat)≤b / a * (b / a):=by
  have h1:(0:Rat)≤b / a:=by rw [Rat.div_def];exact Rat.mul_nonneg hri0 (Rat.le_of_lt (Rat.inv_pos.2 hq0))
  exact Rat.mul_nonneg h1 h1
 have hW:(0:Rat) < 1+b / a * (b / a):=rat_lt_le (by decide +kernel:(0:Rat) < 1) (by
  have:=Rat.add_le_add_left (c:=1) |>.2 hnn
  rwa [Rat.add_zero] at this)
 have hDp:(0:Rat) < a * a+b * b:=rat_lt_le (Rat.mul_pos hq0 hq0) (by
  have:=Rat.add_le_add_left (c:=a * a) |>.2 (Rat.mul_nonneg hri0 hri0)
  rwa [Rat.add_zero] at this)
 have hDn:a * a+b * b≠0:=ne_of_pos hDp
 have hWn:1+b / a * (b / a)≠0:=ne_of_pos hW
 have eW:1 / (1+b / a * (b / a))=a * a / (a * a+b * b):=by
  clear hTL hcz hinv hSI hv hu l3 l4 l5 l6 hruz hriz hri1 hz hnn hW hDp hxy hx hy hri0 hq0
  grind
 refine Rebuild_rat 0 0 0 ax ay l (b / a * (b / a)) a b n _ _ (oneT (b / a) 1) ⟨#[48]⟩ ⟨#[48]⟩ ⟨#[48]⟩ sx sy ⟨#[48]⟩ u v w hG hP isR_zero isR_zero isR_zero hx hy rfl hu hv hTL hSI l3 (l4.mono (by decide)) l5 ?_ hW (by rw [eW];exact hinv) (((sz1 (by decide:1≤1)).add (hcz.mul hcz)).mono (by decide)) (by rw [hxy];decide +kernel) (by rw [hxy];exact ⟨by decide +kernel,by decide +kernel⟩) hq0 hruz ?_ ?_
 ·rcases hri1 with h|h
  ·rw [hz h]
   have e:(0:Rat) / a=0:=by rw [Rat.div_def,Rat.zero_mul]
   rw [e]
   exact .inl ⟨oneT_zero,by decide +kernel⟩
  ·have hc:(0:Rat) < b / a:=by rw [Rat.div_def];exact Rat.mul_pos h (Rat.inv_pos.2 hq0)
   exact .inr ⟨b / a,1,oneT_ne (ne_of_pos hc),hc,hcz.mono (by decide),by decide,by
    show b / a * (b / a)=b / a * (b / a) * 1
    rw [Rat.mul_one]⟩
 ·rw [l6,eW,hxy]
  clear hTL hcz hinv hSI hv hu l3 l4 l5 l6 hruz hriz hri1 hz hnn hW hDp hxy hx hy hri0 hq0 eW
  grind
 ·rcases hri1 with h|h
  ·rw [hz h]
   have e:(0:Rat) / a=0:=by rw [Rat.div_def,Rat.zero_mul]
   rw [e]
   exact .inl ⟨oneT_zero,rfl⟩
  ·refine .inr ⟨h,hriz,?_⟩
   rw [l6,eW]
   clear hTL hcz hinv hSI hv hu l3 l4 l5 l6 hruz hriz hz hnn hW hDp hxy hx hy hri0 hq0 eW
   grind
end Go.Proofs.YtbbclfbpllbbbaaGreatDoor
namespace Go.Proofs.YtbbclfbpllbbbaaGreatDoor
open Go.RowKit
theorem same04_ok (L:TTexts) (u v:Value) (w:World) (hu:IsTerms w u L) (hv:IsTerms w v L) (hl:L.length≤100000) :
  Calls Tryz.prog 13 #[u,v] w (RetB (.bool true) w):=by
 obtain ⟨a,cap,rfl,hcap,h⟩:=hu
 obtain ⟨a2,cap2,rfl,hcap2,h2⟩:=hv
 have HC:=Lib.hid h
 have HD:=Lib.hid h2
 clear h h2
 go_enter Tryz.func13,Tryz.ntmps13
 go_wp2_with fail
 go_loopw [5] (fun i wr=>∃ k:Nat,k≤L.length∧i=.int .i64 k∧Below w.heap.size w wr) (fun i _=>L.length - (intOf i).toNat)
 case atStart=>exact ⟨0,by omega,rfl,bw0 _ _⟩
 case round =>
  obtain ⟨k,hk,rfl,hB⟩:=hrel
  by_cases hlt:k < L.length
  ·obtain ⟨b,off,rfl,hc⟩:=HC.out (fun h=>by rw [h] at hlt;simp at hlt)
   obtain ⟨b2,off2,rfl,hd⟩:=HD.out (fun h=>by rw [h] at hlt;simp at hlt)
   obtain ⟨d0,d1⟩:=(hc k hlt).below (w':=wr) hB
   obtain ⟨e0,e1⟩:=(hd k hlt).below (w':=wr) hB
   have hltI:(k:Int) < (L.length:Int):=by omega
   have hk1:IntKind.i64.wrap ((k:Int)+1)=((k+1:Nat):Int):=IntWalk.i64_in _ (by omega)
   clear hc hd
   generalize (tt L k).1=x at *
   generalize (tt L k).2=y at *
   go_wp2_with fail
   go_quiet (fail)
   go_wp2_with fail
   go_roundw
   case rel=>exact ⟨k+1,by omega,by go_num,qbl⟩
   case measure=>simp [intOf];omega
  ·have e:k=L.length:=by omega
   subst e
   go_wp2_with fail
   go_ret
   exact ⟨rfl,hB⟩
end Go.Proofs.YtbbclfbpllbbbaaGreatDoor
namespace Go.Proofs.YtbbclfbpllbbbaaGreatDoor
open Go.RowKit Go.Shelf
attribute [local go_sem] Oper.semAt_some
theorem lawOne_ok (x y:ByteArray) (w:World):Calls Tryz.prog 16 #[.string x,.string y] w (RetT1 [(x,y)] w):=by
 have y0:BoxT2 70 (w.alloc (.cells #[.string x,.string y] 70)) w.heap.size (.string x) (.string y):=BoxT2.new rfl
 have H:=Lib.hid (isTerms_one y0)
 clear y0
 go_enter Tryz.func16,Tryz.ntmps16
 go_wp2_with fail
 go_ret
 exact ⟨_,rfl,H.out,qbl⟩
theorem sameMark_ok (X Y Z:TTexts) (a1 b1 c1 a2 b2 c2:Value) (w:World) (h1:IsTerms w a1 X) (h2:IsTerms w b1 Y) (h3:IsTerms w c1 Z) (k1:IsTerms w a2 X) (k2:IsTerms w b2 Y) (k3:IsTerms w c2 Z) (hX:X.length≤100) (hY:Y.length≤100) (hZ:Z.length≤100) :
  Calls Tryz.prog 30 #[.agg #[a1,b1,c1],.agg #[a2,b2,c2]] w (RetB (.bool true) w):=by
 have H1:=Lib.hid (fun W (hB:Below w.heap.size w W)=>same04_ok X a1 a2 W (h1.below hB) (k1.below hB) (by omega))
 have H2:=Lib.hid (fun W (hB:Below w.heap.size w W)=>same04_ok Y b1 b2 W (h2.below hB) (k2.below hB) (by omega))
 have H3:=Lib.hid (fun W (hB:Below w.heap.size w W)=>same04_ok Z c1 c2 W (h3.below hB) (k3.below hB) (by omega))
 obtain ⟨p1,q1,rfl,_⟩:=h1
 obtain ⟨p2,q2,rfl,_⟩:=h2
 obtain ⟨p3,q3,rfl,_⟩:=h3
 obtain ⟨p4,q4,rfl,_⟩:=k1
 obtain ⟨p5,q5,rfl,_⟩:=k2
 obtain ⟨p6,q6,rfl,_⟩:=k3
 go_enter Tryz.func30,Tryz.ntmps30
 go_wp2_with fail
 have hb0:Below w.heap.size w ((w.alloc (.cells #[.slice p1 X.length q1,.slice p2 Y.length q2,.slice p3 Z.length q3] 41)).alloc (.cells #[.slice p4 X.length q4,.slice p5 Y.length q5,.slice p6 Z.length q6] 41)):=qbl
 have x0:BoxT3 41 ((w.alloc (.cells #[.slice p1 X.length q1,.slice p2 Y.length q2,.slice p3 Z.length q3] 41)).alloc (.cells #[.slice p4 X.length q4,.slice p5 Y.length q5,.slice p6 Z.length q6] 41)) w.heap.size (.slice p1 X.length q1) (.slice p2 Y.length q2) (.slice p3 Z.length q3):=(BoxT3.new rfl).below (bw4 (bw0 _ _) _)
 have x1:BoxT3 41 ((w.alloc (.cells #[.slice p1 X.length q1,.slice p2 Y.length q2,.slice p3 Z.length q3] 41)).alloc (.cells #[.slice p4 X.length q4,.slice p5 Y.length q5,.slice p6 Z.length q6] 41)) (w.heap.size+1) (.slice p4 X.length q4) (.slice p5 Y.length q5) (.slice p6 Z.length q6):=BoxT3.new (by simp)
 generalize (w.alloc (.cells #[.slice p1 X.length q1,.slice p2 Y.length q2,.slice p3 Z.length q3] 41)).alloc (.cells #[.slice p4 X.length q4,.slice p5 Y.length q5,.slice p6 Z.length q6] 41)=W0 at *
 refine (H1.out _ hb0).mono ?_
 rintro e w1 ⟨rfl,hB1⟩
 have hb1:=below_trans' hb0 hB1
 replace x0:=x0.below hB1
 replace x1:=x1.below hB1
 have d0:=x0.c1
 have d1:=x1.c1
 clear hB1 hb0
 go_wp2_with fail
 refine (H2.out _ hb1).mono ?_
 rintro e w2 ⟨rfl,hB2⟩
 have hb2:=below_trans' hb1 hB2
 replace x0:=x0.below hB2
 replace x1:=x1.below hB2
 have e0:=x0.c2
 have e1:=x1.c2
 clear hB2 hb1 d0 d1
 go_wp2_with fail
 refine (H3.out _ hb2).mono ?_
 rintro e w3 ⟨rfl,hB3⟩
 have hb3:=below_trans' hb2 hB3
 clear hB3 hb2
 go_wp2_with fail
 go_ret
 exact ⟨rfl,hb3⟩
def exL:TTexts:=[(⟨#[49]⟩,⟨#[49]⟩),(⟨#[50]⟩,⟨#[51]⟩)]
def exT:Terms:=[(1,1),(2,3)]
theorem ex_is:SurdIs exL exT:=by
 refine ⟨by decide,rfl,fun k hk=>?_,fun k hk=>?_,fun i k hik hk=>?_⟩
 ·have hk':k < 2:=hk
  match k,hk' with
  | 0,_=>exact ⟨by decide +kernel,by decide +kernel,by decide +kernel,by decide +kernel,by decide +kernel,by decide,by decide +kernel,.inl rfl⟩
  | 1,_=>exact ⟨by decide +kernel,by decide +kernel,by decide +kernel,by decide +kernel,by decide +kernel,by decide,by decide +kernel,.inr (by decide +kernel)⟩
 ·have hk':k+1 < 2:=hk
  obtain rfl:k=0:=by omega
  decide
 ·have hk':k < 2:=hk
  obtain rfl:k=1:=by omega
  obtain rfl:i=0:=by omega
  decide +kernel
theorem ex_text:surdT exT=[49,43,50,114,51]:=by decide +kernel
theorem ten_is:SurdIs [(⟨#[49,48]⟩,⟨#[49]⟩)] [((10:Rat),1)]:=by
 refine ⟨by decide,rfl,fun k hk=>?_,fun k hk=>?_,fun i k hik hk=>?_⟩
 ·obtain rfl:k=0:=by simpa using hk
  exact ⟨by decide +kernel,by decide +kernel,by decide +kernel,by decide +kernel,by decide +kernel,by decide,by decide +kernel,.inl rfl⟩
 ·simp at hk
 ·simp at hk;omega
theorem threeq_is:SurdIs [(⟨#[51,47,52]⟩,⟨#[49]⟩)] [((3 / 4:Rat),1)]:=by
 refine ⟨by decide,rfl,fun k hk=>?_,fun k hk=>?_,fun i k hik hk=>?_⟩
 ·obtain rfl:k=0:=by simpa using hk
  exact ⟨by decide +kernel,by decide +kernel,by decide +kernel,by decide +kernel,by decide +kernel,by decide,by decide +kernel,.inl rfl⟩
 ·simp at hk
 ·simp at hk;omega
theorem isR_of {k:Nat} {s:ByteArray} {q:Rat} (h:s.data.toList=ratText q) (h1:q.num.natAbs < 10 ^ k) (h2:q.den < 10 ^ k):IsR k s q:=⟨h,h1,h2⟩
theorem exReb (u v:Value) (w:World) (hG:Glo w) (hP:Pri w) (hu:IsTerms w u [(⟨#[49,48]⟩,⟨#[49]⟩)]) (hv:IsTerms w v [(⟨#[51,47,52]⟩,⟨#[49]⟩)]) :
  Calls Tryz.prog 17 #[.agg #[.string ⟨#[48]⟩,.string ⟨#[48]⟩,.string ⟨#[48]⟩],.agg #[.string ⟨#[51]⟩,.string ⟨#[52]⟩,.string ⟨#[48]⟩],u,v] w (RetMk [(⟨#[50,52,47,53]⟩,⟨#[49]⟩)] [(⟨#[51,50,47,53]⟩,⟨#[49]⟩)] [(⟨#[54]⟩,⟨#[49]⟩)] w):=by
 have z:IsR 10 (⟨#[48]⟩:ByteArray) 0:=isR_of (by decide +kernel) (by decide +kernel) (by decide +kernel)
 have h:=Rebuild_rat 0 0 0 3 4 10 (9 / 16) (8 / 5) 6 1 [(⟨#[49,48]⟩,⟨#[49]⟩)] [(⟨#[51,47,52]⟩,⟨#[49]⟩)] [((3 / 4:Rat),1)] ⟨#[48]⟩ ⟨#[48]⟩ ⟨#[48]⟩ ⟨#[51]⟩ ⟨#[52]⟩ ⟨#[48]⟩ u v w hG hP z z z
  (isR_of (by decide +kernel) (by decide +kernel) (by decide +kernel)) (isR_of (by decide +kernel) (by decide +kernel) (by decide +kernel)) rfl hu hv ten_is threeq_is (by decide +kernel) ⟨by decide +kernel,by decide +kernel⟩ (by decide) (.inr ⟨3 / 4,1,rfl,by decide +kernel,⟨by decide +kernel,by decide +kernel⟩,by decide,by decide +kernel⟩)
  (by decide +kernel) ⟨by decide +kernel,by decide +kernel⟩ ⟨by decide +kernel,by decide +kernel⟩ (by decide +kernel) ⟨by decide +kernel,by decide +kernel⟩ (by decide +kernel) ⟨by decide +kernel,by decide +kernel⟩ (by decide +kernel) (.inr ⟨by decide +kernel,⟨by decide +kernel,by decide +kernel⟩,by decide +kernel⟩)
 have e1:oneL (0+8 / 5 * 3) 1=[(⟨#[50,52,47,53]⟩,⟨#[49]⟩)]:=by
  have e:(0+8 / 5 * 3:Rat)≠0:=by decide +kernel
  unfold oneL
  rw [if_neg e,(numS_of (s:=⟨#[50,52,47,53]⟩) (q:=0+8 / 5 * 3) (by decide +kernel)).symm,(decS_of (r:=⟨#[49]⟩) (n:=1) (by decide +kernel)).symm]
 have e2:oneL (0+8 / 5 * 4) 1=[(⟨#[51,50,47,53]⟩,⟨#[49]⟩)]:=by
  have e:(0+8 / 5 * 4:Rat)≠0:=by decide +kernel
  unfold oneL
  rw [if_neg e,(numS_of (s:=⟨#[51,50,47,53]⟩) (q:=0+8 / 5 * 4) (by decide +kernel)).symm,(decS_of (r:=⟨#[49]⟩) (n:=1) (by decide +kernel)).symm]
 have e3:oneL (0+6) 1=[(⟨#[54]⟩,⟨#[49]⟩)]:=by
  have e:(0+6:Rat)≠0:=by decide +kernel
  unfold oneL
  rw [if_neg e,(numS_of (s:=⟨#[54]⟩) (q:=0+6) (by decide +kernel)).symm,(decS_of (r:=⟨#[49]⟩) (n:=1) (by decide +kernel)).symm]
 rw [e1,e2,e3] at h
 exact h
theorem awake56_ok (w:World) (hG:Glo w) (hP:Pri w):Calls Tryz.prog 9 #[] w (RetB (.bool true) w):=by
 have HG:=Lib.hid hG
 have HP:=Lib.hid hP
 have HTX:=Lib.hid (fun v W hG hP (hv:IsTerms W v exL)=>mText_ok exL v W hG hP hv ex_is.sizes)
 have HSU:=Lib.hid (fun W hG hP=>mSurd_ok (⟨#[49,43,50,114,51]⟩:ByteArray) W hG hP (by decide))
 have HON:=Lib.hid (fun x y W=>lawOne_ok x y W)
 have HRB:=Lib.hid (fun u v W hG hP hu hv=>exReb u v W hG hP hu hv)
 have HSM:=Lib.hid (fun a b c d e f W h1 h2 h3 k1 k2 k3=>sameMark_ok [(⟨#[50,52,47,53]⟩,⟨#[49]⟩)] [(⟨#[51,50,47,53]⟩,⟨#[49]⟩)] [(⟨#[54]⟩,⟨#[49]⟩)] a b c d e f W h1 h2 h3 k1 k2 k3 (by decide) (by decide) (by decide))
 clear hG hP
 go_enter Tryz.func9,Tryz.ntmps9
 go_wp2_with fail
 have hb1:Below w.heap.size w (w.alloc (.cells #[.string ⟨#[49]⟩,.string ⟨#[49]⟩,.string ⟨#[50]⟩,.string ⟨#[51]⟩] 70)):=bw4 (bw0 _ _) _
 have ht1:IsTerms (w.alloc (.cells #[.string ⟨#[49]⟩,.string ⟨#[49]⟩,.string ⟨#[50]⟩,.string ⟨#[51]⟩] 70)) (.slice (some ⟨w.heap.size,0,none⟩) 2 2) exL:=⟨_,2,rfl,by decide,fun _=>⟨_,0,rfl,fun k hk=>by
  have hk':k < 2:=hk
  match k,hk' with
  | 0,_=>exact ⟨by simp [go_sem];rfl,by simp [go_sem];rfl⟩
  | 1,_=>exact ⟨by simp [go_sem];rfl,by simp [go_sem];rfl⟩⟩⟩
 generalize w.alloc (.cells #[.string ⟨#[49]⟩,.string ⟨#[49]⟩,.string ⟨#[50]⟩,.string ⟨#[51]⟩] 70)=W1 at *
 refine (HTX.out _ W1 (HG.out.below hb1) (HP.out.below hb1) ht1).mono ?_
 rintro e w2 ⟨s,k,rfl,hs,hB2⟩
 have hb2:=below_trans' hb1 hB2
 obtain ⟨rfl,rfl⟩:k=0∧s=⟨#[49,43,50,114,51]⟩:=by
  rcases hs.out with ⟨T,h1,h2,h3⟩|⟨h1,_⟩
  ·refine ⟨h2,?_⟩
   obtain rfl:=h1.uniq ex_is
   exact ByteArray.ext (Array.toList_inj.1 (h3.trans ex_text))
  ·exact absurd ⟨_,ex_is⟩ h1
 clear hs hB2 hb1 ht1 HTX
 go_wp2_with fail
 refine (HSU.out _ (HG.out.below hb2) (HP.out.below hb2)).mono ?_
 rintro e w3 ⟨v,k,rfl,hv,hB3⟩
 have hb3:=below_trans' hb2 hB3
 obtain ⟨rfl,hvt⟩:k=0∧IsTerms w3 v exL:=by
  rcases hv.out with ⟨h1,L,T,h2,h3,h4⟩|⟨_,_,h1⟩
  ·refine ⟨h1,?_⟩
   have e:=surdT_inj h2 ex_is (h3.symm.trans ex_text.symm)
   subst e
   rw [ex_is.texts h2];exact h4
  ·exact absurd ⟨exL,exT,ex_is,ex_text.symm⟩ h1
 have HVT:=Lib.hid hvt
 obtain ⟨va,vc,rfl,_,hvc⟩:=hvt
 have hl2:exL.length=2:=rfl
 rw [hl2] at HVT hvc ⊢
 obtain ⟨b,off,rfl,hcell⟩:=hvc (by decide)
 have c3:w3.cell? ⟨b,off+2+1,none⟩=some (.string ⟨#[51]⟩):=by have:=(hcell 1 (by decide)).2;simpa [exL,tt] using this
 clear hv hB3 hb2 HSU hcell hvc
 go_wp2_with fail
 refine (HON.out _ _ _).mono ?_
 rintro e w4 ⟨u,rfl,hu,hB4⟩
 have hb4:=below_trans' hb3 hB4
 have HU:=Lib.hid hu
 obtain ⟨ua,uc,rfl,_⟩:=hu
 replace c3:=keep hB4 c3
 clear hB4 hb3
 go_wp2_with fail
 refine (HON.out _ _ _).mono ?_
 rintro e w5 ⟨x,rfl,hx,hB5⟩
 have hb5:=below_trans' hb4 hB5
 have HU2:=Lib.hid (HU.out.below hB5)
 have HX:=Lib.hid hx
 obtain ⟨xa,xc,rfl,_⟩:=hx
 replace c3:=keep hB5 c3
 clear hB5 hb4 HU
 go_wp2_with fail
 refine (HRB.out _ _ _ (HG.out.below hb5) (HP.out.below hb5) HU2.out HX.out).mono ?_
 rintro e w6 ⟨mx,my,mz,rfl,hmx,hmy,hmz,hB6⟩
 have hb6:=below_trans' hb5 hB6
 replace c3:=keep hB6 c3
 have HMX:=Lib.hid hmx
 have HMY:=Lib.hid hmy
 have HMZ:=Lib.hid hmz
 obtain ⟨xa1,xc1,rfl,_⟩:=hmx
 obtain ⟨ya1,yc1,rfl,_⟩:=hmy
 obtain ⟨za1,zc1,rfl,_⟩:=hmz
 clear hB6 hb5 HU2 HX
 go_wp2_with fail
 have hB7:Below w6.heap.size w6 (w6.alloc (.cells #[.slice xa1 1 xc1,.slice ya1 1 yc1,.slice za1 1 zc1] 41)):=bw4 (bw0 _ _) _
 have hb7:=below_trans' hb6 hB7
 have x5:BoxT3 41 (w6.alloc (.cells #[.slice xa1 1 xc1,.slice ya1 1 yc1,.slice za1 1 zc1] 41)) w6.heap.size (.slice xa1 1 xc1) (.slice ya1 1 yc1) (.slice za1 1 zc1):=BoxT3.new rfl
 replace c3:=keep hB7 c3
 replace HMX:=Lib.hid (HMX.out.below hB7)
 replace HMY:=Lib.hid (HMY.out.below hB7)
 replace HMZ:=Lib.hid (HMZ.out.below hB7)
 clear hB7 hb6
 generalize w6.alloc (.cells #[.slice xa1 1 xc1,.slice ya1 1 yc1,.slice za1 1 zc1] 41)=W7 at *
 have hR:Below W7.heap.size W7 W7.drew:=(bw0 _ _).drew
 refine region_S (F:=[]) (R:=(fun w'=>Below W7.heap.size W7 w')) 30 #[false,false,false,false,false,false,false,false,false,false,false,false,false,false,false,false,false,false,false,false,false,false,false,false,false,false,false,false,false,false] (by kernel_rfl) (by kernel_rfl) (by kernel_rfl) (fun _ _ _ _ _ h=>h) (fun Q' hQ' hN=>?_)
 generalize W7.drew=wd at *
 refine tkS 26 (i:=0) (v:=?_) (fw:=5) hQ' hR rfl ?_ ?_;rotate_left;(focus (intro wq hRq;have q3:=keep hRq c3;have x0:=(x5.below hRq).c0;have x1:=(x5.below hRq).c1;have x2:=(x5.below hRq).c2;go_simp;(try with_reducible rfl)));(try simp only [Act.put,bw7,bw8,bw9])
 refine tkS 27 (i:=1) (v:=?_) (fw:=5) hQ' hR rfl ?_ ?_;rotate_left;(focus (intro wq hRq;have q3:=keep hRq c3;have x0:=(x5.below hRq).c0;have x1:=(x5.below hRq).c1;have x2:=(x5.below hRq).c2;go_simp;(try with_reducible rfl)));(try simp only [Act.put,bw7,bw8,bw9])
 refine tkS 28 (i:=2) (v:=?_) (fw:=5) hQ' hR rfl ?_ ?_;rotate_left;(focus (intro wq hRq;have q3:=keep hRq c3;have x0:=(x5.below hRq).c0;have x1:=(x5.below hRq).c1;have x2:=(x5.below hRq).c2;go_simp;(try with_reducible rfl)));(try simp only [Act.put,bw7,bw8,bw9])
 refine tkS 29 (i:=3) (v:=?_) (fw:=5) hQ' hR rfl ?_ ?_;rotate_left;(focus (intro wq hRq;have q3:=keep hRq c3;have x0:=(x5.below hRq).c0;have x1:=(x5.below hRq).c1;have x2:=(x5.below hRq).c2;go_simp;(try with_reducible rfl)));(try simp only [Act.put,bw7,bw8,bw9])
 refine tkS 30 (i:=4) (v:=?_) (fw:=5) hQ' hR rfl ?_ ?_;rotate_left;(focus (intro wq hRq;have q3:=keep hRq c3;have x0:=(x5.below hRq).c0;have x1:=(x5.below hRq).c1;have x2:=(x5.below hRq).c2;go_simp;(try with_reducible rfl)));(try simp only [Act.put,bw7,bw8,bw9])
 refine tkS 31 (i:=5) (v:=?_) (fw:=5) hQ' hR rfl ?_ ?_;rotate_left;(focus (intro wq hRq;have q3:=keep hRq c3;have x0:=(x5.below hRq).c0;have x1:=(x5.below hRq).c1;have x2:=(x5.below hRq).c2;go_simp;(try with_reducible rfl)));(try simp only [Act.put,bw7,bw8,bw9])
 refine tkS 32 (i:=6) (v:=?_) (fw:=5) hQ' hR rfl ?_ ?_;rotate_left;(focus (intro wq hRq;have q3:=keep hRq c3;have x0:=(x5.below hRq).c0;have x1:=(x5.below hRq).c1;have x2:=(x5.below hRq).c2;go_simp;(try with_reducible rfl)));(try simp only [Act.put,bw7,bw8,bw9])
 refine tkS 33 (i:=7) (v:=?_) (fw:=5) hQ' hR rfl ?_ ?_;rotate_left;(focus (intro wq hRq;have q3:=keep hRq c3;have x0:=(x5.below hRq).c0;have x1:=(x5.below hRq).c1;have x2:=(x5.below hRq).c2;go_simp;(try with_reducible rfl)));(try simp only [Act.put,bw7,bw8,bw9])
 refine tkS 34 (i:=8) (v:=?_) (fw:=5) hQ' hR rfl ?_ ?_;rotate_left;(focus (intro wq hRq;have q3:=keep hRq c3;have x0:=(x5.below hRq).c0;have x1:=(x5.below hRq).c1;have x2:=(x5.below hRq).c2;go_simp;(try with_reducible rfl)));(try simp only [Act.put,bw7,bw8,bw9])
 refine tkS 35 (i:=9) (v:=?_) (fw:=5) hQ' hR rfl ?_ ?_;rotate_left;(focus (intro wq hRq;have q3:=keep hRq c3;have x0:=(x5.below hRq).c0;have x1:=(x5.below hRq).c1;have x2:=(x5.below hRq).c2;go_simp;(try with_reducible rfl)));(try simp only [Act.put,bw7,bw8,bw9])
 refine tkS 36 (i:=10) (v:=?_) (fw:=5) hQ' hR rfl ?_ ?_;rotate_left;(focus (intro wq hRq;have q3:=keep hRq c3;have x0:=(x5.below hRq).c0;have x1:=(x5.below hRq).c1;have x2:=(x5.below hRq).c2;go_simp;(try with_reducible rfl)));(try simp only [Act.put,bw7,bw8,bw9])
 refine tkS 37 (i:=11) (v:=?_) (fw:=5) hQ' hR rfl ?_ ?_;rotate_left;(focus (intro wq hRq;have q3:=keep hRq c3;have x0:=(x5.below hRq).c0;have x1:=(x5.below hRq).c1;have x2:=(x5.below hRq).c2;go_simp;(try with_reducible rfl)));(try simp only [Act.put,bw7,bw8,bw9])
 refine tkS 38 (i:=12) (v:=?_) (fw:=5) hQ' hR rfl ?_ ?_;rotate_left;(focus (intro wq hRq;have q3:=keep hRq c3;have x0:=(x5.below hRq).c0;have x1:=(x5.below hRq).c1;have x2:=(x5.below hRq).c2;go_simp;(try with_reducible rfl)));(try simp only [Act.put,bw7,bw8,bw9])
 refine tkS 39 (i:=13) (v:=?_) (fw:=5) hQ' hR rfl ?_ ?_;rotate_left;(focus (intro wq hRq;have q3:=keep hRq c3;have x0:=(x5.below hRq).c0;have x1:=(x5.below hRq).c1;have x2:=(x5.below hRq).c2;go_simp;(try with_reducible rfl)));(try simp only [Act.put,bw7,bw8,bw9])
 refine tkS 40 (i:=14) (v:=?_) (fw:=5) hQ' hR rfl ?_ ?_;rotate_left;(focus (intro wq hRq;have q3:=keep hRq c3;have x0:=(x5.below hRq).c0;have x1:=(x5.below hRq).c1;have x2:=(x5.below hRq).c2;go_simp;(try with_reducible rfl)));(try simp only [Act.put,bw7,bw8,bw9])
 refine tkS 41 (i:=15) (v:=?_) (fw:=5) hQ' hR rfl ?_ ?_;rotate_left;(focus (intro wq hRq;have q3:=keep hRq c3;have x0:=(x5.below hRq).c0;have x1:=(x5.below hRq).c1;have x2:=(x5.below hRq).c2;go_simp;(try with_reducible rfl)));(try simp only [Act.put,bw7,bw8,bw9])
 refine tkS 42 (i:=16) (v:=?_) (fw:=5) hQ' hR rfl ?_ ?_;rotate_left;(focus (intro wq hRq;have q3:=keep hRq c3;have x0:=(x5.below hRq).c0;have x1:=(x5.below hRq).c1;have x2:=(x5.below hRq).c2;go_simp;(try with_reducible rfl)));(try simp only [Act.put,bw7,bw8,bw9])
 refine tkS 43 (i:=17) (v:=?_) (fw:=5) hQ' hR rfl ?_ ?_;rotate_left;(focus (intro wq hRq;have q3:=keep hRq c3;have x0:=(x5.below hRq).c0;have x1:=(x5.below hRq).c1;have x2:=(x5.below hRq).c2;go_simp;(try with_reducible rfl)));(try simp only [Act.put,bw7,bw8,bw9])
 refine tkS 44 (i:=18) (v:=?_) (fw:=5) hQ' hR rfl ?_ ?_;rotate_left;(focus (intro wq hRq;have q3:=keep hRq c3;have x0:=(x5.below hRq).c0;have x1:=(x5.below hRq).c1;have x2:=(x5.below hRq).c2;go_simp;(try with_reducible rfl)));(try simp only [Act.put,bw7,bw8,bw9])
 refine tkS 45 (i:=19) (v:=?_) (fw:=5) hQ' hR rfl ?_ ?_;rotate_left;(focus (intro wq hRq;have q3:=keep hRq c3;have x0:=(x5.below hRq).c0;have x1:=(x5.below hRq).c1;have x2:=(x5.below hRq).c2;go_simp;(try with_reducible rfl)));(try simp only [Act.put,bw7,bw8,bw9])
 refine tkS 46 (i:=20) (v:=?_) (fw:=5) hQ' hR rfl ?_ ?_;rotate_left;(focus (intro wq hRq;have q3:=keep hRq c3;have x0:=(x5.below hRq).c0;have x1:=(x5.below hRq).c1;have x2:=(x5.below hRq).c2;go_simp;(try with_reducible rfl)));(try simp only [Act.put,bw7,bw8,bw9])
 refine tkS 47 (i:=21) (v:=?_) (fw:=5) hQ' hR rfl ?_ ?_;rotate_left;(focus (intro wq hRq;have q3:=keep hRq c3;have x0:=(x5.below hRq).c0;have x1:=(x5.below hRq).c1;have x2:=(x5.below hRq).c2;go_simp;(try with_reducible rfl)));(try simp only [Act.put,bw7,bw8,bw9])
 refine tkS 48 (i:=22) (v:=?_) (fw:=5) hQ' hR rfl ?_ ?_;rotate_left;(focus (intro wq hRq;have q3:=keep hRq c3;have x0:=(x5.below hRq).c0;have x1:=(x5.below hRq).c1;have x2:=(x5.below hRq).c2;go_simp;(try with_reducible rfl)));(try simp only [Act.put,bw7,bw8,bw9])
 refine wpAnyS_ready (rs:=[23]) (by kernel_rfl) (by simp) ?_
 refine stepR (i:=23) rfl (by kernel_rfl) (fun K hK=>?_) (AllReadyS.nil)
 go_simp
 refine (HON.out _ _ _).mono ?_
 rintro e wn ⟨o1v,rfl,ho1,hB'⟩
 replace hR:=below_trans' hR hB'
 have Ho1:=Lib.hid ho1
 obtain ⟨o1a,o1c,rfl,_⟩:=ho1
 clear hB'
 refine hK.out _ _ hR ?_
 clear hK K
 (try simp only [Act.put,bw7,bw8,bw9])
 refine wpAnyS_ready (rs:=[24]) (by kernel_rfl) (by simp) ?_
 refine stepR (i:=24) rfl (by kernel_rfl) (fun K hK=>?_) (AllReadyS.nil)
 go_simp
 refine (HON.out _ _ _).mono ?_
 rintro e wn ⟨o2v,rfl,ho2,hB'⟩
 replace hR:=below_trans' hR hB'
 replace Ho1:=Lib.hid (Ho1.out.below hB')
 have Ho2:=Lib.hid ho2
 obtain ⟨o2a,o2c,rfl,_⟩:=ho2
 clear hB'
 refine hK.out _ _ hR ?_
 clear hK K
 (try simp only [Act.put,bw7,bw8,bw9])
 refine wpAnyS_ready (rs:=[25]) (by kernel_rfl) (by simp) ?_
 refine stepR (i:=25) rfl (by kernel_rfl) (fun K hK=>?_) (AllReadyS.nil)
 go_simp
 refine (HON.out _ _ _).mono ?_
 rintro e wn ⟨o3v,rfl,ho3,hB'⟩
 replace hR:=below_trans' hR hB'
 replace Ho1:=Lib.hid (Ho1.out.below hB')
 replace Ho2:=Lib.hid (Ho2.out.below hB')
 have Ho3:=Lib.hid ho3
 obtain ⟨o3a,o3c,rfl,_⟩:=ho3
 clear hB'
 refine hK.out _ _ hR ?_
 clear hK K
 (try simp only [Act.put,bw7,bw8,bw9])
 refine tkS 52 (i:=26) (v:=?_) (fw:=5) hQ' hR rfl ?_ ?_;rotate_left;(focus (intro wq hRq;have q3:=keep hRq c3;have x0:=(x5.below hRq).c0;have x1:=(x5.below hRq).c1;have x2:=(x5.below hRq).c2;go_simp;(try with_reducible rfl)));(try simp only [Act.put,bw7,bw8,bw9])
 refine wpAnyS_ready (rs:=[27]) (by kernel_rfl) (by simp) ?_
 refine stepR (i:=27) rfl (by kernel_rfl) (fun K hK=>?_) (AllReadyS.nil)
 go_simp
 refine (HSM.out _ _ _ _ _ _ _ (HMX.out.below hR) (HMY.out.below hR) (HMZ.out.below hR) Ho1.out Ho2.out Ho3.out).mono ?_
 rintro e wn ⟨rfl,hB'⟩
 replace hR:=below_trans' hR hB'
 clear hB'
 refine hK.out _ _ hR ?_
 clear hK K
 (try simp only [Act.put,bw7,bw8,bw9])
 refine tkS 54 (i:=28) (v:=?_) (fw:=5) hQ' hR rfl ?_ ?_;rotate_left;(focus (intro wq hRq;have q3:=keep hRq c3;have x0:=(x5.below hRq).c0;have x1:=(x5.below hRq).c1;have x2:=(x5.below hRq).c2;go_simp;(try with_reducible rfl)));(try simp only [Act.put,bw7,bw8,bw9])
 refine tkS 0 (i:=29) (v:=?_) (fw:=5) hQ' hR rfl ?_ ?_;rotate_left;(focus (intro wq hRq;have q3:=keep hRq c3;have x0:=(x5.below hRq).c0;have x1:=(x5.below hRq).c1;have x2:=(x5.below hRq).c2;go_simp;(try with_reducible rfl)));(try simp only [Act.put,bw7,bw8,bw9])
 refine wpAnyS_done (by kernel_rfl) ?_ _
 refine hN.out _ _ ?_
 have hbz:=below_trans' hb7 hR
 go_wp2_with fail
 go_ret
 exact ⟨rfl,hbz⟩
end Go.Proofs.YtbbclfbpllbbbaaGreatDoor
