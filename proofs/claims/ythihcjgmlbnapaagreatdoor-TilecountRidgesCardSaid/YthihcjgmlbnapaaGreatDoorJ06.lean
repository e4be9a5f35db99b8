/- Joined texts: WTake, WBack2, WEst, DivPlain, WDivB, WDivC. -/
import Derived.Test.YthihcjgmlbnapaaGreatDoorJ05
import Derived.Laws.OwnMore
set_option maxRecDepth 100000
set_option linter.unusedVariables false
set_option linter.unusedSimpArgs false
set_option maxHeartbeats 12800000
namespace Go.Proofs.YthihcjgmlbnapaaGreatDoor
open Go.RowKit Go.Shelf
def RowI (W:World) (g cap:Nat) (l:List Int):Prop:=OwnInts W g (.slice (some ⟨g,0,none⟩) l.length cap) l
theorem RowI.heap {W:World} {g cap:Nat} {l:List Int} (h:RowI W g cap l):∃ cur,W.heap[g]?=some (.cells cur 3 (0,0))∧cur.size=cap∧l.length≤cap∧cur.toList.take l.length=intVs l:=by
 rcases h.2 with ⟨h',_⟩|⟨g',cap',cur,h',hb,hg,hnc,hcm,hcs,ht⟩
 ·cases h'
 ·injection h' with e1 e2 e3
  injection e1 with e1
  injection e1 with e1
  subst e1 e3
  exact ⟨cur,hg,by omega,hnc,by rwa [Nat.mul_one] at ht⟩
theorem RowI.lt {W:World} {g cap:Nat} {l:List Int} (h:RowI W g cap l):g < W.heap.size:=by
 obtain ⟨cur,hg,_⟩:=h.heap
 exact (Array.getElem?_eq_some_iff.1 hg).1
theorem RowI.of {W W':World} {g cap:Nat} {l:List Int} (h:RowI W g cap l) (hb:W'.heap[g]?=W.heap[g]?):RowI W' g cap l:=by
 refine ⟨h.1,?_⟩
 rcases h.2 with hn|⟨g',cap',cur,e,hB,hg,rest⟩
 ·exact .inl hn
 ·have e1:=e
  injection e1 with e1
  injection e1 with e1
  injection e1 with e1
  subst e1
  exact .inr ⟨_,cap',cur,e,hB,hb.trans hg,rest⟩
theorem RowI.below {w w':World} {g cap:Nat} {l:List Int} (h:RowI w g cap l) (hB:Below w.heap.size w w'):RowI w' g cap l:=h.of (hB.block g h.lt)
theorem RowI.but {w w':World} {g b cap:Nat} {l:List Int} (h:RowI w g cap l) (hs:SameBut b w w') (hne:g≠b):RowI w' g cap l:=h.of (hs.block g hne)
theorem RowI.cell {W:World} {g cap:Nat} {l:List Int} (h:RowI W g cap l) {p:Nat} (hp:p < l.length):W.cell? ⟨g,p,none⟩=some (.int .i64 (lim l p)):=by
 obtain ⟨cur,hg,_,_,ht⟩:=h.heap
 have h2:cur.toList[p]?=some (.int .i64 (lim l p)):=by
  have h3:(cur.toList.take l.length)[p]?=(intVs l)[p]?:=by rw [ht]
  rw [List.getElem?_take_of_lt hp,intVs_get hp] at h3
  exact h3
 have h4:cur[p]?=some (.int .i64 (lim l p)):=by simpa using h2
 simp [World.cell?,hg,h4]
theorem RowI.frozen {W:World} {g cap:Nat} {l:List Int} (h:RowI W g cap l) (p:Nat):W.frozen? ⟨g,p,none⟩=false:=by
 obtain ⟨cur,hg,_⟩:=h.heap
 simp [World.frozen?,hg]
theorem RowI.set {W:World} {g cap:Nat} {l:List Int} (h:RowI W g cap l) (p:Nat) (x:Int):RowI (W.setCell ⟨g,p,none⟩ (.int .i64 x)) g cap (l.set p x):=by
 have:=(World.ownsRow.stored h p (.int .i64 x)).1
 unfold RowI OwnInts
 rw [List.length_set,intVs_set]
 exact this
theorem RowI.is {W:World} {g cap:Nat} {l:List Int} (h:RowI W g cap l):IsInts W (.slice (some ⟨g,0,none⟩) l.length cap) l:=OwnInts.is h
theorem BlkI.row {W:World} {g:Nat} {l:List Int} (h:BlkI W g l) (hl:l.length≤100000):RowI W g l.length l:=h.own (Nat.le_refl _) hl
structure TakeAt (u v:List Int) (j:Nat) (q:Int) (k:Nat) (l:List Int) (c:Int):Prop where
 len:l.length=u.length
 digs:Digs l
 c0:0≤c
 c1:c≤4000000001
 sum:val l+q * vt (lim v) k * pw j=val u+c * pw (j+k)
 same:∀ i,i < j∨j+k≤i→lim l i=lim u i
theorem TakeAt.start {u v:List Int} {j:Nat} {q:Int} (hu:Digs u):TakeAt u v j q 0 u 0:=⟨rfl,hu,by omega,by omega,by simp [vt],fun _ _=>rfl⟩
def tcar (n:Int):Int:=if n < 0 then (-n+999999999) / 1000000000 else 0
theorem mul_q {q x:Int} (q0:0≤q) (q1:q≤4000000000) (hx:Dig x):0≤q * x∧q * x≤3999999996000000000:=by
 refine ⟨Int.mul_nonneg q0 hx.1,?_⟩
 have h1:=Int.mul_le_mul q1 hx.2 hx.1 (by omega)
 omega
theorem TakeAt.step {u v l:List Int} {j k:Nat} {q c:Int} (h:TakeAt u v j q k l c) (hv:Digs v) (q0:0≤q) (q1:q≤4000000000) (hp:j+k < u.length) :
  TakeAt u v j q (k+1) (l.set (j+k) (lim l (j+k) - c - q * lim v k+tcar (lim l (j+k) - c - q * lim v k) * 1000000000)) (tcar (lim l (j+k) - c - q * lim v k)):=by
 obtain ⟨m1,m2⟩:=mul_q q0 q1 (hv k)
 obtain ⟨o1,o2⟩:=h.digs (j+k)
 have c0:=h.c0
 have c1:=h.c1
 have hpl:j+k < l.length:=by rw [h.len];exact hp
 have ht:0≤tcar (lim l (j+k) - c - q * lim v k)∧tcar (lim l (j+k) - c - q * lim v k)≤4000000001∧Dig (lim l (j+k) - c - q * lim v k+tcar (lim l (j+k) - c - q * lim v k) * 1000000000):=by
  unfold tcar
  split
  ·exact ⟨by omega,by omega,by omega,by omega⟩
  ·exact ⟨by omega,by omega,by omega,by omega⟩
 obtain ⟨t0,t1,t2⟩:=ht
 refine ⟨by rw [List.length_set];exact h.len,fun i=>?_,t0,t1,?_,fun i hi=>?_⟩
 ·rw [lim_set hpl]
  split
  ·exact t2
  ·exact h.digs i
 ·rw [val_set hpl]
  have hs:=h.sum
  rw [show j+(k+1)=j+k+1 from rfl,pw,vt]
  have hpa:=pw_add j k
  generalize tcar (lim l (j+k) - c - q * lim v k)=t at *
  grind
 ·rw [lim_set hpl,if_neg (by omega)];exact h.same i (by omega)
structure GiveAt (u v:List Int) (j:Nat) (q:Int) (k:Nat) (l:List Int) (c:Int):Prop where
 len:l.length=u.length
 digs:Digs l
 c0:0≤c
 c1:c≤4000000001
 sum:val l+c * pw (j+k)=val u+q * vt (lim v) k * pw j
 same:∀ i,i < j∨j+k≤i→lim l i=lim u i
theorem GiveAt.start {u v:List Int} {j:Nat} {q:Int} (hu:Digs u):GiveAt u v j q 0 u 0:=⟨rfl,hu,by omega,by omega,by simp [vt],fun _ _=>rfl⟩
theorem GiveAt.step {u v l:List Int} {j k:Nat} {q c:Int} (h:GiveAt u v j q k l c) (hv:Digs v) (q0:0≤q) (q1:q≤4000000000) (hp:j+k < u.length) :
  GiveAt u v j q (k+1) (l.set (j+k) ((lim l (j+k)+q * lim v k+c) % 1000000000)) ((lim l (j+k)+q * lim v k+c) / 1000000000):=by
 obtain ⟨m1,m2⟩:=mul_q q0 q1 (hv k)
 obtain ⟨o1,o2⟩:=h.digs (j+k)
 have c0:=h.c0
 have c1:=h.c1
 have hpl:j+k < l.length:=by rw [h.len];exact hp
 refine ⟨by rw [List.length_set];exact h.len,fun i=>?_,by omega,by omega,?_,fun i hi=>?_⟩
 ·rw [lim_set hpl]
  split
  ·exact dig_mod _
  ·exact h.digs i
 ·rw [val_set hpl]
  have hs:=h.sum
  have hdm:lim l (j+k)+q * lim v k+c=(lim l (j+k)+q * lim v k+c) % 1000000000+1000000000 * ((lim l (j+k)+q * lim v k+c) / 1000000000):=by omega
  rw [show j+(k+1)=j+k+1 from rfl,pw,vt]
  have hpa:=pw_add j k
  generalize (lim l (j+k)+q * lim v k+c) % 1000000000=r at *
  generalize (lim l (j+k)+q * lim v k+c) / 1000000000=t at *
  grind
 ·rw [lim_set hpl,if_neg (by omega)];exact h.same i (by omega)
theorem isInts_but {W W':World} {g:Nat} {v:Value} {l:List Int} (h:IsInts W v l) (hs:SameBut g W W') (hne:∀ b off n cap,v=.slice (some ⟨b,off,none⟩) n cap→b≠g):IsInts W' v l:=by
 obtain ⟨a,cap,rfl,h0,h2⟩:=h
 refine ⟨a,cap,rfl,h0,fun hn=>?_⟩
 obtain ⟨b,off,rfl,hc⟩:=h2 hn
 exact ⟨b,off,rfl,fun k hk=>(World.cell?_of_block (hs.block b (hne b off _ _ rfl))).trans (hc k hk)⟩
theorem sameBut_drew {g:Nat} {w W:World} (h:SameBut g w W):SameBut g w W.drew:=⟨h.os,h.tape,h.output,h.size,h.block⟩
theorem SameBut.then {g:Nat} {w X Y:World} (h:SameBut g w X) (k:SameBut g X Y):SameBut g w Y:=⟨k.os.trans h.os,k.tape.trans h.tape,k.output.trans h.output,k.size.trans h.size,fun b hb=>(k.block b hb).trans (h.block b hb)⟩
theorem takeL_ok {u v:List Int} {j:Nat} {q:Int} {g cap:Nat} (vv:Value) (w:World) (hu:RowI w g cap u) (hvv:IsInts w vv v) (hne:∀ b off n cap,vv=.slice (some ⟨b,off,none⟩) n cap→b≠g) (du:Digs u) (dv:Digs v) (hj:j+v.length < u.length) (hul:u.length≤2000) (q0:0≤q) (q1:q≤4000000000) :
  Calls Tryz.prog 183 #[.slice (some ⟨g,0,none⟩) u.length cap,vv,.int .i64 j,.int .i64 q] w fun e w'=>∃ l c,e=.returned (.bool (decide (0 < c)))∧RowI w' g cap l∧TakeAt u v j q (v.length+1) l c∧SameBut g w w':=by
 have HVV:=Lib.hid hvv
 obtain ⟨va,vc,rfl⟩:=hvv.slice
 have HNE:=Lib.hid hne
 have HDV:=Lib.hid dv
 have HST:=Lib.hid (TakeAt.start (v:=v) (j:=j) (q:=q) du)
 have HIS:=Lib.hid (fun (W:World) (hs:SameBut g w W)=>(isInts_but hvv hs hne))
 obtain ⟨_,hcapu,_⟩:=hu.heap
 clear hvv hne dv du
 obtain ⟨N,hN⟩:∃ N,u.length=N:=⟨_,rfl⟩
 rw [hN] at hj hul ⊢
 go_enter Tryz.func183,Tryz.ntmps183
 go_wp2_with fail
 go_loopw [9,15] (fun cy i wr=>∃ (k:Nat) (c:Int) (l:List Int),k≤v.length+1∧i=.int .i64 k∧cy=.int .i64 c∧RowI wr g cap l∧Hid (TakeAt u v j q k l c)∧SameBut g w wr) (fun _ i _=>v.length+1 - (intOf i).toNat)
 case atStart=>exact ⟨0,0,u,by omega,rfl,rfl,hu,HST,⟨rfl,rfl,rfl,rfl,fun _ _=>rfl⟩⟩
 case round =>
  obtain ⟨k,c,l,hk,rfl,rfl,hrow,hT,hS⟩:=hrel
  by_cases hkl:k < v.length+1
  ·have HL:=Lib.hid (fun (W:World) (h:IsInts W (.slice va v.length vc) v)=>limb_ok v _ k W h (by omega))
   have hpu:j+k < u.length:=by omega
   have hp:j+k < l.length:=by rw [hT.out.len];exact hpu
   have hlen:l.length=N:=by rw [hT.out.len];exact hN
   obtain ⟨o1,o2⟩:=hT.out.digs (j+k)
   obtain ⟨m1,m2⟩:=mul_q q0 q1 (HDV.out k)
   have c0:=hT.out.c0
   have c1:=hT.out.c1
   have hst:=hT.out.step HDV.out q0 q1 hpu
   have hp2:=hp
   have hpN:j+k < N:=by omega
   have hpI:(j:Int)+(k:Int) < (N:Int):=by omega
   have hp0:(0:Int)≤(j:Int)+(k:Int):=by omega
   have hw4:IntKind.i64.wrap ((j:Int)+(k:Int))=(j:Int)+(k:Int):=IntWalk.i64_in _ (by omega)
   have hix:((j:Int)+(k:Int)).toNat=j+k:=by omega
   have ck2:=hrow.cell hp
   obtain ⟨o,ho⟩:∃ o,lim l (j+k)=o:=⟨_,rfl⟩
   rw [ho] at ck2 o1 o2 hst
   obtain ⟨P,hP⟩:∃ P,q * lim v k=P:=⟨_,rfl⟩
   rw [hP] at m1 m2 hst
   have hw1:IntKind.i64.wrap (q * lim v k)=P:=by rw [hP];exact IntWalk.i64_in _ (by omega)
   have HO:=Lib.hid ho
   obtain ⟨n,hn⟩:∃ n,o - c - P=n:=⟨_,rfl⟩
   rw [hn] at hst
   have hw2:IntKind.i64.wrap (o - c)=o - c:=IntWalk.i64_in _ (by omega)
   have hw3:IntKind.i64.wrap (o - c - P)=n:=by rw [hn];exact IntWalk.i64_in _ (by omega)
   have hn0 : -4000000000000000010≤n:=by omega
   have hn1:n≤999999999:=by omega
   have HSTP:=Lib.hid hst
   have HLE:=Lib.hid hlen
   have hR:RowI wr.drew g cap l∧IsInts wr.drew (.slice va v.length vc) v:=⟨hrow.below (bw0 _ _).drew,(HIS.out _ hS).below (bw0 _ _).drew⟩
   have HSS:=Lib.hid (sameBut_drew hS)
   clear hn hP hT hlen hrow ck2 hS ho hst
   go_wp2_with fail
   refine region_S (F:=[]) (R:=(fun w'=>RowI w' g cap l∧IsInts w' (.slice va v.length vc) v)) 15 #[false,false,false,false,false,false,false,false,false,false,false,false,false,false,false] (by kernel_rfl) (by kernel_rfl) (by kernel_rfl) (fun _ _ _ _ _ h=>h) (fun Q' hQ' hN=>?_)
   generalize wr.drew=wd at *
   refine tS 18 0 (hy:=by intro wq hRq;have ck2:=hRq.1.cell hp2;have ho:lim l (j+k)=o:=HO.out;rw [ho] at ck2;go_simp;(try with_reducible rfl)) ?_
   refine tS 19 1 (hy:=by intro wq hRq;have ck2:=hRq.1.cell hp2;have ho:lim l (j+k)=o:=HO.out;rw [ho] at ck2;go_simp;(try with_reducible rfl)) ?_
   refine tS 20 2 (hy:=by intro wq hRq;have ck2:=hRq.1.cell hp2;have ho:lim l (j+k)=o:=HO.out;rw [ho] at ck2;go_simp;(try with_reducible rfl)) ?_
   refine tS 21 3 (hy:=by intro wq hRq;have ck2:=hRq.1.cell hp2;have ho:lim l (j+k)=o:=HO.out;rw [ho] at ck2;go_simp;(try with_reducible rfl)) ?_
   refine tS 22 4 (hy:=by intro wq hRq;have ck2:=hRq.1.cell hp2;have ho:lim l (j+k)=o:=HO.out;rw [ho] at ck2;go_simp;(try with_reducible rfl)) ?_
   refine tS 23 5 (hy:=by intro wq hRq;have ck2:=hRq.1.cell hp2;have ho:lim l (j+k)=o:=HO.out;rw [ho] at ck2;go_simp;(try with_reducible rfl)) ?_
   refine tS 24 6 (hy:=by intro wq hRq;have ck2:=hRq.1.cell hp2;have ho:lim l (j+k)=o:=HO.out;rw [ho] at ck2;go_simp;(try with_reducible rfl)) ?_
   refine tS 25 7 (hy:=by intro wq hRq;have ck2:=hRq.1.cell hp2;have ho:lim l (j+k)=o:=HO.out;rw [ho] at ck2;go_simp;(try with_reducible rfl)) ?_
   refine tS 26 8 (hy:=by intro wq hRq;have ck2:=hRq.1.cell hp2;have ho:lim l (j+k)=o:=HO.out;rw [ho] at ck2;go_simp;(try with_reducible rfl)) ?_
   refine tS 27 9 (hy:=by intro wq hRq;have ck2:=hRq.1.cell hp2;have ho:lim l (j+k)=o:=HO.out;rw [ho] at ck2;go_simp;(try with_reducible rfl)) ?_
   refine tS 28 10 (hy:=by intro wq hRq;have ck2:=hRq.1.cell hp2;have ho:lim l (j+k)=o:=HO.out;rw [ho] at ck2;go_simp;(try with_reducible rfl)) ?_
   refine wpAnyS_ready (rs:=[11]) (by kernel_rfl) (by simp) ?_
   refine stepR (i:=11) rfl (by kernel_rfl) (fun K hK=>?_) (AllReadyS.nil)
   go_simp
   refine (HL.out _ hR.2).mono ?_
   rintro e wn ⟨rfl,rfl⟩
   refine hK.out _ _ hR ?_
   clear hK K
   (try simp only [Act.put,bw7,bw8,bw9])
   refine tS 30 12 (hy:=by intro wq hRq;have ck2:=hRq.1.cell hp2;have ho:lim l (j+k)=o:=HO.out;rw [ho] at ck2;go_simp;(try with_reducible rfl)) ?_
   refine tS 31 13 (hy:=by intro wq hRq;have ck2:=hRq.1.cell hp2;have ho:lim l (j+k)=o:=HO.out;rw [ho] at ck2;go_simp;(try with_reducible rfl)) ?_
   refine tS 11 14 (hy:=by intro wq hRq;have ck2:=hRq.1.cell hp2;have ho:lim l (j+k)=o:=HO.out;rw [ho] at ck2;go_simp;(try with_reducible rfl)) ?_
   refine wpAnyS_done (by kernel_rfl) ?_ _
   refine hN.out _ _ ?_
   have ck2:=hR.1.cell hp2
   have fr2:=hR.1.frozen (j+k)
   have HRL:=Lib.hid (show l.length=N from HLE.out)
   by_cases hneg:n < 0
   ·have ht:tcar n=(-n+999999999) / 1000000000:=if_pos hneg
    have hw5:IntKind.i64.wrap (-n)=-n:=IntWalk.i64_in _ (by omega)
    have hw6:IntKind.i64.wrap (-n+1000000000)=-n+1000000000:=IntWalk.i64_in _ (by omega)
    have hw7:IntKind.i64.wrap (-n+1000000000 - 1)=-n+1000000000 - 1:=IntWalk.i64_in _ (by omega)
    have ht2:(-n+1000000000 - 1).tdiv 1000000000=tcar n:=by rw [Int.tdiv_eq_ediv_of_nonneg (by omega),ht];congr 1;omega
    have ht3:0≤tcar n∧tcar n≤4000000001:=by rw [ht];omega
    obtain ⟨ht4,ht5⟩:=ht3
    clear ht
    generalize tcar n=t at *
    have hw8:IntKind.i64.wrap t=t:=IntWalk.i64_in _ (by omega)
    have hw9:IntKind.i64.wrap (t * 1000000000)=t * 1000000000:=IntWalk.i64_in _ (by omega)
    have hw10:IntKind.i64.wrap (n+t * 1000000000)=n+t * 1000000000:=IntWalk.i64_in _ (by omega)
    go_wp2_with fail
    have hS3:=sameBut_setCell wn g (j+k) (.int .i64 (n+t * 1000000000))
    go_roundw
    case rel=>exact ⟨k+1,_,_,by omega,by go_num,rfl,hR.1.set _ _,HSTP,HSS.out.then hS3⟩
    case measure=>simp [intOf];omega
   ·have ht:tcar n=0:=if_neg hneg
    rw [ht] at HSTP
    clear ht
    go_wp2_with fail
    have hS3:=sameBut_setCell wn g (j+k) (.int .i64 n)
    go_roundw
    case rel=>exact ⟨k+1,_,_,by omega,by go_num,rfl,hR.1.set _ _,(by have:=HSTP.out;rw [Int.zero_mul,Int.add_zero] at this;exact Lib.hid this),HSS.out.then hS3⟩
    case measure=>simp [intOf];omega
  ·obtain rfl:k=v.length+1:=by omega
   have hTT:=hT.out
   have HTT:=Lib.hid hTT
   have hul2:l.length=N:=by rw [hTT.len];exact hN
   clear hT
   go_wp2_with fail
   go_ret
   exact ⟨l,c,rfl,hrow,HTT.out,hS⟩
theorem restoreL_ok {u v:List Int} {j:Nat} {q:Int} {g cap:Nat} (vv:Value) (w:World) (hu:RowI w g cap u) (hvv:IsInts w vv v) (hne:∀ b off n cap,vv=.slice (some ⟨b,off,none⟩) n cap→b≠g) (du:Digs u) (dv:Digs v) (hj:j+v.length < u.length) (hul:u.length≤2000) (q0:0≤q) (q1:q≤4000000000) :
  Calls Tryz.prog 184 #[.slice (some ⟨g,0,none⟩) u.length cap,vv,.int .i64 j,.int .i64 q] w fun e w'=>∃ l c,e=.returned (.slice (some ⟨g,0,none⟩) u.length cap)∧RowI w' g cap l∧GiveAt u v j q (v.length+1) l c∧SameBut g w w':=by
 have HVV:=Lib.hid hvv
 obtain ⟨va,vc,rfl⟩:=hvv.slice
 have HNE:=Lib.hid hne
 have HDV:=Lib.hid dv
 have HST:=Lib.hid (GiveAt.start (v:=v) (j:=j) (q:=q) du)
 have HIS:=Lib.hid (fun (W:World) (hs:SameBut g w W)=>(isInts_but hvv hs hne))
 obtain ⟨_,hcapu,_⟩:=hu.heap
 clear hvv hne dv du
 obtain ⟨N,hN⟩:∃ N,u.length=N:=⟨_,rfl⟩
 rw [hN] at hj hul ⊢
 go_enter Tryz.func184,Tryz.ntmps184
 go_wp2_with fail
 go_loopw [9,15] (fun cy i wr=>∃ (k:Nat) (c:Int) (l:List Int),k≤v.length+1∧i=.int .i64 k∧cy=.int .i64 c∧RowI wr g cap l∧Hid (GiveAt u v j q k l c)∧SameBut g w wr) (fun _ i _=>v.length+1 - (intOf i).toNat)
 case atStart=>exact ⟨0,0,u,by omega,rfl,rfl,hu,HST,⟨rfl,rfl,rfl,rfl,fun _ _=>rfl⟩⟩
 case round =>
  obtain ⟨k,c,l,hk,rfl,rfl,hrow,hT,hS⟩:=hrel
  by_cases hkl:k < v.length+1
  ·have HL:=Lib.hid (fun (W:World) (h:IsInts W (.slice va v.length vc) v)=>limb_ok v _ k W h (by omega))
   have hpu:j+k < u.length:=by omega
   have hp:j+k < l.length:=by rw [hT.out.len];exact hpu
   have hlen:l.length=N:=by rw [hT.out.len];exact hN
   obtain ⟨o1,o2⟩:=hT.out.digs (j+k)
   obtain ⟨m1,m2⟩:=mul_q q0 q1 (HDV.out k)
   have c0:=hT.out.c0
   have c1:=hT.out.c1
   have hst:=hT.out.step HDV.out q0 q1 hpu
   have hp2:=hp
   have hpN:j+k < N:=by omega
   have hpI:(j:Int)+(k:Int) < (N:Int):=by omega
   have hp0:(0:Int)≤(j:Int)+(k:Int):=by omega
   have hw4:IntKind.i64.wrap ((j:Int)+(k:Int))=(j:Int)+(k:Int):=IntWalk.i64_in _ (by omega)
   have hix:((j:Int)+(k:Int)).toNat=j+k:=by omega
   have ck2:=hrow.cell hp
   obtain ⟨o,ho⟩:∃ o,lim l (j+k)=o:=⟨_,rfl⟩
   rw [ho] at ck2 o1 o2 hst
   obtain ⟨P,hP⟩:∃ P,q * lim v k=P:=⟨_,rfl⟩
   rw [hP] at m1 m2 hst
   have hw1:IntKind.i64.wrap (q * lim v k)=P:=by rw [hP];exact IntWalk.i64_in _ (by omega)
   have HO:=Lib.hid ho
   obtain ⟨n,hn⟩:∃ n,o+P+c=n:=⟨_,rfl⟩
   rw [hn] at hst
   have hw2:IntKind.i64.wrap (o+P)=o+P:=IntWalk.i64_in _ (by omega)
   have hw3:IntKind.i64.wrap (o+P+c)=n:=by rw [hn];exact IntWalk.i64_in _ (by omega)
   have hn0:0≤n:=by omega
   have hn1:n≤4000000001000000000:=by omega
   have ht1:n.tmod 1000000000=n % 1000000000:=Int.tmod_eq_emod_of_nonneg hn0
   have ht2:n.tdiv 1000000000=n / 1000000000:=Int.tdiv_eq_ediv_of_nonneg hn0
   have HSTP:=Lib.hid hst
   have HLE:=Lib.hid hlen
   have hR:RowI wr.drew g cap l∧IsInts wr.drew (.slice va v.length vc) v:=⟨hrow.below (bw0 _ _).drew,(HIS.out _ hS).below (bw0 _ _).drew⟩
   have HSS:=Lib.hid (sameBut_drew hS)
   clear hn hP hT hlen hrow ck2 hS ho hst
   go_wp2_with fail
   refine region_S (F:=[]) (R:=(fun w'=>RowI w' g cap l∧IsInts w' (.slice va v.length vc) v)) 15 #[false,false,false,false,false,false,false,false,false,false,false,false,false,false,false] (by kernel_rfl) (by kernel_rfl) (by kernel_rfl) (fun _ _ _ _ _ h=>h) (fun Q' hQ' hN=>?_)
   generalize wr.drew=wd at *
   refine tS 18 0 (hy:=by intro wq hRq;have ck2:=hRq.1.cell hp2;have ho:lim l (j+k)=o:=HO.out;rw [ho] at ck2;go_simp;(try with_reducible rfl)) ?_
   refine tS 19 1 (hy:=by intro wq hRq;have ck2:=hRq.1.cell hp2;have ho:lim l (j+k)=o:=HO.out;rw [ho] at ck2;go_simp;(try with_reducible rfl)) ?_
   refine tS 20 2 (hy:=by intro wq hRq;have ck2:=hRq.1.cell hp2;have ho:lim l (j+k)=o:=HO.out;rw [ho] at ck2;go_simp;(try with_reducible rfl)) ?_
   refine tS 21 3 (hy:=by intro wq hRq;have ck2:=hRq.1.cell hp2;have ho:lim l (j+k)=o:=HO.out;rw [ho] at ck2;go_simp;(try with_reducible rfl)) ?_
   refine tS 22 4 (hy:=by intro wq hRq;have ck2:=hRq.1.cell hp2;have ho:lim l (j+k)=o:=HO.out;rw [ho] at ck2;go_simp;(try with_reducible rfl)) ?_
   refine tS 23 5 (hy:=by intro wq hRq;have ck2:=hRq.1.cell hp2;have ho:lim l (j+k)=o:=HO.out;rw [ho] at ck2;go_simp;(try with_reducible rfl)) ?_
   refine tS 24 6 (hy:=by intro wq hRq;have ck2:=hRq.1.cell hp2;have ho:lim l (j+k)=o:=HO.out;rw [ho] at ck2;go_simp;(try with_reducible rfl)) ?_
   refine tS 25 7 (hy:=by intro wq hRq;have ck2:=hRq.1.cell hp2;have ho:lim l (j+k)=o:=HO.out;rw [ho] at ck2;go_simp;(try with_reducible rfl)) ?_
   refine tS 26 8 (hy:=by intro wq hRq;have ck2:=hRq.1.cell hp2;have ho:lim l (j+k)=o:=HO.out;rw [ho] at ck2;go_simp;(try with_reducible rfl)) ?_
   refine tS 30 12 (hy:=by intro wq hRq;have ck2:=hRq.1.cell hp2;have ho:lim l (j+k)=o:=HO.out;rw [ho] at ck2;go_simp;(try with_reducible rfl)) ?_
   refine wpAnyS_ready (rs:=[9]) (by kernel_rfl) (by simp) ?_
   refine stepR (i:=9) rfl (by kernel_rfl) (fun K hK=>?_) (AllReadyS.nil)
   go_simp
   refine (HL.out _ hR.2).mono ?_
   rintro e wn ⟨rfl,rfl⟩
   refine hK.out _ _ hR ?_
   clear hK K
   (try simp only [Act.put,bw7,bw8,bw9])
   refine tS 28 10 (hy:=by intro wq hRq;have ck2:=hRq.1.cell hp2;have ho:lim l (j+k)=o:=HO.out;rw [ho] at ck2;go_simp;(try with_reducible rfl)) ?_
   refine tS 29 11 (hy:=by intro wq hRq;have ck2:=hRq.1.cell hp2;have ho:lim l (j+k)=o:=HO.out;rw [ho] at ck2;go_simp;(try with_reducible rfl)) ?_
   refine tS 31 13 (hy:=by intro wq hRq;have ck2:=hRq.1.cell hp2;have ho:lim l (j+k)=o:=HO.out;rw [ho] at ck2;go_simp;(try with_reducible rfl)) ?_
   refine tS 11 14 (hy:=by intro wq hRq;have ck2:=hRq.1.cell hp2;have ho:lim l (j+k)=o:=HO.out;rw [ho] at ck2;go_simp;(try with_reducible rfl)) ?_
   refine wpAnyS_done (by kernel_rfl) ?_ _
   refine hN.out _ _ ?_
   have ck2:=hR.1.cell hp2
   have fr2:=hR.1.frozen (j+k)
   have HRL:=Lib.hid (show l.length=N from HLE.out)
   go_wp2_with fail
   have hS3:=sameBut_setCell wn g (j+k) (.int .i64 (n % 1000000000))
   go_roundw
   case rel=>exact ⟨k+1,_,_,by omega,by go_num,rfl,hR.1.set _ _,HSTP,HSS.out.then hS3⟩
   case measure=>simp [intOf];omega
  ·obtain rfl:k=v.length+1:=by omega
   have hTT:=hT.out
   have HTT:=Lib.hid hTT
   have hul2:l.length=N:=by rw [hTT.len];exact hN
   clear hT
   go_wp2_with fail
   go_ret
   exact ⟨l,c,rfl,hrow,HTT.out,hS⟩
end Go.Proofs.YthihcjgmlbnapaaGreatDoor
namespace Go.Proofs.YthihcjgmlbnapaaGreatDoor
open Go.RowKit Go.Shelf
attribute [local go_sem] Oper.semAt_some
def encQ {N:Nat} (x:Fin N × Int):Array Value:=#[.int .i64 ((N:Int) - 1 - x.1.1),.int .i64 x.2]
def KpQ (N B b1 g:Nat) (W W':World):Prop:=Below B W W'∧W'.heap[b1]?=W.heap[b1]?∧∀ l,BlkI W g l→l.length=N→∃ l',BlkI W' g l'∧l'.length=N
theorem KpQ.t {N B b1 g:Nat} {X Y Z:World} (h:KpQ N B b1 g X Y) (k:KpQ N B b1 g Y Z):KpQ N B b1 g X Z:=⟨h.1.trans k.1,k.2.1.trans h.2.1,fun l hl e=>by obtain ⟨l',h1,h2⟩:=h.2.2 l hl e;exact k.2.2 l' h1 h2⟩
theorem KpQ.b {N B b1 g m:Nat} (h1:B≤m) (h2:b1 < m) (h3:g < m) (W:World) (l:Nat) (o o':Obj) (hl:m≤l) (_:W.heap[l]?=some o) (_:o.isCells=false) (_:o.isWalk=false):KpQ N B b1 g W (W.putObj l o'):=by
 have hg:=grownBy_putObj' W l o'
 exact ⟨⟨hg.os,hg.tape,hg.output,hg.size,fun k hk=>World.putObj_heap_other (by omega)⟩,World.putObj_heap_other (by omega),fun l hb e=>⟨l,(World.putObj_heap_other (by omega)).trans hb,e⟩⟩
theorem back2_in (N:Nat) (n:Nat) (hn:1≤n) (lb b1 B cap gb:Nat) (J Jx:List (Fin N × Int)→World→Prop) (hlen:N≤1000)
  (hY:∀ pre x W,J pre W→pre.length < N→YieldAt Fence.wide (n - 1) Tryz.prog lb (encQ x) W fun e W' =>
   (e=.returned (.bool true)∧J (pre++[x]) W'∧KpQ N B b1 gb W W')∨(e=.returned (.bool false)∧Jx (pre++[x]) W'))
  (W:World) (hJ:AbidesFrom W.heap.size J) (c1:W.cell? ⟨b1,0,none⟩=some (.slice (some ⟨gb,0,none⟩) N cap)) (hcells:∃ l,BlkI W gb l∧l.length=N) (h0:J [] W) :
  CallsIn Fence.wide n Tryz.prog 210 #[.func (.yield lb) #[] #[],.pointer (some ⟨b1,0,none⟩)] W fun e W'=>(∃ v,e=.returned v) ∧
   ((∃ ys,ys.map Prod.fst=List.finRange N∧J ys W')∨(∃ pre,(∃ k,k≤N∧pre.map Prod.fst=fst N k)∧Jx pre W')):=by
 have HJ:=Lib.hid hJ
 have HY:=Lib.hid hY
 have HC:=Lib.hid hcells
 clear hJ hY hcells
 refine callsIn_of_wp Tryz.func210 rfl trivial ?_ rfl
 simp only [Tryz.ntmps210,List.size_toArray,List.length_cons,List.length_nil,Nat.reduceAdd,Nat.reduceSub,Array.replicate_succ,Array.replicate_zero,List.push_toArray,List.append_toArray,List.nil_append,List.cons_append]
 have hwm:IntKind.i64.wrap ((N:Int) - 1)=(N:Int) - 1:=IntWalk.i64_in _ (by omega)
 gi_wp2
 gi_loopg [3] N (fun g v wr=>∃ (k:Nat) (ys:List (Fin N × Int)),k≤N∧g=N - k∧v=.int .i64 ((N:Int) - 1 - k)∧ys.map Prod.fst=fst N k∧Hid (J ys wr)∧wr.cell? ⟨b1,0,none⟩=some (.slice (some ⟨gb,0,none⟩) N cap)∧Hid (∃ l,BlkI wr gb l∧l.length=N))
 case atStart=>exact ⟨0,[],by omega,rfl,by simp,rfl,Lib.hid h0,c1,HC⟩
 case round =>
  obtain ⟨k,ys,hk,rfl,rfl,hys,hJk,k1,hRk⟩:=hrel
  by_cases hkn:k=N
  ·subst hkn
   have hge:¬ (0:Int)≤(k:Int) - 1 - (k:Int):=by omega
   gi_wp2
   go_end0
   exact ⟨⟨_,rfl⟩,.inl ⟨ys,by rw [hys,fst_all],hJk.out⟩⟩
  ·have hge:(0:Int)≤(N:Int) - 1 - (k:Int):=by omega
   have hkN:k < N:=by omega
   obtain ⟨l,hbl,hll⟩:=hRk.out
   have ck:=hbl.cell (p:=N - 1 - k) (by omega)
   have hs:((N:Int) - 1 - (k:Int)).toNat=N - 1 - k:=by omega
   have hw1:IntKind.i64.wrap ((N:Int) - 1 - (k:Int) - 1)=(N:Int) - 1 - (k:Int) - 1:=IntWalk.i64_in _ (by omega)
   have hlt:(N:Int) - 1 - (k:Int) < (N:Int):=by omega
   have hyl:ys.length=k:=by have:=congrArg List.length hys;rwa [List.length_map,fst_length hk] at this
   have hYk:=Lib.hid (fun W hW=>HY.out ys (⟨k,hkN⟩,lim l (N - 1 - k)) W hW (by omega))
   have HE:Hid (encQ ((⟨k,hkN⟩,lim l (N - 1 - k)):Fin N × Int)=#[.int .i64 ((N:Int) - 1 - k),.int .i64 (lim l (N - 1 - k))]):=Lib.hid rfl
   have hRR:=Lib.hid (And.intro hbl hll)
   have HYS:=Lib.hid (show (ys++[((⟨k,hkN⟩,lim l (N - 1 - k)):Fin N × Int)]).map Prod.fst=fst N (k+1) by rw [List.map_append,hys,fst_succ hkN];rfl)
   clear hbl hll hRk hys
   obtain ⟨fn,tmps,assign,body,hy,hR2⟩:=hYk.out _ hJk.out
   have HR2:=Lib.hid hR2
   rw [HE.out] at hy
   clear hR2
   gi_wp2
   refine HR2.out.mono ?_
   rintro e W3 (⟨rfl,hJ3,hk3⟩|⟨rfl,hJx3⟩)
   ·have k13:W3.cell? ⟨b1,0,none⟩=some (.slice (some ⟨gb,0,none⟩) N cap):=(World.cell?_of_block hk3.2.1).trans k1
    have hR3:=Lib.hid (hk3.2.2 l hRR.out.1 hRR.out.2)
    have hJ3':=Lib.hid hJ3
    clear hJ3 hk3 hy HR2 k1 ck
    gi_wp2
    gi_roundg (N - (k+1))
    case rel=>exact ⟨k+1,_,by omega,rfl,by go_num,HYS.out,hJ3',k13,hR3⟩
    case measure=>omega
   ·have hJ3':=Lib.hid hJx3
    clear hJx3 hy HR2
    gi_wp2
    refine bodyPost_ret (results_none rfl _ _ _) rfl ?_
    exact ⟨⟨_,rfl⟩,.inr ⟨_,⟨k+1,by omega,HYS.out⟩,hJ3'.out⟩⟩
theorem back2_stops (N:Nat) (n:Nat) (hn:1≤n) (b1 B gb cap:Nat) (hlen:N≤1000) (w:World) (hv:∃ l,BlkI w gb l∧l.length=N) (c1:w.cell? ⟨b1,0,none⟩=some (.slice (some ⟨gb,0,none⟩) N cap)) :
  SeqStopsK Fence.wide n Tryz.prog 210 #[.pointer (some ⟨b1,0,none⟩)] (encQ (N:=N)) (KpQ N B b1 gb) (fun ys=>ys.map Prod.fst=List.finRange N) (fun pre=>∃ k,k≤N∧pre.map Prod.fst=fst N k) N w:=fun lb J Jx W hW hJ _ hY h0 =>
 back2_in N n hn lb b1 B cap gb J Jx hlen hY W hJ (keep hW c1) (by obtain ⟨l,h1,h2⟩:=hv;exact ⟨l,h1.below hW,h2⟩) h0
end Go.Proofs.YthihcjgmlbnapaaGreatDoor
namespace Go.Proofs.YthihcjgmlbnapaaGreatDoor
open Go.RowKit Go.Shelf
theorem estimateL_ok {u v:List Int} {j:Nat} {g cap:Nat} (vv:Value) (w:World) (hu:RowI w g cap u) (hvv:IsInts w vv v) (du:Digs u) (dv:Digs v) (h2:2≤v.length) (hj:j+v.length < u.length) (hul:u.length≤2000) (htop:500000000≤lim v (v.length - 1))
  (I:Int→Prop) (hI0:I ((lim u (j+v.length) * 1000000000+lim u (j+v.length - 1)) / lim v (v.length - 1)))
  (hI1:∀ q,1000000000≤q→I q→I (q - 1))
  (hI2:∀ q r,0≤q→q * lim v (v.length - 1)+r=lim u (j+v.length) * 1000000000+lim u (j+v.length - 1)→q * lim v (v.length - 2) > r * 1000000000+lim u (j+v.length - 2)→I q→I (q - 1)) :
  Calls Tryz.prog 182 #[.slice (some ⟨g,0,none⟩) u.length cap,vv,.int .i64 j] w fun e w'=>∃ q:Int,e=.returned (.int .i64 q)∧0≤q∧q≤2000000000∧I q∧∃ n,w'=w.drewN n:=by
 obtain ⟨va,vc,rfl⟩:=hvv.slice
 obtain ⟨_,hcapv,hcv⟩:=hvv.cells
 obtain ⟨bv,ov,rfl,hcell⟩:=hcv (by omega)
 have ck0:=hu.cell (p:=j+v.length) (by omega)
 have ck1:=hu.cell (p:=j+v.length - 1) (by omega)
 have ck2:=hu.cell (p:=j+v.length - 2) (by omega)
 have cv1:=hcell (v.length - 1) (by omega)
 have cv2:=hcell (v.length - 2) (by omega)
 obtain ⟨a0,b0⟩:=du (j+v.length)
 obtain ⟨a1,b1⟩:=du (j+v.length - 1)
 obtain ⟨a2,b2⟩:=du (j+v.length - 2)
 obtain ⟨a3,b3⟩:=dv (v.length - 1)
 obtain ⟨a4,b4⟩:=dv (v.length - 2)
 clear du dv hu hvv
 clear hcell hcv
 generalize v.length=n at *
 generalize u.length=N at *
 generalize lim u (j+n)=u0 at *
 generalize lim u (j+n - 1)=u1 at *
 generalize lim u (j+n - 2)=u2 at *
 generalize lim v (n - 1)=v1 at *
 generalize lim v (n - 2)=v2 at *
 have HI0:=Lib.hid hI0
 have HI1:=Lib.hid hI1
 have HI2:=Lib.hid hI2
 have hw0:IntKind.i64.wrap ((j:Int)+(n:Int))=(j:Int)+(n:Int):=IntWalk.i64_in _ (by omega)
 have hw1:IntKind.i64.wrap ((j:Int)+(n:Int) - 1)=(j:Int)+(n:Int) - 1:=IntWalk.i64_in _ (by omega)
 have hw2:IntKind.i64.wrap ((j:Int)+(n:Int) - 2)=(j:Int)+(n:Int) - 2:=IntWalk.i64_in _ (by omega)
 have hw3:IntKind.i64.wrap ((n:Int) - 1)=(n:Int) - 1:=IntWalk.i64_in _ (by omega)
 have hw4:IntKind.i64.wrap ((n:Int) - 2)=(n:Int) - 2:=IntWalk.i64_in _ (by omega)
 have hx0:((j:Int)+(n:Int)).toNat=j+n:=by omega
 have hx1:((j:Int)+(n:Int) - 1).toNat=j+n - 1:=by omega
 have hx2:((j:Int)+(n:Int) - 2).toNat=j+n - 2:=by omega
 have hx3:((n:Int) - 1).toNat=n - 1:=by omega
 have hx4:((n:Int) - 2).toNat=n - 2:=by omega
 have y0:(0:Int)≤(j:Int)+(n:Int):=by omega
 have y1:(j:Int)+(n:Int) < (N:Int):=by omega
 have y2:(0:Int)≤(j:Int)+(n:Int) - 1:=by omega
 have y3:(j:Int)+(n:Int) - 1 < (N:Int):=by omega
 have y4:(0:Int)≤(j:Int)+(n:Int) - 2:=by omega
 have y5:(j:Int)+(n:Int) - 2 < (N:Int):=by omega
 have y6:(0:Int)≤(n:Int) - 1:=by omega
 have y7:(0:Int)≤(n:Int) - 2:=by omega
 obtain ⟨top,htp⟩:∃ t,u0 * 1000000000+u1=t:=⟨_,rfl⟩
 have hw5:IntKind.i64.wrap (u0 * 1000000000)=u0 * 1000000000:=IntWalk.i64_in _ (by omega)
 have hw6:IntKind.i64.wrap (u0 * 1000000000+u1)=top:=by rw [htp];exact IntWalk.i64_in _ (by omega)
 have ht0:0≤top:=by omega
 have ht1:top≤999999999999999999:=by omega
 rw [htp] at HI0 HI2
 have hd1:top.tdiv v1=top / v1:=Int.tdiv_eq_ediv_of_nonneg ht0
 have hd2:top.tmod v1=top % v1:=Int.tmod_eq_emod_of_nonneg ht0
 have hz:¬ v1=0:=by omega
 have hzb:(v1 == 0)=false:=by simp [hz]
 obtain ⟨q,hq⟩:∃ q,top / v1=q:=⟨_,rfl⟩
 obtain ⟨r,hr⟩:∃ q,top % v1=q:=⟨_,rfl⟩
 have hqr:q * v1+r=top:=by rw [← hq,← hr,Int.mul_comm];exact Int.mul_ediv_add_emod _ _
 have hr0:0≤r:=by rw [← hr];exact Int.emod_nonneg _ hz
 have hr1:r < v1:=by rw [← hr];exact Int.emod_lt_of_pos _ (by omega)
 have hq0:0≤q:=by rw [← hq];exact Int.ediv_nonneg ht0 (by omega)
 have hq1:q≤2000000000:=by
  refine Decidable.byContradiction fun hc=>?_
  have:=Int.mul_le_mul (show (2000000001:Int)≤q by omega) htop (by omega) (by omega)
  omega
 rw [hq] at hd1 HI0
 rw [hr] at hd2
 have hw7:IntKind.i64.wrap q=q:=IntWalk.i64_in _ (by omega)
 have hw8:IntKind.i64.wrap r=r:=IntWalk.i64_in _ (by omega)
 have HQR:=Lib.hid hqr
 clear hq hr hqr hI0 hI1 hI2 htp
 go_enter Tryz.func182,Tryz.ntmps182
 go_wp2_with fail
 go_quiet (fail)
 go_wp2_with fail
 go_quiet (fail)
 go_wp2_with fail
 go_loopw [9,10] (fun x y wr=>∃ q r:Int,x=.int .i64 q∧y=.int .i64 r∧0≤q∧q≤2000000000∧0≤r∧r≤999999999∧Hid (q * v1+r=top)∧Hid (I q)∧∃ m,wr=w.drewN m) (fun x _ _=>(intOf x).toNat)
 case atStart=>exact ⟨q,r,rfl,rfl,hq0,hq1,hr0,by omega,HQR,HI0,by (try simp only [drewN_add]);exact ⟨_,rfl⟩⟩
 case round =>
  clear hq0 hq1 hr0 hr1 hw7 hw8 hd1 hd2 HQR HI0
  obtain ⟨q,r,rfl,rfl,hq0,hq1,hr0,hr1,hsum,HIQ,m,rfl⟩:=hrel
  have hsum:=hsum.out
  have hr2:r < 1000000000:=by omega
  by_cases hge:1000000000≤q
  ·have hI':=HI1.out q hge HIQ.out
   have hs1:(q - 1) * v1+(r+v1)=top:=by rw [← hsum];grind
   have hw9:IntKind.i64.wrap (q - 1)=q - 1:=IntWalk.i64_in _ (by omega)
   have hw10:IntKind.i64.wrap (r+v1)=r+v1:=IntWalk.i64_in _ (by omega)
   have HS1:=Lib.hid hs1
   have HIQ2:=Lib.hid hI'
   clear hs1 hsum hI'
   by_cases hbr:1000000000≤r+v1
   ·go_wp2_with fail
    go_quiet (fail)
    go_wp2_with fail
    go_quiet (fail)
    go_wp2_with fail
    go_ret
    exact ⟨q - 1,rfl,by omega,by omega,HIQ2.out,by (try simp only [drewN_add]);exact ⟨_,rfl⟩⟩
   ·go_wp2_with fail
    go_quiet (fail)
    go_wp2_with fail
    go_quiet (fail)
    go_wp2_with fail
    go_roundw
    case rel=>exact ⟨q - 1,r+v1,rfl,rfl,by omega,by omega,by omega,by omega,HS1,HIQ2,by (try simp only [drewN_add]);exact ⟨_,rfl⟩⟩
    case measure=>simp [intOf];omega
  ·have hgB:decide ((1000000000:Int)≤q)=false:=decide_eq_false hge
   have hlB:decide (r < (1000000000:Int))=true:=decide_eq_true hr2
   obtain ⟨P,hP⟩:∃ P,q * v2=P:=⟨_,rfl⟩
   have hP0:0≤P:=by rw [← hP];exact Int.mul_nonneg hq0 a4
   have hP1:P≤999999998000000001:=by rw [← hP];have:=Int.mul_le_mul (show q≤999999999 by omega) b4 a4 (by omega);omega
   have hp1:IntKind.i64.wrap (q * v2)=P:=by rw [hP];exact IntWalk.i64_in _ (by omega)
   have hp2:IntKind.i64.wrap (r * 1000000000)=r * 1000000000:=IntWalk.i64_in _ (by omega)
   have hp3:IntKind.i64.wrap (r * 1000000000+u2)=r * 1000000000+u2:=IntWalk.i64_in _ (by omega)
   have HP:=Lib.hid hP
   by_cases hgt:r * 1000000000+u2 < P
   ·have hI':=HI2.out q r hq0 hsum (by have:=HP.out;omega) HIQ.out
    have hq2:1≤q:=by
     refine Decidable.byContradiction fun hc=>?_
     have h0:q=0:=by omega
     rw [h0,Int.zero_mul] at hP
     omega
    clear hP
    have hs1:(q - 1) * v1+(r+v1)=top:=by rw [← hsum];grind
    have hw9:IntKind.i64.wrap (q - 1)=q - 1:=IntWalk.i64_in _ (by omega)
    have hw10:IntKind.i64.wrap (r+v1)=r+v1:=IntWalk.i64_in _ (by omega)
    have HS1:=Lib.hid hs1
    have HIQ2:=Lib.hid hI'
    clear hs1 hsum hI'
    by_cases hbr:1000000000≤r+v1
    ·go_wp2_with fail
     go_quiet (fail)
     go_wp2_with fail
     go_quiet (fail)
     go_wp2_with fail
     go_ret
     exact ⟨q - 1,rfl,by omega,by omega,HIQ2.out,by (try simp only [drewN_add]);exact ⟨_,rfl⟩⟩
    ·go_wp2_with fail
     go_quiet (fail)
     go_wp2_with fail
     go_quiet (fail)
     go_wp2_with fail
     go_roundw
     case rel=>exact ⟨q - 1,r+v1,rfl,rfl,by omega,by omega,by omega,by omega,HS1,HIQ2,by (try simp only [drewN_add]);exact ⟨_,rfl⟩⟩
     case measure=>simp [intOf];omega
   ·clear hP hsum
    go_wp2_with fail
    go_quiet (fail)
    go_wp2_with fail
    go_ret
    exact ⟨q,rfl,hq0,hq1,HIQ.out,by (try simp only [drewN_add]);exact ⟨_,rfl⟩⟩
end Go.Proofs.YthihcjgmlbnapaaGreatDoor
namespace Go.Proofs.YthihcjgmlbnapaaGreatDoor
theorem norm_top {b1 f:Int} (h1:1≤b1) (h2:b1≤999999999) (hf:f=1000000000 / (b1+1)):1≤f∧f≤500000000∧f * (b1+1)≤1000000000∧500000000≤f * b1:=by
 have e1:f * (b1+1)≤1000000000:=by rw [hf];exact Int.ediv_mul_le _ (by omega)
 have e2:1000000000 < (f+1) * (b1+1):=by rw [hf];exact Int.lt_ediv_add_one_mul_self _ (by omega)
 have f0:0≤f:=by rw [hf];exact Int.ediv_nonneg (by omega) (by omega)
 have f1:1≤f:=by
  refine Decidable.byContradiction fun hc=>?_
  have:f=0:=by omega
  rw [this] at e2
  omega
 have f2:f≤500000000:=by
  have:f * 2≤f * (b1+1):=Int.mul_le_mul_of_nonneg_left (by omega) (by omega)
  omega
 refine ⟨f1,f2,e1,?_⟩
 by_cases hb:500000000≤b1
 ·have:1 * b1≤f * b1:=Int.mul_le_mul_of_nonneg_right f1 (by omega)
  omega
 ·refine Decidable.byContradiction fun hc=>?_
  have h3:(b1+1) * (f * b1)≤(b1+1) * 499999999:=Int.mul_le_mul_of_nonneg_left (by omega) (by omega)
  have h4:(1000000001) * b1≤((f+1) * (b1+1)) * b1:=Int.mul_le_mul_of_nonneg_right (by omega) (by omega)
  have h5:0≤(b1 - 1) * (500000000 - b1):=Int.mul_nonneg (by omega) (by omega)
  grind
theorem val_top {l:List Int} {n:Nat} (h:l.length=n+1):val l=vt (lim l) n+lim l n * pw n:=by unfold val;rw [h];rfl
theorem top_bounds {l:List Int} {x:Int} {n:Nat} (h:Num l x) (hl:l.length=n+1):lim l n * pw n≤x∧x < (lim l n+1) * pw n:=by
 rw [← h.sum,val_top hl]
 have:=vt_bound (f:=lim l) (k:=n) (fun i _=>h.digs i)
 rw [Int.add_mul]
 omega
theorem Num.length_eq {l:List Int} {x:Int} {n:Nat} (h:Num l x) (h1:pw n≤x) (h2:x < pw (n+1)):l.length=n+1:=by
 have a:=h.length_le h2
 refine Nat.le_antisymm a (Nat.lt_of_not_le fun hc=>?_)
 have:=h.high.2
 have:=pw_mono hc
 omega
theorem norm_div {b v:List Int} {y f:Int} {n:Nat} (hb:Num b y) (hn:b.length=n+1) (hf:f=1000000000 / (lim b n+1)) (hv:Num v (y * f)):v.length=n+1∧500000000≤lim v n:=by
 have hb1:1≤lim b n:=by
  have h0:=hb.trim (by omega)
  rw [hn,Nat.add_sub_cancel] at h0
  have:=(hb.digs n).1
  omega
 obtain ⟨f1,f2,f3,f4⟩:=norm_top hb1 (hb.digs n).2 hf
 obtain ⟨t1,t2⟩:=top_bounds hb hn
 have hp:=pw_pos n
 have hlow:pw n≤y:=by have:=Int.mul_le_mul_of_nonneg_right hb1 (Int.le_of_lt hp);omega
 have h1:pw n≤y * f:=by
  have:y * 1≤y * f:=Int.mul_le_mul_of_nonneg_left f1 (by omega)
  omega
 have h2:y * f < pw (n+1):=by
  have e1:y * f < ((lim b n+1) * pw n) * f:=Int.mul_lt_mul_of_pos_right t2 (by omega)
  have e2:(f * (lim b n+1)) * pw n≤1000000000 * pw n:=Int.mul_le_mul_of_nonneg_right f3 (by omega)
  show _ < 1000000000 * pw n
  grind
 have hl:=hv.length_eq h1 h2
 refine ⟨hl,?_⟩
 obtain ⟨s1,s2⟩:=top_bounds hv hl
 refine Decidable.byContradiction fun hc=>?_
 have e1:(lim v n+1) * pw n≤500000000 * pw n:=Int.mul_le_mul_of_nonneg_right (by omega) (by omega)
 have e2:500000000 * pw n≤(f * lim b n) * pw n:=Int.mul_le_mul_of_nonneg_right f4 (by omega)
 have e3:(lim b n * pw n) * f≤y * f:=Int.mul_le_mul_of_nonneg_right t1 (by omega)
 grind
def part (u:List Int) (j k:Nat):Int:=vt (fun i=>lim u (j+i)) k
theorem part_bound {u:List Int} (h:Digs u) (j k:Nat):0≤part u j k∧part u j k < pw k:=vt_bound fun i _=>h (j+i)
theorem part_top (u:List Int) (j n:Nat):part u j (n+2+1)=part u j n+pw n * (lim u (j+n)+1000000000 * (lim u (j+n+1)+1000000000 * lim u (j+n+2))):=by
 unfold part
 simp only [vt,pw]
 rw [show j+(n+1)=j+n+1 from rfl,show j+(n+2)=j+n+2 from rfl]
 grind
def EstI (u v:List Int) (j:Nat) (q:Int):Prop:=part u j (v.length+1) < 1000000000 * val v→part u j (v.length+1) < (q+1) * val v
theorem est_facts {u v:List Int} {j n:Nat} (du:Digs u) (dv:Digs v) (hn:v.length=n+2) :
  (∀ q r,0≤q→q * lim v (n+1)+r=lim u (j+(n+2)) * 1000000000+lim u (j+(n+2) - 1)→r < lim v (n+1)→EstI u v j q)∧(∀ q,1000000000≤q→EstI u v j q→EstI u v j (q - 1)) ∧
  (∀ q r,0≤q→q * lim v (n+1)+r=lim u (j+(n+2)) * 1000000000+lim u (j+(n+2) - 1)→q * lim v n > r * 1000000000+lim u (j+(n+2) - 2)→EstI u v j q→EstI u v j (q - 1)):=by
 have e1:j+(n+2) - 1=j+n+1:=by omega
 have e2:j+(n+2) - 2=j+n:=by omega
 have e3:j+(n+2)=j+n+2:=rfl
 have hp:=pw_pos n
 have hP:=part_top u j n
 have hb:=part_bound du j n
 have hV:val v=vt (lim v) n+pw n * (lim v n+1000000000 * lim v (n+1)):=by
  unfold val
  rw [hn]
  simp only [vt,pw]
  grind
 have hvb:=vt_bound (f:=lim v) (k:=n) (fun i _=>dv i)
 have hv2:=dv n
 have hv1:=dv (n+1)
 have hu2:=du (j+n)
 rw [e1,e2,e3]
 unfold EstI
 rw [hn,show n+2+1=n+2+1 from rfl,hP,hV]
 generalize part u j n=p0 at *
 generalize vt (lim v) n=w0 at *
 generalize pw n=B at *
 generalize lim u (j+n)=u2 at *
 generalize lim u (j+n+1)=u1 at *
 generalize lim u (j+n+2)=u0 at *
 generalize lim v n=v2 at *
 generalize lim v (n+1)=v1 at *
 obtain ⟨w1,w2⟩:=hvb
 obtain ⟨p1,p2⟩:=hb
 obtain ⟨a1,a2⟩:=hv2
 obtain ⟨a3,a4⟩:=hv1
 obtain ⟨a5,a6⟩:=hu2
 refine ⟨fun q r hq hs hr _=>?_,fun q hq h hlt=>?_,fun q r hq hs hgt h _=>?_⟩
 ·-- part < (top+1) * B^(n+1) <= (q+1) * v1 * B^(n+1)
  have h1:(u0 * 1000000000+u1+1)≤(q+1) * v1:=by rw [Int.add_mul];omega
  have h2:(B * 1000000000) * (u0 * 1000000000+u1+1)≤(B * 1000000000) * ((q+1) * v1):=Int.mul_le_mul_of_nonneg_left h1 (by omega)
  have h3:B * u2≤B * 999999999:=Int.mul_le_mul_of_nonneg_left a6 (by omega)
  have h4:0≤(q+1) * (w0+B * v2):=Int.mul_nonneg (by omega) (by have:=Int.mul_nonneg (Int.le_of_lt hp) a1;omega)
  grind
 ·have h1:=h hlt
  have h2:1000000000 * (w0+B * (v2+1000000000 * v1))≤q * (w0+B * (v2+1000000000 * v1)):=Int.mul_le_mul_of_nonneg_right hq (by
   have:=Int.mul_nonneg (Int.le_of_lt hp) (show 0≤v2+1000000000 * v1 by omega);omega)
  rw [Int.sub_add_cancel]
  exact Int.lt_of_lt_of_le hlt h2
 ·rw [Int.sub_add_cancel]
  have h1:B * (r * 1000000000+u2+1)≤B * (q * v2):=Int.mul_le_mul_of_nonneg_left (by omega) (by omega)
  have h2:0≤q * w0:=Int.mul_nonneg hq w1
  have h3:(B * 1000000000) * (q * v1+r)=(B * 1000000000) * (u0 * 1000000000+u1):=by rw [hs]
  grind
theorem part_split {u:List Int} {j k:Nat} (h:j+k≤u.length):val u=vt (lim u) j+pw j * part u j k+pw (j+k) * part u (j+k) (u.length - (j+k)):=by
 have e1:val u=vt (lim u) (j+k)+pw (j+k) * part u (j+k) (u.length - (j+k)):=by
  have:=vt_split (lim u) (j+k) (u.length - (j+k))
  rw [show j+k+(u.length - (j+k))=u.length by omega] at this
  exact this
 rw [e1,vt_split (lim u) j k]
 rfl
theorem part_congr {u l:List Int} {j k:Nat} (h:∀ i,j≤i→lim l i=lim u i):part l j k=part u j k:=vt_congr fun i _=>h (j+i) (by omega)
theorem mul_cancel {p a b:Int} (hp:0 < p) (h:p * a=p * b):a=b:=Int.eq_of_mul_eq_mul_left (by omega) h
theorem TakeAt.prt {u v l:List Int} {j:Nat} {q c:Int} (h:TakeAt u v j q (v.length+1) l c) (hj:j+v.length < u.length):part l j (v.length+1)+q * val v=part u j (v.length+1)+c * pw (v.length+1):=by
 have e1:=part_split (u:=u) (j:=j) (k:=v.length+1) (by omega)
 have e2:=part_split (u:=l) (j:=j) (k:=v.length+1) (by rw [h.len];omega)
 have hs:=h.sum
 rw [vt_val (show v.length≤v.length+1 by omega),e1,e2,pw_add,h.len,part_congr (u:=u) (l:=l) (j:=j+(v.length+1)) (fun i hi=>h.same i (Or.inr hi)),vt_congr (f:=lim l) (g:=lim u) (k:=j) (fun i hi=>h.same i (Or.inl hi))] at hs
 refine mul_cancel (pw_pos j) ?_
 grind
theorem TakeAt.carry {u v l:List Int} {j:Nat} {q c:Int} (h:TakeAt u v j q (v.length+1) l c) (hj:j+v.length < u.length):0 < c↔part u j (v.length+1) < q * val v:=by
 have hp:=h.prt hj
 have hb:=part_bound h.digs j (v.length+1)
 have hpw:=pw_pos (v.length+1)
 have c0:=h.c0
 constructor
 ·intro hc
  have:1 * pw (v.length+1)≤c * pw (v.length+1):=Int.mul_le_mul_of_nonneg_right (by omega) (by omega)
  omega
 ·intro hlt
  refine Decidable.byContradiction fun hc=>?_
  have e:c=0:=by omega
  rw [e,Int.zero_mul] at hp
  omega
theorem GiveAt.prt {u v l:List Int} {j:Nat} {q c:Int} (h:GiveAt u v j q (v.length+1) l c) (hj:j+v.length < u.length):part l j (v.length+1)+c * pw (v.length+1)=part u j (v.length+1)+q * val v:=by
 have e1:=part_split (u:=u) (j:=j) (k:=v.length+1) (by omega)
 have e2:=part_split (u:=l) (j:=j) (k:=v.length+1) (by rw [h.len];omega)
 have hs:=h.sum
 rw [vt_val (show v.length≤v.length+1 by omega),e1,e2,pw_add,h.len,part_congr (u:=u) (l:=l) (j:=j+(v.length+1)) (fun i hi=>h.same i (Or.inr hi)),vt_congr (f:=lim l) (g:=lim u) (k:=j) (fun i hi=>h.same i (Or.inl hi))] at hs
 refine mul_cancel (pw_pos j) ?_
 grind
theorem limbs_uniq {f g:Nat→Int} {k:Nat} (hf:∀ i,Dig (f i)) (hg:∀ i,Dig (g i)) (h:vt f k=vt g k):∀ i,i < k→f i=g i:=by
 induction k with
 | zero=>intro i hi;omega
 | succ k ih =>
  have b1:=vt_bound (f:=f) (k:=k) (fun i _=>hf i)
  have b2:=vt_bound (f:=g) (k:=k) (fun i _=>hg i)
  have hp:=pw_pos k
  rw [vt,vt] at h
  have e:f k=g k:=by
   rcases Int.lt_trichotomy (f k) (g k) with hlt|he|hlt
   ·have:(f k+1) * pw k≤g k * pw k:=Int.mul_le_mul_of_nonneg_right (by omega) (by omega)
    rw [Int.add_mul] at this;omega
   ·exact he
   ·have:(g k+1) * pw k≤f k * pw k:=Int.mul_le_mul_of_nonneg_right (by omega) (by omega)
    rw [Int.add_mul] at this;omega
  intro i hi
  by_cases hik:i=k
  ·rw [hik];exact e
  ·exact ih (by rw [e] at h;omega) i (by omega)
theorem give_back {u v l m:List Int} {j:Nat} {q c d:Int} (du:Digs u) (h:TakeAt u v j q (v.length+1) l c) (k:GiveAt l v j q (v.length+1) m d) (hj:j+v.length < u.length):m=u:=by
 have e1:=h.prt hj
 have e2:=k.prt (by rw [h.len];exact hj)
 have b1:=part_bound du j (v.length+1)
 have b2:=part_bound k.digs j (v.length+1)
 have hp:=pw_pos (v.length+1)
 have e3:part m j (v.length+1)+d * pw (v.length+1)=part u j (v.length+1)+c * pw (v.length+1):=by omega
 have e4:part m j (v.length+1)=part u j (v.length+1):=by
  rcases Int.lt_trichotomy c d with hlt|he|hlt
  ·have:(c+1) * pw (v.length+1)≤d * pw (v.length+1):=Int.mul_le_mul_of_nonneg_right (by omega) (by omega)
   rw [Int.add_mul] at this;omega
  ·rw [he] at e3;omega
  ·have:(d+1) * pw (v.length+1)≤c * pw (v.length+1):=Int.mul_le_mul_of_nonneg_right (by omega) (by omega)
   rw [Int.add_mul] at this;omega
 have hu:=limbs_uniq (f:=fun i=>lim m (j+i)) (g:=fun i=>lim u (j+i)) (fun i=>k.digs _) (fun i=>du _) e4
 refine lim_ext (k.len.trans h.len) fun i hi=>?_
 by_cases h1:i < j
 ·rw [k.same i (Or.inl h1),h.same i (Or.inl h1)]
 ·by_cases h2:j+(v.length+1)≤i
  ·rw [k.same i (Or.inr h2),h.same i (Or.inr h2)]
  ·have:=hu (i - j) (by omega)
   rwa [show j+(i - j)=i by omega] at this
structure LongAt (u0 v:List Int) (m k:Nat) (u q:List Int):Prop where
 sum:val u+val q * val v=val u0
 low:val u < val v * pw (m - k)
 zero:∀ i,i < m - k→lim q i=0
 digs:Digs q
theorem LongAt.start {u v:List Int} {m:Nat} (h:val u < val v * pw m):LongAt u v m 0 u (zerosL m):=by
 have e:val (zerosL m)=0:=by
  have h:=(DivAt.start (zerosL m) 1) 0 (by omega) (fst_zero _).symm
  have h2:=h.1
  unfold val
  rw [vt_congr (g:=fun _=>0) (fun i _=>lim_zerosL _ i)]
  have:∀ n,vt (fun _=>0) n=0:=fun n=>by
   induction n with
   | zero=>rfl
   | succ n ih=>rw [vt,ih];simp
  rw [this]
 exact ⟨by rw [e];omega,h,fun i _=>lim_zerosL _ _,fun i=>by rw [lim_zerosL];exact ⟨by omega,by omega⟩⟩
theorem LongAt.pre {u0 v u q:List Int} {m k j:Nat} (h:LongAt u0 v m k u q) (du:Digs u) (dv:Digs v) (hk:k < m) (hj:j=m - 1 - k) (hu:u.length=m+v.length) :
  part u j (v.length+1) < 1000000000 * val v∧part u (j+(v.length+1)) (u.length - (j+(v.length+1)))=0:=by
 have e1:=part_split (u:=u) (j:=j) (k:=v.length+1) (by omega)
 have hl:=h.low
 rw [show m - k=j+1 by omega,pw] at hl
 have b0:=vt_bound (f:=lim u) (k:=j) (fun i _=>du i)
 have b1:=part_bound du j (v.length+1)
 have b2:=part_bound du (j+(v.length+1)) (u.length - (j+(v.length+1)))
 have bv:=vt_bound (f:=lim v) (k:=v.length) (fun i _=>dv i)
 rw [show vt (lim v) v.length=val v from rfl] at bv
 have pj:=pw_pos j
 have pn:=pw_pos v.length
 have hpa:=pw_add j (v.length+1)
 rw [show pw (v.length+1)=1000000000 * pw v.length from rfl] at hpa
 have h1:(0:Int)≤pw j * part u j (v.length+1):=Int.mul_nonneg (by omega) b1.1
 generalize part u (j+(v.length+1)) (u.length - (j+(v.length+1)))=t at *
 have ht:t=0:=by
  refine Decidable.byContradiction fun hne=>?_
  have h2:pw (j+(v.length+1)) * 1≤pw (j+(v.length+1)) * t:=Int.mul_le_mul_of_nonneg_left (by omega) (by have:=pw_pos (j+(v.length+1));omega)
  have h3:val v * (1000000000 * pw j)≤(pw v.length) * (1000000000 * pw j):=Int.mul_le_mul_of_nonneg_right (by omega) (by omega)
  grind
 refine ⟨?_,ht⟩
 rw [ht] at e1
 refine Decidable.byContradiction fun hc=>?_
 have h4:pw j * (1000000000 * val v)≤pw j * part u j (v.length+1):=Int.mul_le_mul_of_nonneg_left (by omega) (by omega)
 grind
theorem LongAt.step {u0 v u q l:List Int} {m k j:Nat} {qh c:Int} (h:LongAt u0 v m k u q) (du:Digs u) (dv:Digs v) (hv0:0 < val v) (hk:k < m) (hj:j=m - 1 - k) (hu:u.length=m+v.length) (hq:q.length=m) (h0:0≤qh)
  (ht:TakeAt u v j qh (v.length+1) l c) (hc:¬ 0 < c) (hp:part u j (v.length+1) < (qh+1) * val v):LongAt u0 v m (k+1) l (q.set j qh):=by
 obtain ⟨p1,p2⟩:=h.pre du dv hk hj hu
 have hcz:c=0:=by have:=ht.c0;omega
 have hprt:=ht.prt (by omega)
 rw [hcz,Int.zero_mul] at hprt
 have hs:=ht.sum
 rw [hcz,Int.zero_mul,vt_val (show v.length≤v.length+1 by omega)] at hs
 have e2:=part_split (u:=l) (j:=j) (k:=v.length+1) (by rw [ht.len];omega)
 rw [ht.len,part_congr (u:=u) (l:=l) (j:=j+(v.length+1)) (fun i hi=>ht.same i (Or.inr hi)),p2] at e2
 have b0:=vt_bound (f:=lim l) (k:=j) (fun i _=>ht.digs i)
 have b1:=part_bound ht.digs j (v.length+1)
 have pj:=pw_pos j
 have hqB:qh≤999999999:=by
  refine Decidable.byContradiction fun hcc=>?_
  have:1000000000 * val v≤qh * val v:=Int.mul_le_mul_of_nonneg_right (by omega) (by omega)
  omega
 have hjl:j < q.length:=by omega
 have hz:=h.zero j (by omega)
 refine ⟨?_,?_,fun i hi=>?_,fun i=>?_⟩
 ·have:=h.sum
  rw [val_set hjl,hz]
  grind
 ·rw [show m - (k+1)=j by omega,e2]
  have h1:pw j * (part l j (v.length+1)+1)≤pw j * val v:=Int.mul_le_mul_of_nonneg_left (by rw [Int.add_mul] at hp;omega) (by omega)
  grind
 ·rw [lim_set hjl,if_neg (by omega)];exact h.zero i (by omega)
 ·rw [lim_set hjl]
  split
  ·exact ⟨h0,hqB⟩
  ·exact h.digs i
theorem LongAt.fin {u0 v u q:List Int} {m:Nat} {x y f:Int} (h:LongAt u0 v m m u q) (du:Digs u) (hx:val u0=x * f) (hy:val v=y * f) (hf:1≤f) (h0:0 < y):val q=x / y∧val u / f=x % y∧val u % f=0:=by
 have hs:=h.sum
 have hl:=h.low
 rw [Nat.sub_self,show pw 0=1 from rfl,Int.mul_one,hy] at hl
 rw [hx,hy] at hs
 have b:=du.bound.1
 have e:val u=(x - val q * y) * f:=by grind
 have hr:val u / f=x - val q * y:=by rw [e];exact Int.mul_ediv_cancel _ (by omega)
 have hm:val u % f=0:=by rw [e];exact Int.mul_emod_left _ _
 rw [e] at b hl
 have r0:0≤x - val q * y:=by
  refine Decidable.byContradiction fun hc=>?_
  have:=Int.mul_neg_of_neg_of_pos (show x - val q * y < 0 by omega) (show 0 < f by omega)
  omega
 have r1:x - val q * y < y:=by
  refine Decidable.byContradiction fun hc=>?_
  have:=Int.mul_le_mul_of_nonneg_right (show y≤x - val q * y by omega) (show 0≤f by omega)
  omega
 obtain ⟨e1,e2⟩:=(Int.ediv_emod_unique (a:=x) (b:=y) (r:=x - val q * y) (q:=val q) h0).2 ⟨by rw [Int.mul_comm];omega,r0,r1⟩
 exact ⟨e1.symm,by rw [hr,e2],hm⟩
end Go.Proofs.YthihcjgmlbnapaaGreatDoor
namespace Go.Proofs.YthihcjgmlbnapaaGreatDoor
open Go.RowKit Go.Shelf
theorem OwnInts.row {W:World} {B n cap:Nat} {su:Option Addr} {l:List Int} (h:OwnInts W B (.slice su n cap) l) (hl:0 < l.length):∃ g,su=some ⟨g,0,none⟩∧B≤g∧n=l.length∧RowI W g cap l:=by
 rcases h.2 with ⟨_,hz⟩|⟨g,cap',cur,e,hB,hg,rest⟩
 ·omega
 ·injection e with e1 e2 e3
  subst e1 e3
  have e2':n=l.length:=by have:=e2;omega
  subst e2'
  exact ⟨g,rfl,hB,rfl,h.1,.inr ⟨g,_,cur,rfl,Nat.le_refl _,hg,rest⟩⟩
structure DivB (rb gU vg ub sc nu nq nv cv:Nat) (U Q lv:List Int) (W:World):Prop where
 o1:rb < gU
 o2:gU < vg
 o3:vg < ub
 r:Boxed W rb 205 (.slice (some ⟨ub+2,0,none⟩) nq nq)
 u:Boxed W ub 205 (.slice (some ⟨gU,0,none⟩) nu sc)
 v:Boxed W (ub+1) 205 (.slice (some ⟨vg,0,none⟩) nv cv)
 i:Boxed W (ub+3) 205 (.slice (some ⟨ub+2,0,none⟩) nq nq)
 q:BlkI W (ub+2) Q
 l:BlkI W vg lv
 w:RowI W gU sc U
theorem DivB.below {rb gU vg ub sc nu nq nv cv:Nat} {U Q lv:List Int} {W W':World} (h:DivB rb gU vg ub sc nu nq nv cv U Q lv W) (hB:Below W.heap.size W W'):DivB rb gU vg ub sc nu nq nv cv U Q lv W' :=
 ⟨h.o1,h.o2,h.o3,boxed_below h.r hB,boxed_below h.u hB,boxed_below h.v hB,boxed_below h.i hB,h.q.below hB,h.l.below hB,h.w.below hB⟩
theorem DivB.row {rb gU vg ub sc nu nq nv cv:Nat} {U U' Q lv:List Int} {W W':World} (h:DivB rb gU vg ub sc nu nq nv cv U Q lv W) (hs:SameBut gU W W') (hr:RowI W' gU sc U'):DivB rb gU vg ub sc nu nq nv cv U' Q lv W':=by
 have a:=h.o1
 have b:=h.o2
 have c:=h.o3
 exact ⟨a,b,c,Boxed.but h.r hs (by omega),Boxed.but h.u hs (by omega),Boxed.but h.v hs (by omega),Boxed.but h.i hs (by omega),h.q.but hs (by omega),h.l.but hs (by omega),hr⟩
theorem DivB.box {rb gU vg ub sc nu nq nv cv:Nat} {U Q lv:List Int} {W W':World} (h:DivB rb gU vg ub sc nu nq nv cv U Q lv W) (hs:SameBut ub W W') (hr:Boxed W' ub 205 (.slice (some ⟨gU,0,none⟩) nu sc)):DivB rb gU vg ub sc nu nq nv cv U Q lv W':=by
 have a:=h.o1
 have b:=h.o2
 have c:=h.o3
 exact ⟨a,b,c,Boxed.but h.r hs (by omega),hr,Boxed.but h.v hs (by omega),Boxed.but h.i hs (by omega),h.q.but hs (by omega),h.l.but hs (by omega),h.w.but hs (by omega)⟩
theorem DivB.quo {rb gU vg ub sc nu nq nv cv:Nat} {U Q Q' lv:List Int} {W W':World} (h:DivB rb gU vg ub sc nu nq nv cv U Q lv W) (hs:SameBut (ub+2) W W') (hr:BlkI W' (ub+2) Q'):DivB rb gU vg ub sc nu nq nv cv U Q' lv W':=by
 have a:=h.o1
 have b:=h.o2
 have c:=h.o3
 exact ⟨a,b,c,Boxed.but h.r hs (by omega),Boxed.but h.u hs (by omega),Boxed.but h.v hs (by omega),Boxed.but h.i hs (by omega),hr,h.l.but hs (by omega),h.w.but hs (by omega)⟩
theorem rowI_own {β:Type} {m g cap:Nat} {l:List Int}:OwnFrom m (fun (_:β) W=>RowI W g cap l):=fun s W W' row hs hg hr=>by
 obtain ⟨cur,hc,_⟩:=hs.heap
 exact hs.of ((cells_own (β:=β) (m:=m) (b:=g) rfl s W W' row hc hg hr).trans hc.symm)
theorem divB_own {β:Type} {m rb gU vg ub sc nu nq nv cv:Nat} {U Q lv:List Int}:OwnFrom m (fun (_:β) W=>DivB rb gU vg ub sc nu nq nv cv U Q lv W):=fun s X Y row h hg hr =>
 ⟨h.o1,h.o2,h.o3,(Own.from (boxed_own rb 205 (fun _:Unit=>.slice (some ⟨ub+2,0,none⟩) nq nq)) _) () X Y row h.r hg hr,(Own.from (boxed_own ub 205 (fun _:Unit=>.slice (some ⟨gU,0,none⟩) nu sc)) _) () X Y row h.u hg hr,
  (Own.from (boxed_own (ub+1) 205 (fun _:Unit=>.slice (some ⟨vg,0,none⟩) nv cv)) _) () X Y row h.v hg hr,(Own.from (boxed_own (ub+3) 205 (fun _:Unit=>.slice (some ⟨ub+2,0,none⟩) nq nq)) _) () X Y row h.i hg hr,
  blkI_own () X Y row h.q hg hr,blkI_own () X Y row h.l hg hr,rowI_own () X Y row h.w hg hr⟩
structure DivSt (u0 v:List Int) (nq:Nat) (pre:List (Fin nq × Int)) (U Q:List Int):Prop where
 len:U.length=nq+v.length
 digs:Digs U
 qlen:Q.length=nq
 at':∀ k,k≤nq→pre.map Prod.fst=fst nq k→LongAt u0 v nq k U Q
theorem DivSt.start {u0 v:List Int} {nq:Nat} (hl:u0.length=nq+v.length) (hd:Digs u0) (h:val u0 < val v * pw nq):DivSt u0 v nq [] u0 (zerosL nq) :=
 ⟨hl,hd,zerosL_len _,fun k hk e=>by
  have h0:k=0:=by have:=congrArg List.length e;rw [fst_length hk] at this;simpa using this.symm
  subst h0
  exact LongAt.start h⟩
theorem DivSt.step {u0 v:List Int} {nq:Nat} {pre:List (Fin nq × Int)} {U Q l:List Int} {qh c:Int} (h:DivSt u0 v nq pre U Q) (x:Fin nq × Int) (dv:Digs v) (hv0:0 < val v) (h0:0≤qh)
  (hE:EstI U v (nq - 1 - x.1.1) qh) (ht:TakeAt U v (nq - 1 - x.1.1) qh (v.length+1) l c) (hc:¬ 0 < c):DivSt u0 v nq (pre++[x]) l (Q.set (nq - 1 - x.1.1) qh):=by
 refine ⟨by rw [ht.len];exact h.len,ht.digs,by rw [List.length_set];exact h.qlen,fun k hk e=>?_⟩
 rw [List.map_append] at e
 obtain ⟨m,rfl,hp,hx⟩:=fst_snoc hk e
 have hL:=h.at' m (by omega) hp
 rw [show nq - 1 - x.1.1=nq - 1 - m by omega] at *
 exact hL.step h.digs dv hv0 (by omega) rfl h.len h.qlen h0 ht hc (hE (hL.pre h.digs dv (by omega) rfl h.len).1)
theorem est_less {U v l:List Int} {j:Nat} {q c:Int} (du:Digs U) (h0:0≤q) (hj:j+v.length < U.length) (ht:TakeAt U v j q (v.length+1) l c) (hc:0 < c):1≤q∧EstI U v j (q - 1):=by
 have h:=(ht.carry hj).1 hc
 refine ⟨Decidable.byContradiction fun hn=>?_,fun _=>by rw [Int.sub_add_cancel];exact h⟩
 have:q=0:=by omega
 rw [this,Int.zero_mul] at h
 have:=(part_bound du j (v.length+1)).1
 omega
theorem KpQ.but {N B b1 g c:Nat} {W W':World} (h:SameBut c W W') (hB:B≤c) (h1:b1≠c) (h2:g≠c):KpQ N B b1 g W W':=⟨h.below (bw0 _ _) hB,h.block _ h1,fun l hl e=>⟨l,hl.but h h2,e⟩⟩
theorem KpQ.belowB {N B b1 g:Nat} {W W':World} (h:Below W.heap.size W W') (hB:B≤W.heap.size) (h1:b1 < W.heap.size):KpQ N B b1 g W W':=⟨h.mono hB,h.block _ h1,fun l hl e=>⟨l,hl.below h,e⟩⟩
theorem fold2 (t:Array Value) (p q:Tmp) (a b:Value):(#[p,q].zip #[a,b]).foldl (fun t (p,v)=>t.setIfInBounds p v) t=(t.setIfInBounds p a).setIfInBounds q b:=by simp
end Go.Proofs.YthihcjgmlbnapaaGreatDoor
namespace Go.Proofs.YthihcjgmlbnapaaGreatDoor
open Go.RowKit Go.Shelf
theorem Boxed.load {W:World} {b:Nat} {v:Value} (h:Boxed W b 205 v):(loadVar 205 ⟨b,0,none⟩).run Tryz.prog W=.ok v W:=by simp [go_sem,h.cell]
theorem takeV {W:World} {vg n cv:Nat} {lv V:List Int} (hl:BlkI W vg lv) (hV:lv.take n=V) (hn:n≤lv.length) (hc:lv.length=cv):V.length=n∧IsInts W (.slice (some ⟨vg,0,none⟩) n cv) V:=by
 subst hV
 exact ⟨by rw [List.length_take];omega,hl.isTake hn hc⟩
theorem estD {U V lv:List Int} {n j gU sc vg cv N:Nat} (W:World) (hr:RowI W gU sc U) (hl:BlkI W vg lv) (hn:n≤lv.length) (hc:lv.length=cv) (hV:lv.take n=V) (h2:2≤n) (du:Digs U) (dv:Digs V) (hN:U.length=N) (hj:j+n < N) (hul:N≤2000) (htop:500000000≤lim V (n - 1)) :
  Calls Tryz.prog 182 #[.slice (some ⟨gU,0,none⟩) N sc,.slice (some ⟨vg,0,none⟩) n cv,.int .i64 j] W fun e w'=>∃ q:Int,e=.returned (.int .i64 q)∧0≤q∧q≤2000000000∧EstI U V j q∧Below W.heap.size W w':=by
 obtain ⟨hVn,hI⟩:=takeV hl hV hn hc
 obtain ⟨m,rfl⟩:∃ m,n=m+2:=⟨n - 2,by omega⟩
 obtain ⟨f1,f2,f3⟩:=est_facts (u:=U) (v:=V) (j:=j) (n:=m) du dv hVn
 subst hN
 have e1:V.length - 1=m+1:=by omega
 have e2:V.length - 2=m:=by omega
 refine (estimateL_ok (u:=U) (v:=V) (j:=j) _ W hr hI du dv (by omega) (by omega) hul (by rw [e1];exact htop) (EstI U V j) ?_ f2 ?_).mono ?_
 ·rw [e1,hVn]
  have hz:(0:Int) < lim V (m+1):=by have:(500000000:Int)≤lim V (m+1):=htop;omega
  have h0:0≤lim U (j+(m+2)) * 1000000000+lim U (j+(m+2) - 1):=by
   have:=(du (j+(m+2))).1
   have:=(du (j+(m+2) - 1)).1
   omega
  refine f1 _ ((lim U (j+(m+2)) * 1000000000+lim U (j+(m+2) - 1)) % lim V (m+1)) (Int.ediv_nonneg h0 (by omega)) ?_ (Int.emod_lt_of_pos _ hz)
  rw [Int.mul_comm]
  exact Int.mul_ediv_add_emod _ _
 ·rw [e1,e2,hVn]
  exact f3
 ·rintro e w' ⟨q,rfl,q0,q1,hq,k,rfl⟩
  exact ⟨q,rfl,q0,q1,hq,bw2 (bw0 _ _) _⟩
theorem takeD {U V lv:List Int} {n j gU sc vg cv N:Nat} {q:Int} (W:World) (hr:RowI W gU sc U) (hl:BlkI W vg lv) (hne:gU≠vg) (hn:n≤lv.length) (hc:lv.length=cv) (hV:lv.take n=V) (du:Digs U) (dv:Digs V) (hN:U.length=N) (hj:j+n < N) (hul:N≤2000) (q0:0≤q) (q1:q≤4000000000) :
  Calls Tryz.prog 183 #[.slice (some ⟨gU,0,none⟩) N sc,.slice (some ⟨vg,0,none⟩) n cv,.int .i64 j,.int .i64 q] W fun e w'=>∃ l c,e=.returned (.bool (decide (0 < c)))∧RowI w' gU sc l∧TakeAt U V j q (V.length+1) l c∧SameBut gU W w':=by
 obtain ⟨hVn,hI⟩:=takeV hl hV hn hc
 subst hN
 exact takeL_ok _ W hr hI (fun b off k cap e=>by injection e with e1 _ _;injection e1 with e1;injection e1 with e1;omega) du dv (by omega) hul q0 q1
theorem restoreD {U V lv:List Int} {n j gU sc vg cv N:Nat} {q:Int} (W:World) (hr:RowI W gU sc U) (hl:BlkI W vg lv) (hne:gU≠vg) (hn:n≤lv.length) (hc:lv.length=cv) (hV:lv.take n=V) (du:Digs U) (dv:Digs V) (hN:U.length=N) (hj:j+n < N) (hul:N≤2000) (q0:0≤q) (q1:q≤4000000000) :
  Calls Tryz.prog 184 #[.slice (some ⟨gU,0,none⟩) N sc,.slice (some ⟨vg,0,none⟩) n cv,.int .i64 j,.int .i64 q] W fun e w'=>∃ l c,e=.returned (.slice (some ⟨gU,0,none⟩) N sc)∧RowI w' gU sc l∧GiveAt U V j q (V.length+1) l c∧SameBut gU W w':=by
 obtain ⟨hVn,hI⟩:=takeV hl hV hn hc
 subst hN
 exact restoreL_ok _ W hr hI (fun b off k cap e=>by injection e with e1 _ _;injection e1 with e1;injection e1 with e1;omega) du dv (by omega) hul q0 q1
end Go.Proofs.YthihcjgmlbnapaaGreatDoor
