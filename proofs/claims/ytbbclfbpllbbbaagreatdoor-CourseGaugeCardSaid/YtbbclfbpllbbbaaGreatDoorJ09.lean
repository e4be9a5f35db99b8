/- Joined texts: WNormal2, WLongest, WRef02, Limb6, W6a, W6b, Times6, W6c, W6d, W6e, W6f, W6g, W6h, W02a, W02c, NumTxt, WCutAny, WReadAny, W6i, W6j, W6k, W6l, W6m, W6n, W02d, W02h, WCodes. -/
import Derived.Test.YtbbclfbpllbbbaaGreatDoorJ08
import Derived.Test.YtbbclfbpllbbbaaGreatDoorJ06
import Derived.Test.YtbbclfbpllbbbaaGreatDoorJ02
import Derived.Test.YtbbclfbpllbbbaaGreatDoorJ01
import Derived.Test.YtbbclfbpllbbbaaGreatDoorJ04
import Derived.Test.YtbbclfbpllbbbaaGreatDoorJ03
import Derived.Test.YtbbclfbpllbbbaaGreatDoorJ05
import Derived.Deep.LoopGhost
import Derived.Lib.SlBytesRow
import Derived.Test.YtbbclfbpllbbbaaGreatDoorJ07
set_option maxRecDepth 100000
set_option linter.unusedVariables false
set_option linter.unusedSimpArgs false
set_option maxHeartbeats 12800000
namespace Go.Proofs.YtbbclfbpllbbbaaGreatDoor
open Go.RowKit Go.Shelf
attribute [local go_sem] Oper.semAt_some
def BoxP (W:World) (b:Nat) (x y:Value):Prop:=W.heap[b]?=some (.cells #[x,y] 167 (0,0))
theorem BoxP.lt {W:World} {b:Nat} {x y:Value} (h:BoxP W b x y):b < W.heap.size:=(Array.getElem?_eq_some_iff.1 h).1
theorem BoxP.below {w w':World} {b:Nat} {x y:Value} (h:BoxP w b x y) (hB:Below w.heap.size w w'):BoxP w' b x y:=(hB.block b h.lt).trans h
theorem BoxP.c0 {W:World} {b:Nat} {x y:Value} (h:BoxP W b x y):W.cell? ⟨b,0,none⟩=some x:=by simp only [World.cell?,show W.heap[b]?=_ from h];rfl
theorem BoxP.c1 {W:World} {b:Nat} {x y:Value} (h:BoxP W b x y):W.cell? ⟨b,1,none⟩=some y:=by simp only [World.cell?,show W.heap[b]?=_ from h];rfl
theorem BoxP.new {X:World} {n:Nat} {x y:Value} (h:X.heap.size=n):BoxP (X.alloc (.cells #[x,y] 167)) n x y:=by subst h;exact World.alloc_heap_new _ _
theorem BoxP.but' {W W':World} {b c:Nat} {x y:Value} (h:BoxP W b x y) (hs:SameBut c W W') (hne:b≠c):BoxP W' b x y:=(hs.block b hne).trans h
theorem exactN_ok (m:Nat) (w:World) (hG:Glo w) (hl:(decS m).size≤300):Calls Tryz.prog 139 #[.string (decS m)] w (RetB (.tuple #[.string (decS (rootN m)),.bool (isSqN m)]) w) :=
 (exact_ok m (decS m) w hG (decS_list m) hl).mono fun e w' ⟨r,hr,he,hB⟩=>by
  rw [decS_of hr] at he
  exact ⟨he,hB⟩
theorem fractionN_ok (c d:Nat) (w:World) (hG:Glo w) (hc:c < 10 ^ 150) (hd:d < 10 ^ 150) (hd0:0 < d):Calls Tryz.prog 140 #[.string (decS c),.string (decS d)] w (RetB (.string (numS (Rat.divInt c d))) w) :=
 (fraction_ok (n:=(c:Int)) (d:=d) (decS c) (decS d) w hG (decS_itoa c) (by simpa using hc) (decS_list d) hd hd0).mono fun e w' ⟨r,hr,he,hB⟩=>by
  rw [← Rat.divInt_eq_div] at hr
  rw [numS_of hr] at he
  exact ⟨he,hB⟩
theorem Normal_long (q:Rat) (w:World) (hG:Glo w) (hP:Pri w) (hq:Sz 90 q) (h0:0 < q.num) (hs:¬ (decS q.num.toNat).size+(decS q.den).size≤17) :
  Calls Tryz.prog 83 #[.string (numS q)] w (RetNl (normQ q).1 (normQ q).2 w):=by
 have HCK:=Lib.hid (fun W hG=>check1_lits q W hG hq (by omega))
 have HOF:=Lib.hid (fun W hG=>rootOfN_ok W hG hq (by decide) (by omega))
 have hn0:0 < q.num.toNat:=by omega
 have hd0:0 < q.den:=q.den_pos
 have hn90:q.num.toNat < 10 ^ 90:=by have h1:=hq.1;rw [← Int.toNat_of_nonneg (show 0≤q.num by omega),Int.natAbs_natCast] at h1;exact h1
 have hd90:q.den < 10 ^ 90:=hq.2
 have e1:(normQ q).1=Rat.divInt ((normalN (q.num.toNat * q.den)).1:Nat) (q.den:Nat):=by unfold normQ;rw [if_neg (by omega)]
 have e2:(normQ q).2=(normalN (q.num.toNat * q.den)).2:=by unfold normQ;rw [if_neg (by omega)]
 rw [e1,e2]
 generalize numS q=sq at *
 generalize q.num.toNat=n at *
 generalize q.den=d at *
 have hnz:=decS_nz hn0
 have hlt:n * d < 10 ^ 180:=by
  refine Nat.lt_of_lt_of_le (Nat.mul_lt_mul_of_lt_of_le hn90 (Nat.le_of_lt hd90) (Nat.pow_pos (by decide))) ?_
  rw [← Nat.pow_add]
  exact Nat.le_refl _
 have hm0:0 < n * d:=Nat.mul_pos hn0 hd0
 have hmf:Fit ((n * d:Nat):Int):=fit_nat (Nat.lt_of_lt_of_le hlt (pow10_le (a:=180) (b:=300) (by decide)))
 have HMU:=Lib.hid (fun W hG=>mulN_ok n d W hG (fit_lt (Nat.le_mul_of_pos_right n hd0) hmf) (fit_lt (Nat.le_mul_of_pos_left d hn0) hmf) hmf)
 have ha1:(decS n).size≤90:=decS_size_le hn90 (by decide)
 have hb1:(decS d).size≤90:=decS_size_le hd90 (by decide)
 have hle:decide (((decS n).size:Int)+((decS d).size:Int)≤17)=false:=by rw [decide_eq_false_iff_not];omega
 have hw:IntKind.i64.wrap (((decS n).size:Int)+((decS d).size:Int))=((decS n).size:Int)+((decS d).size:Int):=IntWalk.i64_in _ (by omega)
 have HD90:=Lib.hid (And.intro hd0 hd90)
 have HSD:Hid (decS d=decS d):=Lib.hid rfl
 obtain ⟨m,hm⟩:∃ m,n * d=m:=⟨_,rfl⟩
 rw [hm] at hlt hm0 hmf HMU ⊢
 have HSQ:=Lib.hid (squares_ok m)
 have HLT:=Lib.hid hlt
 have HMF:=Lib.hid hmf
 have HG:=Lib.hid hG
 have HP:=Lib.hid hP
 obtain ⟨a,ha⟩:∃ a,decS n=a:=⟨_,rfl⟩
 obtain ⟨b,hb⟩:∃ b,decS d=b:=⟨_,rfl⟩
 obtain ⟨sm,hsm⟩:∃ sm,decS m=sm:=⟨_,rfl⟩
 rw [ha,hb] at HOF hle hw HMU
 rw [ha] at hnz ha1
 rw [hb] at hb1
 rw [hsm] at HMU HSQ
 have HB:=Lib.hid hb
 have HSM:=Lib.hid hsm
 clear hG hP hq h0 e1 e2 hs hn0 hd0 hlt hmf hm ha hb hsm HSD hn90 hd90
 refine (callsIn_wide (n:=5)).1 ?_
 refine callsIn_of_wp_marks Tryz.func83 rfl trivial ?_ rfl
 simp only [Tryz.ntmps83,List.size_toArray,List.length_cons,List.length_nil,Nat.reduceAdd,Nat.reduceSub,Array.replicate_succ,Array.replicate_zero,List.push_toArray,List.append_toArray,List.nil_append,List.cons_append]
 gi_wp2
 refine ⟨trivial,?_⟩
 refine (callsIn_wide.2 (HCK.out _ HG.out)).mono ?_
 rintro e w1 ⟨rfl,hb1⟩
 clear HCK
 gi_wp2
 refine ⟨trivial,?_⟩
 refine (callsIn_wide.2 (HOF.out _ (HG.out.below hb1))).mono ?_
 rintro e w2 ⟨rfl,hB2⟩
 have hb2:=below_trans' hb1 hB2
 clear hB2 hb1 HOF
 gi_wp2
 refine ⟨trivial,?_⟩
 refine (callsIn_wide.2 (HMU.out _ (HG.out.below (bw4 hb2 _)))).mono ?_
 rintro e w3 ⟨rfl,hB3⟩
 have hb3:=below_trans' (bw4 hb2 _) hB3
 have x6:BoxP w3 w2.heap.size (.string a) (.string b):=BoxP.below (BoxP.new rfl) hB3
 clear hB3 HMU
 gi_wp2
 refine ⟨trivial,?_⟩
 refine (callsIn_wide.2 (HSQ.out _)).mono ?_
 rintro e w4 ⟨rfl,rfl⟩
 gi_wp2
 have y6:BoxP (((w3.alloc (.cells #[.string ⟨#[49]⟩] 9)).alloc (.cells #[.string sm] 9)).alloc (.cells #[.string sm] 9)) w2.heap.size (.string a) (.string b):=x6.below (((bw0 _ w3).alloc (Nat.le_refl _) _).alloc (by simp) _ |>.alloc (by simp;omega) _)
 have y13:Boxed (((w3.alloc (.cells #[.string ⟨#[49]⟩] 9)).alloc (.cells #[.string sm] 9)).alloc (.cells #[.string sm] 9)) w3.heap.size 9 (.string ⟨#[49]⟩):=((boxed_new' rfl).alloc _).alloc _
 have y14:Boxed (((w3.alloc (.cells #[.string ⟨#[49]⟩] 9)).alloc (.cells #[.string sm] 9)).alloc (.cells #[.string sm] 9)) (w3.heap.size+1) 9 (.string sm):=(boxed_new' (by simp)).alloc _
 have y15:Boxed (((w3.alloc (.cells #[.string ⟨#[49]⟩] 9)).alloc (.cells #[.string sm] 9)).alloc (.cells #[.string sm] 9)) (w3.heap.size+2) 9 (.string sm):=boxed_new' (by simp)
 have hbW:Below w.heap.size w (((w3.alloc (.cells #[.string ⟨#[49]⟩] 9)).alloc (.cells #[.string sm] 9)).alloc (.cells #[.string sm] 9)):=hb3.trans ((((bw0 _ w3).alloc (Nat.le_refl _) _).alloc (by simp) _ |>.alloc (by simp;omega) _).mono hb3.size)
 have hsz:(((w3.alloc (.cells #[.string ⟨#[49]⟩] 9)).alloc (.cells #[.string sm] 9)).alloc (.cells #[.string sm] 9)).heap.size=w3.heap.size+3:=by simp
 have h32:=x6.lt
 have hw3:=hb3.size
 have hw2:=hb2.size
 generalize (((w3.alloc (.cells #[.string ⟨#[49]⟩] 9)).alloc (.cells #[.string sm] 9)).alloc (.cells #[.string sm] 9))=V at *
 rw [← HSM.out] at y15
 have one_s:(⟨#[49]⟩:ByteArray)=decS 1:=by unfold decS;rw [show Lib.decDigits 1=[49] by decide +kernel]
 refine rangeFunc_runsB (a₁:=?a1) rfl (by omega) (gf:=191) (lb:=#[.pointer (some ⟨w3.heap.size+2,0,none⟩)]) rfl trivial (enters_of Tryz.func191 (by kernel_rfl) rfl)
  (squares_runs m _ (by omega) (w3.heap.size+2) w.heap.size hm0 HMF.out w V HG.out HP.out hbW (Nat.le_refl _) (by omega) y15) KpB.t (KpB.b (by omega) (by omega) (by omega)) (fun X Y h=>h.keeps) (bw0 _ _) (fun _=>rfl)
  (fun pre W=>((BoxP W w2.heap.size (.string a) (.string b)∧Boxed W w3.heap.size 9 (.string (decS (afterS (1,m) pre).1)))∧Boxed W (w3.heap.size+1) 9 (.string (decS (afterS (1,m) pre).2)))∧(Below w.heap.size w W∧w3.heap.size+3≤W.heap.size))
  (OwnFrom.and (OwnFrom.and (OwnFrom.and (cells_own rfl) (Own.from (boxed_own _ _ _) _)) (Own.from (boxed_own _ _ _) _)) (OwnFrom.and (ownFrom_below (Nat.le_refl _) (by omega)) (fun s A B row hs hg hr=>Nat.le_trans hs hg.size)))
  (fun pre X Y h hm=>by
   obtain ⟨v,rfl⟩:=hm
   obtain ⟨⟨⟨x6,x13⟩,x14⟩,hB,hz⟩:=h
   have hS:=sameBut_setCell X (w3.heap.size+2) 0 v
   exact ⟨⟨⟨x6.but' hS (by omega),Boxed.but x13 hS (by omega)⟩,Boxed.but x14 hS (by omega)⟩,hS.below hB (by omega),by rw [hS.size];exact hz⟩)
  ⟨⟨⟨y6,by rw [one_s] at y13;exact y13⟩,by rw [← HSM.out] at y14;exact y14⟩,hbW,by omega⟩ ?assign ?body ?done
 case assign =>
  intro l x W K hK
  unfold encP
  gi_wp2
  exact hK
 case body =>
  rintro l pre x W ⟨⟨⟨x6,x13⟩,x14⟩,hB,hz⟩ hok
  unfold OkS at hok
  rw [afterS_snoc] at hok
  obtain ⟨k1,k2,k3⟩:=hok
  obtain ⟨x1,x2⟩:=x
  dsimp only at k1 k2 k3
  have HAS:=Lib.hid (afterS_snoc (1,m) pre (x1,x2))
  obtain ⟨c,hc⟩:∃ c,(afterS (1,m) pre).1=c:=⟨_,rfl⟩
  obtain ⟨u,hu⟩:∃ u,(afterS (1,m) pre).2=u:=⟨_,rfl⟩
  rw [hc] at x13 k1 k2 HAS
  rw [hu] at x14
  have hx1:0 < x1:=Nat.pos_of_mul_pos_left k2
  have hc1:0 < c:=Nat.pos_of_mul_pos_right k2
  have hf:=(fit_sq k1 k2 k3 HMF.out).1
  have HML:=Lib.hid (fun W hG=>mulN_ok c x1 W hG (fit_lt (Nat.le_mul_of_pos_right c hx1) hf) (fit_lt (Nat.le_mul_of_pos_left x1 hc1) hf) hf)
  have d13:=x13.cell
  have f13:=x13.frozen
  have d14:=x14.cell
  have f14:=x14.frozen
  have z13:=x13.lt
  have z14:=x14.lt
  clear k1 k2 k3 hx1 hc1 hf y6 y13 y14 y15
  generalize decS x1=s1 at *
  gi_wp2
  refine ⟨trivial,?_⟩
  refine (callsIn_wide.2 (HML.out _ (HG.out.below hB))).mono ?_
  rintro e w4 ⟨rfl,hB4⟩
  have b13:=boxed_below x13 hB4
  have b14:=boxed_below x14 hB4
  have b6:=x6.below hB4
  have hB5:=hB.trans (hB4.mono hB.size)
  have hz4:=hB4.size
  have hkB:=hB4
  have e13:=b13.cell
  have g13:=b13.frozen
  have e14:=b14.cell
  have g14:=b14.frozen
  have v13:=b13.lt
  have v14:=b14.lt
  clear hB4 x13 x14 x6 d13 f13 d14 f14 z13 z14 HML
  obtain ⟨sc,hsc⟩:∃ sc,decS (c * x1)=sc:=⟨_,rfl⟩
  obtain ⟨s2,hs2⟩:∃ s2,decS x2=s2:=⟨_,rfl⟩
  rw [hsc,hs2]
  have HSC:=Lib.hid (And.intro hsc hs2)
  clear hsc hs2
  gi_wp2
  have hS1:=sameBut_setCell w4 w3.heap.size 0 (.string sc)
  have q13:=Boxed.set (.string sc) b13
  have q14:=Boxed.but b14 hS1 (by omega)
  have q6:=b6.but' hS1 (by omega)
  have hS2:=sameBut_setCell (w4.setCell ⟨w3.heap.size,0,none⟩ (.string sc)) (w3.heap.size+1) 0 (.string s2)
  have r13:=Boxed.but q13 hS2 (by omega)
  have r14:=Boxed.set (.string s2) q14
  have r6:=q6.but' hS2 (by omega)
  have hW1:Below w.heap.size W ((w4.setCell ⟨w3.heap.size,0,none⟩ (.string sc)).setCell ⟨w3.heap.size+1,0,none⟩ (.string s2)):=hS2.below (hS1.below (hkB.mono hB.size) (by omega)) (by omega)
  have hsz2:((w4.setCell ⟨w3.heap.size,0,none⟩ (.string sc)).setCell ⟨w3.heap.size+1,0,none⟩ (.string s2)).heap.size=w4.heap.size:=by rw [hS2.size,hS1.size]
  refine ⟨(keepsFrom_below hkB).trans ((keepsFrom_but hS1 (by omega)).trans (keepsFrom_but hS2 (by omega))),⟨hW1,?_,?_⟩,⟨⟨⟨r6,?_⟩,?_⟩,hS2.below (hS1.below hB5 (by omega)) (by omega),by omega⟩⟩
  ·exact (hS2.block _ (by omega)).trans ((hS1.block _ (by omega)).trans (hkB.block _ (by omega)))
  ·exact (hS2.block _ (by omega)).trans ((hS1.block _ (by omega)).trans (hkB.block _ (by omega)))
  ·rw [HAS.out,HSC.out.1];exact r13
  ·rw [HAS.out,HSC.out.2];exact r14
 case done =>
  rintro D ys W hD hR ⟨⟨⟨x6,x13⟩,x14⟩,hB,hz⟩ hK
  rw [hR] at x13 x14
  obtain ⟨n1,n2,n3,n4⟩:=norms_inv (c:=1) primes25_two hm0 (by decide)
  have hv:normalN m=squared (norms primes25 1 m):=rfl
  obtain ⟨c,hc⟩:∃ c,(norms primes25 1 m).1=c:=⟨_,rfl⟩
  obtain ⟨u,hu⟩:∃ u,(norms primes25 1 m).2=u:=⟨_,rfl⟩
  have hvr:norms primes25 1 m=(c,u):=by rw [← hc,← hu]
  rw [hvr] at hv x13 x14 n1 n2 n3 n4
  unfold squared at hv
  dsimp only at hv x13 x14 n1 n2 n3 n4
  simp only [Nat.one_mul] at n1
  have hf:=fit_sq n1 n2 n3 HMF.out
  have hc90:∀ x l:Nat,x * x * l=m→0 < l→x < 10 ^ 90:=fun x l hx hl=>by
   refine Nat.lt_of_not_le fun hge=>?_
   have h1:10 ^ 90 * 10 ^ 90≤x * x:=Nat.mul_le_mul hge hge
   have h2:x * x * 1≤x * x * l:=Nat.mul_le_mul (Nat.le_refl _) hl
   have h3:=HLT.out
   rw [hx,Nat.mul_one] at h2
   have h4:(10:Nat) ^ 180=10 ^ 90 * 10 ^ 90:=by rw [← Nat.pow_add]
   rw [h4] at h3
   exact absurd (Nat.le_trans h1 h2) (Nat.not_le.2 h3)
  have hpp:(10:Nat) ^ 90 < 10 ^ 150:=Nat.pow_lt_pow_right (by decide) (by decide)
  have HFR0:=Lib.hid (fun (x:Nat) (hx:x < 10 ^ 90) W hG=>fractionN_ok x d W hG (Nat.lt_trans hx hpp) (Nat.lt_trans HD90.out.2 hpp) HD90.out.1)
  rw [HB.out] at HFR0
  have HEX:=Lib.hid (fun W hG=>exactN_ok u W hG (Nat.le_trans (decS_size_le (Nat.lt_of_le_of_lt n4 HLT.out) (by decide)) (by decide)))
  have hrs:=(rootN_spec u).1
  obtain ⟨sq',hsq⟩:∃ x,isSqN u=x:=⟨_,rfl⟩
  have hsq':=hsq
  unfold isSqN at hsq'
  rw [hsq] at HEX
  clear hpp y6 y13 y14 y15 hR hvr hc hu ys
  cases sq'
  ·-- no square
   have hns:¬ rootN u * rootN u=u:=of_decide_eq_false hsq'
   rw [if_neg hns] at hv
   have HFR:=Lib.hid (HFR0.out c (hc90 c u n1 n3))
   obtain ⟨sc,hsc⟩:∃ s,decS c=s:=⟨_,rfl⟩
   obtain ⟨sl,hsl⟩:∃ s,decS u=s:=⟨_,rfl⟩
   obtain ⟨sr,hsr⟩:∃ s,numS (Rat.divInt (c:Nat) (d:Nat))=s:=⟨_,rfl⟩
   rw [hsc] at x13 HFR
   rw [hsl] at x14 HEX
   rw [hsr] at HFR
   have HSR:=Lib.hid (show numS (Rat.divInt ((normalN m).1:Nat) (d:Nat))=sr∧decS (normalN m).2=sl from by rw [hv];exact ⟨hsr,hsl⟩)
   clear HFR0 hc90 hns hsq' hsq hv n1 n2 n3 n4 hf hrs hsc hsl hsr
   have d14:=x14.cell
   generalize decS (rootN u)=sro at *
   gi_wp2
   refine ⟨trivial,?_⟩
   refine (callsIn_wide.2 (HEX.out _ (HG.out.below hB))).mono ?_
   rintro e w5 ⟨rfl,hB5⟩
   have r13:=boxed_below x13 hB5
   have r14:=boxed_below x14 hB5
   have r6:=x6.below hB5
   have hBf:=hB.trans (hB5.mono hB.size)
   have hDf:=(hB5.block _ (Array.getElem?_eq_some_iff.1 hK).1).trans hK
   clear hB5 x13 x14 x6 hB hK d14 HEX
   gi_wp2
   have hR:(Boxed w5.drew w3.heap.size 9 (.string sc)∧Boxed w5.drew (w3.heap.size+1) 9 (.string sl)∧BoxP w5.drew w2.heap.size (.string a) (.string b))∧(Below w.heap.size w w5.drew∧w5.drew.heap[D]?=some (.deferred (some []))):=⟨⟨boxed_below r13 (bw0 _ _).drew,boxed_below r14 (bw0 _ _).drew,r6.below (bw0 _ _).drew⟩,hBf.trans ((bw0 _ _).drew.mono hBf.size),((bw0 _ _).drew.block _ (Array.getElem?_eq_some_iff.1 hDf).1).trans hDf⟩
   refine region_J (L:=[]) (R:=(fun w'=>(Boxed w' w3.heap.size 9 (.string sc)∧Boxed w' (w3.heap.size+1) 9 (.string sl)∧BoxP w' w2.heap.size (.string a) (.string b))∧(Below w.heap.size w w'∧w'.heap[D]?=some (.deferred (some []))))) 8 #[false,false,false,false,false,false,false,false] (by kernel_rfl) (by kernel_rfl) (by kernel_rfl) (fun Q' hQ' hN=>?_)
   generalize w5.drew=wz at *
   refine tI 82 0 (hy:=by intro wq hRq;have e0:=hRq.1.1.cell;have e1:=hRq.1.2.1.cell;have e2:=hRq.1.2.2.c1;go_simp;(try with_reducible rfl)) ?_
   refine tI 83 1 (hy:=by intro wq hRq;have e0:=hRq.1.1.cell;have e1:=hRq.1.2.1.cell;have e2:=hRq.1.2.2.c1;go_simp;(try with_reducible rfl)) ?_
   refine tI 84 2 (hy:=by intro wq hRq;have e0:=hRq.1.1.cell;have e1:=hRq.1.2.1.cell;have e2:=hRq.1.2.2.c1;go_simp;(try with_reducible rfl)) ?_
   refine tI 86 4 (hy:=by intro wq hRq;have e0:=hRq.1.1.cell;have e1:=hRq.1.2.1.cell;have e2:=hRq.1.2.2.c1;go_simp;(try with_reducible rfl)) ?_
   refine wpAnyI_ready (rs:=[3]) (by kernel_rfl) (by simp) ?_
   refine stepRI (i:=3) rfl (by kernel_rfl) (fun K hK=>?_) (AllReadyI.nil)
   go_simp
   refine ⟨trivial,?_⟩
   refine (callsIn_wide.2 (HFR.out _ (HG.out.below hR.2.1))).mono ?_
   rintro e wn ⟨rfl,hB'⟩
   have hR:(Boxed wn w3.heap.size 9 (.string sc)∧Boxed wn (w3.heap.size+1) 9 (.string sl)∧BoxP wn w2.heap.size (.string a) (.string b))∧(Below w.heap.size w wn∧wn.heap[D]?=some (.deferred (some []))):=⟨⟨boxed_below hR.1.1 hB',boxed_below hR.1.2.1 hB',hR.1.2.2.below hB'⟩,hR.2.1.trans (hB'.mono hR.2.1.size),(hB'.block _ (Array.getElem?_eq_some_iff.1 hR.2.2).1).trans hR.2.2⟩
   refine hK.out _ _ hR ?_
   clear hK K
   (try simp only [Act.put,bw7,bw8,bw9])
   refine tI 2 5 ?_
   refine tI 3 6 ?_
   refine tI 4 7 ?_
   refine wpAnyI_done (by kernel_rfl) ?_ _
   refine hN.out _ _ ?_
   gi_wp2
   refine leaves_marks w.heap.size [D] _ (by simp) (fun E hE=>?_) (fun W' hB' hcc=>?_)
   ·obtain rfl:E=D:=by simpa using hE
    exact ⟨by omega,hR.2.2⟩
   ·refine ⟨.tuple #[.string sr,.string sl,.int .i64 0],by simp [results,Tryz.results83,go_sem],?_,hR.2.1.trans hB'⟩
    rw [← HSR.out.1,← HSR.out.2]
  ·-- a square
   have hns:rootN u * rootN u=u:=of_decide_eq_true hsq'
   rw [if_pos hns] at hv
   obtain ⟨ru,hru⟩:∃ x,rootN u=x:=⟨_,rfl⟩
   rw [hru] at hns hv HEX
   have hru0:0 < ru:=by
    rcases Nat.eq_zero_or_pos ru with h|h
    ·rw [h] at hns;omega
    ·exact h
   have hcr:(c * ru) * (c * ru) * 1=m:=by rw [← n1,← hns];simp [Nat.mul_assoc,Nat.mul_comm,Nat.mul_left_comm]
   have hfr:=(fit_sq hcr (Nat.mul_pos n2 hru0) (by decide) HMF.out).1
   have HML:=Lib.hid (fun W hG=>mulN_ok c ru W hG hf.1 (fit_lt (Nat.le_mul_of_pos_left ru n2) hfr) hfr)
   have HFR:=Lib.hid (HFR0.out (c * ru) (hc90 _ 1 hcr (by decide)))
   obtain ⟨sc0,hsc0⟩:∃ s,decS c=s:=⟨_,rfl⟩
   obtain ⟨sc,hsc⟩:∃ s,decS (c * ru)=s:=⟨_,rfl⟩
   obtain ⟨su,hsu⟩:∃ s,decS u=s:=⟨_,rfl⟩
   obtain ⟨sl,hsl⟩:∃ s,decS 1=s:=⟨_,rfl⟩
   obtain ⟨sro,hsro⟩:∃ s,decS ru=s:=⟨_,rfl⟩
   obtain ⟨sr,hsr⟩:∃ s,numS (Rat.divInt ((c * ru:Nat):Int) (d:Nat))=s:=⟨_,rfl⟩
   rw [hsc0] at x13 HML
   rw [hsc] at HFR HML
   rw [hsu] at x14 HEX
   rw [hsr] at HFR
   rw [hsro] at HEX HML
   rw [hsl] at one_s
   have HSR:=Lib.hid (show numS (Rat.divInt ((normalN m).1:Nat) (d:Nat))=sr∧decS (normalN m).2=sl from by rw [hv];exact ⟨hsr,hsl⟩)
   have HONE:=Lib.hid one_s
   clear HFR0 hc90 hns hsq' hsq hv n1 n2 n3 n4 hf hrs hsc hsl hsr hsc0 hsu hsro hru hru0 hcr hfr one_s
   have d14:=x14.cell
   gi_wp2
   refine ⟨trivial,?_⟩
   refine (callsIn_wide.2 (HEX.out _ (HG.out.below hB))).mono ?_
   rintro e w5 ⟨rfl,hB5⟩
   have r13:=boxed_below x13 hB5
   have r14:=boxed_below x14 hB5
   have r6:=x6.below hB5
   have hBf:=hB.trans (hB5.mono hB.size)
   have hDf:=(hB5.block _ (Array.getElem?_eq_some_iff.1 hK).1).trans hK
   have hzf:=hB5.size
   have d13:=r13.cell
   clear hB5 x13 x14 x6 hB hK d14 HEX
   gi_wp2
   refine ⟨trivial,?_⟩
   refine (callsIn_wide.2 (HML.out _ (HG.out.below hBf))).mono ?_
   rintro e w6 ⟨rfl,hB6⟩
   have b13:=boxed_below r13 hB6
   have b14:=boxed_below r14 hB6
   have b6:=r6.below hB6
   have hB7:=hBf.trans (hB6.mono hBf.size)
   have hD7:=(hB6.block _ (Array.getElem?_eq_some_iff.1 hDf).1).trans hDf
   have hzg:=hB6.size
   clear r13 r14 r6 hBf hDf hB6 d13 HML
   have e13:=b13.cell
   have g13:=b13.frozen
   have e14:=b14.cell
   have g14:=b14.frozen
   have v13:=b13.lt
   have v14:=b14.lt
   gi_wp2
   have hS1:=sameBut_setCell w6 w3.heap.size 0 (.string sc)
   have q13:=Boxed.set (.string sc) b13
   have q14:=Boxed.but b14 hS1 (by omega)
   have q6:=b6.but' hS1 (by omega)
   have hS2:=sameBut_setCell (w6.setCell ⟨w3.heap.size,0,none⟩ (.string sc)) (w3.heap.size+1) 0 (.string ⟨#[49]⟩)
   have r13:=Boxed.but q13 hS2 (by omega)
   have r14:=Boxed.set (.string ⟨#[49]⟩) q14
   have r6:=q6.but' hS2 (by omega)
   have hBf:=hS2.below (hS1.below hB7 (by omega)) (by omega:w.heap.size≤w3.heap.size+1)
   have hDf:=(hS2.block D (by omega)).trans ((hS1.block D (by omega)).trans hD7)
   rw [HONE.out] at r14 r13 r6 hBf hDf
   rw [HONE.out]
   clear hS1 hS2 q13 q14 q6 b13 b14 b6 hB7 hD7 e13 g13 e14 g14 v13 v14
   generalize (w6.setCell ⟨w3.heap.size,0,none⟩ (.string sc)).setCell ⟨w3.heap.size+1,0,none⟩ (.string sl)=wf at *
   gi_wp2
   have hR:(Boxed wf.drew w3.heap.size 9 (.string sc)∧Boxed wf.drew (w3.heap.size+1) 9 (.string sl)∧BoxP wf.drew w2.heap.size (.string a) (.string b))∧(Below w.heap.size w wf.drew∧wf.drew.heap[D]?=some (.deferred (some []))):=⟨⟨boxed_below r13 (bw0 _ _).drew,boxed_below r14 (bw0 _ _).drew,r6.below (bw0 _ _).drew⟩,hBf.trans ((bw0 _ _).drew.mono hBf.size),((bw0 _ _).drew.block _ (Array.getElem?_eq_some_iff.1 hDf).1).trans hDf⟩
   refine region_J (L:=[]) (R:=(fun w'=>(Boxed w' w3.heap.size 9 (.string sc)∧Boxed w' (w3.heap.size+1) 9 (.string sl)∧BoxP w' w2.heap.size (.string a) (.string b))∧(Below w.heap.size w w'∧w'.heap[D]?=some (.deferred (some []))))) 8 #[false,false,false,false,false,false,false,false] (by kernel_rfl) (by kernel_rfl) (by kernel_rfl) (fun Q' hQ' hN=>?_)
   generalize wf.drew=wz at *
   refine tI 82 0 (hy:=by intro wq hRq;have e0:=hRq.1.1.cell;have e1:=hRq.1.2.1.cell;have e2:=hRq.1.2.2.c1;go_simp;(try with_reducible rfl)) ?_
   refine tI 83 1 (hy:=by intro wq hRq;have e0:=hRq.1.1.cell;have e1:=hRq.1.2.1.cell;have e2:=hRq.1.2.2.c1;go_simp;(try with_reducible rfl)) ?_
   refine tI 84 2 (hy:=by intro wq hRq;have e0:=hRq.1.1.cell;have e1:=hRq.1.2.1.cell;have e2:=hRq.1.2.2.c1;go_simp;(try with_reducible rfl)) ?_
   refine tI 86 4 (hy:=by intro wq hRq;have e0:=hRq.1.1.cell;have e1:=hRq.1.2.1.cell;have e2:=hRq.1.2.2.c1;go_simp;(try with_reducible rfl)) ?_
   refine wpAnyI_ready (rs:=[3]) (by kernel_rfl) (by simp) ?_
   refine stepRI (i:=3) rfl (by kernel_rfl) (fun K hK=>?_) (AllReadyI.nil)
   go_simp
   refine ⟨trivial,?_⟩
   refine (callsIn_wide.2 (HFR.out _ (HG.out.below hR.2.1))).mono ?_
   rintro e wn ⟨rfl,hB'⟩
   have hR:(Boxed wn w3.heap.size 9 (.string sc)∧Boxed wn (w3.heap.size+1) 9 (.string sl)∧BoxP wn w2.heap.size (.string a) (.string b))∧(Below w.heap.size w wn∧wn.heap[D]?=some (.deferred (some []))):=⟨⟨boxed_below hR.1.1 hB',boxed_below hR.1.2.1 hB',hR.1.2.2.below hB'⟩,hR.2.1.trans (hB'.mono hR.2.1.size),(hB'.block _ (Array.getElem?_eq_some_iff.1 hR.2.2).1).trans hR.2.2⟩
   refine hK.out _ _ hR ?_
   clear hK K
   (try simp only [Act.put,bw7,bw8,bw9])
   refine tI 2 5 ?_
   refine tI 3 6 ?_
   refine tI 4 7 ?_
   refine wpAnyI_done (by kernel_rfl) ?_ _
   refine hN.out _ _ ?_
   gi_wp2
   refine leaves_marks w.heap.size [D] _ (by simp) (fun E hE=>?_) (fun W' hB' hcc=>?_)
   ·obtain rfl:E=D:=by simpa using hE
    exact ⟨by omega,hR.2.2⟩
   ·refine ⟨.tuple #[.string sr,.string sl,.int .i64 0],by simp [results,Tryz.results83,go_sem],?_,hR.2.1.trans hB'⟩
    rw [← HSR.out.1,← HSR.out.2]
theorem Normal_ok (q:Rat) (w:World) (hG:Glo w) (hP:Pri w) (hq:Sz 90 q) (hq0:0≤q.num) :
  Calls Tryz.prog 83 #[.string (numS q)] w (RetNl (normQ q).1 (normQ q).2 w):=by
 by_cases h0:q.num=0
 ·have e:normQ q=(0,1):=by unfold normQ;rw [if_pos h0]
  rw [e]
  exact Normal_zero q w hG hq h0
 ·by_cases hs:(decS q.num.toNat).size+(decS q.den).size≤17
  ·exact Normal_short q w hG hP hq (by omega) hs
  ·exact Normal_long q w hG hP hq (by omega) hs
end Go.Proofs.YtbbclfbpllbbbaaGreatDoor
namespace Go.Proofs.YtbbclfbpllbbbaaGreatDoor
open Go.RowKit
def longD (q:Rat):Nat:=max (Lib.decDigits q.num.natAbs).length (Lib.decDigits q.den).length
theorem sdigits_ok (n:Int) (s:ByteArray) (w:World) (hs:s.data.toList=Lib.itoa n) :
  Calls Tryz.prog 97 #[.string s] w (RetB (.int .i64 ((Lib.decDigits n.natAbs).length:Nat)) w):=by
 have HTR:=Lib.hid (fun W=>trimPrefix_any s ⟨#[45]⟩ W (trimMinus hs))
 have HL:=Lib.hid (fun (z:ByteArray) (hz:Hid (z.data.toList=Lib.decDigits n.natAbs))=>(by
  have h1:z.size=z.data.toList.length:=rfl
  rw [h1,hz.out]:z.size=(Lib.decDigits n.natAbs).length))
 generalize (Lib.decDigits n.natAbs).length=N at *
 clear hs
 go_enter Tryz.func97,Tryz.ntmps97
 go_wp2_with fail
 refine (HTR.out _).mono ?_
 rintro e wn ⟨z,hz,rfl,rfl⟩
 have hzl:=HL.out z hz
 go_wp2_with fail
 go_ret
 exact ⟨by rw [← hzl];rfl,bw0 _ _⟩
theorem max_nat {P:Program} (x y:Nat) (ts:Array TypeId) (t:TypeId) (w:World):(Builtin.max_ ts t #[.int .i64 (x:Int),.int .i64 (y:Int)]).run P w=.ok (.int .i64 ((max x y:Nat):Int)) w:=by
 have e:(if (y:Int) > (x:Int) then (y:Int) else (x:Int))=((max x y:Nat):Int):=by split<;>omega
 rw [← e]
 simp [Builtin.max_,Builtin.max2]
theorem longest_ok {k:Nat} {q:Rat} (s:ByteArray) (w:World) (hG:Glo w) (hs:s.data.toList=ratText q) (hq:Sz k q) (hk:k≤300) :
  Calls Tryz.prog 44 #[.string s] w (RetB (.int .i64 (longD q:Nat)) w):=by
 have HPA:=Lib.hid (PartsQ_ok s w hG hs hq hk)
 have HDA:=Lib.hid (fun (x:ByteArray) W (hx:x.data.toList=Lib.itoa q.num)=>sdigits_ok q.num x W hx)
 have HDB:=Lib.hid (fun (x:ByteArray) W (hx:x.data.toList=Lib.decDigits q.den)=>sdigits_ok (q.den:Int) x W (by rw [hx,itoa_natCast]))
 rw [Int.natAbs_natCast] at HDB
 have hM:longD q=max (Lib.decDigits q.num.natAbs).length (Lib.decDigits q.den).length:=rfl
 rw [hM]
 have HMX:=Lib.hid (fun (ts:Array TypeId) (t:TypeId) (w:World)=>max_nat (P:=Tryz.prog) (Lib.decDigits q.num.natAbs).length (Lib.decDigits q.den).length ts t w)
 generalize max (Lib.decDigits q.num.natAbs).length (Lib.decDigits q.den).length=M at *
 generalize (Lib.decDigits q.num.natAbs).length=X at *
 generalize (Lib.decDigits q.den).length=Y at *
 clear hs hG hM hq
 go_enter Tryz.func44,Tryz.ntmps44
 go_wp2_with fail
 refine HPA.out.mono ?_
 rintro e w1 ⟨a,b,ha,hb,rfl,hB1⟩
 go_wp2_with fail
 refine (HDA.out a _ ha.out).mono ?_
 rintro e w2 ⟨rfl,hB2⟩
 have hb2:=below_trans' hB1 hB2
 clear hB1 hB2
 go_wp2_with fail
 refine (HDB.out b _ hb.out).mono ?_
 rintro e w3 ⟨rfl,hB3⟩
 have hb3:=below_trans' hb2 hB3
 have hmx:=HMX.out
 clear hb2 hB3 HPA HDA HDB
 go_wp2_with fail
 go_ret
 exact ⟨rfl,hb3⟩
end Go.Proofs.YtbbclfbpllbbbaaGreatDoor
namespace Go.Proofs.YtbbclfbpllbbbaaGreatDoor
open Go.RowKit
def tailTxt (q:Rat):List UInt8:=if q.den=1 then [] else 47::Lib.decDigits q.den
def minusB (q:Rat):Bool:=decide (q.num < 0)
theorem ratText_own (q:Rat):ratText q=(if minusB q then [45] else [])++(Lib.decDigits q.num.natAbs++tailTxt q):=by
 unfold ratText tailTxt minusB
 rcases itoa_cases q.num with ⟨h,e⟩|⟨h,e⟩
 ·by_cases hd:q.den=1<;>simp [h,e,hd]
 ·by_cases hd:q.den=1<;>simp [show ¬ q.num < 0 by omega,e,hd]
theorem sizeL (s:ByteArray):s.size=s.data.toList.length:=rfl
def DigS (s:ByteArray) (n:Nat):Prop:=s.data.toList=Lib.decDigits n∧n < 100000000
theorem DigS.size {s:ByteArray} {n:Nat} (h:DigS s n):1≤s.size∧s.size≤8:=by
 rw [sizeL,h.1,Lib.decDigits_length]
 refine ⟨?_,nDigits_le8 h.2⟩
 rw [← Lib.decDigits_length]
 exact List.length_pos_iff.2 (decDigits_ne n)
end Go.Proofs.YtbbclfbpllbbbaaGreatDoor
namespace Go.Proofs.YtbbclfbpllbbbaaGreatDoor.R6
def pw:Nat→Int
 | 0=>1
 | k+1=>1000000 * pw k
def vt (f:Nat→Int):Nat→Int
 | 0=>0
 | k+1=>vt f k+f k * pw k
def val (l:List Int):Int:=vt (lim l) l.length
def Dig (x:Int):Prop:=0≤x∧x≤999999
def Digs (l:List Int):Prop:=∀ k,Dig (lim l k)
structure Num (l:List Int) (n:Int):Prop where
 digs:Digs l
 trim:Trimmed l
 sum:val l=n
theorem pw_pos (k:Nat):0 < pw k:=by
 induction k with
 | zero=>decide
 | succ k ih=>unfold pw;omega
theorem pw_mono {k m:Nat} (h:k≤m):pw k≤pw m:=by
 induction m with
 | zero=>rw [Nat.le_zero.1 h];exact Int.le_refl _
 | succ m ih =>
  by_cases hk:k=m+1
  ·rw [hk];exact Int.le_refl _
  ·have:=ih (by omega)
   have:=pw_pos m
   show _≤1000000 * pw m
   omega
theorem pw_add (k m:Nat):pw (k+m)=pw k * pw m:=by
 induction m with
 | zero=>simp [pw]
 | succ m ih=>rw [Nat.add_succ,pw,ih,pw];grind
theorem vt_congr {f g:Nat→Int} {k:Nat} (h:∀ i,i < k→f i=g i):vt f k=vt g k:=by
 induction k with
 | zero=>rfl
 | succ k ih=>rw [vt,vt,ih fun i hi=>h i (by omega),h k (by omega)]
theorem vt_bound {f:Nat→Int} {k:Nat} (h:∀ i,i < k→Dig (f i)):0≤vt f k∧vt f k < pw k:=by
 induction k with
 | zero=>exact ⟨Int.le_refl _,by show (0:Int) < 1;omega⟩
 | succ k ih =>
  obtain ⟨i1,i2⟩:=ih fun i hi=>h i (by omega)
  obtain ⟨h1,h2⟩:=h k (by omega)
  have hp:=pw_pos k
  have h3:0≤f k * pw k:=Int.mul_nonneg h1 (by omega)
  have h4:f k * pw k≤999999 * pw k:=Int.mul_le_mul_of_nonneg_right h2 (by omega)
  show 0≤vt f k+f k * pw k∧vt f k+f k * pw k < 1000000 * pw k
  omega
theorem vt_tail {f:Nat→Int} {n m:Nat} (hnm:n≤m) (h:∀ i,n≤i→i < m→f i=0):vt f m=vt f n:=by
 induction m with
 | zero=>rw [Nat.le_zero.1 hnm]
 | succ m ih =>
  by_cases hk:n=m+1
  ·rw [hk]
  ·rw [vt,h m (by omega) (by omega),ih (by omega) fun i h1 h2=>h i h1 (by omega)]
   omega
theorem vt_val {l:List Int} {n:Nat} (h:l.length≤n):vt (lim l) n=val l:=vt_tail h fun _ h1 _=>lim_out h1
theorem vt_split (f:Nat→Int) (j k:Nat):vt f (j+k)=vt f j+pw j * vt (fun i=>f (j+i)) k:=by
 induction k with
 | zero=>simp [vt]
 | succ k ih=>rw [Nat.add_succ,vt,ih,vt,pw_add];grind
theorem digs_of {l:List Int} (h:∀ i,i < l.length→Dig (lim l i)):Digs l:=fun k=>by
 by_cases hk:k < l.length
 ·exact h k hk
 ·rw [lim_out (by omega)];exact ⟨by omega,by omega⟩
theorem Digs.mem {l:List Int} (h:Digs l) (k:Nat):0≤lim l k∧lim l k≤999999:=h k
theorem Digs.bound {l:List Int} (h:Digs l):0≤val l∧val l < pw l.length:=vt_bound fun i _=>h i
theorem val_of_lim {l l':List Int} (h:∀ i,lim l i=lim l' i):val l=val l':=by
 have h1:=vt_val (l:=l) (n:=max l.length l'.length) (Nat.le_max_left _ _)
 have h2:=vt_val (l:=l') (n:=max l.length l'.length) (Nat.le_max_right _ _)
 rw [← h1,← h2]
 exact vt_congr fun i _=>h i
theorem Num.low {l:List Int} {n:Int} (h:Num l n) (hl:l.length≠0):pw (l.length - 1)≤n:=by
 have h0:=h.trim hl
 obtain ⟨k,hk⟩:∃ k,l.length=k+1:=⟨l.length - 1,by omega⟩
 rw [hk,Nat.add_sub_cancel] at h0 ⊢
 have hv:val l=vt (lim l) k+lim l k * pw k:=by unfold val;rw [hk];rfl
 rw [← h.sum,hv]
 have h1:=(vt_bound (f:=lim l) (k:=k) fun i _=>h.digs i).1
 have h2:=h.digs k
 have h3:1 * pw k≤lim l k * pw k:=Int.mul_le_mul_of_nonneg_right (by have:=h2.1;omega) (by have:=pw_pos k;omega)
 omega
theorem Num.high {l:List Int} {n:Int} (h:Num l n):0≤n∧n < pw l.length:=by rw [← h.sum];exact h.digs.bound
theorem Num.zero {l:List Int} {n:Int} (h:Num l n):l.length=0↔n=0:=by
 constructor
 ·intro h0
  rw [← h.sum];unfold val;rw [h0];rfl
 ·intro h0
  refine Decidable.byContradiction fun hl=>?_
  have:=h.low hl
  have:=pw_pos (l.length - 1)
  omega
theorem Num.lt_of_length {a b:List Int} {x y:Int} (ha:Num a x) (hb:Num b y) (h:a.length < b.length):x < y:=by
 have h1:=ha.high.2
 have h2:=hb.low (by omega)
 have h3:=pw_mono (show a.length≤b.length - 1 by omega)
 omega
theorem Num.length_le {a:List Int} {x:Int} {k:Nat} (ha:Num a x) (h:x < pw k):a.length≤k:=by
 refine Decidable.byContradiction fun hc=>?_
 have h2:=ha.low (by omega)
 have h3:=pw_mono (show k≤a.length - 1 by omega)
 omega
theorem vt_top {f g:Nat→Int} {k m:Nat} (hk:k < m) (hf:∀ i,i < k→Dig (f i)) (hg:∀ i,i < k→Dig (g i)) (he:∀ i,k < i→i < m→f i=g i) (h:f k < g k):vt f m < vt g m:=by
 induction m with
 | zero=>omega
 | succ m ih =>
  by_cases hm:k=m
  ·subst hm
   have h1:=(vt_bound hf).2
   have h2:=(vt_bound hg).1
   have h3:(f k+1) * pw k≤g k * pw k:=Int.mul_le_mul_of_nonneg_right (by omega) (by have:=pw_pos k;omega)
   rw [Int.add_mul] at h3
   show vt f k+f k * pw k < vt g k+g k * pw k
   omega
  ·have h1:=ih (by omega) fun i h1 h2=>he i h1 (by omega)
   have h2:=he m (by omega) (by omega)
   show vt f m+f m * pw m < vt g m+g m * pw m
   rw [h2];omega
theorem Num.uniq {a b:List Int} {x:Int} (ha:Num a x) (hb:Num b x):a=b:=by
 have hl:a.length=b.length:=by
  rcases Nat.lt_trichotomy a.length b.length with h|h|h
  ·have:=ha.lt_of_length hb h;omega
  ·exact h
  ·have:=hb.lt_of_length ha h;omega
 refine Decidable.byContradiction fun hne=>?_
 have key:∀ m,m≤a.length→(∀ i,m≤i→i < a.length→lim a i=lim b i):=by
  intro m hm
  obtain ⟨d,hd⟩:∃ d,d=a.length - m:=⟨_,rfl⟩
  induction d generalizing m with
  | zero=>intro i h1 h2;omega
  | succ d ih =>
   have hi:=ih (m+1) (by omega) (by omega)
   intro i h1 h2
   by_cases him:i=m
   ·subst him
    rcases Int.lt_trichotomy (lim a i) (lim b i) with h|h|h
    ·have:=vt_top (f:=lim a) (g:=lim b) (m:=a.length) h2 (fun i _=>ha.digs i) (fun i _=>hb.digs i) (fun j h3 h4=>hi j (by omega) h4) h
     have h5:=ha.sum;have h6:=hb.sum;unfold val at h5 h6;rw [← hl] at h6;omega
    ·exact h
    ·have:=vt_top (f:=lim b) (g:=lim a) (m:=a.length) h2 (fun i _=>hb.digs i) (fun i _=>ha.digs i) (fun j h3 h4=>(hi j (by omega) h4).symm) h
     have h5:=ha.sum;have h6:=hb.sum;unfold val at h5 h6;rw [← hl] at h6;omega
   ·exact hi i (by omega) h2
 exact hne (lim_ext hl fun i hi=>key 0 (Nat.zero_le _) i (Nat.zero_le _) hi)
theorem sum_limbs {a b d c:Nat→Int} (h0:c 0=0) (h:∀ k,d k+1000000 * c (k+1)=a k+b k+c k) (k:Nat):vt d k+c k * pw k=vt a k+vt b k:=by
 induction k with
 | zero=>simp [vt,h0]
 | succ k ih =>
  have:=h k
  show vt d k+d k * pw k+c (k+1) * (1000000 * pw k)=vt a k+a k * pw k+(vt b k+b k * pw k)
  grind
theorem diff_limbs {a b d c:Nat→Int} (h0:c 0=0) (h:∀ k,d k=a k - b k - c k+1000000 * c (k+1)) (k:Nat):vt d k+vt b k=vt a k+c k * pw k:=by
 induction k with
 | zero=>simp [vt,h0]
 | succ k ih =>
  have:=h k
  show vt d k+d k * pw k+(vt b k+b k * pw k)=vt a k+a k * pw k+c (k+1) * (1000000 * pw k)
  grind
theorem vt_set {l:List Int} {p:Nat} {x:Int} (h:p < l.length) (m:Nat):vt (lim (l.set p x)) m=vt (lim l) m+(if p < m then (x - lim l p) * pw p else 0):=by
 induction m with
 | zero=>simp [vt]
 | succ m ih =>
  rw [vt,vt,ih,lim_set h]
  by_cases hm:m=p
  ·subst hm
   rw [if_pos rfl,if_neg (by omega),if_pos (by omega)]
   grind
  ·rw [if_neg hm]
   by_cases hp:p < m
   ·rw [if_pos hp,if_pos (by omega)];grind
   ·rw [if_neg hp,if_neg (by omega)];grind
theorem val_set {l:List Int} {p:Nat} {x:Int} (h:p < l.length):val (l.set p x)=val l+(x - lim l p) * pw p:=by
 unfold val
 rw [List.length_set,vt_set h,if_pos h]
end Go.Proofs.YtbbclfbpllbbbaaGreatDoor.R6
namespace Go.Proofs.YtbbclfbpllbbbaaGreatDoor.R6
open Go.RowKit Go.Shelf
structure ShortAt (a:List Int) (d:Int) (k:Nat) (q:List Int) (r:Int):Prop where
 len:q.length=a.length
 digs:Digs q
 r0:0≤r
 r1:r < d
 sum:vt (lim a) k+pw k * r+d * val q=val a
 zero:∀ i,i < k→lim q i=0
theorem ShortAt.start (a:List Int) {d:Int} (hd:0 < d):ShortAt a d a.length (zerosL a.length) 0:=by
 have e:val (zerosL a.length)=0:=by
  have:val (zerosL a.length)=val []:=val_of_lim fun i=>by rw [lim_zerosL,lim_nil]
  rw [this];rfl
 exact ⟨zerosL_len _,fun i=>by rw [lim_zerosL];exact ⟨by omega,by omega⟩,by omega,hd,by rw [e];show vt (lim a) a.length+_+_=vt (lim a) a.length;omega,fun i _=>lim_zerosL _ _⟩
theorem ShortAt.step {a:List Int} {d:Int} {k:Nat} {q:List Int} {r:Int} (h:ShortAt a d (k+1) q r) (hk:k < a.length) (ha:Dig (lim a k)) :
  ShortAt a d k (q.set k ((r * 1000000+lim a k) / d)) ((r * 1000000+lim a k) % d):=by
 obtain ⟨a0,a1⟩:=ha
 have h0:=h.r0
 have h1:=h.r1
 have hkq:k < q.length:=by rw [h.len];exact hk
 have hdm:=Int.mul_ediv_add_emod (r * 1000000+lim a k) d
 have hs:=h.sum
 have hz:=h.zero k (by omega)
 refine ⟨by rw [List.length_set];exact h.len,fun i=>?_,Int.emod_nonneg _ (by omega),Int.emod_lt_of_pos _ (by omega),?_,fun i hi=>?_⟩
 ·rw [lim_set hkq]
  split
  ·refine ⟨Int.ediv_nonneg (by omega) (by omega),?_⟩
   have:(r * 1000000+lim a k) / d < 1000000:=Int.ediv_lt_of_lt_mul (by omega) (by
    have h2:(r+1) * 1000000≤d * 1000000:=Int.mul_le_mul_of_nonneg_right (by omega) (by omega)
    rw [Int.mul_comm 1000000 d]
    omega)
   omega
  ·exact h.digs i
 ·rw [val_set hkq,hz]
  rw [vt,pw] at hs
  generalize (r * 1000000+lim a k) / d=Q at *
  generalize (r * 1000000+lim a k) % d=R at *
  grind
 ·rw [lim_set hkq,if_neg (by omega)]
  exact h.zero i (by omega)
end Go.Proofs.YtbbclfbpllbbbaaGreatDoor.R6
namespace Go.Proofs.YtbbclfbpllbbbaaGreatDoor.R6
open Go.RowKit Go.Shelf
end Go.Proofs.YtbbclfbpllbbbaaGreatDoor.R6
namespace Go.Proofs.YtbbclfbpllbbbaaGreatDoor.R6
structure TimesIn (a b l0:List Int) (i k:Nat) (l:List Int) (c:Int):Prop where
 len:l.length=a.length+b.length+1
 digs:Digs l
 car:Dig c
 sum:val l+c * pw (i+k)=val l0+lim a i * vt (lim b) k * pw i
 same:∀ j,i+k≤j→lim l j=lim l0 j
 fin:b.length < k→c=0
theorem dig_div {n:Int} (h0:0≤n) (h1:n≤999999999999):Dig (n / 1000000):=⟨by omega,by omega⟩
theorem dig_mod (n:Int):Dig (n % 1000000):=⟨by omega,by omega⟩
theorem mul_dig {x y:Int} (hx:Dig x) (hy:Dig y):0≤x * y∧x * y≤999998000001:=by
 refine ⟨Int.mul_nonneg hx.1 hy.1,?_⟩
 have h1:=Int.mul_le_mul hx.2 hy.2 hy.1 (by omega)
 omega
theorem TimesIn.step {a b l0 l:List Int} {i k:Nat} {c:Int} (h:TimesIn a b l0 i k l c) (ha:Digs a) (hb:Digs b) (hi:i < a.length) (hk:k≤b.length) (h0:lim l0 (i+b.length)=0) :
  TimesIn a b l0 i (k+1) (l.set (i+k) ((lim l (i+k)+lim a i * lim b k+c) % 1000000)) ((lim l (i+k)+lim a i * lim b k+c) / 1000000):=by
 obtain ⟨m1,m2⟩:=mul_dig (ha i) (hb k)
 obtain ⟨o1,o2⟩:=h.digs (i+k)
 obtain ⟨c1,c2⟩:=h.car
 have hp:i+k < l.length:=by rw [h.len];omega
 refine ⟨by rw [List.length_set];exact h.len,fun j=>?_,dig_div (by omega) (by omega),?_,fun j hj=>?_,fun hf=>?_⟩
 ·rw [lim_set hp]
  split
  ·exact dig_mod _
  ·exact h.digs j
 ·rw [val_set hp]
  have hv:=h.sum
  have hdm:lim l (i+k)+lim a i * lim b k+c=(lim l (i+k)+lim a i * lim b k+c) % 1000000+1000000 * ((lim l (i+k)+lim a i * lim b k+c) / 1000000):=by omega
  rw [show i+(k+1)=i+k+1 from rfl,pw,vt]
  have hpa:=pw_add i k
  generalize (lim l (i+k)+lim a i * lim b k+c) % 1000000=r at *
  generalize (lim l (i+k)+lim a i * lim b k+c) / 1000000=q at *
  grind
 ·rw [lim_set hp,if_neg (by omega)];exact h.same j (by omega)
 ·have e:k=b.length:=by omega
  subst e
  have e1:lim b b.length=0:=lim_out (Nat.le_refl _)
  have e2:lim l (i+b.length)=0:=by rw [h.same _ (Nat.le_refl _),h0]
  rw [e1,e2]
  omega
structure TimesTo (a b:List Int) (i:Nat) (l:List Int):Prop where
 len:l.length=a.length+b.length+1
 digs:Digs l
 sum:val l=vt (lim a) i * val b
 zero:∀ j,i+b.length≤j→lim l j=0
theorem TimesTo.start {a b l:List Int} {i:Nat} (h:TimesTo a b i l):TimesIn a b l i 0 l 0:=⟨h.len,h.digs,⟨by omega,by omega⟩,by simp [vt],fun _ _=>rfl,fun _=>rfl⟩
theorem TimesTo.zeros (a b:List Int):TimesTo a b 0 (zerosL (a.length+b.length+1)):=⟨zerosL_len _,fun i=>by rw [lim_zerosL];exact ⟨by omega,by omega⟩,by
 unfold val
 rw [vt_congr (g:=fun _=>0) (fun i _=>lim_zerosL _ i)]
 have:∀ n,vt (fun _=>0) n=0:=fun n=>by
  induction n with
  | zero=>rfl
  | succ n ih=>rw [vt,ih];simp
 rw [this];simp [vt],fun j _=>lim_zerosL _ j⟩
theorem TimesIn.next {a b l0 l:List Int} {i:Nat} {c:Int} (h0:TimesTo a b i l0) (h:TimesIn a b l0 i (b.length+1) l c):TimesTo a b (i+1) l:=by
 refine ⟨h.len,h.digs,?_,fun j hj=>?_⟩
 ·have hc:=h.fin (by omega)
  have hv:=h.sum
  rw [hc,vt_val (show b.length≤b.length+1 by omega),h0.sum] at hv
  rw [vt]
  grind
 ·rw [h.same j (by omega)];exact h0.zero j (by omega)
end Go.Proofs.YtbbclfbpllbbbaaGreatDoor.R6
namespace Go.Proofs.YtbbclfbpllbbbaaGreatDoor.R6
open Go.RowKit Go.Shelf
structure NumW (l:List Int) (n:Int):Prop where
 digs:Digs l
 sum:val l=n
theorem Num.w {l:List Int} {n:Int} (h:Num l n):NumW l n:=⟨h.digs,h.sum⟩
end Go.Proofs.YtbbclfbpllbbbaaGreatDoor.R6
namespace Go.Proofs.YtbbclfbpllbbbaaGreatDoor.R6
open Go.RowKit Go.Shelf
end Go.Proofs.YtbbclfbpllbbbaaGreatDoor.R6
namespace Go.Proofs.YtbbclfbpllbbbaaGreatDoor.R6
open Go.RowKit Go.Shelf
end Go.Proofs.YtbbclfbpllbbbaaGreatDoor.R6
namespace Go.Proofs.YtbbclfbpllbbbaaGreatDoor.R6
open Go.RowKit Go.Shelf
theorem dval_append (a b:List UInt8):dval (a++b)=dval a * 10 ^ b.length+dval b:=by
 show (a++b).foldl _ 0=_
 rw [List.foldl_append,foldl_dval]
 rfl
theorem pw_six (j:Nat):pw j=((10 ^ (6 * j):Nat):Int):=by
 induction j with
 | zero=>rfl
 | succ j ih =>
  have e:(10:Nat) ^ (6 * (j+1))=1000000 * 10 ^ (6 * j):=by
   rw [show 6 * (j+1)=6 * j+6 by omega,Nat.pow_add,Nat.mul_comm]
  rw [pw,ih,e,Int.natCast_mul]
  rfl
structure GroupAt (s:List UInt8) (k:Nat) (l:List Int):Prop where
 len:l.length=k
 digs:Digs l
 sum:val l=(dval (s.drop (s.length - 6 * k)):Int)
theorem GroupAt.start (s:List UInt8):GroupAt s 0 []:=⟨rfl,fun i=>by rw [lim_nil];exact ⟨by omega,by omega⟩,by simp;rfl⟩
theorem val_snoc (l:List Int) (x:Int):val (l++[x])=val l+x * pw l.length:=by
 unfold val
 rw [List.length_append,List.length_singleton,vt,lim_snoc]
 congr 1
 exact vt_congr fun i hi=>lim_snoc_lt hi
theorem GroupAt.step {s:List UInt8} {k:Nat} {l:List Int} (h:GroupAt s k l) (hk:6 * k < s.length) (hd:nDig s=s.length) :
  dval ((s.drop (s.length - 6 * k - 6)).take (s.length - 6 * k - (s.length - 6 * k - 6)))≤999999∧GroupAt s (k+1) (l++[(dval ((s.drop (s.length - 6 * k - 6)).take (s.length - 6 * k - (s.length - 6 * k - 6))):Int)]):=by
 obtain ⟨en,hen⟩:∃ en,s.length - 6 * k=en:=⟨_,rfl⟩
 rw [hen]
 have hall:∀ c ∈ s,isDig c=true:=by
  have h1:=takeWhile_all s
  have h2:s.takeWhile isDig=s:=List.IsPrefix.eq_of_length (List.takeWhile_prefix _) hd
  rwa [h2] at h1
 have hsub:∀ c ∈ (s.drop (en - 6)).take (en - (en - 6)),isDig c=true:=fun c hc=>hall c (List.mem_of_mem_drop (List.mem_of_mem_take hc))
 have hnd:∀ t:List UInt8,(∀ c ∈ t,isDig c=true)→nDig t=t.length:=fun t ht=>by
  have:=nDig_append (l:=t) (r:=[]) ht (Or.inl rfl)
  rwa [List.append_nil] at this
 have hg:dval ((s.drop (en - 6)).take (en - (en - 6))) < 10 ^ 6:=by
  have h1:=dval_take_lt ((s.drop (en - 6)).take (en - (en - 6))) _ (Nat.le_of_eq (hnd _ hsub).symm)
  rw [List.take_length] at h1
  refine Nat.lt_of_lt_of_le h1 (Nat.pow_le_pow_right (by omega) ?_)
  rw [List.length_take];omega
 have hspl:s.drop (en - 6)=(s.drop (en - 6)).take (en - (en - 6))++s.drop en:=by
  conv=>lhs;rw [← List.take_append_drop (en - (en - 6)) (s.drop (en - 6))]
  rw [List.drop_drop]
  congr 2
  omega
 refine ⟨by omega,by rw [List.length_append,h.len];rfl,?_,?_⟩
 ·refine digs_of fun i hi=>?_
  by_cases h1:i < l.length
  ·rw [lim_snoc_lt h1];exact h.digs i
  ·have:i=l.length:=by rw [List.length_append] at hi;simp only [List.length_singleton] at hi;omega
   rw [this,lim_snoc]
   exact ⟨by omega,by omega⟩
 ·rw [val_snoc,h.sum,hen,show s.length - 6 * (k+1)=en - 6 by omega,h.len,pw_six]
  conv=>rhs;rw [hspl]
  rw [dval_append,List.length_drop,show s.length - en=6 * k by omega]
  rw [Int.natCast_add,Int.natCast_mul]
  omega
end Go.Proofs.YtbbclfbpllbbbaaGreatDoor.R6
namespace Go.Proofs.YtbbclfbpllbbbaaGreatDoor.R6
open Go.RowKit Go.Shelf
def BlkU (W:World) (g:Nat) (l:List UInt8):Prop:=W.heap[g]?=some (.cells (Lib.byteCells l).toArray 5 (0,0))
theorem BlkU.lt {W:World} {g:Nat} {l:List UInt8} (h:BlkU W g l):g < W.heap.size:=(Array.getElem?_eq_some_iff.1 h).1
theorem BlkU.cell {W:World} {g:Nat} {l:List UInt8} (h:BlkU W g l) {p:Nat} (hp:p < l.length):W.cell? ⟨g,p,none⟩=some (.int .u8 (l[p].toNat:Int)):=by
 simp [World.cell?,show W.heap[g]?=_ from h,Lib.byteCells,hp]
theorem BlkU.frozen {W:World} {g:Nat} {l:List UInt8} (h:BlkU W g l) (p:Nat):W.frozen? ⟨g,p,none⟩=false:=by
 simp [World.frozen?,show W.heap[g]?=_ from h]
theorem BlkU.set {W:World} {g:Nat} {l:List UInt8} (h:BlkU W g l) (p:Nat) (x:UInt8):BlkU (W.setCell ⟨g,p,none⟩ (.int .u8 (x.toNat:Int))) g (l.set p x):=by
 obtain ⟨hlt,hk⟩:=Array.getElem?_eq_some_iff.1 h
 show (W.heap.modify g _)[g]?=_
 rw [Array.getElem?_eq_getElem (by rw [Array.size_modify];exact hlt),Array.getElem_modify_self,hk]
 simp [Lib.byteCells,List.map_set]
theorem BlkU.but {w w':World} {g b:Nat} {l:List UInt8} (h:BlkU w g l) (hs:SameBut b w w') (hne:g≠b):BlkU w' g l:=(hs.block g hne).trans h
theorem pad_top {m V d:Nat} (hV:V < 10 ^ m) (hd:d < 10):pad (m+1) (V+d * 10 ^ m)=UInt8.ofNat (48+d)::pad m V:=by
 induction m generalizing V with
 | zero =>
  have:V=0:=by simpa using hV
  subst this
  simp [pad,Nat.mod_eq_of_lt hd]
 | succ m ih =>
  have e:d * 10 ^ (m+1)=10 * (d * 10 ^ m):=by rw [Nat.pow_succ];grind
  rw [pad,show (V+d * 10 ^ (m+1)) / 10=V / 10+d * 10 ^ m by rw [e];omega,show (V+d * 10 ^ (m+1)) % 10=V % 10 by rw [e];omega,ih (by rw [Nat.pow_succ] at hV;omega),pad]
  rfl
theorem pad_next (N p:Nat):pad (p+1) (N % 10 ^ (p+1))=UInt8.ofNat (48+N / 10 ^ p % 10)::pad p (N % 10 ^ p):=by
 have e:N % 10 ^ (p+1)=N % 10 ^ p+N / 10 ^ p % 10 * 10 ^ p:=by
  rw [Nat.pow_succ,Nat.mod_mul,Nat.mul_comm]
 rw [e]
 exact pad_top (Nat.mod_lt _ (Nat.pow_pos (by omega))) (Nat.mod_lt _ (by omega))
def OutAt (N T p:Nat) (o:List UInt8):Prop:=o.length=T∧o.drop (T - p)=pad p (N % 10 ^ p)
theorem OutAt.step {N T p:Nat} {o:List UInt8} (h:OutAt N T p o) (hp:p < T):OutAt N T (p+1) (o.set (T - p - 1) (UInt8.ofNat (48+N / 10 ^ p % 10))):=by
 obtain ⟨h1,h2⟩:=h
 refine ⟨by rw [List.length_set];exact h1,?_⟩
 have hl:T - p - 1 < (o.set (T - p - 1) (UInt8.ofNat (48+N / 10 ^ p % 10))).length:=by rw [List.length_set];omega
 rw [pad_next,show T - (p+1)=T - p - 1 by omega,List.drop_eq_getElem_cons hl,List.getElem_set_self,List.drop_set_of_lt (by omega),show T - p - 1+1=T - p by omega,h2]
end Go.Proofs.YtbbclfbpllbbbaaGreatDoor.R6
namespace Go.Proofs.YtbbclfbpllbbbaaGreatDoor.R6
open Go.RowKit Go.Shelf
end Go.Proofs.YtbbclfbpllbbbaaGreatDoor.R6
namespace Go.Proofs.YtbbclfbpllbbbaaGreatDoor
open Go.RowKit
theorem dec_of_digits (l:List UInt8) (hd:∀ c ∈ l,isDig c=true) (h0:l≠[]) (h1:1 < l.length→l.head?≠some 48):Lib.decDigits (dval l)=l:=by
 induction hn:l.length generalizing l with
 | zero=>exact absurd (List.length_eq_zero_iff.1 hn) h0
 | succ k ih =>
  obtain ⟨t,c,rfl⟩:∃ t c,l=t++[c]:=⟨l.dropLast,l.getLast h0,(List.dropLast_concat_getLast h0).symm⟩
  have hc:=(isDig_iff c).1 (hd c (by simp))
  have e48:UInt8.ofNat (48+(c.toNat - 48))=c:=by
   rw [show 48+(c.toNat - 48)=c.toNat by omega]
   simp
  rw [dval_snoc]
  by_cases ht:t=[]
  ·subst ht
   rw [show 10 * dval []+(c.toNat - 48)=c.toNat - 48 by simp [dval],Lib.decDigits_one (by omega),e48]
   rfl
  ·have ht1:1≤t.length:=List.length_pos_iff.2 ht
   have hhead:t.head?≠some 48:=by
    have:=h1 (by rw [List.length_append];simp;omega)
    cases t with
    | nil=>exact absurd rfl ht
    | cons a r=>simpa using this
   have hih:=ih t (fun c hc=>hd c (by simp [hc])) ht (fun _=>hhead) (by rw [List.length_append] at hn;simpa using hn)
   have hpos:0 < dval t:=by
    refine Nat.pos_of_ne_zero fun hz=>?_
    rw [hz,Lib.decDigits_one (by omega)] at hih
    rw [← hih] at hhead
    exact hhead rfl
   rw [Lib.decDigits,dif_neg (by omega),show (10 * dval t+(c.toNat - 48)) / 10=dval t by omega,show (10 * dval t+(c.toNat - 48)) % 10=c.toNat - 48 by omega,hih,e48]
end Go.Proofs.YtbbclfbpllbbbaaGreatDoor
namespace Go.Proofs.YtbbclfbpllbbbaaGreatDoor
open Go.RowKit
theorem text_is {a b:Nat} (m:Bool) (hb:1≤b) (hg:Nat.gcd a b=1) (hm:m=true→a≠0) :
  ∃ q:Rat,q.num.natAbs=a∧q.den=b∧ratText q=(if m then [45] else [])++(Lib.decDigits a++if b=1 then [] else 47::Lib.decDigits b):=by
 refine ⟨⟨if m then -(a:Int) else (a:Int),b,by omega,?_⟩,?_,rfl,?_⟩
 ·cases m
  ·simpa [Nat.Coprime] using hg
  ·simpa [Nat.Coprime] using hg
 ·cases m<;>simp
 ·rw [ratText_own]
  cases m
  ·simp [minusB,tailTxt]
  ·have:=hm rfl
   have h:minusB ⟨if true then -(a:Int) else (a:Int),b,by omega,by simpa [Nat.Coprime] using hg⟩=true:=by simp [minusB];omega
   rw [h]
   simp [tailTxt]
end Go.Proofs.YtbbclfbpllbbbaaGreatDoor
namespace Go.Proofs.YtbbclfbpllbbbaaGreatDoor
def IsNum (s:ByteArray):Prop:=∃ q:Rat,s.data.toList=ratText q∧Sz 300 q
theorem cut_spec (l:List UInt8):∃ (a b:List UInt8) (c:Bool),Lib.cut l [47]=(a,b,c)∧l=a++(if c then 47::b else []):=by
 unfold Lib.cut
 rcases Lib.index_spec l [47] with ⟨h1,_⟩|⟨i,h1,h2,h3,_⟩
 ·rw [h1]
  exact ⟨l,[],false,by simp,by simp⟩
 ·have hi:=Lib.occAt_head (s:=l) (sub:=[47]) (i:=i) (c:=47) (t:=[]) rfl h3
  rw [h1]
  refine ⟨l.take i,l.drop (i+1),true,by simp,?_⟩
  have hlt:i < l.length:=by
   rcases Nat.lt_or_ge i l.length with h|h
   ·exact h
   ·rw [List.getElem?_eq_none h] at hi;cases hi
  rw [List.getElem?_eq_getElem hlt] at hi
  injection hi with hi
  conv=>lhs;rw [← List.take_append_drop i l]
  rw [List.drop_eq_getElem_cons hlt,hi]
  rfl
theorem digs_le (l:List UInt8):digs l≤l.length:=by
 unfold digs
 split
 ·omega
 ·exact nDig_le l
theorem dec_of_digs {l:List UInt8} (h0:digs l≠0) (h1:¬ digs l < l.length):Lib.decDigits (dval l)=l:=by
 unfold digs at h0 h1
 split at h0
 ·exact absurd rfl h0
 ·rename_i hc
  rw [if_neg hc] at h1
  have hn:=nDig_le l
  refine dec_of_digits l (fun c hc=>?_) (fun e=>by subst e;exact h0 rfl) (fun h h'=>hc ⟨by omega,h'⟩)
  obtain ⟨j,hj,rfl⟩:=List.getElem_of_mem hc
  exact isDig_of_lt l j (by omega) hj
theorem minus_spec (l:List UInt8):∃ (o:List UInt8) (c:Bool),Lib.trimPrefix l [45]=o∧Lib.hasPrefix l [45]=c∧l=(if c then [45] else [])++o:=by
 unfold Lib.trimPrefix Lib.hasPrefix
 cases l with
 | nil=>exact ⟨[],false,rfl,rfl,rfl⟩
 | cons a t =>
  by_cases h:a=45
  ·subst h
   exact ⟨t,true,by simp,by simp,by simp⟩
  ·refine ⟨a::t,false,?_,?_,by simp⟩
   ·rw [if_neg];simp [List.isPrefixOf];exact fun h'=>h h'.symm
   ·simp [List.isPrefixOf];exact fun h'=>h h'.symm
theorem dec_zero_iff {n:Nat}:Lib.decDigits n=[48]↔n=0:=by
 constructor
 ·intro h
  have:=congrArg dval h
  rw [dval_decDigits] at this
  exact this.trans (by decide)
 ·rintro rfl
  rw [Lib.decDigits_one (by omega)];decide
theorem dec_one_iff {n:Nat}:Lib.decDigits n=[49]↔n=1:=by
 constructor
 ·intro h
  have:=congrArg dval h
  rw [dval_decDigits] at this
  exact this.trans (by decide)
 ·rintro rfl
  rw [Lib.decDigits_one (by omega)];decide
theorem natInt_eq {l r:List UInt8} {n:Nat} (h:natInt l=some (n,r)):l=Lib.decDigits n++r∧n < 100000000:=by
 unfold natInt at h
 split at h
 ·cases h
 ·rename_i hc
  injection h with h
  injection h with h1 h2
  have hl:=nDig_le l
  have hd:Lib.decDigits (dval (l.take (nDig l)))=l.take (nDig l):=by
   refine dec_of_digits _ (fun c hc=>?_) (fun e=>?_) (fun h3 h4=>?_)
   ·obtain ⟨j,hj,rfl⟩:=List.getElem_of_mem hc
    rw [List.length_take] at hj
    rw [List.getElem_take]
    exact isDig_of_lt l j (by omega) (by omega)
   ·have:=congrArg List.length e
    rw [List.length_take] at this
    have e0:([]:List UInt8).length=0:=rfl
    omega
   ·rw [List.length_take] at h3
    refine hc (.inr (.inr ⟨by omega,?_⟩))
    rw [List.head?_take,if_neg (by omega)] at h4
    exact h4
  subst h1;subst h2
  refine ⟨?_,?_⟩
  ·rw [hd,List.take_append_drop]
  ·exact Nat.lt_of_lt_of_le (dval_take_lt l (nDig l) (Nat.le_refl _)) (Nat.pow_le_pow_right (n:=10) (by omega) (show nDig l≤8 by omega))
theorem text_num {l:List UInt8} {a b:Nat} (m:Bool) (hb:1≤b) (hg:Nat.gcd a b=1) (hm:m=true→a≠0) (hl:l=(if m then [45] else [])++(Lib.decDigits a++if b=1 then [] else 47::Lib.decDigits b)) (ha:a < 10 ^ 300) (hb3:b < 10 ^ 300):∃ q:Rat,l=ratText q∧Sz 300 q:=by
 obtain ⟨q,h1,h2,h3⟩:=text_is m hb hg hm
 exact ⟨q,by rw [hl,h3],by rw [h1];exact ha,by rw [h2];exact hb3⟩
theorem natOf_num {l:List UInt8} {n:Int} {d:Nat} (h:natOf l=some (n,d)):∃ q:Rat,l=ratText q∧Sz 300 q:=by
 have p8:(100000000:Nat)≤10 ^ 300:=Nat.le_trans (show 100000000≤10 ^ 8 by omega) (pow10_le (a:=8) (b:=300) (by decide))
 obtain ⟨m,own,hm,hown,hl⟩:∃ (m:Bool) (own:List UInt8),m=decide (l.head?=some 45)∧own=(if l.head?=some 45 then l.tail else l)∧l=(if m then [45] else [])++own:=by
  by_cases h45:l.head?=some 45
  ·refine ⟨true,l.tail,by simp [h45],by rw [if_pos h45],?_⟩
   cases l with
   | nil=>cases h45
   | cons a t=>injection h45 with h45;subst h45;rfl
  ·exact ⟨false,l,by simp [h45],by rw [if_neg h45],rfl⟩
 rw [natOf_own hown] at h
 cases hn:natInt own with
 | none=>rw [hn] at h;cases h
 | some p =>
  obtain ⟨a,rest⟩:=p
  rw [hn] at h
  obtain ⟨e1,b1⟩:=natInt_eq hn
  simp only at h
  split at h
  ·cases h
  ·rename_i hz
   have hmz:m=true→a≠0:=fun hmt h0=>hz ⟨by rw [hm] at hmt;simpa using hmt,h0⟩
   split at h
   ·rename_i hr
    subst hr
    exact text_num (a:=a) (b:=1) m (by omega) (Nat.gcd_one_right _) hmz (by rw [hl,e1,if_pos rfl]) (by omega) (by omega)
   ·split at h
    ·cases h
    ·rename_i hr0 hr1
     have hrest:rest=47::rest.tail:=by
      cases rest with
      | nil=>exact absurd rfl hr0
      | cons c t =>
       have:c=47:=by simpa using hr1
       subst this;rfl
     cases hd:natInt rest.tail with
     | none=>rw [hd] at h;cases h
     | some p2 =>
      obtain ⟨y,r⟩:=p2
      rw [hd] at h
      simp only at h
      obtain ⟨e2,b2⟩:=natInt_eq hd
      split at h
      ·cases h
      ·rename_i hc
       have hr:r=[]:=Decidable.byContradiction fun h'=>hc (.inl h')
       have hy2:¬ y < 2:=fun h'=>hc (.inr (.inl h'))
       have hg:Nat.gcd a y=1:=Decidable.byContradiction fun h'=>hc (.inr (.inr h'))
       subst hr
       rw [List.append_nil] at e2
       exact text_num (a:=a) (b:=y) m (by omega) hg hmz (by rw [hl,e1,if_neg (show ¬ y=1 by omega),hrest,e2]) (by omega) (by omega)
end Go.Proofs.YtbbclfbpllbbbaaGreatDoor
namespace Go.Proofs.YtbbclfbpllbbbaaGreatDoor
open Go.RowKit
def Form (s:ByteArray) (m:Bool) (x y:Nat):Prop:=s.data.toList=(if m then [45] else [])++(Lib.decDigits x++if y=1 then [] else 47::Lib.decDigits y)∧1≤y∧(m=true→x≠0)
def RetForm (s:ByteArray) (w:World) (e:Ending) (w':World):Prop:=(e=.returned (.tuple #[.agg #[.string ⟨#[]⟩,.string ⟨#[]⟩],.bool false])∨∃ (m:Bool) (x y:Nat) (a b:ByteArray),Hid (Form s m x y)∧Hid (a.data.toList=(if m then [45] else [])++Lib.decDigits x)∧Hid (b.data.toList=Lib.decDigits y)∧e=.returned (.tuple #[.agg #[.string a,.string b],.bool true]))∧Below w.heap.size w w'
theorem cut_gen (s:ByteArray) (w:World) (hG:Glo w) (hl:s.size≤1000):Calls Tryz.prog 144 #[.string s] w (RetForm s w):=by
 have HG:=Lib.hid hG
 obtain ⟨A,B,c,hc,hs⟩:=cut_spec s.data.toList
 obtain ⟨O,n,ht,hp,hA⟩:=minus_spec A
 have hAl:A.length+(if c then B.length+1 else 0)=s.size:=by
  have e:s.size=s.data.toList.length:=rfl
  rw [e]
  conv=>rhs;rw [hs]
  cases c<;>simp
 have hOl:O.length≤A.length:=by rw [hA];simp
 have HC:=Lib.hid hc
 have HS:=Lib.hid hs
 have HT:=Lib.hid ht
 have HP:=Lib.hid hp
 have HA:=Lib.hid hA
 clear hG hc hs ht hp hA
 go_enter Tryz.func144,Tryz.ntmps144
 go_wp2_with fail
 refine (cut_any _ _ _ (HG.out.below qbl) (by omega) HC.out).mono ?_
 rintro e w1 ⟨a,b,ha,hb,rfl,n1,rfl⟩
 have hx:=HT.out
 have hy:=HP.out
 rw [← ha.out] at hx hy
 have HX:=Lib.hid hx
 have HY:=Lib.hid hy
 have hasz:a.size=A.length:=by rw [← ha.out];rfl
 have hbsz:b.size=B.length:=by rw [← hb.out];rfl
 clear hx hy
 go_wp2_with fail
 refine (cutPrefix_any a _ _ HX.out HY.out).mono ?_
 rintro e w2 ⟨o,ho,rfl,rfl⟩
 have hosz:o.size=O.length:=by rw [← ho.out];rfl
 obtain ⟨k,hk⟩:∃ k,digs o.data.toList=k:=⟨_,rfl⟩
 have HDO:=Lib.hid (fun W=>digits_any o W (by unfold maxLen;cases c<;>simp at hAl<;>omega))
 rw [hk] at HDO
 have HK:=Lib.hid hk
 have hkle:k≤o.size:=by rw [← hk];exact digs_le _
 clear hk
 go_wp2_with fail
 refine (HDO.out _).mono ?_
 rintro e w3 ⟨rfl,n2,rfl⟩
 by_cases hk0:k=0
 ·subst hk0
  go_wp2_with fail
  refine bodyPost_ret (v:=.tuple #[.agg #[.string ⟨#[]⟩,.string ⟨#[]⟩],.bool false]) (by simp [results,Tryz.results144,go_sem]) rfl ⟨.inl rfl,qbl⟩
 ·have hkz:((k:Int) == 0)=false:=by rw [beq_eq_false_iff_ne];omega
  by_cases hkl:k < o.size
  ·have hkI:(k:Int) < (o.size:Int):=by omega
   go_wp2_with fail
   refine bodyPost_ret (v:=.tuple #[.agg #[.string ⟨#[]⟩,.string ⟨#[]⟩],.bool false]) (by simp [results,Tryz.results144,go_sem]) rfl ⟨.inl rfl,qbl⟩
  ·have hkI:¬ (k:Int) < (o.size:Int):=by omega
   have HO:Hid (o.data.toList=Lib.decDigits (dval o.data.toList)):=Lib.hid (dec_of_digs (by rw [HK.out];exact hk0) (by rw [HK.out];exact hkl)).symm
   obtain ⟨z,hz⟩:∃ z,(o.toList == [48])=z:=⟨_,rfl⟩
   have HZ:=Lib.hid hz
   have hAD:Hid (a.data.toList=(if n then [45] else [])++Lib.decDigits (dval o.data.toList)):=Lib.hid (by rw [← HO.out,ho.out,ha.out];exact HA.out)
   by_cases hnz:n=true∧z=true
   ·obtain ⟨rfl,rfl⟩:=hnz
    go_wp2_with fail
    refine bodyPost_ret (v:=.tuple #[.agg #[.string ⟨#[]⟩,.string ⟨#[]⟩],.bool false]) (by simp [results,Tryz.results144,go_sem]) rfl ⟨.inl rfl,qbl⟩
   ·have HM:Hid (n=true→dval o.data.toList≠0):=Lib.hid (fun hn h0=>hnz ⟨hn,by rw [← HZ.out,beq_iff_eq,Lib.toList_data,HO.out,h0];exact dec_zero_iff.2 rfl⟩)
    have hcase:(n=false)∨(n=true∧z=false):=by
     cases n
     ·exact .inl rfl
     ·cases z
      ·exact .inr ⟨rfl,rfl⟩
      ·exact absurd ⟨rfl,rfl⟩ hnz
    clear hnz
    cases c
    ·have HF:Hid (Form s n (dval o.data.toList) 1):=Lib.hid ⟨by rw [HS.out,if_neg (by decide),List.append_nil,if_pos rfl,List.append_nil,← hAD.out,ha.out],by omega,HM.out⟩
     rcases hcase with rfl|⟨rfl,rfl⟩
     ·go_wp2_with fail
      refine bodyPost_ret (v:=.tuple #[.agg #[.string a,.string ⟨#[49]⟩],.bool true]) (by simp [results,Tryz.results144,go_sem]) rfl ⟨.inr ⟨_,_,_,a,⟨#[49]⟩,HF,hAD,Lib.hid one_digits.symm,rfl⟩,qbl⟩
     ·go_wp2_with fail
      refine bodyPost_ret (v:=.tuple #[.agg #[.string a,.string ⟨#[49]⟩],.bool true]) (by simp [results,Tryz.results144,go_sem]) rfl ⟨.inr ⟨_,_,_,a,⟨#[49]⟩,HF,hAD,Lib.hid one_digits.symm,rfl⟩,qbl⟩
    ·have HDB:=Lib.hid (fun W=>digits_any b W (by unfold maxLen;simp at hAl;omega))
     obtain ⟨k2,hk2⟩:∃ k,digs b.data.toList=k:=⟨_,rfl⟩
     rw [hk2] at HDB
     have HK2:=Lib.hid hk2
     have hkle2:k2≤b.size:=by rw [← hk2];exact digs_le _
     have hbl:b.size≤1000:=by simp at hAl;omega
     obtain ⟨z0,hz0⟩:∃ z,(b.toList == [48])=z:=⟨_,rfl⟩
     obtain ⟨z1,hz1⟩:∃ z,(b.toList == [49])=z:=⟨_,rfl⟩
     have HZ0:=Lib.hid hz0
     have HZ1:=Lib.hid hz1
     have HF:Hid (k2≠0→¬ k2 < b.size→z0=false→z1=false→Form s n (dval o.data.toList) (dval b.data.toList)∧b.data.toList=Lib.decDigits (dval b.data.toList)):=Lib.hid (fun h1 h2 h3 h4=>by
      have hB:b.data.toList=Lib.decDigits (dval b.data.toList):=(dec_of_digs (by rw [HK2.out];exact h1) (by rw [HK2.out];exact h2)).symm
      have n0:dval b.data.toList≠0:=fun h0=>by
       have:=HZ0.out
       rw [h3,Lib.toList_data,hB,h0,dec_zero_iff.2 rfl] at this
       exact absurd this (by decide)
      have n1:dval b.data.toList≠1:=fun h0=>by
       have:=HZ1.out
       rw [h4,Lib.toList_data,hB,h0,dec_one_iff.2 rfl] at this
       exact absurd this (by decide)
      exact ⟨⟨by rw [HS.out,if_pos rfl,if_neg n1,← hB,hb.out,← List.append_assoc,← hAD.out,ha.out],by omega,HM.out⟩,hB⟩)
     clear hk2
     rcases hcase with rfl|⟨rfl,rfl⟩
     ·go_wp2_with fail
      refine (HDB.out _).mono ?_
      rintro e w4 ⟨rfl,n3,rfl⟩
      by_cases hk0:k2=0
      ·subst hk0
       go_wp2_with fail
       refine bodyPost_ret (v:=.tuple #[.agg #[.string ⟨#[]⟩,.string ⟨#[]⟩],.bool false]) (by simp [results,Tryz.results144,go_sem]) rfl ⟨.inl rfl,qbl⟩
      ·have hkz2:((k2:Int) == 0)=false:=by rw [beq_eq_false_iff_ne];omega
       by_cases hkl2:k2 < b.size
       ·have hkI2:(k2:Int) < (b.size:Int):=by omega
        go_wp2_with fail
        refine bodyPost_ret (v:=.tuple #[.agg #[.string ⟨#[]⟩,.string ⟨#[]⟩],.bool false]) (by simp [results,Tryz.results144,go_sem]) rfl ⟨.inl rfl,qbl⟩
       ·have hkI2:¬ (k2:Int) < (b.size:Int):=by omega
        cases z0
        ·cases z1
         ·obtain ⟨hF,hB⟩:=HF.out hk0 hkl2 rfl rfl
          have HFF:=Lib.hid hF
          have HBB:=Lib.hid hB
          clear hF hB
          go_wp2_with fail
          refine bodyPost_ret (v:=.tuple #[.agg #[.string a,.string b],.bool true]) (by simp [results,Tryz.results144,go_sem]) rfl ⟨.inr ⟨_,_,_,a,b,HFF,hAD,HBB,rfl⟩,qbl⟩
         ·go_wp2_with fail
          refine bodyPost_ret (v:=.tuple #[.agg #[.string ⟨#[]⟩,.string ⟨#[]⟩],.bool false]) (by simp [results,Tryz.results144,go_sem]) rfl ⟨.inl rfl,qbl⟩
        ·go_wp2_with fail
         refine bodyPost_ret (v:=.tuple #[.agg #[.string ⟨#[]⟩,.string ⟨#[]⟩],.bool false]) (by simp [results,Tryz.results144,go_sem]) rfl ⟨.inl rfl,qbl⟩
     ·go_wp2_with fail
      refine (HDB.out _).mono ?_
      rintro e w4 ⟨rfl,n3,rfl⟩
      by_cases hk0:k2=0
      ·subst hk0
       go_wp2_with fail
       refine bodyPost_ret (v:=.tuple #[.agg #[.string ⟨#[]⟩,.string ⟨#[]⟩],.bool false]) (by simp [results,Tryz.results144,go_sem]) rfl ⟨.inl rfl,qbl⟩
      ·have hkz2:((k2:Int) == 0)=false:=by rw [beq_eq_false_iff_ne];omega
       by_cases hkl2:k2 < b.size
       ·have hkI2:(k2:Int) < (b.size:Int):=by omega
        go_wp2_with fail
        refine bodyPost_ret (v:=.tuple #[.agg #[.string ⟨#[]⟩,.string ⟨#[]⟩],.bool false]) (by simp [results,Tryz.results144,go_sem]) rfl ⟨.inl rfl,qbl⟩
       ·have hkI2:¬ (k2:Int) < (b.size:Int):=by omega
        cases z0
        ·cases z1
         ·obtain ⟨hF,hB⟩:=HF.out hk0 hkl2 rfl rfl
          have HFF:=Lib.hid hF
          have HBB:=Lib.hid hB
          clear hF hB
          go_wp2_with fail
          refine bodyPost_ret (v:=.tuple #[.agg #[.string a,.string b],.bool true]) (by simp [results,Tryz.results144,go_sem]) rfl ⟨.inr ⟨_,_,_,a,b,HFF,hAD,HBB,rfl⟩,qbl⟩
         ·go_wp2_with fail
          refine bodyPost_ret (v:=.tuple #[.agg #[.string ⟨#[]⟩,.string ⟨#[]⟩],.bool false]) (by simp [results,Tryz.results144,go_sem]) rfl ⟨.inl rfl,qbl⟩
        ·go_wp2_with fail
         refine bodyPost_ret (v:=.tuple #[.agg #[.string ⟨#[]⟩,.string ⟨#[]⟩],.bool false]) (by simp [results,Tryz.results144,go_sem]) rfl ⟨.inl rfl,qbl⟩
end Go.Proofs.YtbbclfbpllbbbaaGreatDoor
namespace Go.Proofs.YtbbclfbpllbbbaaGreatDoor
open Go.RowKit
theorem trim_sign {m:Bool} {x:Nat}:Lib.trimPrefix ((if m then [45] else [])++Lib.decDigits x) [45]=Lib.decDigits x:=by
 cases m
 ·have h:=decDigits_no45 x []
  rw [List.append_nil] at h
  rw [if_neg (by decide),List.nil_append]
  unfold Lib.trimPrefix Lib.hasPrefix
  cases hd:Lib.decDigits x with
  | nil=>rfl
  | cons a t =>
   rw [hd] at h
   rw [if_neg]
   simp [List.isPrefixOf]
   exact fun h'=>h (by rw [← h'];rfl)
 ·rw [if_pos rfl]
  simp [Lib.trimPrefix,Lib.hasPrefix,List.isPrefixOf]
theorem signed_itoa {m:Bool} {x:Nat} (h:m=true→x≠0):(if m then [45] else [])++Lib.decDigits x=Lib.itoa (if m then -(x:Int) else x):=by
 cases m
 ·rw [if_neg (by decide),if_neg (by decide),itoa_natCast];rfl
 ·have:=h rfl
  rcases itoa_cases (-(x:Int)) with ⟨h1,h2⟩|⟨h1,h2⟩
  ·rw [if_pos rfl,if_pos rfl,h2,Int.natAbs_neg];rfl
  ·omega
def RetBad (s:ByteArray) (w:World) (e:Ending) (w':World):Prop:=∃ c:Int,e=.returned (.tuple #[.agg #[.string ⟨#[]⟩,.string ⟨#[]⟩],.int .i64 c])∧c≠0∧(s.size≤20→c=11)∧Below w.heap.size w w'
theorem read_bad (s:ByteArray) (w:World) (hG:Glo w) (hs:s.size≤1000) (hno:¬ IsNum s) :
  Calls Tryz.prog 86 #[.string s] w (RetBad s w):=by
 have hn:natOf s.data.toList=none:=by
  cases h:natOf s.data.toList with
  | none=>rfl
  | some p=>exact absurd (natOf_num h) hno
 have HN:=Lib.hid hn
 have HNO:=Lib.hid hno
 have HG:=Lib.hid hG
 clear hn hno hG
 go_enter Tryz.func86,Tryz.ntmps86
 go_wp2_with fail
 refine (cut_gen s _ (HG.out.below qbl) hs).mono ?_
 rintro e w1 ⟨hcase,hB1⟩
 have c0:w1.cell? ⟨w.heap.size,0,none⟩=some (.string ⟨#[]⟩):=keep hB1 (by simp [go_sem])
 have c1:w1.cell? ⟨w.heap.size,1,none⟩=some (.string ⟨#[]⟩):=keep hB1 (by simp [go_sem])
 have g0:w1.frozen? ⟨w.heap.size,0,none⟩=false:=keepf hB1 (v:=.string ⟨#[]⟩) (by simp [go_sem]) (by simp [go_sem])
 have g1:w1.frozen? ⟨w.heap.size,1,none⟩=false:=keepf hB1 (v:=.string ⟨#[]⟩) (by simp [go_sem]) (by simp [go_sem])
 have z1:=lt_of_cell c0
 rcases hcase with rfl|⟨m,x,y,a,b,hF,ha,hb,rfl⟩
 ·go_wp2_with fail
  refine bodyPost_ret (v:=.tuple #[.agg #[.string ⟨#[]⟩,.string ⟨#[]⟩],.int .i64 11]) (by simp [results,Tryz.results86,go_sem,c0,c1,z1]) rfl ⟨11,rfl,by omega,fun _=>rfl,qbl⟩
 ·have hal:a.size+b.size≤s.size+1:=by
   have h1:s.size=s.data.toList.length:=rfl
   have h2:a.size=a.data.toList.length:=rfl
   have h3:b.size=b.data.toList.length:=rfl
   rw [h1,h2,h3,ha.out,hb.out,hF.out.1]
   by_cases hy:y=1
   ·subst hy;rw [if_pos rfl,one_digits];simp
   ·rw [if_neg hy];simp;omega
  go_wp2_with fail
  refine (nativeOf_none s _ (by omega) HN.out).mono ?_
  rintro e w2 ⟨rfl,hB2⟩
  have c0':w2.cell? ⟨w.heap.size,0,none⟩=some (.string ⟨#[]⟩):=keep hB2 (keep (bw4 (bw0 _ _) _) c0)
  have c1':w2.cell? ⟨w.heap.size,1,none⟩=some (.string ⟨#[]⟩):=keep hB2 (keep (bw4 (bw0 _ _) _) c1)
  have g0':w2.frozen? ⟨w.heap.size,0,none⟩=false:=keepf hB2 (keep (bw4 (bw0 _ _) _) c0) (keepf (bw4 (bw0 _ _) _) c0 g0)
  have g1':w2.frozen? ⟨w.heap.size,1,none⟩=false:=keepf hB2 (keep (bw4 (bw0 _ _) _) c1) (keepf (bw4 (bw0 _ _) _) c1 g1)
  have c2:w2.cell? ⟨w1.heap.size,0,none⟩=some (.string a):=keep hB2 (by simp [go_sem])
  have c3:w2.cell? ⟨w1.heap.size,1,none⟩=some (.string b):=keep hB2 (by simp [go_sem])
  have z2:=lt_of_cell c0'
  have z3:=lt_of_cell c2
  have hx:Lib.trimPrefix a.data.toList [45]=Lib.decDigits x:=by rw [ha.out];exact trim_sign
  have HX:=Lib.hid hx
  have hb2:Below w.heap.size w w2:=qbl
  clear hx c0 c1 g0 g1 hB1 hB2
  go_wp2_with fail
  refine (trimPrefix_any a _ _ HX.out).mono ?_
  rintro e w3 ⟨o,ho,rfl,rfl⟩
  have hoa:o.size≤a.size:=by
   have h2:a.size=a.data.toList.length:=rfl
   have h3:o.size=o.data.toList.length:=rfl
   rw [h2,h3,ha.out,ho.out];simp
  by_cases h300:o.size≤300∧b.size≤300
  ·obtain ⟨hoI,hbI⟩:=h300
   have hxl:x < 10 ^ 300:=pow_le_of_lt (k:=300) (by rw [← ho.out];exact hoI)
   have hyl:y < 10 ^ 300:=pow_le_of_lt (k:=300) (by rw [← hb.out];exact hbI)
   have hy1:y≠1:=fun h=>HNO.out (text_num (a:=x) (b:=1) m (by omega) (Nat.gcd_one_right _) hF.out.2.2 (by have:=hF.out.1;rwa [h] at this) hxl (by omega))
   have hg1:Nat.gcd x y≠1:=fun h=>HNO.out (text_num m hF.out.2.1 h hF.out.2.2 hF.out.1 hxl hyl)
   have hbb:(b.toList == [49])=false:=by
    rw [Lib.toList_data,hb.out]
    have:Lib.decDigits y≠[49]:=fun h=>hy1 (dec_one_iff.1 h)
    simpa using this
   obtain ⟨z,hz⟩:∃ z:Int,(if m then -(x:Int) else (x:Int))=z:=⟨_,rfl⟩
   have hzx:z.natAbs=x:=by rw [← hz];cases m<;>simp
   have HAZ:Hid (a.data.toList=Lib.itoa z):=Lib.hid (by rw [ha.out,← hz];exact signed_itoa hF.out.2.2)
   have HBZ:Hid (b.data.toList=Lib.itoa (y:Int)):=Lib.hid (by rw [hb.out,itoa_natCast])
   have FZ:Fit z:=fit_of_lt (by rw [hzx];exact hxl)
   have FY:Fit (y:Int):=fit_of_lt (by rw [Int.natAbs_natCast];exact hyl)
   have hgz:Int.gcd z (y:Int)=Nat.gcd x y:=by unfold Int.gcd;rw [hzx];rfl
   have HGZ:=Lib.hid hgz
   have FG:Fit ((Nat.gcd x y:Nat):Int):=fit_of_lt (by rw [Int.natAbs_natCast];exact Nat.lt_of_le_of_lt (Nat.gcd_le_right x (Nat.lt_of_lt_of_le Nat.zero_lt_one hF.out.2.1)) hyl)
   have HG1:=Lib.hid hg1
   clear hg1 hy1 hz hzx hgz hxl hyl
   go_wp2_with fail
   refine (IGcd_ok z y a b _ (HG.out.below qbl) HAZ.out FZ HBZ.out FY).mono ?_
   intro e w4 hrx
   rw [HGZ.out] at hrx
   obtain ⟨g,hg,rfl,hB4⟩:=hrx.1 FG
   have hgg:(g.toList == [49])=false:=by
    refine ne_of_list hg (itoa_ne1 ?_)
    have:=HG1.out;omega
   have d0:=keep hB4 (keep (bw4 (bw0 w2.heap.size w2) _) c0')
   have d1:=keep hB4 (keep (bw4 (bw0 w2.heap.size w2) _) c1')
   have f0:=keepf hB4 (keep (bw4 (bw0 w2.heap.size w2) _) c0') (keepf (bw4 (bw0 w2.heap.size w2) _) c0' g0')
   have f1:=keepf hB4 (keep (bw4 (bw0 w2.heap.size w2) _) c1') (keepf (bw4 (bw0 w2.heap.size w2) _) c1' g1')
   have y2:=lt_of_cell d0
   have hb4:Below w.heap.size w w4:=qbl
   clear hg hrx hB4 c0' c1' c2 c3 g0' g1' z2 z3
   go_wp2_with fail
   refine bodyPost_ret (v:=.tuple #[.agg #[.string ⟨#[]⟩,.string ⟨#[]⟩],.int .i64 11]) (by simp [results,Tryz.results86,go_sem,d0,d1,y2]) rfl ⟨11,rfl,by omega,fun _=>rfl,qbl⟩
  ·have hcase:(300:Int) < (o.size:Int)∨((o.size:Int)≤300∧(300:Int) < (b.size:Int)):=by omega
   clear h300
   rcases hcase with h3|⟨h3,h3b⟩
   ·go_wp2_with fail
    refine bodyPost_ret (v:=.tuple #[.agg #[.string ⟨#[]⟩,.string ⟨#[]⟩],.int .i64 4]) (by simp [results,Tryz.results86,go_sem,c0',c1',z2]) rfl ⟨4,rfl,by omega,fun h=>by omega,qbl⟩
   ·go_wp2_with fail
    refine bodyPost_ret (v:=.tuple #[.agg #[.string ⟨#[]⟩,.string ⟨#[]⟩],.int .i64 4]) (by simp [results,Tryz.results86,go_sem,c0',c1',z2]) rfl ⟨4,rfl,by omega,fun h=>by omega,qbl⟩
theorem RCheck_bad (s:ByteArray) (w:World) (hG:Glo w) (hs:s.size≤1000) (hno:¬ IsNum s) :
  Calls Tryz.prog 40 #[.string s] w (fun e w'=>∃ c:Int,e=.returned (.int .i64 c)∧c≠0∧(s.size≤20→c=11)∧Below w.heap.size w w'):=by
 have H:=Lib.hid (fun W (hB:Below w.heap.size w W)=>read_bad s W (hG.below hB) hs hno)
 clear hG hno
 go_enter Tryz.func40,Tryz.ntmps40
 go_wp2_with fail
 refine (H.out _ qbl).mono ?_
 rintro e w1 ⟨c,rfl,h1,h2,hB1⟩
 have hb1:Below w.heap.size w w1:=qbl
 go_wp2_with fail
 go_ret
 exact ⟨c,rfl,h1,h2,qbl⟩
end Go.Proofs.YtbbclfbpllbbbaaGreatDoor
namespace Go.Proofs.YtbbclfbpllbbbaaGreatDoor.R6
open Go.RowKit Go.Shelf
end Go.Proofs.YtbbclfbpllbbbaaGreatDoor.R6
namespace Go.Proofs.YtbbclfbpllbbbaaGreatDoor.R6
open Go.RowKit Go.Shelf
def IsBigG (b:Bool) (w:World) (v:Value) (n:Int) (k:Nat):Prop:=∃ (a:Option Addr) (l:List Int) (c:Nat),v=.agg #[.bool b,.slice a l.length c]∧IsInts w (.slice a l.length c) l∧Num l n∧l.length≤k
theorem IsBigG.below {b:Bool} {w w':World} {v:Value} {n:Int} {k:Nat} (h:IsBigG b w v n k) (hB:Below w.heap.size w w'):IsBigG b w' v n k:=by
 obtain ⟨a,l,c,e,hi,hn,hl⟩:=h
 exact ⟨a,l,c,e,hi.below hB,hn,hl⟩
def IsBigS (w:World) (v:Value) (x:Int) (k:Nat):Prop:=IsBigG (decide (x < 0)) w v (x.natAbs:Int) k
end Go.Proofs.YtbbclfbpllbbbaaGreatDoor.R6
namespace Go.Proofs.YtbbclfbpllbbbaaGreatDoor.R6
open Go.RowKit Go.Shelf
end Go.Proofs.YtbbclfbpllbbbaaGreatDoor.R6
namespace Go.Proofs.YtbbclfbpllbbbaaGreatDoor.R6
open Go.RowKit Go.Shelf
def RetBigV (b:Bool) (n:Int) (k:Nat) (w:World) (e:Ending) (w':World):Prop:=∃ v,e=.returned v∧((n=0∧IsBigG false w' v n k)∨(n≠0∧IsBigG b w' v n k))∧Below w.heap.size w w'
end Go.Proofs.YtbbclfbpllbbbaaGreatDoor.R6
namespace Go.Proofs.YtbbclfbpllbbbaaGreatDoor.R6
open Go.RowKit Go.Shelf
theorem IsBigS.below {w w':World} {v:Value} {x:Int} {k:Nat} (h:IsBigS w v x k) (hB:Below w.heap.size w w'):IsBigS w' v x k:=IsBigG.below h hB
theorem IsBigS.len {w:World} {v:Value} {x:Int} {k j:Nat} (h:IsBigS w v x k) (hx:x.natAbs < 10 ^ (6 * j)):IsBigS w v x j:=by
 obtain ⟨a,l,c,e,hi,hn,hl⟩:=h
 exact ⟨a,l,c,e,hi,hn,hn.length_le (by rw [pw_six];omega)⟩
theorem IsBigS.of {w:World} {v:Value} {x n:Int} {b:Bool} {k:Nat} (h:IsBigG b w v n k) (hb:b=decide (x < 0)) (hn:n=(x.natAbs:Int)):IsBigS w v x k:=by
 subst hb;subst hn;exact h
def RetBig6 (x:Int) (k:Nat) (w:World) (e:Ending) (w':World):Prop:=∃ v,e=.returned v∧IsBigS w' v x k∧Below w.heap.size w w'
theorem RetBigV.s {b:Bool} {n x:Int} {k:Nat} {w:World} {e:Ending} {w':World} (h:RetBigV b n k w e w') (hn:n=(x.natAbs:Int)) (hb:x≠0→b=decide (x < 0)):RetBig6 x k w e w':=by
 obtain ⟨v,he,hc,hB⟩:=h
 refine ⟨v,he,?_,hB⟩
 rcases hc with ⟨h0,hg⟩|⟨h0,hg⟩
 ·obtain rfl:x=0:=by omega
  exact IsBigS.of hg rfl hn
 ·exact IsBigS.of hg (hb (by omega)) hn
end Go.Proofs.YtbbclfbpllbbbaaGreatDoor.R6
namespace Go.Proofs.YtbbclfbpllbbbaaGreatDoor.R6
open Go.RowKit Go.Shelf
theorem IsBigG.row {b b':Bool} {w:World} {a:Option Addr} {n c:Nat} {x:Int} {k:Nat} (h:IsBigG b w (.agg #[.bool b',.slice a n c]) x k):∃ l,l.length=n∧IsInts w (.slice a n c) l∧Num l x∧n≤k:=by
 obtain ⟨a',l,c',e,hi,hn,hl⟩:=h
 injection e with e
 simp at e
 obtain ⟨_,rfl,rfl,rfl⟩:=e
 exact ⟨l,rfl,hi,hn,hl⟩
end Go.Proofs.YtbbclfbpllbbbaaGreatDoor.R6
namespace Go.Proofs.YtbbclfbpllbbbaaGreatDoor
open Go.RowKit
def DigL (s:ByteArray) (n:Nat):Prop:=s.data.toList=Lib.decDigits n∧s.size≤1000
theorem DigL.sz {s:ByteArray} {n:Nat} (h:DigL s n):1≤s.size∧s.size≤1000:=by
 refine ⟨?_,h.2⟩
 rw [sizeL,h.1]
 exact List.length_pos_iff.2 (decDigits_ne n)
theorem DigL.lt {s:ByteArray} {n k:Nat} (h:DigL s n) (hk:s.size≤k):n < 10 ^ k:=pow_le_of_lt (by rw [← h.1];exact hk)
end Go.Proofs.YtbbclfbpllbbbaaGreatDoor
namespace Go.Proofs.YtbbclfbpllbbbaaGreatDoor
open Go.RowKit
noncomputable def numC (s:ByteArray):Int:=open Classical in if IsNum s then 0 else 11
end Go.Proofs.YtbbclfbpllbbbaaGreatDoor
namespace Go.Proofs.YtbbclfbpllbbbaaGreatDoor
open Go.RowKit
theorem RCheck_code (s:ByteArray) (w:World) (hG:Glo w) (hs:s.size≤1000):Calls Tryz.prog 40 #[.string s] w (fun e w'=>∃ c:Int,e=.returned (.int .i64 c)∧Hid ((c=0↔IsNum s)∧(s.size≤20→c=numC s))∧Below w.heap.size w w'):=by
 by_cases h:IsNum s
 ·obtain ⟨q,h1,h2⟩:=id h
  refine (RCheck_ok s w hG h1 h2 (by omega)).mono ?_
  rintro e w' ⟨rfl,hB⟩
  exact ⟨0,rfl,Lib.hid ⟨⟨fun _=>h,fun _=>rfl⟩,fun _=>by unfold numC;rw [if_pos h]⟩,hB⟩
 ·refine (RCheck_bad s w hG hs h).mono ?_
  rintro e w' ⟨c,rfl,h1,h2,hB⟩
  refine ⟨c,rfl,Lib.hid ⟨⟨fun h'=>absurd h' h1,fun h'=>absurd h' h⟩,fun h20=>?_⟩,hB⟩
  unfold numC
  rw [if_neg h]
  exact h2 h20
end Go.Proofs.YtbbclfbpllbbbaaGreatDoor
