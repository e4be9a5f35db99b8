/- Joined texts: WGAddK, WVisit, WSort1, WMake, OpsPlain, RebPlain, WVisitK, Drawn5. -/
import Derived.Test.YthihcjgmlbnapaaGreatDoorJ12
import Derived.Test.YthihcjgmlbnapaaGreatDoorJ10
import Derived.Test.YthihcjgmlbnapaaGreatDoorJ11
import Derived.Test.YthihcjgmlbnapaaGreatDoorJ04
set_option maxRecDepth 100000
set_option linter.unusedVariables false
set_option linter.unusedSimpArgs false
set_option maxHeartbeats 12800000
namespace Go.Proofs.YthihcjgmlbnapaaGreatDoor
open Go.RowKit Go.Shelf
attribute [local go_sem] Oper.semAt_some
def clsL (K:Terms):TTexts:=K.map fun x=>(numS x.1,decS x.2)
theorem clsL_length (K:Terms):(clsL K).length=K.length:=by simp [clsL]
theorem clsL_get {K:Terms} {k:Nat} (h:k < K.length):tt (clsL K) k=(numS (tq K k).1,decS (tq K k).2):=by
 simp [tt,tq,clsL,h]
theorem clsL_append (K:Terms) (x:Rat) (n:Nat):clsL (K++[(x,n)])=clsL K++[(numS x,decS n)]:=by simp [clsL]
theorem clsL_set (K:Terms) (k:Nat) (x:Rat) (n:Nat):clsL (K.set k (x,n))=(clsL K).set k (numS x,decS n):=by simp [clsL,List.map_set]
def GK (W:World) (b:Nat) (L:TTexts):Prop:=∃ v,BoxT1 74 W b v∧W.ownsRow (b+1) 78 2 v L.length (termCells L)
theorem GK.below {w w':World} {b:Nat} {L:TTexts} (h:GK w b L) (hB:Below w.heap.size w w'):GK w' b L:=by
 obtain ⟨v,h1,h2⟩:=h
 exact ⟨v,h1.below hB,rowKp h2 fun k hk _=>hB.block k hk⟩
theorem GK.of_none {W:World} {b:Nat} (h:GNone W b):GK W b []:=⟨_,h,World.ownsRow_nil _ _ _ _⟩
theorem rowKo {W W':World} {B:Nat} {e:TypeId} {size n:Nat} {v:Value} {xs:List Value} (h:W.ownsRow B e size v n xs) (hk:∀ k,v.ownBlock=some k→W'.heap[k]?=W.heap[k]?):W'.ownsRow B e size v n xs:=by
 refine ⟨h.1,?_⟩
 rcases h.2 with h1|⟨g',cap',cur,h1,h2,h3,h4⟩
 ·exact .inl h1
 ·exact .inr ⟨g',cap',cur,h1,h2,(hk g' (by rw [h1];rfl)).trans h3,h4⟩
theorem row_at {W:World} {B k:Nat} {L:TTexts} {sa:Option Addr} {sc:Nat} {t:TypeId} (h:W.ownsRow B t 2 (.slice sa L.length sc) L.length (termCells L)) (hk:k < L.length) :
  ∃ g,sa=some ⟨g,0,none⟩∧B≤g∧g < W.heap.size∧W.cell? ⟨g,k * 2,none⟩=some (.string (tt L k).1)∧W.cell? ⟨g,k * 2+1,none⟩=some (.string (tt L k).2):=by
 obtain ⟨a,cap,e,_,hc⟩:=isTerms_row h
 obtain ⟨b,off,e2,hcell⟩:=hc (fun h0=>by rw [h0] at hk;simp at hk)
 rcases h.2 with ⟨e3,h3⟩|⟨g,cap',cur,e3,h3,h4,_⟩
 ·omega
 ·cases e3
  cases e
  cases e2
  obtain ⟨d0,d1⟩:=hcell k hk
  rw [Nat.zero_add] at d0 d1
  exact ⟨_,rfl,h3,(Array.getElem?_eq_some_iff.1 h4).1,d0,d1⟩
theorem row_thereK {W:World} {B g cap n k:Nat} {xs:List Value} {t:TypeId} (h:W.ownsRow B t 2 (.slice (some ⟨g,0,none⟩) n cap) n xs) (hk:k < n):W.there g (k * 2) 2:=by
 obtain ⟨cur,h3,hB,hc,hm,hs,ht⟩:=row_block h
 intro i hi
 have h2:k * 2+i < cur.size:=by omega
 refine ⟨?_,?_⟩
 ·simp [World.cell?,h3,h2]
 ·simp [World.frozen?,h3]
theorem termCells_set:∀ (L:TTexts) (k:Nat) (x y:ByteArray),k < L.length→termCells (L.set k (x,y))=((termCells L).set (k * 2) (.string x)).set (k * 2+1) (.string y)
 | [],k,x,y,h=>by simp at h
 | z::L,0,x,y,_=>by simp [termCells,termCell]
 | z::L,k+1,x,y,h=>by
  have ih:=termCells_set L k x y (by simpa using h)
  have e:∀ (z:ByteArray × ByteArray) (L:TTexts),termCells (z::L)=.string z.1::.string z.2::termCells L:=fun _ _=>rfl
  rw [bw9,e,e,ih,show (k+1) * 2=k * 2+1+1 by omega,bw9,bw9,bw9,bw9]
theorem row_setK {W:World} {B g cap k:Nat} {L:TTexts} {x y:ByteArray} {t:TypeId} (h:W.ownsRow B t 2 (.slice (some ⟨g,0,none⟩) L.length cap) L.length (termCells L)) (hk:k < L.length) :
  (W.setCells g (k * 2) [.string x,.string y]).ownsRow B t 2 (.slice (some ⟨g,0,none⟩) L.length cap) L.length (termCells (L.set k (x,y)))∧SameBut g W (W.setCells g (k * 2) [.string x,.string y]):=by
 obtain ⟨cur,h3,hB,hc,hm,hs,ht⟩:=row_block h
 have e1:=heap_setCell_at (o:=k * 2) (v:=.string x) h3
 have e2:=heap_setCell_at (o:=k * 2+1) (v:=.string y) e1
 refine ⟨⟨by rw [termCells_length,List.length_set],.inr ⟨g,cap,_,rfl,hB,e2,hc,hm,by simp [hs],?_⟩⟩,(sameBut_setCell _ _ _ _).trans (sameBut_setCell _ _ _ _)⟩
 rw [termCells_set L k x y hk,← ht]
 simp only [Array.toList_setIfInBounds,List.take_set]
def RetAd (b:Nat) (K:Terms) (x:Rat) (n:Nat) (w:World) (e:Ending) (w':World):Prop:=∃ c:Int,e=.returned (.int .i64 c)∧(c=0∨c=4)∧Hid (c=0→∃ K',GK w' b (clsL K')∧KOk K'∧K'.length≤K.length+1∧Near0 (fun P=>valT K' P - (valT K P+x * xr P n))∧(KAp K→NrmN n→KAp K'))∧Below b w w'
theorem BoxT1.belowB {t:TypeId} {w w':World} {b B:Nat} {x:Value} (h:BoxT1 t w b x) (hB:Below B w w') (hb:b < B):BoxT1 t w' b x:=(hB.block b hb).trans h
theorem BoxT2.grown {t:TypeId} {w w':World} {b:Nat} {x y:Value} {r:Option Nat} (h:BoxT2 t w b x y) (hg:w.grownBy w' r) (hr:r≠some b):BoxT2 t w' b x y:=(hg.block b h.lt (fun e=>hr e.symm)).trans h
theorem BoxT1.grown {t:TypeId} {w w':World} {b:Nat} {x:Value} {r:Option Nat} (h:BoxT1 t w b x) (hg:w.grownBy w' r) (hr:r≠some b):BoxT1 t w' b x:=(hg.block b h.lt (fun e=>hr e.symm)).trans h
theorem xr_term (K:Terms) (x:Rat) (n:Nat):Near0 (fun P=>valT (K++[(x,n)]) P - (valT K P+x * xr P n)):=Near0.zero fun P=>by
 rw [valT_append]
 simp only [valT]
 grind
theorem gaddK_ok (b:Nat) (K:Terms) (x:Rat) (n:Nat) (w:World) (hG:Glo w) (hx:GK w b (clsL K)) (hK:KOk K) (hl:K.length≤12) (hxz:Sz 300 x) (h1:1≤n) (hn:n < 10 ^ 90) (h12:12≤b) :
  Calls Tryz.prog 26 #[.pointer (some ⟨b,0,none⟩),.agg #[.string (numS x),.string (decS n)]] w (RetAd b K x n w):=by
 obtain ⟨i0,hi0,hz0,hz1,hz2⟩:=info_parts Tryz.infoClass3
 obtain ⟨v,hx,hrow⟩:=hx
 obtain ⟨sa,sc,rfl,hown⟩:=rowT_shape hrow
 have HL:=Lib.hid (clsL_length K)
 have HT:=Lib.hid (fun k (h:k < K.length)=>clsL_get h)
 have HKO:=Lib.hid hK
 have HXZ:=Lib.hid hxz
 have HN:=Lib.hid hn
 have HRA:=Lib.hid (fun (l:Nat) (t:ByteArray) W hG ht hl h0=>Ratio_ok n l (decS n) t W hG (decS_list n) ht hn hl h0)
 have HCM:=Lib.hid (fun (l:Nat) (t:ByteArray) W hG ht hl=>RCompare_ok (k:=90) (m:=90) (p:=((n:Int):Rat)) (q:=((l:Int):Rat)) (decS n) t W hG (by rw [text_natR];exact decS_list n) (sz_natR hn (by decide)) (by rw [text_natR];exact ht) (sz_natR hl (by decide)) (by decide))
 have HPL:=Lib.hid (fun (cl:Rat) (l:Nat) W hG hS hl1 hl hb=>cplusK_ok cl x l n W hG hS hxz hl1 hl hn hb)
 have HPH:=Lib.hid (fun (cl:Rat) (l:Nat) W hG hS hl hb=>cplusK_ok x cl n l W hG hxz hS h1 hn hl hb)
 have HEND:=Lib.hid (xr_term K x n)
 have HKA:=Lib.hid (hK.append ⟨hxz,h1,hn⟩:KOk (K++[(x,n)]))
 have HCA:=Lib.hid (clsL_append K x n)
 have HG:=Lib.hid hG
 have hlt:b < w.heap.size:=BoxT1.lt hx
 have H1:=Lib.hid h1
 have hlenK:(clsL K).length=K.length:=clsL_length K
 obtain ⟨L,hL⟩:∃ L,clsL K=L:=⟨_,rfl⟩
 rw [hL] at hrow hx hown
 have hcK:∀ k,k < K.length→tt L k=(numS (tq K k).1,decS (tq K k).2):=fun k hk=>by rw [← hL];exact clsL_get hk
 have HCK:=Lib.hid hcK
 have HLL:=Lib.hid (by rw [← hL];exact hlenK:L.length=K.length)
 have HSET:=Lib.hid (fun k (q:Rat) (m:Nat)=>(by rw [← hL];exact clsL_set K k q m:clsL (K.set k (q,m))=L.set k (numS q,decS m)))
 rw [hL] at HCA
 have hl12:L.length≤12:=by rw [HLL.out];exact hl
 obtain ⟨sx,hsx⟩:∃ s,numS x=s:=⟨_,rfl⟩
 obtain ⟨sn,hsn⟩:∃ s,decS n=s:=⟨_,rfl⟩
 rw [hsx] at HCA HPL HPH ⊢
 rw [hsn] at HCA HPL HPH HRA HCM ⊢
 have hb0:Below w.heap.size w (w.alloc (.cells #[.string sx,.string sn] 49)):=bw4 (bw0 _ _) _
 have x0:BoxT1 74 (w.alloc (.cells #[.string sx,.string sn] 49)) b (.slice sa L.length sc):=hx.below hb0
 have c0:=BoxT1.c0 x0
 have y0:BoxT2 49 (w.alloc (.cells #[.string sx,.string sn] 49)) w.heap.size (.string sx) (.string sn):=BoxT2.new rfl
 have r0:=rowKp hrow (W':=(w.alloc (.cells #[.string sx,.string sn] 49))) fun k hk _=>hb0.block k hk
 have hg0:∀ k,(Value.slice sa L.length sc).ownBlock=some k→b+1≤k∧k < w.heap.size:=fun k hk=>⟨hown k hk,by
  rcases hrow.2 with ⟨e,_⟩|⟨g,cap',cur,e,_,h4,_⟩
  ·injection e with e1;subst e1;cases hk
  ·cases e;cases hk;exact (Array.getElem?_eq_some_iff.1 h4).1⟩
 have HG0:=Lib.hid hg0
 clear hx hrow hG hxz h1 hn hK hl hlenK hL hcK hown hg0 hsx hsn
 go_enter Tryz.func26,Tryz.ntmps26
 go_wp2_with fail
 have hz:w.heap.size < (w.alloc (.cells #[.string sx,.string sn] 49)).heap.size:=by simp
 generalize w.alloc (.cells #[.string sx,.string sn] 49)=W0 at *
 go_loopw [19] (fun i wr=>∃ k:Nat,k≤L.length∧i=.int .i64 k∧Hid (∀ i,i < k→ratioB n (tq K i).2=false)∧Below W0.heap.size W0 wr) (fun i _=>L.length - (intOf i).toNat)
 case atStart=>exact ⟨0,by omega,rfl,Lib.hid (fun i h=>absurd h (by omega)),bw0 _ _⟩
 case round =>
  obtain ⟨k,hk,rfl,hAP,hB0⟩:=hrel
  have hb1:=below_trans' hb0 hB0
  replace x0:=x0.below hB0
  replace y0:=y0.below hB0
  replace r0:=rowKp r0 (fun k hk _=>hB0.block k hk)
  have hzr:=hB0.size
  have hzw:w.heap.size < wr.heap.size:=by omega
  have e0:=y0.c0
  have e1:=y0.c1
  clear c0
  by_cases hlt2:k < L.length
  ·obtain ⟨g,rfl,hgb,hgl,d0,d1⟩:=row_at r0 hlt2
   have hkK:k < K.length:=by rw [← HLL.out];exact hlt2
   rw [HCK.out k hkK] at d0 d1
   dsimp only at d0 d1
   have hltI:(k:Int) < (L.length:Int):=by omega
   have hk1:IntKind.i64.wrap ((k:Int)+1)=((k+1:Nat):Int):=IntWalk.i64_in _ (by omega)
   obtain ⟨o1,o2,o3⟩:=HKO.out _ (tq_mem hkK)
   have HNL:=Lib.hid (fun hb=>near_low (x:=x) (n:=n) hkK hb H1.out o2)
   have HNH:=Lib.hid (fun hb=>near_high (x:=x) (n:=n) hkK hb H1.out o2)
   have HSE:=Lib.hid (fun q m (h:Sz 300 q∧1≤m∧m < 10 ^ 90)=>(HKO.out.set h:KOk (K.set k (q,m))))
   have HFA:=Lib.hid (fun (hb:ratioB n (tq K k).2=false)=>(fun i hi=>by rcases Nat.lt_succ_iff_lt_or_eq.1 hi with h|h;exact hAP.out i h;rw [h];exact hb:∀ i,i < k+1→ratioB n (tq K i).2=false))
   have HTR:=Lib.hid (fun (hb:ratioB n (tq K k).2=true) (q:Rat) (ha:KAp K) (hm:NrmN n)=>(ha.set hkK hm hb:KAp (K.set k (q,n))))
   have HTL:=Lib.hid (fun (q:Rat) (ha:KAp K)=>(by have h1:=ha.1 _ (tq_mem hkK);exact ha.set hkK h1 (ratio_refl h1.1):KAp (K.set k (q,(tq K k).2))))
   clear hAP
   obtain ⟨cl,hcl⟩:∃ c,(tq K k).1=c:=⟨_,rfl⟩
   obtain ⟨l,hll⟩:∃ l,(tq K k).2=l:=⟨_,rfl⟩
   rw [hcl] at o1 d0
   rw [hll] at o2 o3 d1
   rw [hcl,hll] at HNL HNH
   rw [hll] at HFA HTR HTL
   replace HRA:=Lib.hid (fun W hG=>HRA.out l (decS l) W hG (decS_list l) o3 o2)
   replace HCM:=Lib.hid (fun W hG=>HCM.out l (decS l) W hG (decS_list l) o3)
   replace HPL:=Lib.hid (fun W hG hb=>HPL.out cl l W hG o1 o2 o3 hb)
   replace HPH:=Lib.hid (fun W hG hb=>HPH.out cl l W hG o1 o3 (by rw [ratioB_comm];exact hb))
   have HO:=Lib.hid (⟨o2,o3⟩:1≤l∧l < 10 ^ 90)
   obtain ⟨sl,hsl⟩:∃ s,decS l=s:=⟨_,rfl⟩
   obtain ⟨sc2,hsc⟩:∃ s,numS cl=s:=⟨_,rfl⟩
   rw [hsl] at d1 HRA HCM HPL HPH
   rw [hsc] at d0 HPL HPH
   have HSL:=Lib.hid hsl
   clear hcl hll o1 o2 o3 hsl hsc hkK
   generalize hRB:ratioB n l=B at *
   go_wp2_with fail
   clear e0 e1
   have hB1:Below wr.heap.size wr (wr.alloc (.cells #[.string sc2,.string sl] 78)):=bw4 (bw0 _ _) _
   have hb2:=below_trans' hb1 hB1
   have y1:BoxT2 78 (wr.alloc (.cells #[.string sc2,.string sl] 78)) wr.heap.size (.string sc2) (.string sl):=BoxT2.new rfl
   have hB01:=below_trans' hB0 hB1
   replace y0:=y0.below hB1
   replace x0:=x0.below hB1
   replace r0:=rowKp r0 (fun k hk _=>hB1.block k hk)
   have hz1':wr.heap.size < (wr.alloc (.cells #[.string sc2,.string sl] 78)).heap.size:=by simp
   generalize wr.alloc (.cells #[.string sc2,.string sl] 78)=W1 at *
   obtain ⟨yc,hyc⟩:∃ y,wr.heap.size=y:=⟨_,rfl⟩
   rw [hyc] at y1 ⊢
   refine (HRA.out _ (HG.out.below hb2)).mono ?_
   rintro e w1 ⟨r,rfl,hr,hB2⟩
   have hb3:=below_trans' hb2 hB2
   have hB02:=below_trans' hB01 hB2
   have hz2':=hB2.size
   replace y0:=y0.below hB2
   replace y1:=y1.below hB2
   replace x0:=x0.below hB2
   replace r0:=rowKp r0 (fun k hk _=>hB2.block k hk)
   clear hr hB1 hB2 hb2 HRA d0 d1 hB01
   cases B with
   | false =>
    clear HPL HPH HCM x0 r0 y0 y1 HTR HTL
    replace HFA:=Lib.hid (HFA.out rfl)
    go_wp2_with fail
    go_roundw
    case rel=>exact ⟨k+1,by omega,by go_num,HFA,hB02⟩
    case measure=>simp [intOf];omega
   | true =>
    replace HTR:=Lib.hid (HTR.out rfl)
    clear HFA
    have f0:=y0.c0
    have f1:=y0.c1
    have g1:=y1.c1
    have hlA:yc < w1.heap.size:=by omega
    go_wp2_with fail
    have hB3:Below w1.heap.size w1 (w1.alloc (.cells #[.string sx,.string sn] 78)):=bw4 (bw0 _ _) _
    have hb4:=below_trans' hb3 hB3
    have y2:BoxT2 78 (w1.alloc (.cells #[.string sx,.string sn] 78)) w1.heap.size (.string sx) (.string sn):=BoxT2.new rfl
    replace y1:=y1.below hB3
    replace x0:=x0.below hB3
    replace r0:=rowKp r0 (fun k hk _=>hB3.block k hk)
    have hz3:w1.heap.size < (w1.alloc (.cells #[.string sx,.string sn] 78)).heap.size:=by simp
    generalize w1.alloc (.cells #[.string sx,.string sn] 78)=W2 at *
    obtain ⟨yd,hyd⟩:∃ y,w1.heap.size=y:=⟨_,rfl⟩
    rw [hyd] at y2 ⊢
    refine (HCM.out _ (HG.out.below hb4)).mono ?_
    rintro e w3 ⟨rfl,hB4⟩
    have hb5:=below_trans' hb4 hB4
    have hz4:=hB4.size
    replace y1:=y1.below hB4
    replace y2:=y2.below hB4
    replace x0:=x0.below hB4
    replace r0:=rowKp r0 (fun k hk _=>hB4.block k hk)
    have l0:=y1.c0
    have l1:=y1.c1
    have l2:=y2.c0
    have l3:=y2.c1
    have hci:decide (Lib.compareInt ((((n:Int):Rat)).num * ((((l:Int):Rat)).den:Int)) ((((l:Int):Rat)).num * ((((n:Int):Rat)).den:Int)) < 0)=decide (n < l):=by
     have e1:((((n:Int):Rat)).num * ((((l:Int):Rat)).den:Int))=(n:Int):=by show (n:Int) * ((1:Nat):Int)=_;omega
     have e2:((((l:Int):Rat)).num * ((((n:Int):Rat)).den:Int))=(l:Int):=by show (l:Int) * ((1:Nat):Int)=_;omega
     rw [e1,e2]
     unfold Lib.compareInt
     by_cases h:n < l
     ·rw [if_pos (by omega)];simp [h]
     ·rw [if_neg (by omega)];split<;>simp [h]
    generalize Lib.compareInt ((((n:Int):Rat)).num * ((((l:Int):Rat)).den:Int)) ((((l:Int):Rat)).num * ((((n:Int):Rat)).den:Int))=ci at *
    clear hB3 hB4 hb4 HCM f0 f1 g1 y0
    by_cases hnl:n < l
    ·rw [decide_eq_true hnl] at hci
     go_wp2_with (refine wpList_store2 rfl _ _ _ rfl y1 Tryz.infoClass rfl rfl rfl rfl ?_;intro Wy hS hy1;have hb6:=hS.below hb5 (by omega);have y3:=y2.but hS (by omega);have x1:=BoxT1.but x0 hS (by omega);have r1:=rowKo (W':=Wy) r0 (fun j hj=>hS.block j (by have:=(HG0.out j hj).2;omega));have hzy:=hS.size;clear hS;refine wpList_store2 rfl _ _ _ rfl y3 Tryz.infoClass rfl rfl rfl rfl ?_;intro Wz hS hy2;have hb7:=hS.below hb6 (by omega);have y4:=hy1.but hS (by omega);have x2:=BoxT1.but x1 hS (by omega);have r2:=rowKo (W':=Wz) r1 (fun j hj=>hS.block j (by have:=(HG0.out j hj).2;omega));have hzz:=hS.size;clear hS l0 l1 l2 l3 x0 r0 y1 y2 y3 hb5 hb6 hy1 r1 x1;have m0:=y4.c0;have m1:=y4.c1;have m2:=hy2.c0;have m3:=hy2.c1)
     refine (HPH.out _ (HG.out.below hb7) trivial).mono ?_
     rintro e w5 ⟨rx,ry,cd,rfl,hc4,hcd,hB5⟩
     replace hc4:=Lib.hid hc4
     have hb8:=below_trans' hb7 hB5
     have hz5:=hB5.size
     have x0:=x2.below hB5
     have r0:=rowKp r2 (fun k hk _=>hB5.block k hk)
     have HFIN:Hid (cd=0→KOk (K.set k (x+cl * ratioQ l n,n))∧clsL (K.set k (x+cl * ratioQ l n,n))=L.set k (rx,ry)∧Near0 (fun P=>valT (K.set k (x+cl * ratioQ l n,n)) P - (valT K P+x * xr P n))∧(KAp K→NrmN n→KAp (K.set k (x+cl * ratioQ l n,n)))):=Lib.hid (fun h0=>by
      obtain ⟨p1,p2,p3⟩:=hcd.out h0
      exact ⟨HSE.out _ _ ⟨p3,H1.out,HN.out⟩,by rw [HSET.out,p1,p2],HNH.out trivial,HTR.out _⟩)
     clear hcd hB5 HPH HPL m0 m1 m2 m3 x2 r2 y4 hy2 hb7 hRB
     go_wp2_with fail
     have hB6:Below w5.heap.size w5 (w5.alloc (.cells #[.string rx,.string ry] 78)):=bw4 (bw0 _ _) _
     have hb9:=below_trans' hb8 hB6
     have y3:BoxT2 78 (w5.alloc (.cells #[.string rx,.string ry] 78)) w5.heap.size (.string rx) (.string ry):=BoxT2.new rfl
     replace x0:=x0.below hB6
     replace r0:=rowKp r0 (fun k hk _=>hB6.block k hk)
     have hz6:w5.heap.size < (w5.alloc (.cells #[.string rx,.string ry] 78)).heap.size:=by simp
     generalize w5.alloc (.cells #[.string rx,.string ry] 78)=W3 at *
     clear hB6 hb8
     have hR:Below W3.heap.size W3 W3.drew:=(bw0 _ _).drew
     refine region_S (F:=[7]) (R:=(fun w'=>Below W3.heap.size W3 w')) 8 #[false,false,false,false,false,false,false,false] (by kernel_rfl) (by kernel_rfl) (by kernel_rfl) (fun _ _ _ _ _ h=>h) (fun Q' hQ' hN=>?_)
     generalize W3.drew=wd at *
     refine tkS 60 (i:=0) (v:=?_) (fw:=5) hQ' hR rfl ?_ ?_;rotate_left;(focus (intro wq hRq;have e0:=(x0.below hRq).c0;have e1:=(y3.below hRq).c0;have e2:=(y3.below hRq).c1;go_simp;(try with_reducible rfl)));(try simp only [Act.put,bw7,bw8,bw9])
     refine tkS 61 (i:=1) (v:=?_) (fw:=5) hQ' hR rfl ?_ ?_;rotate_left;(focus (intro wq hRq;have e0:=(x0.below hRq).c0;have e1:=(y3.below hRq).c0;have e2:=(y3.below hRq).c1;go_simp;(try with_reducible rfl)));(try simp only [Act.put,bw7,bw8,bw9])
     refine tkS 62 (i:=2) (v:=?_) (fw:=5) hQ' hR rfl ?_ ?_;rotate_left;(focus (intro wq hRq;have e0:=(x0.below hRq).c0;have e1:=(y3.below hRq).c0;have e2:=(y3.below hRq).c1;go_simp;(try with_reducible rfl)));(try simp only [Act.put,bw7,bw8,bw9])
     refine tkS 63 (i:=3) (v:=?_) (fw:=5) hQ' hR rfl ?_ ?_;rotate_left;(focus (intro wq hRq;have e0:=(x0.below hRq).c0;have e1:=(y3.below hRq).c0;have e2:=(y3.below hRq).c1;go_simp;(try with_reducible rfl)));(try simp only [Act.put,bw7,bw8,bw9])
     refine tkS 64 (i:=4) (v:=?_) (fw:=5) hQ' hR rfl ?_ ?_;rotate_left;(focus (intro wq hRq;have e0:=(x0.below hRq).c0;have e1:=(y3.below hRq).c0;have e2:=(y3.below hRq).c1;go_simp;(try with_reducible rfl)));(try simp only [Act.put,bw7,bw8,bw9])
     refine tkS 65 (i:=5) (v:=?_) (fw:=5) hQ' hR rfl ?_ ?_;rotate_left;(focus (intro wq hRq;have e0:=(x0.below hRq).c0;have e1:=(y3.below hRq).c0;have e2:=(y3.below hRq).c1;go_simp;(try with_reducible rfl)));(try simp only [Act.put,bw7,bw8,bw9])
     refine tkS 66 (i:=6) (v:=?_) (fw:=5) hQ' hR rfl ?_ ?_;rotate_left;(focus (intro wq hRq;have e0:=(x0.below hRq).c0;have e1:=(y3.below hRq).c0;have e2:=(y3.below hRq).c1;go_simp;(try with_reducible rfl)));(try simp only [Act.put,bw7,bw8,bw9])
     refine wpAnyS_ready (rs:=[7]) (by kernel_rfl) (by simp) ?_
     refine stepF (i:=7) rfl (by kernel_rfl) (by kernel_rfl) (fun K hK=>?_) (AllReadyS.nil)
     have rr:=rowKp (W':=_) r0 (fun k hk _=>hR.block k hk)
     refine wp_store_mid 78 _ _ rfl g (k * 2) #[.string rx,.string ry] rfl rfl (row_thereK rr hlt2) Tryz.infoClass (by simp [Value.oneCell']) ?_
     obtain ⟨hrow2,hS⟩:=row_setK (x:=rx) (y:=ry) rr hlt2
     have hbx:=BoxT1.but (x0.below hR) hS (by omega)
     have hBx:=hS.below ((hb9.mono (show b≤w.heap.size by omega)).trans (hR.mono (by omega))) (show b≤g by omega)
     clear hS rr
     generalize World.setCells _ g (k * 2) _=wx at *
     refine hK.out _ _ ?_
     clear hK K
     (try simp only [Act.put,bw7,bw8,bw9])
     refine wpAnyS_done (by kernel_rfl) ?_ _
     refine hN.out _ _ ?_
     go_wp2_with fail
     go_ret
     refine ⟨cd,rfl,hc4.out,Lib.hid (fun h0=>?_),hBx⟩
     obtain ⟨p1,p2,p3⟩:=HFIN.out h0
     refine ⟨K.set k _,⟨.slice (some ⟨g,0,none⟩) L.length sc,?_,?_⟩,p1,by rw [List.length_set];omega,p3⟩
     ·exact hbx
     ·rw [p2,List.length_set];exact hrow2
    ·rw [decide_eq_false hnl] at hci
     go_wp2_with fail
     refine (HPL.out _ (HG.out.below hb5) trivial).mono ?_
     rintro e w5 ⟨rx,ry,cd,rfl,hc4,hcd,hB5⟩
     replace hc4:=Lib.hid hc4
     have hb8:=below_trans' hb5 hB5
     have hz5:=hB5.size
     replace x0:=x0.below hB5
     replace r0:=rowKp r0 (fun k hk _=>hB5.block k hk)
     have HFIN:Hid (cd=0→KOk (K.set k (cl+x * ratioQ n l,l))∧clsL (K.set k (cl+x * ratioQ n l,l))=L.set k (rx,ry)∧Near0 (fun P=>valT (K.set k (cl+x * ratioQ n l,l)) P - (valT K P+x * xr P n))∧(KAp K→NrmN n→KAp (K.set k (cl+x * ratioQ n l,l)))):=Lib.hid (fun h0=>by
      obtain ⟨p1,p2,p3⟩:=hcd.out h0
      exact ⟨HSE.out _ _ ⟨p3,HO.out.1,HO.out.2⟩,by rw [HSET.out,p1,p2,HSL.out],HNL.out trivial,fun ha _=>HTL.out _ ha⟩)
     clear hcd hB5 HPH HPL l0 l1 l2 l3 y1 y2 hb5 hRB
     go_wp2_with fail
     have hB6:Below w5.heap.size w5 (w5.alloc (.cells #[.string rx,.string ry] 78)):=bw4 (bw0 _ _) _
     have hb9:=below_trans' hb8 hB6
     have y3:BoxT2 78 (w5.alloc (.cells #[.string rx,.string ry] 78)) w5.heap.size (.string rx) (.string ry):=BoxT2.new rfl
     replace x0:=x0.below hB6
     replace r0:=rowKp r0 (fun k hk _=>hB6.block k hk)
     have hz6:w5.heap.size < (w5.alloc (.cells #[.string rx,.string ry] 78)).heap.size:=by simp
     generalize w5.alloc (.cells #[.string rx,.string ry] 78)=W3 at *
     clear hB6 hb8
     have hR:Below W3.heap.size W3 W3.drew:=(bw0 _ _).drew
     refine region_S (F:=[7]) (R:=(fun w'=>Below W3.heap.size W3 w')) 8 #[false,false,false,false,false,false,false,false] (by kernel_rfl) (by kernel_rfl) (by kernel_rfl) (fun _ _ _ _ _ h=>h) (fun Q' hQ' hN=>?_)
     generalize W3.drew=wd at *
     refine tkS 60 (i:=0) (v:=?_) (fw:=5) hQ' hR rfl ?_ ?_;rotate_left;(focus (intro wq hRq;have e0:=(x0.below hRq).c0;have e1:=(y3.below hRq).c0;have e2:=(y3.below hRq).c1;go_simp;(try with_reducible rfl)));(try simp only [Act.put,bw7,bw8,bw9])
     refine tkS 61 (i:=1) (v:=?_) (fw:=5) hQ' hR rfl ?_ ?_;rotate_left;(focus (intro wq hRq;have e0:=(x0.below hRq).c0;have e1:=(y3.below hRq).c0;have e2:=(y3.below hRq).c1;go_simp;(try with_reducible rfl)));(try simp only [Act.put,bw7,bw8,bw9])
     refine tkS 62 (i:=2) (v:=?_) (fw:=5) hQ' hR rfl ?_ ?_;rotate_left;(focus (intro wq hRq;have e0:=(x0.below hRq).c0;have e1:=(y3.below hRq).c0;have e2:=(y3.below hRq).c1;go_simp;(try with_reducible rfl)));(try simp only [Act.put,bw7,bw8,bw9])
     refine tkS 63 (i:=3) (v:=?_) (fw:=5) hQ' hR rfl ?_ ?_;rotate_left;(focus (intro wq hRq;have e0:=(x0.below hRq).c0;have e1:=(y3.below hRq).c0;have e2:=(y3.below hRq).c1;go_simp;(try with_reducible rfl)));(try simp only [Act.put,bw7,bw8,bw9])
     refine tkS 64 (i:=4) (v:=?_) (fw:=5) hQ' hR rfl ?_ ?_;rotate_left;(focus (intro wq hRq;have e0:=(x0.below hRq).c0;have e1:=(y3.below hRq).c0;have e2:=(y3.below hRq).c1;go_simp;(try with_reducible rfl)));(try simp only [Act.put,bw7,bw8,bw9])
     refine tkS 65 (i:=5) (v:=?_) (fw:=5) hQ' hR rfl ?_ ?_;rotate_left;(focus (intro wq hRq;have e0:=(x0.below hRq).c0;have e1:=(y3.below hRq).c0;have e2:=(y3.below hRq).c1;go_simp;(try with_reducible rfl)));(try simp only [Act.put,bw7,bw8,bw9])
     refine tkS 66 (i:=6) (v:=?_) (fw:=5) hQ' hR rfl ?_ ?_;rotate_left;(focus (intro wq hRq;have e0:=(x0.below hRq).c0;have e1:=(y3.below hRq).c0;have e2:=(y3.below hRq).c1;go_simp;(try with_reducible rfl)));(try simp only [Act.put,bw7,bw8,bw9])
     refine wpAnyS_ready (rs:=[7]) (by kernel_rfl) (by simp) ?_
     refine stepF (i:=7) rfl (by kernel_rfl) (by kernel_rfl) (fun K hK=>?_) (AllReadyS.nil)
     have rr:=rowKp (W':=_) r0 (fun k hk _=>hR.block k hk)
     refine wp_store_mid 78 _ _ rfl g (k * 2) #[.string rx,.string ry] rfl rfl (row_thereK rr hlt2) Tryz.infoClass (by simp [Value.oneCell']) ?_
     obtain ⟨hrow2,hS⟩:=row_setK (x:=rx) (y:=ry) rr hlt2
     have hbx:=BoxT1.but (x0.below hR) hS (by omega)
     have hBx:=hS.below ((hb9.mono (show b≤w.heap.size by omega)).trans (hR.mono (by omega))) (show b≤g by omega)
     clear hS rr
     generalize World.setCells _ g (k * 2) _=wx at *
     refine hK.out _ _ ?_
     clear hK K
     (try simp only [Act.put,bw7,bw8,bw9])
     refine wpAnyS_done (by kernel_rfl) ?_ _
     refine hN.out _ _ ?_
     go_wp2_with fail
     go_ret
     refine ⟨cd,rfl,hc4.out,Lib.hid (fun h0=>?_),hBx⟩
     obtain ⟨p1,p2,p3⟩:=HFIN.out h0
     refine ⟨K.set k _,⟨.slice (some ⟨g,0,none⟩) L.length sc,?_,?_⟩,p1,by rw [List.length_set];omega,p3⟩
     ·exact hbx
     ·rw [p2,List.length_set];exact hrow2
  ·have e:k=L.length:=by omega
   subst e
   have HAE:=Lib.hid (fun (ha:KAp K) (hm:NrmN n)=>(ha.append hm (by rw [← HLL.out];exact hAP.out):KAp (K++[(x,n)])))
   clear HPL HPH HCM HRA hB0 hAP
   go_wp2_with fail
   have hD:Below wr.heap.size wr wr.drew:=(bw0 _ _).drew
   have r1:=rowKp r0 (fun k hk _=>hD.block k hk)
   have hR:Below (b+1) wr wr.drew∧wr.heap.size≤wr.drew.heap.size∧BoxT2 49 wr.drew w.heap.size (.string sx) (.string sn):=⟨hD.mono (by omega),hD.size,y0.below hD⟩
   clear hD r0
   refine region_S (F:=[14]) (R:=(fun w'=>Below (b+1) wr w'∧wr.heap.size≤w'.heap.size∧BoxT2 49 w' w.heap.size (.string sx) (.string sn))) 15 #[false,false,false,false,false,false,false,false,false,false,false,false,false,false,false] (by kernel_rfl) (by kernel_rfl) (by kernel_rfl) (fun _ _ _ _ _ h=>h) (fun Q' hQ' hN=>?_)
   generalize wr.drew=wd at *
   refine tkS 69 (i:=0) (v:=?_) (fw:=5) hQ' hR rfl ?_ ?_;rotate_left;(focus (intro wq hRq;have e0:=(x0.belowB hRq.1 (by omega)).c0;have e1:=hRq.2.2.c0;have e2:=hRq.2.2.c1;go_simp;(try with_reducible rfl)));(try simp only [Act.put,bw7,bw8,bw9])
   refine tkS 70 (i:=1) (v:=?_) (fw:=5) hQ' hR rfl ?_ ?_;rotate_left;(focus (intro wq hRq;have e0:=(x0.belowB hRq.1 (by omega)).c0;have e1:=hRq.2.2.c0;have e2:=hRq.2.2.c1;go_simp;(try with_reducible rfl)));(try simp only [Act.put,bw7,bw8,bw9])
   refine tkS 71 (i:=2) (v:=?_) (fw:=5) hQ' hR rfl ?_ ?_;rotate_left;(focus (intro wq hRq;have e0:=(x0.belowB hRq.1 (by omega)).c0;have e1:=hRq.2.2.c0;have e2:=hRq.2.2.c1;go_simp;(try with_reducible rfl)));(try simp only [Act.put,bw7,bw8,bw9])
   refine tkS 72 (i:=3) (v:=?_) (fw:=5) hQ' hR rfl ?_ ?_;rotate_left;(focus (intro wq hRq;have e0:=(x0.belowB hRq.1 (by omega)).c0;have e1:=hRq.2.2.c0;have e2:=hRq.2.2.c1;go_simp;(try with_reducible rfl)));(try simp only [Act.put,bw7,bw8,bw9])
   refine tkS 73 (i:=4) (v:=?_) (fw:=5) hQ' hR rfl ?_ ?_;rotate_left;(focus (intro wq hRq;have e0:=(x0.belowB hRq.1 (by omega)).c0;have e1:=hRq.2.2.c0;have e2:=hRq.2.2.c1;go_simp;(try with_reducible rfl)));(try simp only [Act.put,bw7,bw8,bw9])
   refine tkS 74 (i:=5) (v:=?_) (fw:=5) hQ' hR rfl ?_ ?_;rotate_left;(focus (intro wq hRq;have e0:=(x0.belowB hRq.1 (by omega)).c0;have e1:=hRq.2.2.c0;have e2:=hRq.2.2.c1;go_simp;(try with_reducible rfl)));(try simp only [Act.put,bw7,bw8,bw9])
   refine tkS 75 (i:=6) (v:=?_) (fw:=5) hQ' hR rfl ?_ ?_;rotate_left;(focus (intro wq hRq;have e0:=(x0.belowB hRq.1 (by omega)).c0;have e1:=hRq.2.2.c0;have e2:=hRq.2.2.c1;go_simp;(try with_reducible rfl)));(try simp only [Act.put,bw7,bw8,bw9])
   refine tkS 76 (i:=7) (v:=?_) (fw:=5) hQ' hR rfl ?_ ?_;rotate_left;(focus (intro wq hRq;have e0:=(x0.belowB hRq.1 (by omega)).c0;have e1:=hRq.2.2.c0;have e2:=hRq.2.2.c1;go_simp;(try with_reducible rfl)));(try simp only [Act.put,bw7,bw8,bw9])
   refine tkS 77 (i:=8) (v:=?_) (fw:=5) hQ' hR rfl ?_ ?_;rotate_left;(focus (intro wq hRq;have e0:=(x0.belowB hRq.1 (by omega)).c0;have e1:=hRq.2.2.c0;have e2:=hRq.2.2.c1;go_simp;(try with_reducible rfl)));(try simp only [Act.put,bw7,bw8,bw9])
   refine tkS 78 (i:=9) (v:=?_) (fw:=5) hQ' hR rfl ?_ ?_;rotate_left;(focus (intro wq hRq;have e0:=(x0.belowB hRq.1 (by omega)).c0;have e1:=hRq.2.2.c0;have e2:=hRq.2.2.c1;go_simp;(try with_reducible rfl)));(try simp only [Act.put,bw7,bw8,bw9])
   refine wpAnyS_ready (rs:=[10]) (by kernel_rfl) (by simp) ?_
   refine stepR (i:=10) rfl (by kernel_rfl) (fun K hK=>?_) (AllReadyS.nil)
   go_simp
   refine after_alloc (fun wb hB' hvb hzb=>?_)
   have r2:=rowKp r1 (fun k hk _=>hB'.block k hk)
   have hR2:=(⟨hR.1.trans (hB'.mono (by have:=hR.2.1;have:=hb1.size;omega)),Nat.le_trans hR.2.1 hB'.size,hR.2.2.below hB'⟩:Below (b+1) wr wb∧wr.heap.size≤wb.heap.size∧BoxT2 49 wb w.heap.size (.string sx) (.string sn))
   replace hR:=hR2
   have hbl:BoxT2 78 wb wd.heap.size (.string sx) (.string sn):=hvb
   obtain ⟨vb,hvb'⟩:∃ vb,wd.heap.size=vb:=⟨_,rfl⟩
   rw [hvb'] at hbl hzb ⊢
   clear hvb hB' hvb' hR2 r1
   refine hK.out _ _ hR ?_
   clear hK K
   (try simp only [Act.put,bw7,bw8,bw9])
   refine wpAnyS_ready (rs:=[11]) (by kernel_rfl) (by simp) ?_
   refine stepR (i:=11) rfl (by kernel_rfl) (fun K hK=>?_) (AllReadyS.nil)
   refine wp_append_lies _ _ _ 72 (by rfl) (b+1) 78 i0 (.agg #[.string ⟨#[]⟩,.string ⟨#[]⟩]) 2 32 Tryz.underlying72 hi0 hz0 hz1 hz2 rfl (by decide) (.slice sa L.length sc) L.length (termCells L) rfl r2 ⟨vb,0,none⟩ 1 1 [.string sx,.string sn] rfl rfl (two_cells hbl) (by simp [Value.oneCell']) (by decide) (by unfold maxLen;omega) (by omega) (by have:=hR.2.1;have:=hb1.size;omega) _ rfl (fun g cap wa hrow hgr hgH hgl=>?_)
   have hR3:=(⟨Below.grown hR.1 hgr (by have:=hR.2.1;have:=hb1.size;omega) (fun k hk=>(HG0.out k hk).1),Nat.le_trans hR.2.1 hgr.size,hR.2.2.grown hgr (fun h=>by have:=(HG0.out _ h).2;omega)⟩:Below (b+1) wr wa∧wr.heap.size≤wa.heap.size∧BoxT2 49 wa w.heap.size (.string sx) (.string sn))
   replace hR:=hR3
   clear hR3 hgH hgl hgr
   refine hK.out _ _ hR ?_
   clear hK K
   (try simp only [Act.put,bw7,bw8,bw9])
   refine tkS 81 (i:=12) (v:=?_) (fw:=5) hQ' hR rfl ?_ ?_;rotate_left;(focus (intro wq hRq;have e0:=(x0.belowB hRq.1 (by omega)).c0;have e1:=hRq.2.2.c0;have e2:=hRq.2.2.c1;go_simp;(try with_reducible rfl)));(try simp only [Act.put,bw7,bw8,bw9])
   refine tkS 82 (i:=13) (v:=?_) (fw:=5) hQ' hR rfl ?_ ?_;rotate_left;(focus (intro wq hRq;have e0:=(x0.belowB hRq.1 (by omega)).c0;have e1:=hRq.2.2.c0;have e2:=hRq.2.2.c1;go_simp;(try with_reducible rfl)));(try simp only [Act.put,bw7,bw8,bw9])
   refine wpAnyS_ready (rs:=[14]) (by kernel_rfl) (by simp) ?_
   refine stepF (i:=14) rfl (by kernel_rfl) (by kernel_rfl) (fun K hK=>?_) (AllReadyS.nil)
   refine wp_store1 72 74 _ _ rfl (x0.belowB hR.1 (by omega)) Tryz.infoClasses rfl rfl rfl (fun wx hS hbx=>?_)
   have hrow2:=rowKp (W':=wx) hrow (fun k hk hbk=>hS.block k (by omega))
   have hBx:Below b w wx:=hS.below ((hb1.mono (by omega)).trans (hR.1.mono (by omega))) (Nat.le_refl _)
   clear hS hrow
   refine hK.out _ _ ?_
   clear hK K
   (try simp only [Act.put,bw7,bw8,bw9])
   refine wpAnyS_done (by kernel_rfl) ?_ _
   refine hN.out _ _ ?_
   go_wp2_with fail
   go_ret
   refine ⟨0,rfl,.inl rfl,Lib.hid (fun _=>⟨K++[(x,n)],⟨.slice (some ⟨g,0,none⟩) (L.length+1) cap,?_,?_⟩,HKA.out,by simp,HEND.out,HAE.out⟩),hBx⟩
   ·exact hbx
   ·rw [HCA.out,List.length_append,termCells_append];exact hrow2
end Go.Proofs.YthihcjgmlbnapaaGreatDoor
namespace Go.Proofs.YthihcjgmlbnapaaGreatDoor
open Go.RowKit Go.Shelf
def GSt (W:World) (b:Nat):Option (Rat × Nat)→Prop
 | none=>GNone W b
 | some (S,n)=>GOne W b (numS S) (decS n)
theorem GSt.below {w w':World} {b:Nat} {o:Option (Rat × Nat)} (h:GSt w b o) (hB:Below w.heap.size w w'):GSt w' b o:=by
 cases o with
 | none=>exact GNone.below h hB
 | some x=>obtain ⟨S,n⟩:=x;exact GOne.below h hB
theorem numS_one:numS 1=⟨#[49]⟩:=by
 refine (numS_of (s:=⟨#[49]⟩) (q:=1) ?_).symm
 decide +kernel
theorem gadd_ok (b n:Nat) (Q:Raws) (x:Rat) (w:World) (hG:Glo w) (hx:GSt w b (gst n Q)) (hS:Sz 90 (gsum Q)) (hxz:Sz 180 x) (h1:1≤n) (hn:n < 10 ^ 90) (h12:12≤b) :
  Calls Tryz.prog 26 #[.pointer (some ⟨b,0,none⟩),.agg #[.string (numS x),.string (decS n)]] w (fun e w'=>e=.returned (.int .i64 0)∧GSt w' b (some (gsum Q+x,n))∧Below b w w'):=by
 cases hg:gst n Q with
 | none =>
  rw [hg] at hx
  rw [gst_none hg,Rat.zero_add]
  exact gadd_none b (numS x) (decS n) w hx
 | some y =>
  obtain ⟨S,m⟩:=y
  rw [hg] at hx
  obtain ⟨rfl,rfl⟩:=gst_some hg
  exact gadd_one b m (gsum Q) x w hG hx hS hxz h1 hn h12
theorem visit_ok (Q:Raws) (n:Nat) (L:TTexts) (b:Nat) (v:Value) (w0 w:World) (hG:Glo w0) (hP:Pri w0) (h:OneC Q n) (hL:IsRaw L Q) (hv:IsTerms w0 v L) (hw:Below w0.heap.size w0 w) (hb:GNone w b) (hwb:w0.heap.size≤b) :
  Calls Tryz.prog 25 #[v,.func (.func 26) #[.pointer (some ⟨b,0,none⟩)] #[]] w (fun e w'=>e=.returned (.int .i64 0)∧GSt w' b (gst n Q)∧Below b w w'):=by
 have h12:12≤b:=Nat.le_trans hG.2.2 hwb
 obtain ⟨hLl,hLt⟩:=hL
 have hlen:L.length≤256:=by have:=h.len;omega
 have HLL:=Lib.hid hLl
 clear hLl
 have HO:=Lib.hid h
 have HG:=Lib.hid hG
 have HP:=Lib.hid hP
 have HLT:=Lib.hid hLt
 obtain ⟨a,cap,rfl,hcap,hc⟩:=hv
 have HC:=Lib.hid hc
 have hbl:b < w.heap.size:=BoxT1.lt hb
 have HB0:=Lib.hid hb
 clear hG hP hLt hc h hb
 go_enter Tryz.func25,Tryz.ntmps25
 go_wp2_with fail
 go_loopw [13] (fun i wr=>∃ k:Nat,k≤L.length∧i=.int .i64 k∧Below b w wr∧b < wr.heap.size∧Hid (GSt wr b (gst n (Q.take k)))) (fun i _=>L.length - (intOf i).toNat)
 case atStart=>exact ⟨0,by omega,rfl,bw0 _ _,hbl,Lib.hid (by rw [List.take_zero];exact HB0.out)⟩
 case round =>
  obtain ⟨k,hk,rfl,hB,hbr,hst⟩:=hrel
  by_cases hlt:k < L.length
  ·obtain ⟨bt,off,rfl,hcell⟩:=HC.out (fun h=>by rw [h] at hlt;simp at hlt)
   have hB0:Below w0.heap.size w0 wr:=hw.trans (hB.mono hwb)
   obtain ⟨d0,d1⟩:=(hcell k hlt).below (w':=wr) hB0
   have hbt:=lt_of_cell (hcell k hlt).1
   have hkq:k < Q.length:=by have:=HLL.out;omega
   obtain ⟨t0,t1⟩:=HLT.out k hkq
   obtain ⟨q,hq⟩:∃ q,(rq Q k).1=q:=⟨_,rfl⟩
   obtain ⟨p,hp⟩:∃ p,(rq Q k).2=p:=⟨_,rfl⟩
   have hqp:rq Q k=(q,p):=by rw [← hq,← hp]
   have hsq:=HO.out.sq k hkq
   have hsp:=HO.out.sr k hkq
   have hp0:=HO.out.r0 k hkq
   have hcls:=HO.out.cls k hkq
   have hsS:=HO.out.st k (by omega)
   have hsS':=HO.out.st (k+1) (by omega)
   rw [rq_take hkq] at hsS'
   have HRT:=Lib.hid (rq_take hkq)
   rw [hqp] at hcls hsS' HRT
   rw [hq] at hsq t0
   rw [hp] at hsp hp0 t1
   obtain ⟨c,hcc⟩:∃ c,(tt L k).1=c:=⟨_,rfl⟩
   obtain ⟨r,hrr⟩:∃ r,(tt L k).2=r:=⟨_,rfl⟩
   rw [hcc] at t0 d0
   rw [hrr] at t1 d1
   have hltI:(k:Int) < (L.length:Int):=by omega
   have hk1:IntKind.i64.wrap ((k:Int)+1)=((k+1:Nat):Int):=IntWalk.i64_in _ (by omega)
   have hq0:(c.toList == [48])=decide (q=0):=by rw [Lib.toList_data,t0,text_eq0]
   have hr1:(r.toList == [49])=decide (p=1):=by rw [Lib.toList_data,t1,text_eq1]
   have hr0:(r.toList == [48])=decide (p=0):=by rw [Lib.toList_data,t1,text_eq0]
   have hb1:Below w0.heap.size w0 (wr.alloc (.cells #[.string c,.string r] 49)):=bw4 hB0 _
   have hb2:Below b w (wr.alloc (.cells #[.string c,.string r] 49)):=hB.trans ((bw4 (bw0 _ _) _).mono (Nat.le_of_lt hbr))
   have HS1:=Lib.hid (hst.out.below (bw4 (bw0 _ _) (.cells #[.string c,.string r] 49)))
   have hbr1:b < (wr.alloc (.cells #[.string c,.string r] 49)).heap.size:=by simp;omega
   have y0:BoxT2 49 (wr.alloc (.cells #[.string c,.string r] 49)) wr.heap.size (.string c) (.string r):=BoxT2.new rfl
   have HT0:=Lib.hid t0
   have HT1:=Lib.hid t1
   clear hcell hcc hrr hq hp hqp t0 t1 hst
   by_cases g1:q=0
   ·have HS2:Hid (GSt (wr.alloc (.cells #[.string c,.string r] 49)) b (gst n (Q.take (k+1)))):=Lib.hid (by rw [HRT.out,gst_zero (by unfold nzB;simp [g1])];exact HS1.out)
    rw [decide_eq_true g1] at hq0
    clear hr1 hr0 g1 hcls hsS hsS' hsq hsp hp0 HS1
    go_wp2_with fail
    go_roundw
    case rel=>exact ⟨k+1,by omega,by go_num,hb2,hbr1,HS2⟩
    case measure=>simp [intOf];omega
   by_cases g2:p=0
   ·have HS2:Hid (GSt (wr.alloc (.cells #[.string c,.string r] 49)) b (gst n (Q.take (k+1)))):=Lib.hid (by rw [HRT.out,gst_zero (by unfold nzB;simp [g2])];exact HS1.out)
    rw [decide_eq_false g1] at hq0
    rw [decide_eq_true g2] at hr0
    clear hr1 g1 g2 hcls hsS hsS' hsq hsp hp0 HS1
    go_wp2_with fail
    go_roundw
    case rel=>exact ⟨k+1,by omega,by go_num,hb2,hbr1,HS2⟩
    case measure=>simp [intOf];omega
   have hnz:nzB (q,p)=true:=by unfold nzB;simp [g1,g2]
   have hpn:0 < p.num:=by
    rcases Int.lt_trichotomy p.num 0 with h|h|h
    ·omega
    ·exact absurd (Rat.num_eq_zero.1 h) g2
    ·exact h
   have hcl:=hcls hnz
   have hsC:=(normQ_sz hpn hsp).1
   obtain ⟨C,hC⟩:∃ C,(normQ p).1=C:=⟨_,rfl⟩
   have hNQ:normQ p=(C,n):=by rw [← hC,← hcl]
   rw [hC] at hsC
   have hx:tv (q,p)=q * C:=by unfold tv;rw [if_pos hnz,hNQ]
   have HS2:Hid (gst n (Q.take (k+1))=some (gsum (Q.take k)+q * C,n)):=Lib.hid (by rw [HRT.out,gst_more hnz,hx])
   have hn40:=HO.out.n40
   have hn1:=HO.out.n1
   have hn90:n < 10 ^ 90:=Nat.lt_of_lt_of_le (lenSz hn40) (Nat.pow_le_pow_right (by decide) (by decide))
   have HLO:=Lib.hid (fun W hG=>longest_ok (k:=90) (decS n) W hG (by rw [text_natR];exact decS_list n) (sz_natR hn90 (by decide)) (by decide))
   have hlD:longD ((n:Int):Rat)≤90:=by
    unfold longD
    have e1:(((n:Int):Rat)).num=(n:Int):=rfl
    have e2:(((n:Int):Rat)).den=1:=rfl
    have h1:(Lib.decDigits 1).length=1:=by decide +kernel
    rw [e1,e2,Int.natAbs_natCast,h1];omega
   generalize longD ((n:Int):Rat)=D at *
   have hDI:¬ (90:Int) < (D:Int):=by omega
   have HMU:=Lib.hid (fun W hG=>RMul_ok (a:=90) (b:=90) c (numS C) W hG HT0.out hsq (numS_list C) hsC (by decide))
   have HGA:=Lib.hid (fun W hG hst=>gadd_ok b n (Q.take k) (q * C) W hG hst hsS (hsq.mul hsC) hn1 hn90 h12)
   rw [decide_eq_false g1] at hq0
   rw [decide_eq_false g2] at hr0
   have htail:∀ (W:World),True:=fun _=>trivial
   by_cases g3:p=1
   ·rw [decide_eq_true g3] at hr1
    have hCn:C=1∧n=1:=by
     have h1:=hNQ
     rw [g3,normQ_one] at h1
     cases h1
     exact ⟨rfl,rfl⟩
    have hCS:numS C=⟨#[49]⟩:=by rw [hCn.1,numS_one]
    have hrn:r=decS n:=decS_of (by rw [HT1.out,g3,hCn.2];decide +kernel)
    rw [hCS] at HMU
    rw [← hrn] at HLO HGA
    clear hCn hCS hrn hcl hC hNQ hcls hsS hsS' hsq hsp hp0 hsC hx hnz hpn g1 g2 g3 hn40 hn90 htail
    go_wp2_with fail
    go_quiet (fail)
    go_wp2_with fail
    have hdr:Below (wr.alloc (.cells #[.string c,.string r] 49)).heap.size (wr.alloc (.cells #[.string c,.string r] 49)) ((wr.alloc (.cells #[.string c,.string r] 49)).drewN nq):=bw2 (bw0 _ _) _
    replace hb1:=below_trans' hb1 hdr
    replace hb2:=hb2.trans (hdr.mono (Nat.le_of_lt hbr1))
    replace HS1:=Lib.hid (HS1.out.below hdr)
    replace y0:=y0.below hdr
    replace hbr1:=Nat.lt_of_lt_of_le hbr1 hdr.size
    clear hdr
    generalize (wr.alloc (.cells #[.string c,.string r] 49)).drewN nq=W1 at *
    refine (HLO.out _ (HG.out.below hb1)).mono ?_
    rintro e w3 ⟨rfl,hB3⟩
    replace hb1:=below_trans' hb1 hB3
    replace hb2:=hb2.trans (hB3.mono (Nat.le_of_lt hbr1))
    replace HS1:=Lib.hid (HS1.out.below hB3)
    replace y0:=y0.below hB3
    replace hbr1:=Nat.lt_of_lt_of_le hbr1 hB3.size
    have e0:=y0.c0
    clear hB3 HLO
    go_wp2_with fail
    refine (HMU.out _ (HG.out.below hb1)).mono ?_
    rintro e w4 ⟨kk,hkk,rfl,hB4⟩
    obtain rfl:=numS_of hkk
    replace hb1:=below_trans' hb1 hB4
    replace hb2:=hb2.trans (hB4.mono (Nat.le_of_lt hbr1))
    replace HS1:=Lib.hid (HS1.out.below hB4)
    replace hbr1:=Nat.lt_of_lt_of_le hbr1 hB4.size
    clear hB4 HMU e0 y0 hkk
    generalize hkS:numS (q * C)=sx at *
    go_wp2_with fail
    refine (HGA.out _ (HG.out.below hb1) HS1.out).mono ?_
    rintro e w5 ⟨rfl,hst5,hB5⟩
    have HS5:Hid (GSt w5 b (gst n (Q.take (k+1)))):=Lib.hid (by rw [HS2.out];exact hst5)
    replace hb2:=hb2.trans hB5
    replace hbr1:=Nat.lt_of_lt_of_le hbr1 hB5.size
    clear hst5 hB5 HGA HS1 HS2 hb1
    go_wp2_with fail
    go_roundw
    case rel=>exact ⟨k+1,by omega,by go_num,hb2,hbr1,HS5⟩
    case measure=>simp [intOf];omega
   ·rw [decide_eq_false g3] at hr1
    have hrp:r=numS p:=numS_of HT1.out
    have HNO:=Lib.hid (fun W hG hP=>(show Calls Tryz.prog 56 #[.string (numS p)] W (RetB (.tuple #[.string (numS (normQ p).1),.string (decS (normQ p).2),.int .i64 0]) W) from Normal_ok p W hG hP hsp (by omega)))
    rw [← hrp,hNQ] at HNO
    dsimp only at HNO
    generalize numS C=sC at *
    generalize decS n=sn at *
    clear hrp hcl hC hNQ hcls hsS hsS' hsq hsp hp0 hsC hx hnz hpn g1 g2 g3 hn40 hn90 htail
    go_wp2_with fail
    go_quiet (fail)
    go_wp2_with fail
    have hdr:Below (wr.alloc (.cells #[.string c,.string r] 49)).heap.size (wr.alloc (.cells #[.string c,.string r] 49)) ((wr.alloc (.cells #[.string c,.string r] 49)).drewN nq):=bw2 (bw0 _ _) _
    replace hb1:=below_trans' hb1 hdr
    replace hb2:=hb2.trans (hdr.mono (Nat.le_of_lt hbr1))
    replace HS1:=Lib.hid (HS1.out.below hdr)
    replace y0:=y0.below hdr
    replace hbr1:=Nat.lt_of_lt_of_le hbr1 hdr.size
    clear hdr
    generalize (wr.alloc (.cells #[.string c,.string r] 49)).drewN nq=W1 at *
    refine (HNO.out _ (HG.out.below hb1) (HP.out.below hb1)).mono ?_
    rintro e w2 ⟨rfl,hB2⟩
    replace hb1:=below_trans' hb1 hB2
    replace hb2:=hb2.trans (hB2.mono (Nat.le_of_lt hbr1))
    replace HS1:=Lib.hid (HS1.out.below hB2)
    replace y0:=y0.below hB2
    replace hbr1:=Nat.lt_of_lt_of_le hbr1 hB2.size
    clear hB2 HNO
    go_wp2_with fail
    refine (HLO.out _ (HG.out.below hb1)).mono ?_
    rintro e w3 ⟨rfl,hB3⟩
    replace hb1:=below_trans' hb1 hB3
    replace hb2:=hb2.trans (hB3.mono (Nat.le_of_lt hbr1))
    replace HS1:=Lib.hid (HS1.out.below hB3)
    replace y0:=y0.below hB3
    replace hbr1:=Nat.lt_of_lt_of_le hbr1 hB3.size
    have e0:=y0.c0
    clear hB3 HLO
    go_wp2_with fail
    refine (HMU.out _ (HG.out.below hb1)).mono ?_
    rintro e w4 ⟨kk,hkk,rfl,hB4⟩
    obtain rfl:=numS_of hkk
    replace hb1:=below_trans' hb1 hB4
    replace hb2:=hb2.trans (hB4.mono (Nat.le_of_lt hbr1))
    replace HS1:=Lib.hid (HS1.out.below hB4)
    replace hbr1:=Nat.lt_of_lt_of_le hbr1 hB4.size
    clear hB4 HMU e0 y0 hkk
    generalize hkS:numS (q * C)=sx at *
    go_wp2_with fail
    refine (HGA.out _ (HG.out.below hb1) HS1.out).mono ?_
    rintro e w5 ⟨rfl,hst5,hB5⟩
    have HS5:Hid (GSt w5 b (gst n (Q.take (k+1)))):=Lib.hid (by rw [HS2.out];exact hst5)
    replace hb2:=hb2.trans hB5
    replace hbr1:=Nat.lt_of_lt_of_le hbr1 hB5.size
    clear hst5 hB5 HGA HS1 HS2 hb1
    go_wp2_with fail
    go_roundw
    case rel=>exact ⟨k+1,by omega,by go_num,hb2,hbr1,HS5⟩
    case measure=>simp [intOf];omega
  ·have e:k=L.length:=by omega
   subst e
   have HS2:Hid (GSt wr b (gst n Q)):=Lib.hid (by have h1:=hst.out;rwa [HLL.out,List.take_length] at h1)
   clear hst
   go_wp2_with fail
   go_ret
   exact ⟨rfl,HS2.out,hB⟩
end Go.Proofs.YthihcjgmlbnapaaGreatDoor
namespace Go.Proofs.YthihcjgmlbnapaaGreatDoor
open Go.RowKit Go.Shelf
theorem insSort1_ok (n:Nat) (a:Option Addr) (cap:Nat) (w:World) (hn:n≤1) :
  Calls Tryz.prog 113 #[.slice a n cap,.int .i64 0,.int .i64 (n:Int),.func (.func 29) #[] #[]] w (RetB (.tuple #[]) w):=by
 have h1:¬ (1:Int) < (n:Int):=by omega
 go_enter Tryz.func113,Tryz.ntmps113
 go_wp2_with fail
 go_loopw [8] (fun i wr=>i=.int .i64 1∧wr=w) (fun _ _=>0)
 case atStart=>exact ⟨rfl,rfl⟩
 case round =>
  obtain ⟨rfl,hwr⟩:=hrel
  subst wr
  go_wp2_with fail
  go_end0
  exact ⟨rfl,qbl⟩
theorem pdq1_ok (n:Nat) (a:Option Addr) (cap:Nat) (l:Int) (w:World) (hn:n≤1) :
  Calls Tryz.prog 62 #[.slice a n cap,.int .i64 0,.int .i64 (n:Int),.int .i64 l,.func (.func 29) #[] #[]] w (RetB (.tuple #[]) w):=by
 have h1:(n:Int)≤12:=by omega
 have h2:IntKind.i64.wrap (n:Int)=(n:Int):=IntWalk.i64_in _ (by omega)
 go_enter Tryz.func62,Tryz.ntmps62
 go_wp2_with fail
 go_loopw [1,2,3,10,11] (fun x y z u v wr=>x=.int .i64 0∧y=.int .i64 (n:Int)∧wr=w) (fun _ _ _ _ _ _=>0)
 case atStart=>exact ⟨rfl,rfl,rfl⟩
 case round =>
  obtain ⟨rfl,rfl,hwr⟩:=hrel
  subst wr
  go_wp2_with fail
  refine (insSort1_ok n a cap w hn).mono ?_
  rintro e w1 ⟨rfl,hB1⟩
  go_wp2_with fail
  go_end0
  exact ⟨rfl,hB1⟩
theorem sort1_ok (n:Nat) (a:Option Addr) (cap:Nat) (w:World) (hn:n≤1) :
  Calls Tryz.prog 28 #[.slice a n cap,.func (.func 29) #[] #[]] w (RetB (.tuple #[]) w):=by
 have h1:(0:Int)≤(n:Int):=by omega
 have h2:(n:Int)≤18446744073709551615:=by omega
 have h3:IntKind.u64.wrap (n:Int)=(n:Int):=by unfold IntKind.wrap;simp [IntKind.signed,IntKind.bits];omega
 have HBL:=Lib.hid (fun W=>Tryz.bits_Len (n:Int) W h1 h2)
 have HPD:=Lib.hid (fun l W=>pdq1_ok n a cap l W hn)
 clear hn
 go_enter Tryz.func28,Tryz.ntmps28
 go_wp2_with fail
 refine (HBL.out _).mono ?_
 rintro e w1 ⟨rfl,rfl⟩
 go_wp2_with fail
 refine (HPD.out _ _).mono ?_
 rintro e w1 ⟨rfl,hB1⟩
 go_wp2_with fail
 go_end0
 exact ⟨rfl,hB1⟩
end Go.Proofs.YthihcjgmlbnapaaGreatDoor
namespace Go.Proofs.YthihcjgmlbnapaaGreatDoor
open Go.RowKit Go.Shelf
def RetSd (L:TTexts) (w:World) (e:Ending) (w':World):Prop:=∃ u,e=.returned (.tuple #[u,.int .i64 0])∧IsTerms w' u L∧Below w.heap.size w w'
theorem longN_le {n k:Nat} (h:(Lib.decDigits n).length≤k) (hk:1≤k):longD ((n:Int):Rat)≤k:=by
 unfold longD
 have e1:(((n:Int):Rat)).num=(n:Int):=rfl
 have e2:(((n:Int):Rat)).den=1:=rfl
 have h1:(Lib.decDigits 1).length=1:=by decide +kernel
 rw [e1,e2,Int.natAbs_natCast,h1];omega
theorem isTerms_nil {w:World}:IsTerms w (.slice none 0 0) []:=⟨none,0,rfl,Nat.le_refl _,fun h=>absurd rfl h⟩
theorem Make_ok (Q:Raws) (n:Nat) (L:TTexts) (v:Value) (w:World) (hG:Glo w) (hP:Pri w) (h:OneC Q n) (hL:IsRaw L Q) (hv:IsTerms w v L) :
  Calls Tryz.prog 9 #[v] w (RetSd (oneL (gsum Q) n) w):=by
 obtain ⟨i0,hi0,hz0,hz1,hz2⟩:=info_parts Tryz.infoTerm
 have HVI:=Lib.hid (fun b W hW hb hwb=>visit_ok Q n L b v w W hG hP h hL hv hW hb hwb)
 obtain ⟨hLl,hLt⟩:=hL
 have hlen:L.length≤256:=by have:=h.len;omega
 have HLL:=Lib.hid hLl
 have HO:=Lib.hid h
 have HG:=Lib.hid hG
 have HLT:=Lib.hid hLt
 have h12:=hG.2.2
 obtain ⟨a,cap,rfl,hcap,hc⟩:=hv
 have HC:=Lib.hid hc
 have hlenI:¬ (256:Int) < (L.length:Int):=by omega
 clear hG hP hLt hLl hc h
 go_enter Tryz.func9,Tryz.ntmps9
 go_wp2_with fail
 go_loopw [18] (fun i wr=>∃ k:Nat,k≤L.length∧i=.int .i64 k∧Below w.heap.size w wr) (fun i _=>L.length - (intOf i).toNat)
 case atStart=>exact ⟨0,by omega,rfl,bw0 _ _⟩
 case round =>
  obtain ⟨k,hk,rfl,hB⟩:=hrel
  by_cases hlt:k < L.length
  ·obtain ⟨bt,off,rfl,hcell⟩:=HC.out (fun h=>by rw [h] at hlt;simp at hlt)
   obtain ⟨d0,d1⟩:=(hcell k hlt).below (w':=wr) hB
   have hkq:k < Q.length:=by have:=HLL.out;omega
   obtain ⟨t0,t1⟩:=HLT.out k hkq
   have hsq:=HO.out.sq k hkq
   have hsp:=HO.out.sr k hkq
   have hp0:=HO.out.r0 k hkq
   obtain ⟨q,hq⟩:∃ q,(rq Q k).1=q:=⟨_,rfl⟩
   obtain ⟨p,hp⟩:∃ p,(rq Q k).2=p:=⟨_,rfl⟩
   rw [hq] at hsq t0
   rw [hp] at hsp hp0 t1
   obtain ⟨c,hcc⟩:∃ c,(tt L k).1=c:=⟨_,rfl⟩
   obtain ⟨r,hrr⟩:∃ r,(tt L k).2=r:=⟨_,rfl⟩
   rw [hcc] at t0 d0
   rw [hrr] at t1 d1
   have hltI:(k:Int) < (L.length:Int):=by omega
   have hk1:IntKind.i64.wrap ((k:Int)+1)=((k+1:Nat):Int):=IntWalk.i64_in _ (by omega)
   have HCC:=Lib.hid (fun W hG=>RCheck_ok c W hG t0 hsq (by decide))
   have HCR:=Lib.hid (fun W hG=>RCheck_ok r W hG t1 hsp (by decide))
   have HHP:=Lib.hid (fun W=>hasPrefix_any r ⟨#[45]⟩ W (hasMinus t1))
   rw [decide_eq_false (show ¬ p.num < 0 by omega)] at HHP
   have hb1:Below w.heap.size w (wr.alloc (.cells #[.string c,.string r] 49)):=bw4 hB _
   have y0:BoxT2 49 (wr.alloc (.cells #[.string c,.string r] 49)) wr.heap.size (.string c) (.string r):=BoxT2.new rfl
   clear hcell hcc hrr hq hp t0 t1 hsq hsp hp0
   go_wp2_with fail
   generalize wr.alloc (.cells #[.string c,.string r] 49)=W1 at *
   refine (HCC.out _ (HG.out.below hb1)).mono ?_
   rintro e w2 ⟨rfl,hB2⟩
   have hb2:=below_trans' hb1 hB2
   replace y0:=y0.below hB2
   have e1:=y0.c1
   clear hB2 hb1 HCC
   go_wp2_with fail
   refine (HCR.out _ (HG.out.below hb2)).mono ?_
   rintro e w3 ⟨rfl,hB3⟩
   have hb3:=below_trans' hb2 hB3
   replace y0:=y0.below hB3
   have e2:=y0.c1
   clear hB3 hb2 HCR e1
   go_wp2_with fail
   refine (HHP.out _).mono ?_
   rintro e w4 ⟨rfl,rfl⟩
   go_wp2_with fail
   go_roundw
   case rel=>exact ⟨k+1,by omega,by go_num,hb3⟩
   case measure=>simp [intOf];omega
  ·have e:k=L.length:=by omega
   subst e
   go_wp2_with fail
   have hb1:Below w.heap.size w (wr.alloc (.cells #[.slice none 0 0] 74)):=bw4 hB _
   have x0:GNone (wr.alloc (.cells #[.slice none 0 0] 74)) wr.heap.size:=BoxT1.new rfl
   have hwb:=hB.size
   generalize wr.alloc (.cells #[.slice none 0 0] 74)=W1 at *
   generalize wr.heap.size=b at *
   refine (HVI.out b W1 hb1 x0 hwb).mono ?_
   rintro e w2 ⟨rfl,hst,hB2⟩
   have hb2:Below w.heap.size w w2:=hb1.trans (hB2.mono hwb)
   clear hB2 hb1 x0 HVI
   obtain ⟨S,hS⟩:∃ S,gsum Q=S:=⟨_,rfl⟩
   have HSS:=Lib.hid hS
   cases hg:gst n Q with
   | none =>
    rw [hg] at hst
    have c0:=BoxT1.c0 hst
    have HON:Hid (oneL (gsum Q) n=[]):=Lib.hid (by rw [gst_none hg];rfl)
    clear hst hg hS
    go_wp2_with fail
    go_loopw [10,47] (fun o i wr=>o=.slice none 0 0∧i=.int .i64 0∧wr=w2) (fun _ _ _=>0)
    case atStart=>exact ⟨rfl,rfl,rfl⟩
    case round =>
     obtain ⟨rfl,rfl,hwr⟩:=hrel
     subst wr
     go_wp2_with fail
     refine (sort1_ok 0 none 0 w2 (by omega)).mono ?_
     rintro e w3 ⟨rfl,hB3⟩
     have hb3:=below_trans' hb2 hB3
     clear hB3
     go_wp2_with fail
     refine bodyPost_ret (v:=.tuple #[.slice none 0 0,.int .i64 0]) (by simp [results,Tryz.results9,go_sem]) rfl ?_
     exact ⟨_,rfl,by rw [HON.out];exact isTerms_nil,hb3⟩
   | some y =>
    obtain ⟨S',m⟩:=y
    obtain ⟨e1,rfl⟩:=gst_some hg
    rw [hS] at e1
    subst e1
    rw [hg] at hst
    obtain ⟨g,cg,hx,hrow⟩:=hst
    obtain ⟨d0,d1⟩:=GOne.cells hrow
    have c0:=BoxT1.c0 hx
    have hcg:(1:Int)≤(cg:Int):=by have:=(row_block hrow).choose_spec.2.2.1;omega
    have hsS:Sz 90 S':=by have h1:=HO.out.st Q.length (Nat.le_refl _);rwa [List.take_length,hS] at h1
    have hn40:=HO.out.n40
    have hfin:=HO.out.fin
    rw [hS] at hfin
    have hn90:m < 10 ^ 90:=Nat.lt_of_lt_of_le (lenSz hn40) (Nat.pow_le_pow_right (by decide) (by decide))
    have HLS:=Lib.hid (fun W hG=>longest_ok (k:=90) (numS S') W hG (numS_list S') hsS (by decide))
    have HLN:=Lib.hid (fun W hG=>longest_ok (k:=90) (decS m) W hG (by rw [text_natR];exact decS_list m) (sz_natR hn90 (by decide)) (by decide))
    have hD:=longN_le hn40 (by decide)
    generalize longD ((m:Int):Rat)=D at *
    generalize longD S'=E at *
    have hDI:¬ (40:Int) < (D:Int):=by omega
    have hEI:¬ (60:Int) < (E:Int):=by omega
    have hz:((numS S').toList == [48])=decide (S'=0):=by rw [Lib.toList_data,numS_list,text_eq0]
    have HOL:Hid (oneL (gsum Q) m=if S'=0 then [] else [(numS S',decS m)]):=Lib.hid (by rw [HSS.out];rfl)
    clear hx hrow hg hS hsS hn40 hfin hn90 hD
    generalize numS S'=sS at *
    generalize decS m=sn at *
    have hl1:(if S'=0 then ([]:TTexts) else [(sS,sn)]).length≤1:=by split<;>simp
    obtain ⟨R,hR⟩:∃ R:TTexts,(if S'=0 then ([]:TTexts) else [(sS,sn)])=R:=⟨_,rfl⟩
    have HR:=Lib.hid hR
    rw [hR] at hl1
    clear hR
    go_wp2_with fail
    go_loopw [10,47] (fun o i wr=>Below w2.heap.size w2 wr∧((o=.slice none 0 0∧i=.int .i64 0)∨(i=.int .i64 1∧∃ sa sc,o=.slice sa R.length sc∧Hid (IsTerms wr (.slice sa R.length sc) R)))) (fun _ i _=>1 - (intOf i).toNat)
    case atStart=>exact ⟨bw0 _ _,.inl ⟨rfl,rfl⟩⟩
    case round =>
     obtain ⟨hB3,⟨rfl,rfl⟩|⟨rfl,sa,sc,rfl,hT⟩⟩:=hrel
     ·replace d0:=keep hB3 d0
      replace d1:=keep hB3 d1
      have hb3:=below_trans' hb2 hB3
      have hb4:Below w.heap.size w (wr.alloc (.cells #[.string sS,.string sn] 78)):=bw4 hb3 _
      have hB4:Below w2.heap.size w2 (wr.alloc (.cells #[.string sS,.string sn] 78)):=bw4 hB3 _
      have y0:BoxT2 78 (wr.alloc (.cells #[.string sS,.string sn] 78)) wr.heap.size (.string sS) (.string sn):=BoxT2.new rfl
      by_cases hS0:S'=0
      ·have HR0:Hid (R=[]):=Lib.hid (by rw [← HR.out,if_pos hS0])
       rw [decide_eq_true hS0] at hz
       clear hS0
       go_wp2_with fail
       go_roundw
       case rel=>exact ⟨hB4,.inr ⟨rfl,none,0,by rw [HR0.out];rfl,Lib.hid (by rw [HR0.out];exact isTerms_nil)⟩⟩
       case measure=>simp [intOf]
      ·have HR0:Hid (R=[(sS,sn)]):=Lib.hid (by rw [← HR.out,if_neg hS0])
       rw [decide_eq_false hS0] at hz
       clear hS0
       go_wp2_with fail
       generalize wr.alloc (.cells #[.string sS,.string sn] 78)=W3 at *
       refine (HLS.out _ (HG.out.below hb4)).mono ?_
       rintro e w5 ⟨rfl,hB5⟩
       have hb5:=below_trans' hb4 hB5
       replace hB4:=below_trans' hB4 hB5
       replace y0:=y0.below hB5
       have e1:=y0.c1
       clear hB5 hb4 HLS
       go_wp2_with fail
       refine (HLN.out _ (HG.out.below hb5)).mono ?_
       rintro e w6 ⟨rfl,hB6⟩
       have hb6:=below_trans' hb5 hB6
       replace hB4:=below_trans' hB4 hB6
       replace y0:=y0.below hB6
       have f0:=y0.c0
       have f1:=y0.c1
       have hz6:=hB4.size
       clear hB6 hb5 HLN e1
       go_wp2_with (at_builtin;refine wpList_append_own _ rfl _ _ 42 rfl w2.heap.size 49 i0 (.agg #[.string ⟨#[]⟩,.string ⟨#[]⟩]) 2 32 Tryz.underlying42 hi0 hz0 hz1 hz2 rfl (by decide) (.slice none 0 0) 0 [] rfl (World.ownsRow_nil _ _ _ _) ⟨w6.heap.size,0,none⟩ 1 1 [.string sS,.string sn] rfl rfl (cell_two_at w6 _ _ _ rfl) (by simp [Value.oneCell']) (by decide) (by decide) (by simp;omega) ?_;intro v' w7 hown' hgrow3 hnil3;have HROW2:=Lib.hid hown';have hB5:=Lib.hid (Below.grown (bw4 hB4 _) hgrow3 (by simp;omega) (fun k hk=>by cases hk));clear hown' hgrow3 hnil3;obtain ⟨sa2,sc2,rfl,_⟩:=rowT_shape HROW2.out)
       go_roundw
       case rel=>exact ⟨hB5.out,.inr ⟨rfl,sa2,sc2,by rw [HR0.out];rfl,Lib.hid (by rw [HR0.out];exact isTerms_row (l:=[(sS,sn)]) HROW2.out)⟩⟩
       case measure=>simp [intOf]
     ·have hb3:=below_trans' hb2 hB3
      have hRI:¬ (16:Int) < (R.length:Int):=by omega
      have HRS:=Lib.hid (sort1_ok R.length sa sc wr hl1)
      clear hl1
      go_wp2_with fail
      refine HRS.out.mono ?_
      rintro e w3 ⟨rfl,hB4⟩
      have hb4:=below_trans' hb3 hB4
      have HT2:=Lib.hid (hT.out.below hB4)
      clear hB4 hT
      go_wp2_with fail
      refine bodyPost_ret (v:=.tuple #[.slice sa R.length sc,.int .i64 0]) (by simp [results,Tryz.results9,go_sem]) rfl ?_
      exact ⟨_,rfl,by rw [HOL.out,HR.out];exact HT2.out,hb4⟩
end Go.Proofs.YthihcjgmlbnapaaGreatDoor
namespace Go.Proofs.YthihcjgmlbnapaaGreatDoor
open Go
def rawL (Q:Raws):TTexts:=Q.map fun x=>(numS x.1,numS x.2)
theorem rawL_length (Q:Raws):(rawL Q).length=Q.length:=by simp [rawL]
theorem rawL_is (Q:Raws):IsRaw (rawL Q) Q:=by
 refine ⟨rawL_length Q,fun k hk=>?_⟩
 have e:tt (rawL Q) k=(numS (rq Q k).1,numS (rq Q k).2):=by simp [tt,rawL,rq,hk]
 rw [e]
 exact ⟨numS_list _,numS_list _⟩
theorem rawL_snoc (Q:Raws) (x:Rat × Rat):rawL (Q++[x])=rawL Q++[(numS x.1,numS x.2)]:=by simp [rawL]
def toQ (T:Terms):Raws:=T.map fun x=>(x.1,((x.2:Int):Rat))
def scaledQ (T:Terms) (c:Rat):Raws:=T.map fun x=>(x.1 * c,((x.2:Int):Rat))
theorem decS_num (n:Nat):decS n=numS ((n:Int):Rat):=by
 refine (decS_of ?_).symm
 rw [numS_list,text_natR]
theorem termsTake {T:Terms} {k:Nat} (h:k < T.length):T.take (k+1)=T.take k++[tq T k]:=by
 have e:tq T k=T[k]:=by simp [tq,h]
 rw [e]
 exact List.take_succ_eq_append_getElem h
theorem scaledQ_snoc (T:Terms) (x:Rat × Nat) (c:Rat):scaledQ (T++[x]) c=scaledQ T c++[(x.1 * c,((x.2:Int):Rat))]:=by simp [scaledQ]
theorem SurdIs.raw {L:TTexts} {T:Terms} (h:SurdIs L T):L=rawL (toQ T):=by
 refine List.ext_getElem (by simp [rawL,toQ,h.same]) fun i h1 h2=>?_
 have a:=h.ok i h1
 have g1:tt L i=L[i]:=by simp [tt,h1]
 have hi:i < T.length:=by rw [h.same];exact h1
 have g2:tq T i=T[i]:=by simp [tq,hi]
 rw [g1,g2] at a
 have e1:=numS_of a.c
 have e2:L[i].2=numS ((T[i].2:Int):Rat):=by rw [← decS_num];exact decS_of a.r
 simp only [rawL,toQ,List.getElem_map]
 exact Prod.ext e1 e2
theorem TermOk.sz {c r:ByteArray} {q:Rat} {m:Nat} (h:TermOk c r q m):Sz 60 q∧Sz 40 ((m:Int):Rat) :=
 ⟨⟨lenSz h.cn,lenSz h.cd⟩,sz_natR (lenSz h.rn) (by decide)⟩
theorem IsTerms.raw {w:World} {v:Value} {L:TTexts} {T:Terms} (h:IsTerms w v L) (hT:SurdIs L T):IsTerms w v (rawL (toQ T)):=by
 rw [← hT.raw];exact h
theorem rawL_append (Q R:Raws):rawL (Q++R)=rawL Q++rawL R:=by simp [rawL]
end Go.Proofs.YthihcjgmlbnapaaGreatDoor
namespace Go.Proofs.YthihcjgmlbnapaaGreatDoor
open Go
theorem longD_of_sz {k:Nat} {q:Rat} (h:Sz k q) (hk:1≤k):longD q≤k:=by
 unfold longD
 have h1:=nDigits_le_of_lt h.1 hk
 have h2:=nDigits_le_of_lt h.2 hk
 rw [Lib.decDigits_length,Lib.decDigits_length]
 omega
theorem len_of_lt {n k:Nat} (h:n < 10 ^ k) (hk:1≤k):(Lib.decDigits n).length≤k:=by
 rw [Lib.decDigits_length];exact nDigits_le_of_lt h hk
theorem sz0 {k:Nat} (hk:1≤k):Sz k 0:=⟨by show 0 < _;exact Nat.pow_pos (by decide),by show 1 < _;exact Nat.one_lt_pow (by omega) (by decide)⟩
theorem sz1 {k:Nat} (hk:1≤k):Sz k 1:=⟨by show 1 < _;exact Nat.one_lt_pow (by omega) (by decide),by show 1 < _;exact Nat.one_lt_pow (by omega) (by decide)⟩
theorem gsum_one (x:Rat × Rat):gsum [x]=tv x:=by simp [gsum,Rat.zero_add]
theorem tv_pos {c q:Rat} (hc:c≠0) (hq:q≠0):tv (c,q)=c * (normQ q).1:=by
 unfold tv nzB;rw [if_pos (by simp [hc,hq])]
theorem tv_zero {q:Rat}:tv (0,q)=0:=by unfold tv nzB;simp
theorem tv_unit (c:Rat):tv (c,1)=c:=by
 by_cases h:c=0
 ·rw [h,tv_zero]
 ·rw [tv_pos h (by decide +kernel),normQ_one,Rat.mul_one]
theorem oneC_single {c q:Rat} {n:Nat} (hc:Sz 90 c) (hq:Sz 90 q) (h0:0≤q.num) (hn:c≠0→q≠0→(normQ q).2=n) (h1:1≤n) (h40:n < 10 ^ 40) (hnm:n=1∨normalN n=(1,n)) (hf:Sz 60 (tv (c,q))):OneC [(c,q)] n:=by
 refine ⟨by simp,fun k hk=>?_,fun k hk=>?_,fun k hk=>?_,fun k hk hz=>?_,fun k hk=>?_,h1,len_of_lt h40 (by decide),hnm,by rw [gsum_one];exact longD_of_sz hf (by decide)⟩
 ·obtain rfl:k=0:=by simpa using hk
  exact hc
 ·obtain rfl:k=0:=by simpa using hk
  exact hq
 ·obtain rfl:k=0:=by simpa using hk
  exact h0
 ·obtain rfl:k=0:=by simpa using hk
  have hz2:nzB (c,q)=true:=hz
  unfold nzB at hz2
  simp at hz2
  exact hn hz2.1 hz2.2
 ·rcases Nat.lt_or_ge k 1 with h|h
  ·obtain rfl:k=0:=by omega
   exact sz0 (by decide)
  ·rw [List.take_of_length_le (by simpa using h),gsum_one]
   exact hf.mono (by decide)
theorem oneC_unit {c:Rat} (hc:Sz 60 c):OneC [(c,1)] 1∧gsum [(c,1)]=c :=
 ⟨oneC_single (hc.mono (by decide)) (sz1 (by decide)) (by decide) (fun _ _=>by rw [normQ_one]) (by decide) (by decide) (.inl rfl) (by rw [tv_unit];exact hc),by rw [gsum_one,tv_unit]⟩
end Go.Proofs.YthihcjgmlbnapaaGreatDoor
namespace Go.Proofs.YthihcjgmlbnapaaGreatDoor
open Go.RowKit Go.Shelf
def KAt (W:World) (b:Nat) (Q:Raws):Prop:=∃ K,GK W b (clsL K)∧KOk K∧K.length≤Q.length∧Near0 (fun P=>valT K P - valQ Q P)∧KAp K
theorem KAt.nil {W:World} {b:Nat} (h:GNone W b):KAt W b []:=⟨[],GK.of_none h,(fun _ hx=>nomatch hx:KOk []),Nat.le_refl _,Near0.zero (fun P=>by show (0:Rat) - 0=0;grind),KAp.nil⟩
theorem KAt.below {w w':World} {b:Nat} {Q:Raws} (h:KAt w b Q) (hB:Below w.heap.size w w'):KAt w' b Q:=by
 obtain ⟨K,h1,h2⟩:=h
 exact ⟨K,h1.below hB,h2⟩
theorem KAt.zero {W:World} {b:Nat} {Q:Raws} {x:Rat × Rat} (h:KAt W b Q) (hx:nzB x=false):KAt W b (Q++[x]):=by
 obtain ⟨K,h1,h2,h3,h4,h5⟩:=h
 refine ⟨K,h1,h2,by rw [List.length_append];omega,h4.add (Near0.zero (f:=fun _=>0) fun _=>rfl) (fun P=>?_),h5⟩
 rw [valQ_snoc,nt_zero hx]
 grind
theorem KAt.step {W:World} {b n:Nat} {Q:Raws} {K:Terms} {c:Int} {x:Rat} {y:Rat × Rat} (h:Hid (c=0→∃ K',GK W b (clsL K')∧KOk K'∧K'.length≤K.length+1∧Near0 (fun P=>valT K' P - (valT K P+x * xr P n))∧(KAp K→NrmN n→KAp K'))) (h0:c=0) (hl:K.length≤Q.length) (hv:Near0 (fun P=>valT K P - valQ Q P)∧KAp K∧NrmN n) (hy:nt y=(x,n)):KAt W b (Q++[y]):=by
 obtain ⟨K',k1,k2,k3,k4,k5⟩:=h.out h0
 refine ⟨K',k1,k2,by rw [List.length_append,List.length_singleton];omega,k4.add hv.1 (fun P=>?_),k5 hv.2.1 hv.2.2⟩
 rw [valQ_snoc,hy]
 grind
theorem normQ_nrm {p:Rat} (h:0 < p.num):NrmN (normQ p).2:=by
 have hm:0 < p.num.toNat * p.den:=Nat.mul_pos (by omega) p.den_pos
 have h1:=(normalN_inv hm).2.2.1
 have h2:=normalN_idem hm
 have e:(normQ p).2=(normalN (p.num.toNat * p.den)).2:=by unfold normQ;rw [if_neg (by omega)]
 rw [e]
 generalize (normalN (p.num.toNat * p.den)).2=n at *
 exact ⟨h1,.inr h2⟩
def RetVi (b:Nat) (Q:Raws) (w:World) (e:Ending) (w':World):Prop:=∃ c:Int,e=.returned (.int .i64 c)∧(c=0∨c=4)∧Hid (c=0→KAt w' b Q)∧Below b w w'
theorem visitK_ok (Q:Raws) (L:TTexts) (b:Nat) (v:Value) (w0 w:World) (hG:Glo w0) (hP:Pri w0) (h:RawOk Q) (hL:IsRaw L Q) (hv:IsTerms w0 v L) (hw:Below w0.heap.size w0 w) (hb:GNone w b) (hwb:w0.heap.size≤b) :
  Calls Tryz.prog 25 #[v,.func (.func 26) #[.pointer (some ⟨b,0,none⟩)] #[]] w (RetVi b Q w):=by
 have h12:12≤b:=Nat.le_trans hG.2.2 hwb
 obtain ⟨hLl,hLt⟩:=hL
 have hlen:L.length≤12:=by have:=h.len;omega
 have HLL:=Lib.hid hLl
 clear hLl
 have HO:=Lib.hid h
 have HG:=Lib.hid hG
 have HP:=Lib.hid hP
 have HLT:=Lib.hid hLt
 obtain ⟨a,cap,rfl,hcap,hc⟩:=hv
 have HC:=Lib.hid hc
 have hbl:b < w.heap.size:=BoxT1.lt hb
 have HB0:=Lib.hid hb
 clear hG hP hLt hc h hb
 go_enter Tryz.func25,Tryz.ntmps25
 go_wp2_with fail
 go_loopw [13] (fun i wr=>∃ k:Nat,k≤L.length∧i=.int .i64 k∧Below b w wr∧b < wr.heap.size∧Hid (KAt wr b (Q.take k))) (fun i _=>L.length - (intOf i).toNat)
 case atStart=>exact ⟨0,by omega,rfl,bw0 _ _,hbl,Lib.hid (by rw [List.take_zero];exact KAt.nil HB0.out)⟩
 case round =>
  obtain ⟨k,hk,rfl,hB,hbr,hst⟩:=hrel
  by_cases hlt:k < L.length
  ·obtain ⟨bt,off,rfl,hcell⟩:=HC.out (fun h=>by rw [h] at hlt;simp at hlt)
   have hB0:Below w0.heap.size w0 wr:=hw.trans (hB.mono hwb)
   obtain ⟨d0,d1⟩:=(hcell k hlt).below (w':=wr) hB0
   have hbt:=lt_of_cell (hcell k hlt).1
   have hkq:k < Q.length:=by have:=HLL.out;omega
   obtain ⟨t0,t1⟩:=HLT.out k hkq
   obtain ⟨q,hq⟩:∃ q,(rq Q k).1=q:=⟨_,rfl⟩
   obtain ⟨p,hp⟩:∃ p,(rq Q k).2=p:=⟨_,rfl⟩
   have hqp:rq Q k=(q,p):=by rw [← hq,← hp]
   have hsq:=HO.out.sq k hkq
   have hsp:=HO.out.sr k hkq
   have hp0:=HO.out.r0 k hkq
   have HRT:=Lib.hid (rq_take hkq)
   rw [hqp] at HRT
   rw [hq] at hsq t0
   rw [hp] at hsp hp0 t1
   obtain ⟨c,hcc⟩:∃ c,(tt L k).1=c:=⟨_,rfl⟩
   obtain ⟨r,hrr⟩:∃ r,(tt L k).2=r:=⟨_,rfl⟩
   rw [hcc] at t0 d0
   rw [hrr] at t1 d1
   have hltI:(k:Int) < (L.length:Int):=by omega
   have hk1:IntKind.i64.wrap ((k:Int)+1)=((k+1:Nat):Int):=IntWalk.i64_in _ (by omega)
   have hq0:(c.toList == [48])=decide (q=0):=by rw [Lib.toList_data,t0,text_eq0]
   have hr1:(r.toList == [49])=decide (p=1):=by rw [Lib.toList_data,t1,text_eq1]
   have hr0:(r.toList == [48])=decide (p=0):=by rw [Lib.toList_data,t1,text_eq0]
   have hb1:Below w0.heap.size w0 (wr.alloc (.cells #[.string c,.string r] 49)):=bw4 hB0 _
   have hb2:Below b w (wr.alloc (.cells #[.string c,.string r] 49)):=hB.trans ((bw4 (bw0 _ _) _).mono (Nat.le_of_lt hbr))
   have HS1:=Lib.hid (hst.out.below (bw4 (bw0 _ _) (.cells #[.string c,.string r] 49)))
   have hbr1:b < (wr.alloc (.cells #[.string c,.string r] 49)).heap.size:=by simp;omega
   have y0:BoxT2 49 (wr.alloc (.cells #[.string c,.string r] 49)) wr.heap.size (.string c) (.string r):=BoxT2.new rfl
   have HT0:=Lib.hid t0
   have HT1:=Lib.hid t1
   clear hcell hcc hrr hq hp hqp t0 t1 hst
   by_cases g1:q=0
   ·have HS2:Hid (KAt (wr.alloc (.cells #[.string c,.string r] 49)) b (Q.take (k+1))):=Lib.hid (by rw [HRT.out];exact HS1.out.zero (by unfold nzB;simp [g1]))
    rw [decide_eq_true g1] at hq0
    clear hr1 hr0 g1 hsq hsp hp0 HS1
    go_wp2_with fail
    go_roundw
    case rel=>exact ⟨k+1,by omega,by go_num,hb2,hbr1,HS2⟩
    case measure=>simp [intOf];omega
   by_cases g2:p=0
   ·have HS2:Hid (KAt (wr.alloc (.cells #[.string c,.string r] 49)) b (Q.take (k+1))):=Lib.hid (by rw [HRT.out];exact HS1.out.zero (by unfold nzB;simp [g2]))
    rw [decide_eq_false g1] at hq0
    rw [decide_eq_true g2] at hr0
    clear hr1 g1 g2 hsq hsp hp0 HS1
    go_wp2_with fail
    go_roundw
    case rel=>exact ⟨k+1,by omega,by go_num,hb2,hbr1,HS2⟩
    case measure=>simp [intOf];omega
   have hnz:nzB (q,p)=true:=by unfold nzB;simp [g1,g2]
   have hpn:0 < p.num:=by
    rcases Int.lt_trichotomy p.num 0 with h|h|h
    ·omega
    ·exact absurd (Rat.num_eq_zero.1 h) g2
    ·exact h
   obtain ⟨hsC,hn90⟩:=normQ_sz hpn hsp
   have hn1:=(normQ_val hpn).2.2
   have hnn:=normQ_nrm hpn
   obtain ⟨C,hC⟩:∃ C,(normQ p).1=C:=⟨_,rfl⟩
   obtain ⟨n,hn⟩:∃ n,(normQ p).2=n:=⟨_,rfl⟩
   have hNQ:normQ p=(C,n):=by rw [← hC,← hn]
   rw [hC] at hsC
   rw [hn] at hn90 hn1 hnn
   have HS2:Hid (nt (q,p)=(q * C,n)):=Lib.hid (by unfold nt;rw [hNQ])
   have HLO:=Lib.hid (fun W hG=>longest_ok (k:=90) (decS n) W hG (by rw [text_natR];exact decS_list n) (sz_natR hn90 (by decide)) (by decide))
   have hlD:longD ((n:Int):Rat)≤90:=longN_le (len_of_lt hn90 (by decide)) (by decide)
   generalize longD ((n:Int):Rat)=D at *
   have hDI:¬ (90:Int) < (D:Int):=by omega
   obtain ⟨K,hgk,hko,hkl,hkv,hka⟩:=HS1.out
   have hk12:K.length≤12:=by have:=List.length_take_le k Q;omega
   have HMU:=Lib.hid (fun W hG=>RMul_ok (a:=90) (b:=45) c (numS C) W hG HT0.out hsq (numS_list C) hsC (by decide))
   have HGA:=Lib.hid (fun W hG hst=>gaddK_ok b K (q * C) n W hG hst hko hk12 ((hsq.mul hsC).mono (by decide)) hn1 hn90 h12)
   have HKV:=Lib.hid (⟨hkv,hka,hnn⟩:_∧KAp K∧NrmN n)
   replace HS1:=Lib.hid hgk
   clear hgk hko hkv hk12 hka hnn
   rw [decide_eq_false g1] at hq0
   rw [decide_eq_false g2] at hr0
   by_cases g3:p=1
   ·rw [decide_eq_true g3] at hr1
    have hCn:C=1∧n=1:=by
     have h1:=hNQ
     rw [g3,normQ_one] at h1
     cases h1
     exact ⟨rfl,rfl⟩
    have hCS:numS C=⟨#[49]⟩:=by rw [hCn.1,numS_one]
    have hrn:r=decS n:=decS_of (by rw [HT1.out,g3,hCn.2];decide +kernel)
    rw [hCS] at HMU
    rw [← hrn] at HLO HGA
    clear hCn hCS hrn hC hn hNQ hsq hsp hp0 hsC hnz hpn g1 g2 g3 hn90 hn1
    go_wp2_with fail
    go_quiet (fail)
    go_wp2_with fail
    have hdr:Below (wr.alloc (.cells #[.string c,.string r] 49)).heap.size (wr.alloc (.cells #[.string c,.string r] 49)) ((wr.alloc (.cells #[.string c,.string r] 49)).drewN nq):=bw2 (bw0 _ _) _
    replace hb1:=below_trans' hb1 hdr
    replace hb2:=hb2.trans (hdr.mono (Nat.le_of_lt hbr1))
    replace HS1:=Lib.hid (HS1.out.below hdr)
    replace y0:=y0.below hdr
    replace hbr1:=Nat.lt_of_lt_of_le hbr1 hdr.size
    clear hdr
    generalize (wr.alloc (.cells #[.string c,.string r] 49)).drewN nq=W1 at *
    refine (HLO.out _ (HG.out.below hb1)).mono ?_
    rintro e w3 ⟨rfl,hB3⟩
    replace hb1:=below_trans' hb1 hB3
    replace hb2:=hb2.trans (hB3.mono (Nat.le_of_lt hbr1))
    replace HS1:=Lib.hid (HS1.out.below hB3)
    replace y0:=y0.below hB3
    replace hbr1:=Nat.lt_of_lt_of_le hbr1 hB3.size
    have e0:=y0.c0
    clear hB3 HLO
    go_wp2_with fail
    refine (HMU.out _ (HG.out.below hb1)).mono ?_
    rintro e w4 ⟨kk,hkk,rfl,hB4⟩
    obtain rfl:=numS_of hkk
    replace hb1:=below_trans' hb1 hB4
    replace hb2:=hb2.trans (hB4.mono (Nat.le_of_lt hbr1))
    replace HS1:=Lib.hid (HS1.out.below hB4)
    replace hbr1:=Nat.lt_of_lt_of_le hbr1 hB4.size
    clear hB4 HMU e0 y0 hkk
    generalize hkS:numS (q * C)=sx at *
    go_wp2_with fail
    refine (HGA.out _ (HG.out.below hb1) HS1.out).mono ?_
    rintro e w5 ⟨cd,rfl,hc4,hst5,hB5⟩
    replace hc4:=Lib.hid hc4
    have HS5:Hid (cd=0→KAt w5 b (Q.take (k+1))):=Lib.hid (fun h0=>by rw [HRT.out];exact KAt.step hst5 h0 hkl HKV.out HS2.out)
    replace hb2:=hb2.trans hB5
    replace hbr1:=Nat.lt_of_lt_of_le hbr1 hB5.size
    clear hst5 hB5 HGA HS1 HS2 hb1 hkl
    by_cases hcd:cd=0
    ·subst hcd
     replace HS5:=Lib.hid (HS5.out rfl)
     go_wp2_with fail
     go_roundw
     case rel=>exact ⟨k+1,by omega,by go_num,hb2,hbr1,HS5⟩
     case measure=>simp [intOf];omega
    ·go_wp2_with fail
     go_ret
     exact ⟨cd,rfl,hc4.out,Lib.hid (fun h=>absurd h hcd),hb2⟩
   ·rw [decide_eq_false g3] at hr1
    have hrp:r=numS p:=numS_of HT1.out
    have HNO:=Lib.hid (fun W hG hP=>(show Calls Tryz.prog 56 #[.string (numS p)] W (RetB (.tuple #[.string (numS (normQ p).1),.string (decS (normQ p).2),.int .i64 0]) W) from Normal_ok p W hG hP (hsp.mono (by decide)) (by omega)))
    rw [← hrp,hNQ] at HNO
    dsimp only at HNO
    generalize numS C=sC at *
    generalize decS n=sn at *
    clear hrp hC hn hNQ hsq hsp hp0 hsC hnz hpn g1 g2 g3 hn90 hn1
    go_wp2_with fail
    go_quiet (fail)
    go_wp2_with fail
    have hdr:Below (wr.alloc (.cells #[.string c,.string r] 49)).heap.size (wr.alloc (.cells #[.string c,.string r] 49)) ((wr.alloc (.cells #[.string c,.string r] 49)).drewN nq):=bw2 (bw0 _ _) _
    replace hb1:=below_trans' hb1 hdr
    replace hb2:=hb2.trans (hdr.mono (Nat.le_of_lt hbr1))
    replace HS1:=Lib.hid (HS1.out.below hdr)
    replace y0:=y0.below hdr
    replace hbr1:=Nat.lt_of_lt_of_le hbr1 hdr.size
    clear hdr
    generalize (wr.alloc (.cells #[.string c,.string r] 49)).drewN nq=W1 at *
    refine (HNO.out _ (HG.out.below hb1) (HP.out.below hb1)).mono ?_
    rintro e w2 ⟨rfl,hB2⟩
    replace hb1:=below_trans' hb1 hB2
    replace hb2:=hb2.trans (hB2.mono (Nat.le_of_lt hbr1))
    replace HS1:=Lib.hid (HS1.out.below hB2)
    replace y0:=y0.below hB2
    replace hbr1:=Nat.lt_of_lt_of_le hbr1 hB2.size
    clear hB2 HNO
    go_wp2_with fail
    refine (HLO.out _ (HG.out.below hb1)).mono ?_
    rintro e w3 ⟨rfl,hB3⟩
    replace hb1:=below_trans' hb1 hB3
    replace hb2:=hb2.trans (hB3.mono (Nat.le_of_lt hbr1))
    replace HS1:=Lib.hid (HS1.out.below hB3)
    replace y0:=y0.below hB3
    replace hbr1:=Nat.lt_of_lt_of_le hbr1 hB3.size
    have e0:=y0.c0
    clear hB3 HLO
    go_wp2_with fail
    refine (HMU.out _ (HG.out.below hb1)).mono ?_
    rintro e w4 ⟨kk,hkk,rfl,hB4⟩
    obtain rfl:=numS_of hkk
    replace hb1:=below_trans' hb1 hB4
    replace hb2:=hb2.trans (hB4.mono (Nat.le_of_lt hbr1))
    replace HS1:=Lib.hid (HS1.out.below hB4)
    replace hbr1:=Nat.lt_of_lt_of_le hbr1 hB4.size
    clear hB4 HMU e0 y0 hkk
    generalize hkS:numS (q * C)=sx at *
    go_wp2_with fail
    refine (HGA.out _ (HG.out.below hb1) HS1.out).mono ?_
    rintro e w5 ⟨cd,rfl,hc4,hst5,hB5⟩
    replace hc4:=Lib.hid hc4
    have HS5:Hid (cd=0→KAt w5 b (Q.take (k+1))):=Lib.hid (fun h0=>by rw [HRT.out];exact KAt.step hst5 h0 hkl HKV.out HS2.out)
    replace hb2:=hb2.trans hB5
    replace hbr1:=Nat.lt_of_lt_of_le hbr1 hB5.size
    clear hst5 hB5 HGA HS1 HS2 hb1 hkl
    by_cases hcd:cd=0
    ·subst hcd
     replace HS5:=Lib.hid (HS5.out rfl)
     go_wp2_with fail
     go_roundw
     case rel=>exact ⟨k+1,by omega,by go_num,hb2,hbr1,HS5⟩
     case measure=>simp [intOf];omega
    ·go_wp2_with fail
     go_ret
     exact ⟨cd,rfl,hc4.out,Lib.hid (fun h=>absurd h hcd),hb2⟩
  ·have e:k=L.length:=by omega
   subst e
   have HS2:Hid (KAt wr b Q):=Lib.hid (by have h1:=hst.out;rwa [HLL.out,List.take_length] at h1)
   clear hst
   go_wp2_with fail
   go_ret
   exact ⟨0,rfl,.inl rfl,Lib.hid (fun _=>HS2.out),hB⟩
end Go.Proofs.YthihcjgmlbnapaaGreatDoor
namespace Go.Proofs.YthihcjgmlbnapaaGreatDoor
section
variable {P:Program} {ops:Array Oper} {Q:Exit→Act→World→Prop} {md:Region.Mode} {F:List Nat} {R:World→Prop}
theorem wpAnyS_pure {i:Nat} {oi:Oper} {v:Value} (hi:ops[i]?=some oi) (hsel:∀ (j:Nat) (o:Oper) cs b,ops[j]?=some o→o.op≠.select cs b)
  (hQ:∀ c a w,Q (.panic c) (a.put oi.dst v) w→Q (.panic c) a w) (hiF:i ∉ F) :
  ∀ (fuel:Nat) (listed:Array Bool) (a:Act) (w:World),Closed md ops listed →
   (∀ j oj,ops[j]?=some oj→j≠i→listed.getD j true=false→(∀ e ∈ oj.after,Region.binds md e=true→e.on≠i)→oi.apart ops oj=true) →
   i ∈ Region.ready md ops listed→YieldsIf P ops (fun _=>True) oi v a→SF F R listed w →
   wpAnyS P md ops Q F R fuel (listed.setIfInBounds i true) (a.put oi.dst v) w→wpAnyS P md ops Q F R (fuel+1) listed a w:=by
 have hself:∀ {listed:Array Bool} {w:World},SF F R listed w→SF F R (listed.setIfInBounds i true) w:=by
  intro listed w hS
  refine hS.imp ?_ id
  rintro ⟨f,hf,hl⟩
  exact ⟨f,hf,getD_set_true hl⟩
 intro fuel
 induction fuel with
 | zero =>
  intro listed a w hcl _ hr hy hS H
  refine ⟨fun h=>(by rw [h] at hr;cases hr),fun j hj=>?_⟩
  by_cases hji:j=i
  ·subst hji;exact hy.wpOp hi trivial ⟨hself hS,H⟩
  ·have:=ready_mono hj hji
   rw [H.1] at this
   cases this
 | succ fuel ih =>
  intro listed a w hcl hfree hr hy hS H
  refine ⟨fun h=>(by rw [h] at hr;cases hr),fun j hj=>?_⟩
  by_cases hji:j=i
  ·subst hji;exact hy.wpOp hi trivial ⟨hself hS,H⟩
  ·have h1:=H.2 j (ready_mono hj hji)
   obtain ⟨hjun,oj,hoj,hall⟩:=mem_ready.1 hj
   have hnot:∀ e ∈ oj.after,Region.binds md e=true→e.on≠i:=fun e he hb heq=>by
    have h1:=hall e he hb
    have h0:=(mem_ready.1 hr).1
    rw [heq] at h1
    rcases Nat.lt_or_ge i listed.size with h'|h'
    ·simp [h'] at h0 h1;rw [h0] at h1;cases h1
    ·simp [Array.getElem?_eq_none h'] at h1
   have h1':wpOp P ops Q j (fun a' w'=>True∧SF F R ((listed.setIfInBounds i true).setIfInBounds j true) w'∧wpAnyS P md ops Q F R fuel ((listed.setIfInBounds i true).setIfInBounds j true) a' w') (a.put oi.dst v) w:=wpOp_mono (fun a' w' h=>⟨trivial,h.1,h.2⟩) h1
   have h2:=wpOp_putIf (S:=fun _=>True) hoj (hfree j oj hoj hji hjun hnot) (fun cs b=>hsel i oi cs b hi) (fun cs b=>hsel j oj cs b hoj) hQ hy h1'
   have hfree':∀ k ok,ops[k]?=some ok→k≠i→(listed.setIfInBounds j true).getD k true=false →
     (∀ e ∈ ok.after,Region.binds md e=true→e.on≠i)→oi.apart ops ok=true:=fun k ok hk hki hun hno=>by
    refine hfree k ok hk hki ?_ hno
    by_cases hjk:j=k
    ·subst hjk;exact hjun
    ·rw [getD_set_ne true hjk] at hun;exact hun
   have hcl':=hcl.set hj
   refine wpOp_mono (fun a' w' h3=>⟨?_,ih (listed.setIfInBounds j true) a' w' hcl' hfree' (ready_mono hr (Ne.symm hji)) h3.1 ?_ ?_⟩) h2
   ·have:=h3.2.2.1
    rw [Array.setIfInBounds_comm _ _ (Ne.symm hji)] at this
    exact sF_set hiF this
   ·have:=h3.2.2.1
    rw [Array.setIfInBounds_comm _ _ (Ne.symm hji)] at this
    exact sF_set hiF this
   ·rw [Array.setIfInBounds_comm _ _ hji]
    exact h3.2.2.2
variable {listed:Array Bool} {a:Act} {w:World}
theorem takeP (d:Nat) {i:Nat} {oi:Oper} {v:Value} {fuel:Nat} (hQ:∀ c (a:Act) d v w,Q (.panic c) (a.put (some d) v) w→Q (.panic c) a w) (hS:SF F R listed w) (hi:ops[i]?=some oi) (hd:oi.dst=some d)
  (hs:Region.noSelect ops=true) (hf:Region.free md ops listed i=true) (hr:(Region.ready md ops listed).contains i=true)
  (hw:Region.wanted oi (yielded ops a.tmps)=true) (hk:F.contains i=false) (hy:∀ w,(execOp a.eval oi).run P w=.ok (.value v) w)
  (h:wpC P md ops Q F R fuel (listed.setIfInBounds i true) (a.put (some d) v) w):wpC P md ops Q F R (fuel+1) listed a w:=by
 have hr':i ∈ Region.ready md ops listed:=by simpa using hr
 intro hc
 exact wpAnyS_pure hi (Region.noSelect_spec hs) (fun c a w h=>putQ hQ c a w h) (by simpa using hk) fuel listed a w hc (Region.free_spec hi hf) hr' (Or.inl ⟨hw,fun w _=>hy w⟩) hS (by rw [hd];exact h (hc.set hr'))
end
end Go.Proofs.YthihcjgmlbnapaaGreatDoor
