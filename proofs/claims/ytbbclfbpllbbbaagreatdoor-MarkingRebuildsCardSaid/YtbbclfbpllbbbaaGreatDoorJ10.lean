/- Joined texts: WGAdd, WVisit, WSort1, WMDigits, WMTerm, WSCheck. -/
import Derived.Test.YtbbclfbpllbbbaaGreatDoorJ09
import Derived.Test.YtbbclfbpllbbbaaGreatDoorJ03
import Derived.Deep.AppendLies
import Derived.Deep.MidRow
import Derived.Test.YtbbclfbpllbbbaaGreatDoorJ08
import Derived.Test.YtbbclfbpllbbbaaGreatDoorJ07
set_option maxRecDepth 100000
set_option linter.unusedVariables false
set_option linter.unusedSimpArgs false
set_option maxHeartbeats 12800000
namespace Go.Proofs.YtbbclfbpllbbbaaGreatDoor
open Go.RowKit Go.Shelf
attribute [local go_sem] Oper.semAt_some
def GNone (W:World) (b:Nat):Prop:=BoxT1 94 W b (.slice none 0 0)
def GOne (W:World) (b:Nat) (x y:ByteArray):Prop:=∃ g cap,BoxT1 94 W b (.slice (some ⟨g,0,none⟩) 1 cap)∧W.ownsRow (b+1) 97 2 (.slice (some ⟨g,0,none⟩) 1 cap) 1 [.string x,.string y]
theorem row_block {W:World} {B:Nat} {e:TypeId} {size n cap g:Nat} {xs:List Value} (h:W.ownsRow B e size (.slice (some ⟨g,0,none⟩) n cap) n xs):∃ cur,W.heap[g]?=some (.cells cur e (0,0))∧B≤g∧n≤cap∧cap≤maxLen∧cur.size=cap * size∧cur.toList.take (n * size)=xs:=by
 rcases h.2 with ⟨h1,_⟩|⟨g',cap',cur,h1,h2,h3,h4,h5,h6,h7⟩
 ·cases h1
 ·cases h1;exact ⟨cur,h3,h2,h4,h5,h6,h7⟩
theorem rowKp {W W':World} {B:Nat} {e:TypeId} {size n:Nat} {v:Value} {xs:List Value} (h:W.ownsRow B e size v n xs) (hk:∀ k,k < W.heap.size→B≤k→W'.heap[k]?=W.heap[k]?):W'.ownsRow B e size v n xs:=by
 refine ⟨h.1,?_⟩
 rcases h.2 with h1|⟨g',cap',cur,h1,h2,h3,h4⟩
 ·exact .inl h1
 ·exact .inr ⟨g',cap',cur,h1,h2,(hk g' (Array.getElem?_eq_some_iff.1 h3).1 h2).trans h3,h4⟩
theorem GNone.below {w w':World} {b:Nat} (h:GNone w b) (hB:Below w.heap.size w w'):GNone w' b:=BoxT1.below h hB
theorem GOne.below {w w':World} {b:Nat} {x y:ByteArray} (h:GOne w b x y) (hB:Below w.heap.size w w'):GOne w' b x y:=by
 obtain ⟨g,cap,h1,h2⟩:=h
 exact ⟨g,cap,h1.below hB,rowKp h2 fun k hk _=>hB.block k hk⟩
theorem GOne.cells {W:World} {B g cap:Nat} {x y:ByteArray} (h:W.ownsRow B 97 2 (.slice (some ⟨g,0,none⟩) 1 cap) 1 [.string x,.string y]):W.cell? ⟨g,0,none⟩=some (.string x)∧W.cell? ⟨g,1,none⟩=some (.string y):=by
 obtain ⟨cur,h3,_,hc,_,hs,ht⟩:=row_block h
 have k:∀ i u,i < 2→([.string x,.string y]:List Value)[i]?=some u→W.cell? ⟨g,i,none⟩=some u:=by
  intro i u hi hu
  rw [← ht,List.getElem?_take_of_lt (by omega)] at hu
  have h4:cur[i]?=some u:=by simpa using hu
  simp [World.cell?,h3,h4]
 exact ⟨k 0 _ (by omega) rfl,k 1 _ (by omega) rfl⟩
theorem row_set {W:World} {B g cap:Nat} {x y x' y':Value} {t:TypeId} (h:W.ownsRow B t 2 (.slice (some ⟨g,0,none⟩) 1 cap) 1 [x,y]):(W.setCells g 0 [x',y']).ownsRow B t 2 (.slice (some ⟨g,0,none⟩) 1 cap) 1 [x',y']∧SameBut g W (W.setCells g 0 [x',y']):=by
 obtain ⟨cur,h3,hB,hc,hm,hs,ht⟩:=row_block h
 have e1:=heap_setCell_at (o:=0) (v:=x') h3
 have e2:=heap_setCell_at (o:=1) (v:=y') e1
 refine ⟨⟨rfl,.inr ⟨g,cap,_,rfl,hB,e2,hc,hm,by simp [hs],?_⟩⟩,(sameBut_setCell _ _ _ _).trans (sameBut_setCell _ _ _ _)⟩
 have h2:2≤cur.size:=by omega
 obtain ⟨l⟩:=cur
 match l,h2 with
 | a::b::l,_=>simp
theorem row_there {W:World} {B g cap:Nat} {x y:Value} {t:TypeId} (h:W.ownsRow B t 2 (.slice (some ⟨g,0,none⟩) 1 cap) 1 [x,y]):W.there g 0 2:=by
 obtain ⟨cur,h3,hB,hc,hm,hs,ht⟩:=row_block h
 intro i hi
 have h2:i < cur.size:=by omega
 refine ⟨?_,?_⟩
 ·simp [World.cell?,h3,h2]
 ·simp [World.frozen?,h3]
theorem gadd_none (b:Nat) (sq sn:ByteArray) (w:World) (hx:GNone w b) :
  Calls Tryz.prog 43 #[.pointer (some ⟨b,0,none⟩),.agg #[.string sq,.string sn]] w (fun e w'=>e=.returned (.int .i64 0)∧GOne w' b sq sn∧Below b w w'):=by
 obtain ⟨i0,hi0,hz0,hz1,hz2⟩:=info_parts Tryz.infoClass3
 have hb0:Below w.heap.size w (w.alloc (.cells #[.string sq,.string sn] 70)):=bw4 (bw0 _ _) _
 have x0:GNone (w.alloc (.cells #[.string sq,.string sn] 70)) b:=hx.below hb0
 have hlt:b < w.heap.size:=BoxT1.lt hx
 have c0:=BoxT1.c0 x0
 have y0:BoxT2 70 (w.alloc (.cells #[.string sq,.string sn] 70)) w.heap.size (.string sq) (.string sn):=BoxT2.new rfl
 unfold GNone at x0
 clear hx
 go_enter Tryz.func43,Tryz.ntmps43
 go_wp2_with fail
 have hz:w.heap.size < (w.alloc (.cells #[.string sq,.string sn] 70)).heap.size:=by simp
 generalize w.alloc (.cells #[.string sq,.string sn] 70)=W0 at *
 go_loopw [19] (fun i wr=>i=.int .i64 0∧wr=W0) (fun _ _=>0)
 case atStart=>exact ⟨rfl,rfl⟩
 case round =>
  obtain ⟨rfl,hwr⟩:=hrel
  subst wr
  go_wp2_with fail
  have hR:Below W0.heap.size W0 W0.drew:=(bw0 _ _).drew
  refine region_S (F:=[14]) (R:=(fun w'=>Below W0.heap.size W0 w')) 15 #[false,false,false,false,false,false,false,false,false,false,false,false,false,false,false] (by kernel_rfl) (by kernel_rfl) (by kernel_rfl) (fun _ _ _ _ _ h=>h) (fun Q' hQ' hN=>?_)
  generalize W0.drew=wd at *
  refine tkS 69 (i:=0) (v:=?_) (fw:=5) hQ' hR rfl ?_ ?_;rotate_left;(focus (intro wq hRq;have e0:=(x0.below hRq).c0;have e1:=(y0.below hRq).c0;have e2:=(y0.below hRq).c1;go_simp;(try with_reducible rfl)));(try simp only [Act.put,bw7,bw8,bw9])
  refine tkS 70 (i:=1) (v:=?_) (fw:=5) hQ' hR rfl ?_ ?_;rotate_left;(focus (intro wq hRq;have e0:=(x0.below hRq).c0;have e1:=(y0.below hRq).c0;have e2:=(y0.below hRq).c1;go_simp;(try with_reducible rfl)));(try simp only [Act.put,bw7,bw8,bw9])
  refine tkS 71 (i:=2) (v:=?_) (fw:=5) hQ' hR rfl ?_ ?_;rotate_left;(focus (intro wq hRq;have e0:=(x0.below hRq).c0;have e1:=(y0.below hRq).c0;have e2:=(y0.below hRq).c1;go_simp;(try with_reducible rfl)));(try simp only [Act.put,bw7,bw8,bw9])
  refine tkS 72 (i:=3) (v:=?_) (fw:=5) hQ' hR rfl ?_ ?_;rotate_left;(focus (intro wq hRq;have e0:=(x0.below hRq).c0;have e1:=(y0.below hRq).c0;have e2:=(y0.below hRq).c1;go_simp;(try with_reducible rfl)));(try simp only [Act.put,bw7,bw8,bw9])
  refine tkS 73 (i:=4) (v:=?_) (fw:=5) hQ' hR rfl ?_ ?_;rotate_left;(focus (intro wq hRq;have e0:=(x0.below hRq).c0;have e1:=(y0.below hRq).c0;have e2:=(y0.below hRq).c1;go_simp;(try with_reducible rfl)));(try simp only [Act.put,bw7,bw8,bw9])
  refine tkS 74 (i:=5) (v:=?_) (fw:=5) hQ' hR rfl ?_ ?_;rotate_left;(focus (intro wq hRq;have e0:=(x0.below hRq).c0;have e1:=(y0.below hRq).c0;have e2:=(y0.below hRq).c1;go_simp;(try with_reducible rfl)));(try simp only [Act.put,bw7,bw8,bw9])
  refine tkS 75 (i:=6) (v:=?_) (fw:=5) hQ' hR rfl ?_ ?_;rotate_left;(focus (intro wq hRq;have e0:=(x0.below hRq).c0;have e1:=(y0.below hRq).c0;have e2:=(y0.below hRq).c1;go_simp;(try with_reducible rfl)));(try simp only [Act.put,bw7,bw8,bw9])
  refine tkS 76 (i:=7) (v:=?_) (fw:=5) hQ' hR rfl ?_ ?_;rotate_left;(focus (intro wq hRq;have e0:=(x0.below hRq).c0;have e1:=(y0.below hRq).c0;have e2:=(y0.below hRq).c1;go_simp;(try with_reducible rfl)));(try simp only [Act.put,bw7,bw8,bw9])
  refine tkS 77 (i:=8) (v:=?_) (fw:=5) hQ' hR rfl ?_ ?_;rotate_left;(focus (intro wq hRq;have e0:=(x0.below hRq).c0;have e1:=(y0.below hRq).c0;have e2:=(y0.below hRq).c1;go_simp;(try with_reducible rfl)));(try simp only [Act.put,bw7,bw8,bw9])
  refine tkS 78 (i:=9) (v:=?_) (fw:=5) hQ' hR rfl ?_ ?_;rotate_left;(focus (intro wq hRq;have e0:=(x0.below hRq).c0;have e1:=(y0.below hRq).c0;have e2:=(y0.below hRq).c1;go_simp;(try with_reducible rfl)));(try simp only [Act.put,bw7,bw8,bw9])
  refine wpAnyS_ready (rs:=[10]) (by kernel_rfl) (by simp) ?_
  refine stepR (i:=10) rfl (by kernel_rfl) (fun K hK=>?_) (AllReadyS.nil)
  go_simp
  refine after_alloc (fun wb hB' hvb hzb=>?_)
  have hR:Below W0.heap.size W0 wb:=below_trans' hR hB'
  have hbl:BoxT2 97 wb wd.heap.size (.string sq) (.string sn):=hvb
  obtain ⟨vb,hvb'⟩:∃ vb,wd.heap.size=vb:=⟨_,rfl⟩
  rw [hvb'] at hbl hzb ⊢
  clear hvb hB' hvb'
  refine hK.out _ _ hR ?_
  clear hK K
  (try simp only [Act.put,bw7,bw8,bw9])
  refine wpAnyS_ready (rs:=[11]) (by kernel_rfl) (by simp) ?_
  refine stepR (i:=11) rfl (by kernel_rfl) (fun K hK=>?_) (AllReadyS.nil)
  refine wp_append_lies _ _ _ 92 (by rfl) (b+1) 97 i0 (.agg #[.string ⟨#[]⟩,.string ⟨#[]⟩]) 2 32 Tryz.underlying92 hi0 hz0 hz1 hz2 rfl (by decide) (.slice none 0 0) 0 [] rfl (World.ownsRow_nil _ _ _ _) ⟨vb,0,none⟩ 1 1 [.string sq,.string sn] rfl rfl (two_cells hbl) (by simp [Value.oneCell']) (by decide) (by decide) (by decide) (by have:=hR.size;omega) _ rfl (fun g cap wa hrow hgr hgH hgl=>?_)
  have hR2:Below W0.heap.size W0 wa:=Below.grown hR hgr hR.size (fun k hk=>by cases hk)
  have hR:Below W0.heap.size W0 wa:=hR2
  clear hR2 hgr hgH hgl
  refine hK.out _ _ hR ?_
  clear hK K
  (try simp only [Act.put,bw7,bw8,bw9])
  refine tkS 81 (i:=12) (v:=?_) (fw:=5) hQ' hR rfl ?_ ?_;rotate_left;(focus (intro wq hRq;have e0:=(x0.below hRq).c0;have e1:=(y0.below hRq).c0;have e2:=(y0.below hRq).c1;go_simp;(try with_reducible rfl)));(try simp only [Act.put,bw7,bw8,bw9])
  refine tkS 82 (i:=13) (v:=?_) (fw:=5) hQ' hR rfl ?_ ?_;rotate_left;(focus (intro wq hRq;have e0:=(x0.below hRq).c0;have e1:=(y0.below hRq).c0;have e2:=(y0.below hRq).c1;go_simp;(try with_reducible rfl)));(try simp only [Act.put,bw7,bw8,bw9])
  refine wpAnyS_ready (rs:=[14]) (by kernel_rfl) (by simp) ?_
  refine stepF (i:=14) rfl (by kernel_rfl) (by kernel_rfl) (fun K hK=>?_) (AllReadyS.nil)
  refine wp_store1 92 94 _ _ rfl (x0.below hR) Tryz.infoClasses rfl rfl rfl (fun wx hS hbx=>?_)
  have hrow2:=rowKp (W':=wx) hrow (fun k hk hbk=>hS.block k (by omega))
  have hBx:Below b w wx:=hS.below ((hb0.mono (by omega)).trans (hR.mono (by omega))) (Nat.le_refl _)
  clear hS hrow
  refine hK.out _ _ ?_
  clear hK K
  (try simp only [Act.put,bw7,bw8,bw9])
  refine wpAnyS_done (by kernel_rfl) ?_ _
  refine hN.out _ _ ?_
  go_wp2_with fail
  go_ret
  exact ⟨rfl,⟨g,cap,hbx,hrow2⟩,hBx⟩
theorem gadd_one (b n:Nat) (S x:Rat) (w:World) (hG:Glo w) (hx:GOne w b (numS S) (decS n)) (hS:Sz 90 S) (hxz:Sz 180 x) (h1:1≤n) (hn:n < 10 ^ 90) (h12:12≤b) :
  Calls Tryz.prog 43 #[.pointer (some ⟨b,0,none⟩),.agg #[.string (numS x),.string (decS n)]] w (fun e w'=>e=.returned (.int .i64 0)∧GOne w' b (numS (S+x)) (decS n)∧Below b w w'):=by
 obtain ⟨g,cap,hx,hrow⟩:=hx
 have HRA:=Lib.hid (fun W hG=>Ratio_ok n n (decS n) (decS n) W hG (decS_list n) (decS_list n) hn hn h1)
 rw [(ratio_self h1).1,(ratio_self h1).2] at HRA
 have HCM:=Lib.hid (fun W hG=>RCompare_ok (k:=90) (m:=90) (p:=((n:Int):Rat)) (q:=((n:Int):Rat)) (decS n) (decS n) W hG (by rw [text_natR];exact decS_list n) (sz_natR hn (by decide)) (by rw [text_natR];exact decS_list n) (sz_natR hn (by decide)) (by decide))
 have hci:Lib.compareInt ((((n:Int):Rat)).num * ((((n:Int):Rat)).den:Int)) ((((n:Int):Rat)).num * ((((n:Int):Rat)).den:Int))=0:=by unfold Lib.compareInt;rw [if_neg (by omega),if_neg (by omega)]
 rw [hci] at HCM
 have HPL:=Lib.hid (fun W hG=>cplus_ok S x n W hG hS hxz h1 hn)
 have HG:=Lib.hid hG
 have hlt:b < w.heap.size:=BoxT1.lt hx
 have hgb:b+1≤g:=(row_block hrow).choose_spec.2.1
 have hgl:g < w.heap.size:=(Array.getElem?_eq_some_iff.1 (row_block hrow).choose_spec.1).1
 obtain ⟨d0,d1⟩:=GOne.cells hrow
 have hcap:(1:Int)≤(cap:Int):=by have:=(row_block hrow).choose_spec.2.2.1;omega
 generalize numS (S+x)=sR at *
 generalize numS S=sS at *
 generalize numS x=sx at *
 generalize decS n=sn at *
 have hb0:Below w.heap.size w (w.alloc (.cells #[.string sx,.string sn] 70)):=bw4 (bw0 _ _) _
 have x0:BoxT1 94 (w.alloc (.cells #[.string sx,.string sn] 70)) b (.slice (some ⟨g,0,none⟩) 1 cap):=hx.below hb0
 have c0:=BoxT1.c0 x0
 have y0:BoxT2 70 (w.alloc (.cells #[.string sx,.string sn] 70)) w.heap.size (.string sx) (.string sn):=BoxT2.new rfl
 have r0:=rowKp hrow (W':=(w.alloc (.cells #[.string sx,.string sn] 70))) fun k hk _=>hb0.block k hk
 replace d0:=keep hb0 d0
 replace d1:=keep hb0 d1
 clear hx hrow hG hS hxz h1 hn hci
 go_enter Tryz.func43,Tryz.ntmps43
 go_wp2_with fail
 have hz:w.heap.size < (w.alloc (.cells #[.string sx,.string sn] 70)).heap.size:=by simp
 generalize w.alloc (.cells #[.string sx,.string sn] 70)=W0 at *
 go_loopw [19] (fun i wr=>i=.int .i64 0∧wr=W0) (fun _ _=>0)
 case atStart=>exact ⟨rfl,rfl⟩
 case round =>
  obtain ⟨rfl,hwr⟩:=hrel
  subst wr
  have e0:=y0.c0
  have e1:=y0.c1
  go_wp2_with fail
  clear e0 e1
  have hb1:Below w.heap.size w (W0.alloc (.cells #[.string sS,.string sn] 97)):=bw4 hb0 _
  have hB1:Below W0.heap.size W0 (W0.alloc (.cells #[.string sS,.string sn] 97)):=bw4 (bw0 _ _) _
  have y1:BoxT2 97 (W0.alloc (.cells #[.string sS,.string sn] 97)) W0.heap.size (.string sS) (.string sn):=BoxT2.new rfl
  replace y0:=y0.below hB1
  replace x0:=x0.below hB1
  replace r0:=rowKp r0 (fun k hk _=>hB1.block k hk)
  have hz1:W0.heap.size < (W0.alloc (.cells #[.string sS,.string sn] 97)).heap.size:=by simp
  generalize W0.alloc (.cells #[.string sS,.string sn] 97)=W1 at *
  refine (HRA.out _ (HG.out.below hb1)).mono ?_
  rintro e w1 ⟨r,rfl,hr,hB2⟩
  have hb2:=below_trans' hb1 hB2
  have hz2:=hB2.size
  replace y0:=y0.below hB2
  replace y1:=y1.below hB2
  replace x0:=x0.below hB2
  replace r0:=rowKp r0 (fun k hk _=>hB2.block k hk)
  have f0:=y0.c0
  have f1:=y0.c1
  have g1:=y1.c1
  have hlA:W0.heap.size < w1.heap.size:=by omega
  clear hr hB1 hB2 hb1 HRA c0 d0 d1
  go_wp2_with fail
  have hb3:Below w.heap.size w (w1.alloc (.cells #[.string sx,.string sn] 97)):=bw4 hb2 _
  have hB3:Below w1.heap.size w1 (w1.alloc (.cells #[.string sx,.string sn] 97)):=bw4 (bw0 _ _) _
  have y2:BoxT2 97 (w1.alloc (.cells #[.string sx,.string sn] 97)) w1.heap.size (.string sx) (.string sn):=BoxT2.new rfl
  replace y1:=y1.below hB3
  replace x0:=x0.below hB3
  replace r0:=rowKp r0 (fun k hk _=>hB3.block k hk)
  have hz3:w1.heap.size < (w1.alloc (.cells #[.string sx,.string sn] 97)).heap.size:=by simp
  generalize w1.alloc (.cells #[.string sx,.string sn] 97)=W2 at *
  refine (HCM.out _ (HG.out.below hb3)).mono ?_
  rintro e w3 ⟨rfl,hB4⟩
  have hb4:=below_trans' hb3 hB4
  have hz4:=hB4.size
  replace y1:=y1.below hB4
  replace y2:=y2.below hB4
  replace x0:=x0.below hB4
  replace r0:=rowKp r0 (fun k hk _=>hB4.block k hk)
  have l0:=y1.c0
  have l1:=y1.c1
  have l2:=y2.c0
  have l3:=y2.c1
  clear hB3 hB4 hb3 HCM f0 f1 g1 y0
  go_wp2_with fail
  refine (HPL.out _ (HG.out.below hb4)).mono ?_
  rintro e w5 ⟨rfl,hB5⟩
  have hb5:=below_trans' hb4 hB5
  have hz5:=hB5.size
  replace x0:=x0.below hB5
  replace r0:=rowKp r0 (fun k hk _=>hB5.block k hk)
  clear hB5 hb4 HPL l0 l1 l2 l3 y1 y2
  go_wp2_with fail
  have hb6:Below w.heap.size w (w5.alloc (.cells #[.string sR,.string sn] 97)):=bw4 hb5 _
  have hB6:Below w5.heap.size w5 (w5.alloc (.cells #[.string sR,.string sn] 97)):=bw4 (bw0 _ _) _
  have y3:BoxT2 97 (w5.alloc (.cells #[.string sR,.string sn] 97)) w5.heap.size (.string sR) (.string sn):=BoxT2.new rfl
  replace x0:=x0.below hB6
  replace r0:=rowKp r0 (fun k hk _=>hB6.block k hk)
  have hz6:w5.heap.size < (w5.alloc (.cells #[.string sR,.string sn] 97)).heap.size:=by simp
  generalize w5.alloc (.cells #[.string sR,.string sn] 97)=W3 at *
  clear hB6 hb5
  have hR:Below W3.heap.size W3 W3.drew:=(bw0 _ _).drew
  refine region_S (F:=[7]) (R:=(fun w'=>Below W3.heap.size W3 w')) 8 #[false,false,false,false,false,false,false,false] (by kernel_rfl) (by kernel_rfl) (by kernel_rfl) (fun _ _ _ _ _ h=>h) (fun Q' hQ' hN=>?_)
  generalize W3.drew=wd at *
  refine tkS 60 (i:=0) (v:=?_) (fw:=5) hQ' hR rfl ?_ ?_;rotate_left;(focus (intro wq hRq;have e0:=(x0.below hRq).c0;have e1:=(y3.below hRq).c0;have e2:=(y3.below hRq).c1;go_simp;(try with_reducible rfl)));(try simp only [Act.put,bw7,bw8,bw9])
  refine tkS 61 (i:=1) (v:=?_) (fw:=5) hQ' hR rfl ?_ ?_;rotate_left;(focus (intro wq hRq;have e0:=(x0.below hRq).c0;have e1:=(y3.below hRq).c0;have e2:=(y3.below hRq).c1;go_simp;(try with_reducible rfl)));(try simp only [Act.put,bw7,bw8,bw9])
  refine tkS 62 (i:=2) (v:=?_) (fw:=5) hQ' hR rfl ?_ ?_;rotate_left;(focus (intro wq hRq;have e0:=(x0.below hRq).c0;have e1:=(y3.below hRq).c0;have e2:=(y3.below hRq).c1;go_simp;(try with_reducible rfl)));(try simp only [Act.put,bw7,bw8,bw9])
  refine tkS 63 (i:=3) (v:=?_) (fw:=5) hQ' hR rfl ?_ ?_;rotate_left;(focus (intro wq hRq;have e0:=(x0.below hRq).c0;have e1:=(y3.below hRq).c0;have e2:=(y3.below hRq).c1;go_simp;(try with_reducible rfl)));(try simp only [Act.put,bw7,bw8,bw9])
  refine tkS 64 (i:=4) (v:=?_) (fw:=5) hQ' hR rfl ?_ ?_;rotate_left;(focus (intro wq hRq;have e0:=(x0.below hRq).c0;have e1:=(y3.below hRq).c0;have e2:=(y3.below hRq).c1;go_simp;(try with_reducible rfl)));(try simp only [Act.put,bw7,bw8,bw9])
  refine tkS 65 (i:=5) (v:=?_) (fw:=5) hQ' hR rfl ?_ ?_;rotate_left;(focus (intro wq hRq;have e0:=(x0.below hRq).c0;have e1:=(y3.below hRq).c0;have e2:=(y3.below hRq).c1;go_simp;(try with_reducible rfl)));(try simp only [Act.put,bw7,bw8,bw9])
  refine tkS 66 (i:=6) (v:=?_) (fw:=5) hQ' hR rfl ?_ ?_;rotate_left;(focus (intro wq hRq;have e0:=(x0.below hRq).c0;have e1:=(y3.below hRq).c0;have e2:=(y3.below hRq).c1;go_simp;(try with_reducible rfl)));(try simp only [Act.put,bw7,bw8,bw9])
  refine wpAnyS_ready (rs:=[7]) (by kernel_rfl) (by simp) ?_
  refine stepF (i:=7) rfl (by kernel_rfl) (by kernel_rfl) (fun K hK=>?_) (AllReadyS.nil)
  have rr:=rowKp (W':=_) r0 (fun k hk _=>hR.block k hk)
  refine wp_store_mid 97 _ _ rfl g 0 #[.string sR,.string sn] rfl rfl (row_there rr) Tryz.infoClass (by simp [Value.oneCell']) ?_
  obtain ⟨hrow2,hS⟩:=row_set (x':=.string sR) (y':=.string sn) rr
  have hbx:=(x0.below hR).but hS (by omega)
  have hBx:=hS.below ((hb6.mono (show b≤w.heap.size by omega)).trans (hR.mono (by omega))) (show b≤g by omega)
  clear hS rr
  generalize World.setCells _ g 0 _=wx at *
  refine hK.out _ _ ?_
  clear hK K
  (try simp only [Act.put,bw7,bw8,bw9])
  refine wpAnyS_done (by kernel_rfl) ?_ _
  refine hN.out _ _ ?_
  go_wp2_with fail
  go_ret
  exact ⟨rfl,⟨g,cap,hbx,hrow2⟩,hBx⟩
end Go.Proofs.YtbbclfbpllbbbaaGreatDoor
namespace Go.Proofs.YtbbclfbpllbbbaaGreatDoor
open Go.RowKit Go.Shelf
def GSt (W:World) (b:Nat):Option (Rat × Nat)→Prop
 | none=>GNone W b
 | some (S,n)=>GOne W b (numS S) (decS n)
theorem GSt.below {w w':World} {b:Nat} {o:Option (Rat × Nat)} (h:GSt w b o) (hB:Below w.heap.size w w'):GSt w' b o:=by
 cases o with
 | none=>exact GNone.below h hB
 | some x=>obtain ⟨S,n⟩:=x;exact GOne.below h hB
theorem numS_one:numS 1=⟨#[49]⟩:=by
 refine (numS_of (s:=⟨#[49]⟩) (q:=1) ?_).symm
 decide +kernel
theorem gadd_ok (b n:Nat) (Q:Raws) (x:Rat) (w:World) (hG:Glo w) (hx:GSt w b (gst n Q)) (hS:Sz 90 (gsum Q)) (hxz:Sz 180 x) (h1:1≤n) (hn:n < 10 ^ 90) (h12:12≤b) :
  Calls Tryz.prog 43 #[.pointer (some ⟨b,0,none⟩),.agg #[.string (numS x),.string (decS n)]] w (fun e w'=>e=.returned (.int .i64 0)∧GSt w' b (some (gsum Q+x,n))∧Below b w w'):=by
 cases hg:gst n Q with
 | none =>
  rw [hg] at hx
  rw [gst_none hg,Rat.zero_add]
  exact gadd_none b (numS x) (decS n) w hx
 | some y =>
  obtain ⟨S,m⟩:=y
  rw [hg] at hx
  obtain ⟨rfl,rfl⟩:=gst_some hg
  exact gadd_one b m (gsum Q) x w hG hx hS hxz h1 hn h12
theorem visit_ok (Q:Raws) (n:Nat) (L:TTexts) (b:Nat) (v:Value) (w0 w:World) (hG:Glo w0) (hP:Pri w0) (h:OneC Q n) (hL:IsRaw L Q) (hv:IsTerms w0 v L) (hw:Below w0.heap.size w0 w) (hb:GNone w b) (hwb:w0.heap.size≤b) :
  Calls Tryz.prog 42 #[v,.func (.func 43) #[.pointer (some ⟨b,0,none⟩)] #[]] w (fun e w'=>e=.returned (.int .i64 0)∧GSt w' b (gst n Q)∧Below b w w'):=by
 have h12:12≤b:=Nat.le_trans hG.2.2 hwb
 obtain ⟨hLl,hLt⟩:=hL
 have hlen:L.length≤256:=by have:=h.len;omega
 have HLL:=Lib.hid hLl
 clear hLl
 have HO:=Lib.hid h
 have HG:=Lib.hid hG
 have HP:=Lib.hid hP
 have HLT:=Lib.hid hLt
 obtain ⟨a,cap,rfl,hcap,hc⟩:=hv
 have HC:=Lib.hid hc
 have hbl:b < w.heap.size:=BoxT1.lt hb
 have HB0:=Lib.hid hb
 clear hG hP hLt hc h hb
 go_enter Tryz.func42,Tryz.ntmps42
 go_wp2_with fail
 go_loopw [13] (fun i wr=>∃ k:Nat,k≤L.length∧i=.int .i64 k∧Below b w wr∧b < wr.heap.size∧Hid (GSt wr b (gst n (Q.take k)))) (fun i _=>L.length - (intOf i).toNat)
 case atStart=>exact ⟨0,by omega,rfl,bw0 _ _,hbl,Lib.hid (by rw [List.take_zero];exact HB0.out)⟩
 case round =>
  obtain ⟨k,hk,rfl,hB,hbr,hst⟩:=hrel
  by_cases hlt:k < L.length
  ·obtain ⟨bt,off,rfl,hcell⟩:=HC.out (fun h=>by rw [h] at hlt;simp at hlt)
   have hB0:Below w0.heap.size w0 wr:=hw.trans (hB.mono hwb)
   obtain ⟨d0,d1⟩:=(hcell k hlt).below (w':=wr) hB0
   have hbt:=lt_of_cell (hcell k hlt).1
   have hkq:k < Q.length:=by have:=HLL.out;omega
   obtain ⟨t0,t1⟩:=HLT.out k hkq
   obtain ⟨q,hq⟩:∃ q,(rq Q k).1=q:=⟨_,rfl⟩
   obtain ⟨p,hp⟩:∃ p,(rq Q k).2=p:=⟨_,rfl⟩
   have hqp:rq Q k=(q,p):=by rw [← hq,← hp]
   have hsq:=HO.out.sq k hkq
   have hsp:=HO.out.sr k hkq
   have hp0:=HO.out.r0 k hkq
   have hcls:=HO.out.cls k hkq
   have hsS:=HO.out.st k (by omega)
   have hsS':=HO.out.st (k+1) (by omega)
   rw [rq_take hkq] at hsS'
   have HRT:=Lib.hid (rq_take hkq)
   rw [hqp] at hcls hsS' HRT
   rw [hq] at hsq t0
   rw [hp] at hsp hp0 t1
   obtain ⟨c,hcc⟩:∃ c,(tt L k).1=c:=⟨_,rfl⟩
   obtain ⟨r,hrr⟩:∃ r,(tt L k).2=r:=⟨_,rfl⟩
   rw [hcc] at t0 d0
   rw [hrr] at t1 d1
   have hltI:(k:Int) < (L.length:Int):=by omega
   have hk1:IntKind.i64.wrap ((k:Int)+1)=((k+1:Nat):Int):=IntWalk.i64_in _ (by omega)
   have hq0:(c.toList == [48])=decide (q=0):=by rw [Lib.toList_data,t0,text_eq0]
   have hr1:(r.toList == [49])=decide (p=1):=by rw [Lib.toList_data,t1,text_eq1]
   have hr0:(r.toList == [48])=decide (p=0):=by rw [Lib.toList_data,t1,text_eq0]
   have hb1:Below w0.heap.size w0 (wr.alloc (.cells #[.string c,.string r] 70)):=bw4 hB0 _
   have hb2:Below b w (wr.alloc (.cells #[.string c,.string r] 70)):=hB.trans ((bw4 (bw0 _ _) _).mono (Nat.le_of_lt hbr))
   have HS1:=Lib.hid (hst.out.below (bw4 (bw0 _ _) (.cells #[.string c,.string r] 70)))
   have hbr1:b < (wr.alloc (.cells #[.string c,.string r] 70)).heap.size:=by simp;omega
   have y0:BoxT2 70 (wr.alloc (.cells #[.string c,.string r] 70)) wr.heap.size (.string c) (.string r):=BoxT2.new rfl
   have HT0:=Lib.hid t0
   have HT1:=Lib.hid t1
   clear hcell hcc hrr hq hp hqp t0 t1 hst
   by_cases g1:q=0
   ·have HS2:Hid (GSt (wr.alloc (.cells #[.string c,.string r] 70)) b (gst n (Q.take (k+1)))):=Lib.hid (by rw [HRT.out,gst_zero (by unfold nzB;simp [g1])];exact HS1.out)
    rw [decide_eq_true g1] at hq0
    clear hr1 hr0 g1 hcls hsS hsS' hsq hsp hp0 HS1
    go_wp2_with fail
    go_roundw
    case rel=>exact ⟨k+1,by omega,by go_num,hb2,hbr1,HS2⟩
    case measure=>simp [intOf];omega
   by_cases g2:p=0
   ·have HS2:Hid (GSt (wr.alloc (.cells #[.string c,.string r] 70)) b (gst n (Q.take (k+1)))):=Lib.hid (by rw [HRT.out,gst_zero (by unfold nzB;simp [g2])];exact HS1.out)
    rw [decide_eq_false g1] at hq0
    rw [decide_eq_true g2] at hr0
    clear hr1 g1 g2 hcls hsS hsS' hsq hsp hp0 HS1
    go_wp2_with fail
    go_roundw
    case rel=>exact ⟨k+1,by omega,by go_num,hb2,hbr1,HS2⟩
    case measure=>simp [intOf];omega
   have hnz:nzB (q,p)=true:=by unfold nzB;simp [g1,g2]
   have hpn:0 < p.num:=by
    rcases Int.lt_trichotomy p.num 0 with h|h|h
    ·omega
    ·exact absurd (Rat.num_eq_zero.1 h) g2
    ·exact h
   have hcl:=hcls hnz
   have hsC:=(normQ_sz hpn hsp).1
   obtain ⟨C,hC⟩:∃ C,(normQ p).1=C:=⟨_,rfl⟩
   have hNQ:normQ p=(C,n):=by rw [← hC,← hcl]
   rw [hC] at hsC
   have hx:tv (q,p)=q * C:=by unfold tv;rw [if_pos hnz,hNQ]
   have HS2:Hid (gst n (Q.take (k+1))=some (gsum (Q.take k)+q * C,n)):=Lib.hid (by rw [HRT.out,gst_more hnz,hx])
   have hn40:=HO.out.n40
   have hn1:=HO.out.n1
   have hn90:n < 10 ^ 90:=Nat.lt_of_lt_of_le (lenSz hn40) (Nat.pow_le_pow_right (by decide) (by decide))
   have HLO:=Lib.hid (fun W hG=>longest_ok (k:=90) (decS n) W hG (by rw [text_natR];exact decS_list n) (sz_natR hn90 (by decide)) (by decide))
   have hlD:longD ((n:Int):Rat)≤90:=by
    unfold longD
    have e1:(((n:Int):Rat)).num=(n:Int):=rfl
    have e2:(((n:Int):Rat)).den=1:=rfl
    have h1:(Lib.decDigits 1).length=1:=by decide +kernel
    rw [e1,e2,Int.natAbs_natCast,h1];omega
   generalize longD ((n:Int):Rat)=D at *
   have hDI:¬ (90:Int) < (D:Int):=by omega
   have HMU:=Lib.hid (fun W hG=>RMul_ok (a:=90) (b:=90) c (numS C) W hG HT0.out hsq (numS_list C) hsC (by decide))
   have HGA:=Lib.hid (fun W hG hst=>gadd_ok b n (Q.take k) (q * C) W hG hst hsS (hsq.mul hsC) hn1 hn90 h12)
   rw [decide_eq_false g1] at hq0
   rw [decide_eq_false g2] at hr0
   have htail:∀ (W:World),True:=fun _=>trivial
   by_cases g3:p=1
   ·rw [decide_eq_true g3] at hr1
    have hCn:C=1∧n=1:=by
     have h1:=hNQ
     rw [g3,normQ_one] at h1
     cases h1
     exact ⟨rfl,rfl⟩
    have hCS:numS C=⟨#[49]⟩:=by rw [hCn.1,numS_one]
    have hrn:r=decS n:=decS_of (by rw [HT1.out,g3,hCn.2];decide +kernel)
    rw [hCS] at HMU
    rw [← hrn] at HLO HGA
    clear hCn hCS hrn hcl hC hNQ hcls hsS hsS' hsq hsp hp0 hsC hx hnz hpn g1 g2 g3 hn40 hn90 htail
    go_wp2_with fail
    go_quiet (fail)
    go_wp2_with fail
    have hdr:Below (wr.alloc (.cells #[.string c,.string r] 70)).heap.size (wr.alloc (.cells #[.string c,.string r] 70)) ((wr.alloc (.cells #[.string c,.string r] 70)).drewN nq):=bw2 (bw0 _ _) _
    replace hb1:=below_trans' hb1 hdr
    replace hb2:=hb2.trans (hdr.mono (Nat.le_of_lt hbr1))
    replace HS1:=Lib.hid (HS1.out.below hdr)
    replace y0:=y0.below hdr
    replace hbr1:=Nat.lt_of_lt_of_le hbr1 hdr.size
    clear hdr
    generalize (wr.alloc (.cells #[.string c,.string r] 70)).drewN nq=W1 at *
    refine (HLO.out _ (HG.out.below hb1)).mono ?_
    rintro e w3 ⟨rfl,hB3⟩
    replace hb1:=below_trans' hb1 hB3
    replace hb2:=hb2.trans (hB3.mono (Nat.le_of_lt hbr1))
    replace HS1:=Lib.hid (HS1.out.below hB3)
    replace y0:=y0.below hB3
    replace hbr1:=Nat.lt_of_lt_of_le hbr1 hB3.size
    have e0:=y0.c0
    clear hB3 HLO
    go_wp2_with fail
    refine (HMU.out _ (HG.out.below hb1)).mono ?_
    rintro e w4 ⟨kk,hkk,rfl,hB4⟩
    obtain rfl:=numS_of hkk
    replace hb1:=below_trans' hb1 hB4
    replace hb2:=hb2.trans (hB4.mono (Nat.le_of_lt hbr1))
    replace HS1:=Lib.hid (HS1.out.below hB4)
    replace hbr1:=Nat.lt_of_lt_of_le hbr1 hB4.size
    clear hB4 HMU e0 y0 hkk
    generalize hkS:numS (q * C)=sx at *
    go_wp2_with fail
    refine (HGA.out _ (HG.out.below hb1) HS1.out).mono ?_
    rintro e w5 ⟨rfl,hst5,hB5⟩
    have HS5:Hid (GSt w5 b (gst n (Q.take (k+1)))):=Lib.hid (by rw [HS2.out];exact hst5)
    replace hb2:=hb2.trans hB5
    replace hbr1:=Nat.lt_of_lt_of_le hbr1 hB5.size
    clear hst5 hB5 HGA HS1 HS2 hb1
    go_wp2_with fail
    go_roundw
    case rel=>exact ⟨k+1,by omega,by go_num,hb2,hbr1,HS5⟩
    case measure=>simp [intOf];omega
   ·rw [decide_eq_false g3] at hr1
    have hrp:r=numS p:=numS_of HT1.out
    have HNO:=Lib.hid (fun W hG hP=>(show Calls Tryz.prog 83 #[.string (numS p)] W (RetB (.tuple #[.string (numS (normQ p).1),.string (decS (normQ p).2),.int .i64 0]) W) from Normal_ok p W hG hP hsp (by omega)))
    rw [← hrp,hNQ] at HNO
    dsimp only at HNO
    generalize numS C=sC at *
    generalize decS n=sn at *
    clear hrp hcl hC hNQ hcls hsS hsS' hsq hsp hp0 hsC hx hnz hpn g1 g2 g3 hn40 hn90 htail
    go_wp2_with fail
    go_quiet (fail)
    go_wp2_with fail
    have hdr:Below (wr.alloc (.cells #[.string c,.string r] 70)).heap.size (wr.alloc (.cells #[.string c,.string r] 70)) ((wr.alloc (.cells #[.string c,.string r] 70)).drewN nq):=bw2 (bw0 _ _) _
    replace hb1:=below_trans' hb1 hdr
    replace hb2:=hb2.trans (hdr.mono (Nat.le_of_lt hbr1))
    replace HS1:=Lib.hid (HS1.out.below hdr)
    replace y0:=y0.below hdr
    replace hbr1:=Nat.lt_of_lt_of_le hbr1 hdr.size
    clear hdr
    generalize (wr.alloc (.cells #[.string c,.string r] 70)).drewN nq=W1 at *
    refine (HNO.out _ (HG.out.below hb1) (HP.out.below hb1)).mono ?_
    rintro e w2 ⟨rfl,hB2⟩
    replace hb1:=below_trans' hb1 hB2
    replace hb2:=hb2.trans (hB2.mono (Nat.le_of_lt hbr1))
    replace HS1:=Lib.hid (HS1.out.below hB2)
    replace y0:=y0.below hB2
    replace hbr1:=Nat.lt_of_lt_of_le hbr1 hB2.size
    clear hB2 HNO
    go_wp2_with fail
    refine (HLO.out _ (HG.out.below hb1)).mono ?_
    rintro e w3 ⟨rfl,hB3⟩
    replace hb1:=below_trans' hb1 hB3
    replace hb2:=hb2.trans (hB3.mono (Nat.le_of_lt hbr1))
    replace HS1:=Lib.hid (HS1.out.below hB3)
    replace y0:=y0.below hB3
    replace hbr1:=Nat.lt_of_lt_of_le hbr1 hB3.size
    have e0:=y0.c0
    clear hB3 HLO
    go_wp2_with fail
    refine (HMU.out _ (HG.out.below hb1)).mono ?_
    rintro e w4 ⟨kk,hkk,rfl,hB4⟩
    obtain rfl:=numS_of hkk
    replace hb1:=below_trans' hb1 hB4
    replace hb2:=hb2.trans (hB4.mono (Nat.le_of_lt hbr1))
    replace HS1:=Lib.hid (HS1.out.below hB4)
    replace hbr1:=Nat.lt_of_lt_of_le hbr1 hB4.size
    clear hB4 HMU e0 y0 hkk
    generalize hkS:numS (q * C)=sx at *
    go_wp2_with fail
    refine (HGA.out _ (HG.out.below hb1) HS1.out).mono ?_
    rintro e w5 ⟨rfl,hst5,hB5⟩
    have HS5:Hid (GSt w5 b (gst n (Q.take (k+1)))):=Lib.hid (by rw [HS2.out];exact hst5)
    replace hb2:=hb2.trans hB5
    replace hbr1:=Nat.lt_of_lt_of_le hbr1 hB5.size
    clear hst5 hB5 HGA HS1 HS2 hb1
    go_wp2_with fail
    go_roundw
    case rel=>exact ⟨k+1,by omega,by go_num,hb2,hbr1,HS5⟩
    case measure=>simp [intOf];omega
  ·have e:k=L.length:=by omega
   subst e
   have HS2:Hid (GSt wr b (gst n Q)):=Lib.hid (by have h1:=hst.out;rwa [HLL.out,List.take_length] at h1)
   clear hst
   go_wp2_with fail
   go_ret
   exact ⟨rfl,HS2.out,hB⟩
end Go.Proofs.YtbbclfbpllbbbaaGreatDoor
namespace Go.Proofs.YtbbclfbpllbbbaaGreatDoor
open Go.RowKit Go.Shelf
theorem insSort1_ok (n:Nat) (a:Option Addr) (cap:Nat) (w:World) (hn:n≤1) :
  Calls Tryz.prog 152 #[.slice a n cap,.int .i64 0,.int .i64 (n:Int),.func (.func 46) #[] #[]] w (RetB (.tuple #[]) w):=by
 have h1:¬ (1:Int) < (n:Int):=by omega
 go_enter Tryz.func152,Tryz.ntmps152
 go_wp2_with fail
 go_loopw [8] (fun i wr=>i=.int .i64 1∧wr=w) (fun _ _=>0)
 case atStart=>exact ⟨rfl,rfl⟩
 case round =>
  obtain ⟨rfl,hwr⟩:=hrel
  subst wr
  go_wp2_with fail
  go_end0
  exact ⟨rfl,qbl⟩
theorem pdq1_ok (n:Nat) (a:Option Addr) (cap:Nat) (l:Int) (w:World) (hn:n≤1) :
  Calls Tryz.prog 98 #[.slice a n cap,.int .i64 0,.int .i64 (n:Int),.int .i64 l,.func (.func 46) #[] #[]] w (RetB (.tuple #[]) w):=by
 have h1:(n:Int)≤12:=by omega
 have h2:IntKind.i64.wrap (n:Int)=(n:Int):=IntWalk.i64_in _ (by omega)
 go_enter Tryz.func98,Tryz.ntmps98
 go_wp2_with fail
 go_loopw [1,2,3,10,11] (fun x y z u v wr=>x=.int .i64 0∧y=.int .i64 (n:Int)∧wr=w) (fun _ _ _ _ _ _=>0)
 case atStart=>exact ⟨rfl,rfl,rfl⟩
 case round =>
  obtain ⟨rfl,rfl,hwr⟩:=hrel
  subst wr
  go_wp2_with fail
  refine (insSort1_ok n a cap w hn).mono ?_
  rintro e w1 ⟨rfl,hB1⟩
  go_wp2_with fail
  go_end0
  exact ⟨rfl,hB1⟩
theorem sort1_ok (n:Nat) (a:Option Addr) (cap:Nat) (w:World) (hn:n≤1) :
  Calls Tryz.prog 45 #[.slice a n cap,.func (.func 46) #[] #[]] w (RetB (.tuple #[]) w):=by
 have h1:(0:Int)≤(n:Int):=by omega
 have h2:(n:Int)≤18446744073709551615:=by omega
 have h3:IntKind.u64.wrap (n:Int)=(n:Int):=by unfold IntKind.wrap;simp [IntKind.signed,IntKind.bits];omega
 have HBL:=Lib.hid (fun W=>Tryz.bits_Len (n:Int) W h1 h2)
 have HPD:=Lib.hid (fun l W=>pdq1_ok n a cap l W hn)
 clear hn
 go_enter Tryz.func45,Tryz.ntmps45
 go_wp2_with fail
 refine (HBL.out _).mono ?_
 rintro e w1 ⟨rfl,rfl⟩
 go_wp2_with fail
 refine (HPD.out _ _).mono ?_
 rintro e w1 ⟨rfl,hB1⟩
 go_wp2_with fail
 go_end0
 exact ⟨rfl,hB1⟩
end Go.Proofs.YtbbclfbpllbbbaaGreatDoor
namespace Go.Proofs.YtbbclfbpllbbbaaGreatDoor
open Go.RowKit
def RetCutD (s:ByteArray) (w:World) (e:Ending) (w':World):Prop:=∃ a b:ByteArray,a.data.toList=tkD s.data.toList∧b.data.toList=drD s.data.toList∧e=.returned (.tuple #[.string a,.string b,.bool (goodDig s.data.toList)])∧∃ n,w'=w.drewN n
theorem extract_takeD (s:ByteArray) (k:Nat):(s.extract 0 k).data.toList=s.data.toList.take k:=by
 rw [ByteArray.data_extract,Array.toList_extract]
 simp
theorem extract_drop' (s:ByteArray) (k:Nat):(s.extract k s.size).data.toList=s.data.toList.drop k:=by rw [extract_drop]
theorem mdigits_ok (s:ByteArray) (w:World) (hl:s.size≤4096) :
  Calls Tryz.prog 79 #[.string s] w (RetCutD s w):=by
 go_enter Tryz.func79,Tryz.ntmps79
 go_upto_block 0 with fail
 go_cut [5] (fun i wr=>i=.int .i64 (nDig s.data.toList:Nat)∧wr=w)
 case first =>
  go_wp2_with fail
  go_loopw [5] (fun i wr=>∃ k:Nat,k≤nDig s.data.toList∧i=.int .i64 k∧wr=w) (fun i _=>s.size - (intOf i).toNat)
  case atStart=>exact ⟨0,Nat.zero_le _,rfl,rfl⟩
  case round =>
   obtain ⟨k,hk,rfl,rfl⟩:=hrel
   have hkn:=nDig_le s.data.toList
   have hln:s.data.toList.length=s.size:=rfl
   by_cases hlt:k < nDig s.data.toList
   ·have hks:k < s.size:=by omega
    obtain ⟨hd1,hd2⟩:=(isDig_iff _).1 (isDig_of_lt s.data.toList k hlt hks)
    have hd1':(48:Int)≤(s[k].toNat:Int):=by exact_mod_cast hd1
    have hd2':(s[k].toNat:Int)≤57:=by exact_mod_cast hd2
    clear hd1 hd2 hln
    go_wp2
    go_roundw
    case rel=>exact ⟨k+1,hlt,by go_num,by trivial⟩
    case measure=>simp [intOf];omega
   ·have hK:k=nDig s.data.toList:=by omega
    subst hK
    by_cases hks:nDig s.data.toList < s.size
    ·have hd:=not_isDig_at s.data.toList hks
     by_cases hd1:(48:Int)≤(s[nDig s.data.toList].toNat:Int)
     ·have hd2:¬ (s[nDig s.data.toList].toNat:Int)≤57:=fun h=>by
       have:isDig s.data.toList[nDig s.data.toList]=true:=(isDig_iff _).2 ⟨by exact_mod_cast hd1,by exact_mod_cast h⟩
       rw [this] at hd;cases hd
      clear hd hln
      go_wp2
      go_meet
      exact ⟨rfl,rfl⟩
     ·clear hd hln
      go_wp2
      go_meet
      exact ⟨rfl,rfl⟩
    ·clear hln
     go_wp2
     go_meet
     exact ⟨rfl,rfl⟩
 case rest =>
  obtain ⟨rfl,rfl⟩:=hcut
  have hkn:nDig s.data.toList≤s.size:=nDig_le s.data.toList
  have HD:=Lib.hid (show goodDig s.data.toList=(decide (nDig s.data.toList=1) || (decide (1 < nDig s.data.toList) && decide (s.data.toList.head?≠some 48))) from rfl)
  have HA:=Lib.hid (show tkD s.data.toList=s.data.toList.take (nDig s.data.toList) from rfl)
  have HB:=Lib.hid (show drD s.data.toList=s.data.toList.drop (nDig s.data.toList) from rfl)
  generalize hK:nDig s.data.toList=K at *
  obtain ⟨G,hGG⟩:∃ G,goodDig s.data.toList=G:=⟨_,rfl⟩
  rw [hGG] at HD
  have HGG:=Lib.hid hGG
  clear hGG
  have h0:(0:Int)≤(K:Int):=by omega
  have hKI:(K:Int)≤(s.size:Int):=by omega
  by_cases h1:K=1
  ·have HG1:Hid (G=true):=Lib.hid (by rw [HD.out,h1];simp)
   have h1b:((K:Int) == 1)=true:=by rw [h1];decide
   clear hK HD h1
   go_wp2_with fail
   go_quiet (fail)
   go_wp2_with fail
   refine bodyPost_ret (v:=.tuple #[.string (s.extract 0 K),.string (s.extract K s.size),.bool G]) (by simp [results,Tryz.results79,go_sem,HG1.out]) rfl ?_
   exact ⟨_,_,by rw [HA.out];exact extract_takeD s K,by rw [HB.out];exact extract_drop' s K,by rw [HGG.out],by first|exact ⟨0,rfl⟩|exact ⟨_,rfl⟩|exact ⟨1,rfl⟩|exact ⟨2,rfl⟩⟩
  have h1b:((K:Int) == 1)=false:=by rw [beq_eq_false_iff_ne];omega
  by_cases h2:1 < K
  ·have h2':(1:Int) < (K:Int):=by omega
   have hs0:0 < s.size:=by omega
   by_cases hz:((s[0].toNat:Int) == 48)=true
   ·have HG1:Hid (G=false):=Lib.hid (by rw [HD.out,headq hs0 hz];simp [h1])
    clear hK HD
    go_wp2_with fail
    go_quiet (fail)
    go_wp2_with fail
    refine bodyPost_ret (v:=.tuple #[.string (s.extract 0 K),.string (s.extract K s.size),.bool G]) (by simp [results,Tryz.results79,go_sem,HG1.out,eq_of_beq hz]) rfl ?_
    exact ⟨_,_,by rw [HA.out];exact extract_takeD s K,by rw [HB.out];exact extract_drop' s K,by rw [HGG.out],by first|exact ⟨0,rfl⟩|exact ⟨_,rfl⟩|exact ⟨1,rfl⟩|exact ⟨2,rfl⟩⟩
   ·have hz':((s[0].toNat:Int) == 48)=false:=by simpa using hz
    have HG1:Hid (G=true):=Lib.hid (by
     rw [HD.out]
     have h3:s.data.toList.head?≠some 48:=fun h=>hz (headq' hs0 h)
     simp [h2,h3])
    clear hK HD hz
    go_wp2_with fail
    go_quiet (fail)
    go_wp2_with fail
    refine bodyPost_ret (v:=.tuple #[.string (s.extract 0 K),.string (s.extract K s.size),.bool G]) (by simp [results,Tryz.results79,go_sem,HG1.out,ne_of_beq_false hz']) rfl ?_
    exact ⟨_,_,by rw [HA.out];exact extract_takeD s K,by rw [HB.out];exact extract_drop' s K,by rw [HGG.out],by first|exact ⟨0,rfl⟩|exact ⟨_,rfl⟩|exact ⟨1,rfl⟩|exact ⟨2,rfl⟩⟩
  ·have HG1:Hid (G=false):=Lib.hid (by rw [HD.out];simp [h1,h2])
   have h2':decide ((1:Int) < (K:Int))=false:=by simp;omega
   clear hK HD
   go_wp2_with fail
   go_quiet (fail)
   go_wp2_with fail
   refine bodyPost_ret (v:=.tuple #[.string (s.extract 0 K),.string (s.extract K s.size),.bool G]) (by simp [results,Tryz.results79,go_sem,HG1.out]) rfl ?_
   exact ⟨_,_,by rw [HA.out];exact extract_takeD s K,by rw [HB.out];exact extract_drop' s K,by rw [HGG.out],by first|exact ⟨0,rfl⟩|exact ⟨_,rfl⟩|exact ⟨1,rfl⟩|exact ⟨2,rfl⟩⟩
end Go.Proofs.YtbbclfbpllbbbaaGreatDoor
namespace Go.Proofs.YtbbclfbpllbbbaaGreatDoor
open Go.RowKit
theorem hasPre1 (l:List UInt8) (c:UInt8):Lib.hasPrefix l [c]=decide (l.head?=some c):=by
 cases l with
 | nil=>rfl
 | cons a t =>
  simp only [Lib.hasPrefix,List.isPrefixOf,Bool.and_true,List.head?_cons,Option.some.injEq]
  by_cases h:c=a
  ·subst h;simp
  ·have h2:¬ a=c:=fun e=>h e.symm
   simp [h,h2]
theorem trimPre1 (l:List UInt8) (c:UInt8):Lib.trimPrefix l [c]=if l.head?=some c then l.tail else l:=by
 have h:=hasPre1 l c
 unfold Lib.trimPrefix
 rw [h]
 by_cases h2:l.head?=some c
 ·simp [h2]
 ·simp [h2]
def RetTermF (l:List UInt8) (first:Bool) (w:World) (e:Ending) (w':World):Prop:=((Hid (termF l first=none)∧e=.returned (.tuple #[.agg #[.string ⟨#[]⟩,.string ⟨#[]⟩],.string ⟨#[]⟩,.bool false]))∨∃ c r s:ByteArray,Hid (termF l first=some (c.data.toList,r.data.toList,s.data.toList))∧e=.returned (.tuple #[.agg #[.string c,.string r],.string s,.bool true]))∧Below w.heap.size w w'
theorem termF_of {l l1 sg:List UInt8} {first:Bool} (h:signF l first=some (sg,l1)):termF l first=if goodDig l1=true then
   (match fracF (sg++tkD l1) (drD l1) with
   | none=>none
   | some (c,l2)=>match rootF l2 with
    | none=>none
    | some (r,l3)=>some (c,r,l3))
  else none:=by unfold termF;rw [h];rfl
theorem termF_no {l:List UInt8} {first:Bool} (h:signF l first=none):termF l first=none:=by unfold termF;rw [h]
theorem head_size {s:ByteArray} {c:UInt8} (h:s.data.toList.head?=some c):1≤s.size:=by
 refine Nat.pos_of_ne_zero fun h0=>?_
 rw [data_nil h0] at h
 cases h
theorem tail_list (s:ByteArray):(s.extract 1 s.size).data.toList=s.data.toList.tail:=by
 rw [extract_drop',List.drop_one]
theorem mterm_minus (s:ByteArray) (first:Bool) (w:World) (hl:s.size≤4096) (h45:s.data.toList.head?=some 45) :
  Calls Tryz.prog 31 #[.string s,.bool first] w (RetTermF s.data.toList first w):=by
 have HM:=Lib.hid (fun W=>hasPrefix_any s ⟨#[45]⟩ W (hasPre1 s.data.toList 45))
 have HP:=Lib.hid (fun W=>hasPrefix_any s ⟨#[43]⟩ W (hasPre1 s.data.toList 43))
 have HD:=Lib.hid (fun (x:ByteArray) W (h:x.size≤4096)=>mdigits_ok x W h)
 have HC:=Lib.hid (fun (x:ByteArray) (c:UInt8) W=>cutPrefix_any x ⟨#[c]⟩ W (trimPre1 x.data.toList c) (hasPre1 x.data.toList c))
 have hsz:=head_size h45
 have hszI:(1:Int)≤(s.size:Int):=by omega
 have HF:Hid (signF s.data.toList first=some ([45],(s.extract 1 s.size).data.toList)):=Lib.hid (by unfold signF;rw [if_pos h45,tail_list])
 rw [decide_eq_true h45] at HM
 have hx:(s.extract 1 s.size).size≤4096:=by rw [ByteArray.size_extract];omega
 clear h45
 go_enter Tryz.func31,Tryz.ntmps31
 go_wp2_with fail
 refine (HM.out _).mono ?_
 rintro e w0 ⟨rfl,rfl⟩
 clear HM
 go_wp2_with fail
 go_quiet (fail)
 go_wp2_with fail
 generalize s.extract 1 s.size=x at *
 refine (HD.out x _ hx).mono ?_
 rintro e w1 ⟨a,b,ha,hb,rfl,n1,rfl⟩
 have hasz:a.size≤4096:=by have e1:a.size=a.data.toList.length:=rfl;have e2:x.size=x.data.toList.length:=rfl;rw [e1,ha];unfold tkD;rw [List.length_take];omega
 have hbsz:b.size≤4096:=by have e1:b.size=b.data.toList.length:=rfl;have e2:x.size=x.data.toList.length:=rfl;rw [e1,hb];unfold drD;rw [List.length_drop];omega
 have HTF:=Lib.hid (termF_of HF.out)
 cases hg1:goodDig x.data.toList
 ·have HR:=Lib.hid (show termF s.data.toList first=none from by rw [HTF.out,hg1];rfl)
  clear ha hb HTF HF hg1
  go_wp2_with fail
  refine bodyPost_ret (v:=.tuple #[.agg #[.string ⟨#[]⟩,.string ⟨#[]⟩],.string ⟨#[]⟩,.bool false]) (by simp [results,Tryz.results31,go_sem]) rfl ⟨.inl ⟨HR,rfl⟩,qbl⟩
 have HT2:=Lib.hid (show termF s.data.toList first=(match fracF (([45]:List UInt8)++a.data.toList) b.data.toList with|none=>none|some (c,l2)=>match rootF l2 with|none=>none|some (r,l3)=>some (c,r,l3)) from by rw [HTF.out,hg1,ha,hb];rfl)
 clear ha hb HTF HF hg1
 go_wp2_with fail
 refine (HC.out b 47 _).mono ?_
 rintro e w2 ⟨y0,hy0,rfl,rfl⟩
 have hy0s:y0.size≤4096:=by have e1:y0.size=y0.data.toList.length:=rfl;have e2:b.size=b.data.toList.length:=rfl;rw [e1,hy0.out];split<;>simp<;>omega
 by_cases g2:b.data.toList.head?=some 47
 ·have hyl0:y0.data.toList=b.data.toList.tail:=by rw [hy0.out,if_pos g2]
  rw [decide_eq_true g2]
  go_wp2_with fail
  refine (HD.out y0 _ hy0s).mono ?_
  rintro e w3 ⟨d,f,hd,hf,rfl,n3,rfl⟩
  have hdsz:d.size≤4096:=by have e1:d.size=d.data.toList.length:=rfl;have e2:y0.size=y0.data.toList.length:=rfl;rw [e1,hd];unfold tkD;rw [List.length_take];omega
  have hfsz:f.size≤4096:=by have e1:f.size=f.data.toList.length:=rfl;have e2:y0.size=y0.data.toList.length:=rfl;rw [e1,hf];unfold drD;rw [List.length_drop];omega
  cases hg2:goodDig y0.data.toList
  ·have HR:=Lib.hid (show termF s.data.toList first=none from by rw [HT2.out];unfold fracF;rw [if_pos g2,← hyl0,hg2];rfl)
   clear hd hf hg2 hyl0 g2 hy0 HT2
   go_wp2_with fail
   refine bodyPost_ret (v:=.tuple #[.agg #[.string ⟨#[]⟩,.string ⟨#[]⟩],.string ⟨#[]⟩,.bool false]) (by simp [results,Tryz.results31,go_sem]) rfl ⟨.inl ⟨HR,rfl⟩,qbl⟩
  have HF2:=Lib.hid (show termF s.data.toList first=(match rootF f.data.toList with|none=>none|some (r,l3)=>some (((⟨#[45]⟩:ByteArray)++a++⟨#[47]⟩++d).data.toList,r,l3)) from by rw [HT2.out];unfold fracF;rw [if_pos g2,← hyl0,hg2];simp only [if_true,hd,hf,ByteArray.data_append,Array.toList_append,List.append_assoc,List.cons_append,List.nil_append])
  clear hd hf hg2 hyl0 g2 hy0 HT2
  go_wp2_with fail
  refine (HC.out f 114 _).mono ?_
  rintro e w4 ⟨y,hy,rfl,rfl⟩
  have hys:y.size≤4096:=by have e1:y.size=y.data.toList.length:=rfl;have e2:f.size=f.data.toList.length:=rfl;rw [e1,hy.out];split<;>simp<;>omega
  by_cases g3:f.data.toList.head?=some 114
  ·have hyl:y.data.toList=f.data.toList.tail:=by rw [hy.out,if_pos g3]
   rw [decide_eq_true g3]
   go_wp2_with fail
   refine (HD.out y _ hys).mono ?_
   rintro e w5 ⟨p,q,hp,hq,rfl,n5,rfl⟩
   cases hg3:goodDig y.data.toList
   ·have HR:=Lib.hid (show termF s.data.toList first=none from by rw [HF2.out];unfold rootF;rw [if_pos g3,← hyl,hg3];rfl)
    clear hp hq hg3 hyl g3 hy HF2
    go_wp2_with fail
    refine bodyPost_ret (v:=.tuple #[.agg #[.string ⟨#[]⟩,.string ⟨#[]⟩],.string ⟨#[]⟩,.bool false]) (by simp [results,Tryz.results31,go_sem]) rfl ⟨.inl ⟨HR,rfl⟩,qbl⟩
   ·have HR:=Lib.hid (show termF s.data.toList first=some (((⟨#[45]⟩:ByteArray)++a++⟨#[47]⟩++d).data.toList,p.data.toList,q.data.toList) from by rw [HF2.out];unfold rootF;rw [if_pos g3,← hyl,hg3,hp,hq];rfl)
    clear hp hq hg3 hyl g3 hy HF2
    go_wp2_with fail
    refine bodyPost_ret (v:=.tuple #[.agg #[.string ((⟨#[45]⟩:ByteArray)++a++⟨#[47]⟩++d),.string p],.string q,.bool true]) (by simp [results,Tryz.results31,go_sem]) rfl ⟨.inr ⟨_,_,_,HR,rfl⟩,qbl⟩
  ·have HR:=Lib.hid (show termF s.data.toList first=some (((⟨#[45]⟩:ByteArray)++a++⟨#[47]⟩++d).data.toList,(⟨#[49]⟩:ByteArray).data.toList,f.data.toList) from by rw [HF2.out];unfold rootF;rw [if_neg g3])
   rw [decide_eq_false g3]
   clear g3 hy HF2
   go_wp2_with fail
   refine bodyPost_ret (v:=.tuple #[.agg #[.string ((⟨#[45]⟩:ByteArray)++a++⟨#[47]⟩++d),.string ⟨#[49]⟩],.string f,.bool true]) (by simp [results,Tryz.results31,go_sem]) rfl ⟨.inr ⟨_,_,_,HR,rfl⟩,qbl⟩
 ·rw [decide_eq_false g2]
  have HF2:=Lib.hid (show termF s.data.toList first=(match rootF b.data.toList with|none=>none|some (r,l3)=>some (((⟨#[45]⟩:ByteArray)++a).data.toList,r,l3)) from by rw [HT2.out];unfold fracF;rw [if_neg g2];simp only [ByteArray.data_append,Array.toList_append,List.append_assoc,List.cons_append,List.nil_append])
  clear g2 hy0 HT2
  go_wp2_with fail
  refine (HC.out b 114 _).mono ?_
  rintro e w4 ⟨y,hy,rfl,rfl⟩
  have hys:y.size≤4096:=by have e1:y.size=y.data.toList.length:=rfl;have e2:b.size=b.data.toList.length:=rfl;rw [e1,hy.out];split<;>simp<;>omega
  by_cases g3:b.data.toList.head?=some 114
  ·have hyl:y.data.toList=b.data.toList.tail:=by rw [hy.out,if_pos g3]
   rw [decide_eq_true g3]
   go_wp2_with fail
   refine (HD.out y _ hys).mono ?_
   rintro e w5 ⟨p,q,hp,hq,rfl,n5,rfl⟩
   cases hg3:goodDig y.data.toList
   ·have HR:=Lib.hid (show termF s.data.toList first=none from by rw [HF2.out];unfold rootF;rw [if_pos g3,← hyl,hg3];rfl)
    clear hp hq hg3 hyl g3 hy HF2
    go_wp2_with fail
    refine bodyPost_ret (v:=.tuple #[.agg #[.string ⟨#[]⟩,.string ⟨#[]⟩],.string ⟨#[]⟩,.bool false]) (by simp [results,Tryz.results31,go_sem]) rfl ⟨.inl ⟨HR,rfl⟩,qbl⟩
   ·have HR:=Lib.hid (show termF s.data.toList first=some (((⟨#[45]⟩:ByteArray)++a).data.toList,p.data.toList,q.data.toList) from by rw [HF2.out];unfold rootF;rw [if_pos g3,← hyl,hg3,hp,hq];rfl)
    clear hp hq hg3 hyl g3 hy HF2
    go_wp2_with fail
    refine bodyPost_ret (v:=.tuple #[.agg #[.string ((⟨#[45]⟩:ByteArray)++a),.string p],.string q,.bool true]) (by simp [results,Tryz.results31,go_sem]) rfl ⟨.inr ⟨_,_,_,HR,rfl⟩,qbl⟩
  ·have HR:=Lib.hid (show termF s.data.toList first=some (((⟨#[45]⟩:ByteArray)++a).data.toList,(⟨#[49]⟩:ByteArray).data.toList,b.data.toList) from by rw [HF2.out];unfold rootF;rw [if_neg g3])
   rw [decide_eq_false g3]
   clear g3 hy HF2
   go_wp2_with fail
   refine bodyPost_ret (v:=.tuple #[.agg #[.string ((⟨#[45]⟩:ByteArray)++a),.string ⟨#[49]⟩],.string b,.bool true]) (by simp [results,Tryz.results31,go_sem]) rfl ⟨.inr ⟨_,_,_,HR,rfl⟩,qbl⟩
theorem mterm_plus (s:ByteArray) (first:Bool) (w:World) (hl:s.size≤4096) (h45:¬ s.data.toList.head?=some 45) (h43:s.data.toList.head?=some 43) (hfi:first=false) :
  Calls Tryz.prog 31 #[.string s,.bool first] w (RetTermF s.data.toList first w):=by
 have HM:=Lib.hid (fun W=>hasPrefix_any s ⟨#[45]⟩ W (hasPre1 s.data.toList 45))
 have HP:=Lib.hid (fun W=>hasPrefix_any s ⟨#[43]⟩ W (hasPre1 s.data.toList 43))
 have HD:=Lib.hid (fun (x:ByteArray) W (h:x.size≤4096)=>mdigits_ok x W h)
 have HC:=Lib.hid (fun (x:ByteArray) (c:UInt8) W=>cutPrefix_any x ⟨#[c]⟩ W (trimPre1 x.data.toList c) (hasPre1 x.data.toList c))
 have hsz:=head_size h43
 have hszI:(1:Int)≤(s.size:Int):=by omega
 have HF:Hid (signF s.data.toList first=some ([],(s.extract 1 s.size).data.toList)):=Lib.hid (by unfold signF;rw [if_neg h45,if_pos ⟨h43,hfi⟩,tail_list])
 rw [decide_eq_false h45] at HM
 rw [decide_eq_true h43] at HP
 have hx:(s.extract 1 s.size).size≤4096:=by rw [ByteArray.size_extract];omega
 clear h45 h43
 subst hfi
 go_enter Tryz.func31,Tryz.ntmps31
 go_wp2_with fail
 refine (HM.out _).mono ?_
 rintro e w0 ⟨rfl,rfl⟩
 clear HM
 go_wp2_with fail
 refine (HP.out _).mono ?_
 rintro e w0 ⟨rfl,rfl⟩
 clear HP
 go_wp2_with fail
 generalize s.extract 1 s.size=x at *
 refine (HD.out x _ hx).mono ?_
 rintro e w1 ⟨a,b,ha,hb,rfl,n1,rfl⟩
 have hasz:a.size≤4096:=by have e1:a.size=a.data.toList.length:=rfl;have e2:x.size=x.data.toList.length:=rfl;rw [e1,ha];unfold tkD;rw [List.length_take];omega
 have hbsz:b.size≤4096:=by have e1:b.size=b.data.toList.length:=rfl;have e2:x.size=x.data.toList.length:=rfl;rw [e1,hb];unfold drD;rw [List.length_drop];omega
 have HTF:=Lib.hid (termF_of HF.out)
 cases hg1:goodDig x.data.toList
 ·have HR:=Lib.hid (show termF s.data.toList false=none from by rw [HTF.out,hg1];rfl)
  clear ha hb HTF HF hg1
  go_wp2_with fail
  refine bodyPost_ret (v:=.tuple #[.agg #[.string ⟨#[]⟩,.string ⟨#[]⟩],.string ⟨#[]⟩,.bool false]) (by simp [results,Tryz.results31,go_sem]) rfl ⟨.inl ⟨HR,rfl⟩,qbl⟩
 have HT2:=Lib.hid (show termF s.data.toList false=(match fracF (([]:List UInt8)++a.data.toList) b.data.toList with|none=>none|some (c,l2)=>match rootF l2 with|none=>none|some (r,l3)=>some (c,r,l3)) from by rw [HTF.out,hg1,ha,hb];rfl)
 clear ha hb HTF HF hg1
 go_wp2_with fail
 refine (HC.out b 47 _).mono ?_
 rintro e w2 ⟨y0,hy0,rfl,rfl⟩
 have hy0s:y0.size≤4096:=by have e1:y0.size=y0.data.toList.length:=rfl;have e2:b.size=b.data.toList.length:=rfl;rw [e1,hy0.out];split<;>simp<;>omega
 by_cases g2:b.data.toList.head?=some 47
 ·have hyl0:y0.data.toList=b.data.toList.tail:=by rw [hy0.out,if_pos g2]
  rw [decide_eq_true g2]
  go_wp2_with fail
  refine (HD.out y0 _ hy0s).mono ?_
  rintro e w3 ⟨d,f,hd,hf,rfl,n3,rfl⟩
  have hdsz:d.size≤4096:=by have e1:d.size=d.data.toList.length:=rfl;have e2:y0.size=y0.data.toList.length:=rfl;rw [e1,hd];unfold tkD;rw [List.length_take];omega
  have hfsz:f.size≤4096:=by have e1:f.size=f.data.toList.length:=rfl;have e2:y0.size=y0.data.toList.length:=rfl;rw [e1,hf];unfold drD;rw [List.length_drop];omega
  cases hg2:goodDig y0.data.toList
  ·have HR:=Lib.hid (show termF s.data.toList false=none from by rw [HT2.out];unfold fracF;rw [if_pos g2,← hyl0,hg2];rfl)
   clear hd hf hg2 hyl0 g2 hy0 HT2
   go_wp2_with fail
   refine bodyPost_ret (v:=.tuple #[.agg #[.string ⟨#[]⟩,.string ⟨#[]⟩],.string ⟨#[]⟩,.bool false]) (by simp [results,Tryz.results31,go_sem]) rfl ⟨.inl ⟨HR,rfl⟩,qbl⟩
  have HF2:=Lib.hid (show termF s.data.toList false=(match rootF f.data.toList with|none=>none|some (r,l3)=>some (((⟨#[]⟩:ByteArray)++a++⟨#[47]⟩++d).data.toList,r,l3)) from by rw [HT2.out];unfold fracF;rw [if_pos g2,← hyl0,hg2];simp only [if_true,hd,hf,ByteArray.data_append,Array.toList_append,List.append_assoc,List.cons_append,List.nil_append])
  clear hd hf hg2 hyl0 g2 hy0 HT2
  go_wp2_with fail
  refine (HC.out f 114 _).mono ?_
  rintro e w4 ⟨y,hy,rfl,rfl⟩
  have hys:y.size≤4096:=by have e1:y.size=y.data.toList.length:=rfl;have e2:f.size=f.data.toList.length:=rfl;rw [e1,hy.out];split<;>simp<;>omega
  by_cases g3:f.data.toList.head?=some 114
  ·have hyl:y.data.toList=f.data.toList.tail:=by rw [hy.out,if_pos g3]
   rw [decide_eq_true g3]
   go_wp2_with fail
   refine (HD.out y _ hys).mono ?_
   rintro e w5 ⟨p,q,hp,hq,rfl,n5,rfl⟩
   cases hg3:goodDig y.data.toList
   ·have HR:=Lib.hid (show termF s.data.toList false=none from by rw [HF2.out];unfold rootF;rw [if_pos g3,← hyl,hg3];rfl)
    clear hp hq hg3 hyl g3 hy HF2
    go_wp2_with fail
    refine bodyPost_ret (v:=.tuple #[.agg #[.string ⟨#[]⟩,.string ⟨#[]⟩],.string ⟨#[]⟩,.bool false]) (by simp [results,Tryz.results31,go_sem]) rfl ⟨.inl ⟨HR,rfl⟩,qbl⟩
   ·have HR:=Lib.hid (show termF s.data.toList false=some (((⟨#[]⟩:ByteArray)++a++⟨#[47]⟩++d).data.toList,p.data.toList,q.data.toList) from by rw [HF2.out];unfold rootF;rw [if_pos g3,← hyl,hg3,hp,hq];rfl)
    clear hp hq hg3 hyl g3 hy HF2
    go_wp2_with fail
    refine bodyPost_ret (v:=.tuple #[.agg #[.string ((⟨#[]⟩:ByteArray)++a++⟨#[47]⟩++d),.string p],.string q,.bool true]) (by simp [results,Tryz.results31,go_sem]) rfl ⟨.inr ⟨_,_,_,HR,rfl⟩,qbl⟩
  ·have HR:=Lib.hid (show termF s.data.toList false=some (((⟨#[]⟩:ByteArray)++a++⟨#[47]⟩++d).data.toList,(⟨#[49]⟩:ByteArray).data.toList,f.data.toList) from by rw [HF2.out];unfold rootF;rw [if_neg g3])
   rw [decide_eq_false g3]
   clear g3 hy HF2
   go_wp2_with fail
   refine bodyPost_ret (v:=.tuple #[.agg #[.string ((⟨#[]⟩:ByteArray)++a++⟨#[47]⟩++d),.string ⟨#[49]⟩],.string f,.bool true]) (by simp [results,Tryz.results31,go_sem]) rfl ⟨.inr ⟨_,_,_,HR,rfl⟩,qbl⟩
 ·rw [decide_eq_false g2]
  have HF2:=Lib.hid (show termF s.data.toList false=(match rootF b.data.toList with|none=>none|some (r,l3)=>some (((⟨#[]⟩:ByteArray)++a).data.toList,r,l3)) from by rw [HT2.out];unfold fracF;rw [if_neg g2];simp only [ByteArray.data_append,Array.toList_append,List.append_assoc,List.cons_append,List.nil_append])
  clear g2 hy0 HT2
  go_wp2_with fail
  refine (HC.out b 114 _).mono ?_
  rintro e w4 ⟨y,hy,rfl,rfl⟩
  have hys:y.size≤4096:=by have e1:y.size=y.data.toList.length:=rfl;have e2:b.size=b.data.toList.length:=rfl;rw [e1,hy.out];split<;>simp<;>omega
  by_cases g3:b.data.toList.head?=some 114
  ·have hyl:y.data.toList=b.data.toList.tail:=by rw [hy.out,if_pos g3]
   rw [decide_eq_true g3]
   go_wp2_with fail
   refine (HD.out y _ hys).mono ?_
   rintro e w5 ⟨p,q,hp,hq,rfl,n5,rfl⟩
   cases hg3:goodDig y.data.toList
   ·have HR:=Lib.hid (show termF s.data.toList false=none from by rw [HF2.out];unfold rootF;rw [if_pos g3,← hyl,hg3];rfl)
    clear hp hq hg3 hyl g3 hy HF2
    go_wp2_with fail
    refine bodyPost_ret (v:=.tuple #[.agg #[.string ⟨#[]⟩,.string ⟨#[]⟩],.string ⟨#[]⟩,.bool false]) (by simp [results,Tryz.results31,go_sem]) rfl ⟨.inl ⟨HR,rfl⟩,qbl⟩
   ·have HR:=Lib.hid (show termF s.data.toList false=some (((⟨#[]⟩:ByteArray)++a).data.toList,p.data.toList,q.data.toList) from by rw [HF2.out];unfold rootF;rw [if_pos g3,← hyl,hg3,hp,hq];rfl)
    clear hp hq hg3 hyl g3 hy HF2
    go_wp2_with fail
    refine bodyPost_ret (v:=.tuple #[.agg #[.string ((⟨#[]⟩:ByteArray)++a),.string p],.string q,.bool true]) (by simp [results,Tryz.results31,go_sem]) rfl ⟨.inr ⟨_,_,_,HR,rfl⟩,qbl⟩
  ·have HR:=Lib.hid (show termF s.data.toList false=some (((⟨#[]⟩:ByteArray)++a).data.toList,(⟨#[49]⟩:ByteArray).data.toList,b.data.toList) from by rw [HF2.out];unfold rootF;rw [if_neg g3])
   rw [decide_eq_false g3]
   clear g3 hy HF2
   go_wp2_with fail
   refine bodyPost_ret (v:=.tuple #[.agg #[.string ((⟨#[]⟩:ByteArray)++a),.string ⟨#[49]⟩],.string b,.bool true]) (by simp [results,Tryz.results31,go_sem]) rfl ⟨.inr ⟨_,_,_,HR,rfl⟩,qbl⟩
theorem mterm_first (s:ByteArray) (first:Bool) (w:World) (hl:s.size≤4096) (h45:¬ s.data.toList.head?=some 45) (hfi:first=true) :
  Calls Tryz.prog 31 #[.string s,.bool first] w (RetTermF s.data.toList first w):=by
 have HM:=Lib.hid (fun W=>hasPrefix_any s ⟨#[45]⟩ W (hasPre1 s.data.toList 45))
 have HP:=Lib.hid (fun W=>hasPrefix_any s ⟨#[43]⟩ W (hasPre1 s.data.toList 43))
 have HD:=Lib.hid (fun (x:ByteArray) W (h:x.size≤4096)=>mdigits_ok x W h)
 have HC:=Lib.hid (fun (x:ByteArray) (c:UInt8) W=>cutPrefix_any x ⟨#[c]⟩ W (trimPre1 x.data.toList c) (hasPre1 x.data.toList c))
 have HF:Hid (signF s.data.toList first=some ([],s.data.toList)):=Lib.hid (by unfold signF;rw [if_neg h45,if_neg (fun h=>by rw [hfi] at h;cases h.2),if_pos hfi])
 rw [decide_eq_false h45] at HM
 obtain ⟨z43,hz43⟩:∃ b:Bool,decide (s.data.toList.head?=some 43)=b:=⟨_,rfl⟩
 rw [hz43] at HP
 have hx:s.size≤4096:=hl
 clear h45 hz43
 subst hfi
 go_enter Tryz.func31,Tryz.ntmps31
 go_wp2_with fail
 refine (HM.out _).mono ?_
 rintro e w0 ⟨rfl,rfl⟩
 clear HM
 cases z43
 all_goals
  go_wp2_with fail
  refine (HP.out _).mono ?_
  rintro e w0 ⟨rfl,rfl⟩
  clear HP
  go_wp2_with fail
  refine (HD.out s _ hx).mono ?_
  rintro e w1 ⟨a,b,ha,hb,rfl,n1,rfl⟩
  have hasz:a.size≤4096:=by have e1:a.size=a.data.toList.length:=rfl;have e2:s.size=s.data.toList.length:=rfl;rw [e1,ha];unfold tkD;rw [List.length_take];omega
  have hbsz:b.size≤4096:=by have e1:b.size=b.data.toList.length:=rfl;have e2:s.size=s.data.toList.length:=rfl;rw [e1,hb];unfold drD;rw [List.length_drop];omega
  have HTF:=Lib.hid (termF_of HF.out)
  cases hg1:goodDig s.data.toList
  ·have HR:=Lib.hid (show termF s.data.toList true=none from by rw [HTF.out,hg1];rfl)
   clear ha hb HTF HF hg1
   go_wp2_with fail
   refine bodyPost_ret (v:=.tuple #[.agg #[.string ⟨#[]⟩,.string ⟨#[]⟩],.string ⟨#[]⟩,.bool false]) (by simp [results,Tryz.results31,go_sem]) rfl ⟨.inl ⟨HR,rfl⟩,qbl⟩
  have HT2:=Lib.hid (show termF s.data.toList true=(match fracF (([]:List UInt8)++a.data.toList) b.data.toList with|none=>none|some (c,l2)=>match rootF l2 with|none=>none|some (r,l3)=>some (c,r,l3)) from by rw [HTF.out,hg1,ha,hb];rfl)
  clear ha hb HTF HF hg1
  go_wp2_with fail
  refine (HC.out b 47 _).mono ?_
  rintro e w2 ⟨y0,hy0,rfl,rfl⟩
  have hy0s:y0.size≤4096:=by have e1:y0.size=y0.data.toList.length:=rfl;have e2:b.size=b.data.toList.length:=rfl;rw [e1,hy0.out];split<;>simp<;>omega
  by_cases g2:b.data.toList.head?=some 47
  ·have hyl0:y0.data.toList=b.data.toList.tail:=by rw [hy0.out,if_pos g2]
   rw [decide_eq_true g2]
   go_wp2_with fail
   refine (HD.out y0 _ hy0s).mono ?_
   rintro e w3 ⟨d,f,hd,hf,rfl,n3,rfl⟩
   have hdsz:d.size≤4096:=by have e1:d.size=d.data.toList.length:=rfl;have e2:y0.size=y0.data.toList.length:=rfl;rw [e1,hd];unfold tkD;rw [List.length_take];omega
   have hfsz:f.size≤4096:=by have e1:f.size=f.data.toList.length:=rfl;have e2:y0.size=y0.data.toList.length:=rfl;rw [e1,hf];unfold drD;rw [List.length_drop];omega
   cases hg2:goodDig y0.data.toList
   ·have HR:=Lib.hid (show termF s.data.toList true=none from by rw [HT2.out];unfold fracF;rw [if_pos g2,← hyl0,hg2];rfl)
    clear hd hf hg2 hyl0 g2 hy0 HT2
    go_wp2_with fail
    refine bodyPost_ret (v:=.tuple #[.agg #[.string ⟨#[]⟩,.string ⟨#[]⟩],.string ⟨#[]⟩,.bool false]) (by simp [results,Tryz.results31,go_sem]) rfl ⟨.inl ⟨HR,rfl⟩,qbl⟩
   have HF2:=Lib.hid (show termF s.data.toList true=(match rootF f.data.toList with|none=>none|some (r,l3)=>some (((⟨#[]⟩:ByteArray)++a++⟨#[47]⟩++d).data.toList,r,l3)) from by rw [HT2.out];unfold fracF;rw [if_pos g2,← hyl0,hg2];simp only [if_true,hd,hf,ByteArray.data_append,Array.toList_append,List.append_assoc,List.cons_append,List.nil_append])
   clear hd hf hg2 hyl0 g2 hy0 HT2
   go_wp2_with fail
   refine (HC.out f 114 _).mono ?_
   rintro e w4 ⟨y,hy,rfl,rfl⟩
   have hys:y.size≤4096:=by have e1:y.size=y.data.toList.length:=rfl;have e2:f.size=f.data.toList.length:=rfl;rw [e1,hy.out];split<;>simp<;>omega
   by_cases g3:f.data.toList.head?=some 114
   ·have hyl:y.data.toList=f.data.toList.tail:=by rw [hy.out,if_pos g3]
    rw [decide_eq_true g3]
    go_wp2_with fail
    refine (HD.out y _ hys).mono ?_
    rintro e w5 ⟨p,q,hp,hq,rfl,n5,rfl⟩
    cases hg3:goodDig y.data.toList
    ·have HR:=Lib.hid (show termF s.data.toList true=none from by rw [HF2.out];unfold rootF;rw [if_pos g3,← hyl,hg3];rfl)
     clear hp hq hg3 hyl g3 hy HF2
     go_wp2_with fail
     refine bodyPost_ret (v:=.tuple #[.agg #[.string ⟨#[]⟩,.string ⟨#[]⟩],.string ⟨#[]⟩,.bool false]) (by simp [results,Tryz.results31,go_sem]) rfl ⟨.inl ⟨HR,rfl⟩,qbl⟩
    ·have HR:=Lib.hid (show termF s.data.toList true=some (((⟨#[]⟩:ByteArray)++a++⟨#[47]⟩++d).data.toList,p.data.toList,q.data.toList) from by rw [HF2.out];unfold rootF;rw [if_pos g3,← hyl,hg3,hp,hq];rfl)
     clear hp hq hg3 hyl g3 hy HF2
     go_wp2_with fail
     refine bodyPost_ret (v:=.tuple #[.agg #[.string ((⟨#[]⟩:ByteArray)++a++⟨#[47]⟩++d),.string p],.string q,.bool true]) (by simp [results,Tryz.results31,go_sem]) rfl ⟨.inr ⟨_,_,_,HR,rfl⟩,qbl⟩
   ·have HR:=Lib.hid (show termF s.data.toList true=some (((⟨#[]⟩:ByteArray)++a++⟨#[47]⟩++d).data.toList,(⟨#[49]⟩:ByteArray).data.toList,f.data.toList) from by rw [HF2.out];unfold rootF;rw [if_neg g3])
    rw [decide_eq_false g3]
    clear g3 hy HF2
    go_wp2_with fail
    refine bodyPost_ret (v:=.tuple #[.agg #[.string ((⟨#[]⟩:ByteArray)++a++⟨#[47]⟩++d),.string ⟨#[49]⟩],.string f,.bool true]) (by simp [results,Tryz.results31,go_sem]) rfl ⟨.inr ⟨_,_,_,HR,rfl⟩,qbl⟩
  ·rw [decide_eq_false g2]
   have HF2:=Lib.hid (show termF s.data.toList true=(match rootF b.data.toList with|none=>none|some (r,l3)=>some (((⟨#[]⟩:ByteArray)++a).data.toList,r,l3)) from by rw [HT2.out];unfold fracF;rw [if_neg g2];simp only [ByteArray.data_append,Array.toList_append,List.append_assoc,List.cons_append,List.nil_append])
   clear g2 hy0 HT2
   go_wp2_with fail
   refine (HC.out b 114 _).mono ?_
   rintro e w4 ⟨y,hy,rfl,rfl⟩
   have hys:y.size≤4096:=by have e1:y.size=y.data.toList.length:=rfl;have e2:b.size=b.data.toList.length:=rfl;rw [e1,hy.out];split<;>simp<;>omega
   by_cases g3:b.data.toList.head?=some 114
   ·have hyl:y.data.toList=b.data.toList.tail:=by rw [hy.out,if_pos g3]
    rw [decide_eq_true g3]
    go_wp2_with fail
    refine (HD.out y _ hys).mono ?_
    rintro e w5 ⟨p,q,hp,hq,rfl,n5,rfl⟩
    cases hg3:goodDig y.data.toList
    ·have HR:=Lib.hid (show termF s.data.toList true=none from by rw [HF2.out];unfold rootF;rw [if_pos g3,← hyl,hg3];rfl)
     clear hp hq hg3 hyl g3 hy HF2
     go_wp2_with fail
     refine bodyPost_ret (v:=.tuple #[.agg #[.string ⟨#[]⟩,.string ⟨#[]⟩],.string ⟨#[]⟩,.bool false]) (by simp [results,Tryz.results31,go_sem]) rfl ⟨.inl ⟨HR,rfl⟩,qbl⟩
    ·have HR:=Lib.hid (show termF s.data.toList true=some (((⟨#[]⟩:ByteArray)++a).data.toList,p.data.toList,q.data.toList) from by rw [HF2.out];unfold rootF;rw [if_pos g3,← hyl,hg3,hp,hq];rfl)
     clear hp hq hg3 hyl g3 hy HF2
     go_wp2_with fail
     refine bodyPost_ret (v:=.tuple #[.agg #[.string ((⟨#[]⟩:ByteArray)++a),.string p],.string q,.bool true]) (by simp [results,Tryz.results31,go_sem]) rfl ⟨.inr ⟨_,_,_,HR,rfl⟩,qbl⟩
   ·have HR:=Lib.hid (show termF s.data.toList true=some (((⟨#[]⟩:ByteArray)++a).data.toList,(⟨#[49]⟩:ByteArray).data.toList,b.data.toList) from by rw [HF2.out];unfold rootF;rw [if_neg g3])
    rw [decide_eq_false g3]
    clear g3 hy HF2
    go_wp2_with fail
    refine bodyPost_ret (v:=.tuple #[.agg #[.string ((⟨#[]⟩:ByteArray)++a),.string ⟨#[49]⟩],.string b,.bool true]) (by simp [results,Tryz.results31,go_sem]) rfl ⟨.inr ⟨_,_,_,HR,rfl⟩,qbl⟩
theorem mterm_none (s:ByteArray) (first:Bool) (w:World) (hl:s.size≤4096) (h45:¬ s.data.toList.head?=some 45) (h43:¬ s.data.toList.head?=some 43) (hfi:first=false) :
  Calls Tryz.prog 31 #[.string s,.bool first] w (RetTermF s.data.toList first w):=by
 have HM:=Lib.hid (fun W=>hasPrefix_any s ⟨#[45]⟩ W (hasPre1 s.data.toList 45))
 have HP:=Lib.hid (fun W=>hasPrefix_any s ⟨#[43]⟩ W (hasPre1 s.data.toList 43))
 have HD:=Lib.hid (fun (x:ByteArray) W (h:x.size≤4096)=>mdigits_ok x W h)
 have HC:=Lib.hid (fun (x:ByteArray) (c:UInt8) W=>cutPrefix_any x ⟨#[c]⟩ W (trimPre1 x.data.toList c) (hasPre1 x.data.toList c))
 have HR:Hid (termF s.data.toList first=none):=Lib.hid (termF_no (by unfold signF;rw [if_neg h45,if_neg (fun h=>h43 h.1),if_neg (by rw [hfi];decide)]))
 rw [decide_eq_false h45] at HM
 rw [decide_eq_false h43] at HP
 clear h45 h43
 subst hfi
 go_enter Tryz.func31,Tryz.ntmps31
 go_wp2_with fail
 refine (HM.out _).mono ?_
 rintro e w0 ⟨rfl,rfl⟩
 clear HM
 go_wp2_with fail
 refine (HP.out _).mono ?_
 rintro e w0 ⟨rfl,rfl⟩
 clear HP
 go_wp2_with fail
 refine bodyPost_ret (v:=.tuple #[.agg #[.string ⟨#[]⟩,.string ⟨#[]⟩],.string ⟨#[]⟩,.bool false]) (by simp [results,Tryz.results31,go_sem]) rfl ⟨.inl ⟨HR,rfl⟩,qbl⟩
theorem mterm_ok (s:ByteArray) (first:Bool) (w:World) (hl:s.size≤4096) :
  Calls Tryz.prog 31 #[.string s,.bool first] w (RetTermF s.data.toList first w):=by
 by_cases h45:s.data.toList.head?=some 45
 ·exact mterm_minus s first w hl h45
 ·cases hf:first
  ·by_cases h43:s.data.toList.head?=some 43
   ·exact mterm_plus s false w hl h45 h43 rfl
   ·exact mterm_none s false w hl h45 h43 rfl
  ·exact mterm_first s true w hl h45 rfl
end Go.Proofs.YtbbclfbpllbbbaaGreatDoor
namespace Go.Proofs.YtbbclfbpllbbbaaGreatDoor
open Go.RowKit
theorem sCheck_ok (L:TTexts) (v:Value) (w:World) (hG:Glo w) (hP:Pri w) (hv:IsTerms w v L) (hsz:∀ k,k < L.length→(tt L k).1.size≤1000∧(tt L k).2.size≤1000) :
  Calls Tryz.prog 12 #[v] w (RetC0 (SurdOk L) w):=by
 have HV:=Lib.hid hv
 obtain ⟨a,cap,rfl,hcap,h⟩:=hv
 have HC:=Lib.hid h
 have HG:=Lib.hid hG
 have HP:=Lib.hid hP
 have HS:=Lib.hid hsz
 clear h hG hP hsz
 by_cases h16:16 < L.length
 ·have HNC:=Lib.hid (show ¬ SurdOk L from fun ⟨T,h⟩=>by have:=h.len;omega)
  have h16':(16:Int) < (L.length:Int):=by omega
  go_enter Tryz.func12,Tryz.ntmps12
  go_wp2_with fail
  go_ret
  exact ⟨4,rfl,Lib.hid ⟨fun h=>absurd h (by decide),fun h=>absurd h HNC.out⟩,bw0 _ _⟩
 have h16':¬ (16:Int) < (L.length:Int):=by omega
 go_enter Tryz.func12,Tryz.ntmps12
 go_wp2_with fail
 go_loopw [13] (fun i wr=>∃ k:Nat,k≤L.length∧i=.int .i64 k∧Below w.heap.size w wr∧Hid (∃ T,SurdIs (L.take k) T)) (fun i _=>L.length - (intOf i).toNat)
 case atStart=>exact ⟨0,by omega,rfl,bw0 _ _,Lib.hid ⟨[],SurdIs.nil⟩⟩
 case round =>
  obtain ⟨k,hk,rfl,hB,hT⟩:=hrel
  by_cases hlt:k < L.length
  ·obtain ⟨b,off,rfl,hc⟩:=HC.out (fun h=>by rw [h] at hlt;simp at hlt)
   obtain ⟨d0,d1⟩:=(hc k hlt).below (w':=wr) hB
   obtain ⟨T,hT⟩:=hT.out
   have HST:=Lib.hid (step_iff hT hlt (by omega))
   have HTT:=Lib.hid hT
   have HCC:=Lib.hid hc
   have hltI:(k:Int) < (L.length:Int):=by omega
   obtain ⟨c,hcc⟩:∃ c,(tt L k).1=c:=⟨_,rfl⟩
   obtain ⟨r,hrr⟩:∃ r,(tt L k).2=r:=⟨_,rfl⟩
   rw [hcc] at d0
   rw [hrr] at d1
   rw [hcc,hrr] at HST
   have HRI:=Lib.hid (fun W hG hP=>right_ok c r W hG hP (by rw [← hcc];exact (HS.out k hlt).1) (by rw [← hrr];exact (HS.out k hlt).2))
   clear hc hT hcc hrr
   go_wp2_with fail
   have hb1:Below w.heap.size w (wr.alloc (.cells #[.string c,.string r] 70)):=bw4 hB _
   refine (HRI.out _ (HG.out.below hb1) (HP.out.below hb1)).mono ?_
   rintro e w2 ⟨k1,rfl,hk1,hB2⟩
   have hb2:=below_trans' hb1 hB2
   have t0:w2.cell? ⟨wr.heap.size,0,none⟩=some (.string c):=keep hB2 (by simp [go_sem])
   have t1:w2.cell? ⟨wr.heap.size,1,none⟩=some (.string r):=keep hB2 (by simp [go_sem])
   have hwr:=hB.size
   clear hB2 hb1 hB d0 d1 HRI
   rcases (Decidable.em (k1=0)).symm with hz1|hz1
   ·have HNC:=Lib.hid (show ¬ SurdOk L from fun ⟨T',h'⟩=>by
     obtain ⟨q,m,h1,_⟩:=HST.out.1 ⟨_,h'.take (k+1)⟩
     exact hz1 (hk1.out.2 ⟨q,m,h1⟩))
    clear hk1 HST t0 t1
    go_wp2_with fail
    go_ret
    exact ⟨k1,rfl,Lib.hid ⟨fun h=>absurd h hz1,fun h=>absurd h HNC.out⟩,hb2⟩
   obtain ⟨q,m,hqm⟩:=hk1.out.1 hz1
   subst hz1
   have HQM:=Lib.hid hqm
   clear hk1 hqm
   have hk1:IntKind.i64.wrap ((k:Int)+1)=((k+1:Nat):Int):=IntWalk.i64_in _ (by omega)
   by_cases hk0:k=0
   ·subst hk0
    have HN:Hid (∃ T,SurdIs (L.take (0+1)) T):=Lib.hid (HST.out.2 ⟨q,m,HQM.out,fun h=>absurd h (by omega),fun i hi=>absurd hi (by omega)⟩)
    clear HST t0 t1
    go_wp2_with fail
    go_roundw
    case rel=>exact ⟨0+1,by omega,by go_num,hb2,HN⟩
    case measure=>simp [intOf];omega
   obtain ⟨j,rfl⟩:∃ j,k=j+1:=⟨k - 1,by omega⟩
   have hjl:j < L.length:=by omega
   have hpj:Hid (TermAt w2 b (off+j * 2) (tt L j)):=Lib.hid ((HCC.out j hjl).below hb2)
   have hokj:=HTT.out.ok j (by rw [List.length_take];omega)
   rw [tt_take (by omega)] at hokj
   obtain ⟨s,hss⟩:∃ s,(tt L j).2=s:=⟨_,rfl⟩
   obtain ⟨m',hm'⟩:∃ m',(tq T j).2=m':=⟨_,rfl⟩
   have e1:=hpj.out.2
   rw [hss] at e1
   rw [hss,hm'] at hokj
   have HOJ:=Lib.hid hokj
   have hz40:∀ x:Nat,(Lib.decDigits x).length≤40→Sz 40 ((x:Int):Rat):=fun x hx=>sz_natR (lenSz hx) (by decide)
   have HCM:=Lib.hid (fun W hG=>RCompare_ok (k:=40) (m:=40) (p:=((m':Int):Rat)) (q:=((m:Int):Rat)) s r W hG (by rw [text_natR];exact HOJ.out.r) (hz40 _ HOJ.out.rn) (by rw [text_natR];exact HQM.out.r) (hz40 _ HQM.out.rn) (by decide))
   have hci:Lib.compareInt ((((m':Int):Rat)).num * ((((m:Int):Rat)).den:Int)) ((((m:Int):Rat)).num * ((((m':Int):Rat)).den:Int))=Lib.compareInt (m':Int) (m:Int):=by
    show Lib.compareInt ((m':Int) * 1) ((m:Int) * 1)=_
    rw [Int.mul_one,Int.mul_one]
   rw [hci] at HCM
   obtain ⟨o,ho⟩:∃ o,Lib.compareInt (m':Int) (m:Int)=o:=⟨_,rfl⟩
   rw [ho] at HCM
   have HO:=Lib.hid ho
   have HM':=Lib.hid hm'
   clear hokj hz40 hci ho hss hm' hpj hk0
   have hwj:IntKind.i64.wrap ((j:Int)+1 - 1)=(j:Int):=by rw [show (j:Int)+1 - 1=(j:Int) by omega];exact IntWalk.i64_in _ (by omega)
   have hwj2:IntKind.i64.wrap (j:Int)=(j:Int):=IntWalk.i64_in _ (by omega)
   have hjI:(j:Int) < (L.length:Int):=by omega
   have hj1:¬ (j:Int)+1=0:=by omega
   go_wp2_with fail
   have hR:(w2.drew.cell? ⟨b,off+j * 2+1,none⟩=some (.string s)∧w2.drew.cell? ⟨wr.heap.size,1,none⟩=some (.string r))∧Below w.heap.size w w2.drew:=⟨⟨keep ((bw0 _ _).drew) e1,keep ((bw0 _ _).drew) t1⟩,hb2.trans ((bw0 _ _).drew.mono hb2.size)⟩
   refine region_S (F:=[]) (R:=(fun w'=>(w'.cell? ⟨b,off+j * 2+1,none⟩=some (.string s)∧w'.cell? ⟨wr.heap.size,1,none⟩=some (.string r))∧Below w.heap.size w w')) 14 #[false,false,false,false,false,false,false,false,false,false,false,false,false,false] (by kernel_rfl) (by kernel_rfl) (by kernel_rfl) (fun _ _ _ _ _ h=>h) (fun Q' hQ' hN=>?_)
   generalize w2.drew=wd at *
   refine tS 26 0 (fw:=5) (hy:=by intro wq hRq;obtain ⟨⟨e0,e1⟩,_⟩:=hRq;go_simp;(try with_reducible rfl)) ?_
   refine tS 27 1 (fw:=5) (hy:=by intro wq hRq;obtain ⟨⟨e0,e1⟩,_⟩:=hRq;go_simp;(try with_reducible rfl)) ?_
   refine tS 28 2 (fw:=5) (hy:=by intro wq hRq;obtain ⟨⟨e0,e1⟩,_⟩:=hRq;go_simp;(try with_reducible rfl)) ?_
   refine tS 29 3 (fw:=5) (hy:=by intro wq hRq;obtain ⟨⟨e0,e1⟩,_⟩:=hRq;go_simp;(try with_reducible rfl)) ?_
   refine tS 30 4 (fw:=5) (hy:=by intro wq hRq;obtain ⟨⟨e0,e1⟩,_⟩:=hRq;go_simp;(try with_reducible rfl)) ?_
   refine tS 31 5 (fw:=5) (hy:=by intro wq hRq;obtain ⟨⟨e0,e1⟩,_⟩:=hRq;go_simp;(try with_reducible rfl)) ?_
   refine tS 32 6 (fw:=5) (hy:=by intro wq hRq;obtain ⟨⟨e0,e1⟩,_⟩:=hRq;go_simp;(try with_reducible rfl)) ?_
   refine tS 33 7 (fw:=5) (hy:=by intro wq hRq;obtain ⟨⟨e0,e1⟩,_⟩:=hRq;go_simp;(try with_reducible rfl)) ?_
   refine wpAnyS_ready (rs:=[8]) (by kernel_rfl) (by simp) ?_
   refine stepR (i:=8) rfl (by kernel_rfl) (fun K hK=>?_) (AllReadyS.nil)
   go_simp
   refine (HCM.out _ (HG.out.below hR.2)).mono ?_
   rintro e wn ⟨rfl,hBn⟩
   have hR:(wn.cell? ⟨b,off+j * 2+1,none⟩=some (.string s)∧wn.cell? ⟨wr.heap.size,1,none⟩=some (.string r))∧Below w.heap.size w wn:=⟨⟨keep hBn hR.1.1,keep hBn hR.1.2⟩,below_trans' hR.2 hBn⟩
   refine hK.out _ _ hR ?_
   clear hK K hBn
   (try simp only [Act.put,bw7,bw8,bw9])
   refine tS 25 9 (fw:=5) (hy:=by intro wq hRq;obtain ⟨⟨e0,e1⟩,_⟩:=hRq;go_simp;(try with_reducible rfl)) ?_
   refine tS 35 10 (fw:=5) (hy:=by intro wq hRq;obtain ⟨⟨e0,e1⟩,_⟩:=hRq;go_simp;(try with_reducible rfl)) ?_
   refine tS 36 11 (fw:=5) (hy:=by intro wq hRq;obtain ⟨⟨e0,e1⟩,_⟩:=hRq;go_simp;(try with_reducible rfl)) ?_
   refine tS 6 12 (fw:=5) (hy:=by intro wq hRq;obtain ⟨⟨e0,e1⟩,_⟩:=hRq;go_simp;(try with_reducible rfl)) ?_
   refine tS 7 13 (fw:=5) (hy:=by intro wq hRq;obtain ⟨⟨e0,e1⟩,_⟩:=hRq;go_simp;(try with_reducible rfl)) ?_
   refine wpAnyS_done (by kernel_rfl) ?_ _
   refine hN.out _ _ ?_
   by_cases hmm:m' < m
   ·have ho1:o=-1:=by rw [← HO.out];unfold Lib.compareInt;rw [if_pos (by omega)]
    subst ho1
    have hvt:IsTerms wn (.slice (some ⟨b,off,none⟩) (L.take (j+1)).length cap) (L.take (j+1)):=⟨_,cap,rfl,by rw [List.length_take];omega,fun _=>⟨b,off,rfl,fun i hi=>by
     have hi':i < j+1:=by rw [List.length_take] at hi;omega
     rw [tt_take hi']
     exact (HCC.out i (by omega)).below hR.2⟩⟩
    have hlen:(L.take (j+1)).length=j+1:=by rw [List.length_take];omega
    rw [hlen] at hvt
    have HCF:=Lib.hid (fun W (hBW:Below wn.heap.size wn W) (hv:IsTerms W (.slice (some ⟨b,off,none⟩) (j+1) cap) (L.take (j+1)))=>containsTerm_any 38 #[.pointer (some ⟨wr.heap.size,0,none⟩)] (L.take (j+1)) (fun i=>ratioB m (tq T i).2) (.slice (some ⟨b,off,none⟩) (j+1) cap) W hv (by rw [hlen];omega) (enters_of Tryz.func38 (by kernel_rfl) rfl) (fun i hi W2 hW2=>by
     rw [hlen] at hi
     have hoi:=HTT.out.ok i (by rw [hlen];exact hi)
     have hB2:=hBW.trans (hW2.mono hBW.size)
     exact checkF_ok m (tq T i).2 wr.heap.size _ _ r W2 (HG.out.below (below_trans' hR.2 hB2)) (keep hB2 hR.1.2) hoi.r HQM.out.r (Nat.lt_of_lt_of_le (lenSz HQM.out.rn) (Nat.pow_le_pow_right (by decide) (by decide))) (Nat.lt_of_lt_of_le (lenSz hoi.rn) (Nat.pow_le_pow_right (by decide) (by decide))) hoi.m1))
    have HVT:=Lib.hid hvt
    have hcap1:(j:Int)+1≤(cap:Int):=by omega
    have HM:=Lib.hid hmm
    clear hvt HO hmm hlen
    go_wp2_with fail
    refine (HCF.out wn (bw0 _ _) HVT.out).mono ?_
    rintro e w5 ⟨B,rfl,hBn,hB5⟩
    have hb5:=below_trans' hR.2 hB5
    have hlen:(L.take (j+1)).length=j+1:=by rw [List.length_take];omega
    rw [hlen] at hBn
    clear HCF HVT hB5 hR t0 t1 e1 HCM
    cases B
    ·have HN:Hid (∃ T,SurdIs (L.take (j+1+1)) T):=Lib.hid (HST.out.2 ⟨q,m,HQM.out,fun _=>by rw [Nat.add_sub_cancel,HM'.out];exact HM.out,hBn.out.1 rfl⟩)
     clear HST hBn
     go_wp2_with fail
     go_roundw
     case rel=>exact ⟨j+1+1,by omega,by go_num,hb5,HN⟩
     case measure=>simp [intOf];omega
    ·have HNC:=Lib.hid (show ¬ SurdOk L from fun ⟨T',h'⟩=>by
      obtain ⟨q',m2,h1,_,h3⟩:=HST.out.1 ⟨_,h'.take (j+1+1)⟩
      have h4:=(h1.uniq HQM.out).2
      subst h4
      exact absurd (hBn.out.2 h3) (by decide))
     clear HST hBn
     go_wp2_with fail
     go_ret
     exact ⟨7,rfl,Lib.hid ⟨fun h=>absurd h (by decide),fun h=>absurd h HNC.out⟩,hb5⟩
   ·have hge:¬ o < 0:=by rw [← HO.out];unfold Lib.compareInt;rw [if_neg (by omega)];split<;>omega
    have hge':0≤o:=by omega
    have HNC:=Lib.hid (show ¬ SurdOk L from fun ⟨T',h'⟩=>by
     obtain ⟨q',m2,h1,h2,_⟩:=HST.out.1 ⟨_,h'.take (j+1+1)⟩
     have h3:=(h1.uniq HQM.out).2
     have h4:=h2 (by omega)
     rw [Nat.add_sub_cancel,HM'.out] at h4
     omega)
    clear HST HO hmm
    go_wp2_with fail
    go_ret
    exact ⟨10,rfl,Lib.hid ⟨fun h=>absurd h (by decide),fun h=>absurd h HNC.out⟩,hR.2⟩
  ·have e:k=L.length:=by omega
   subst e
   have HYC:=Lib.hid (show SurdOk L from by have:=hT.out;rwa [List.take_length] at this)
   go_wp2_with fail
   go_ret
   exact ⟨0,rfl,Lib.hid ⟨fun _=>HYC.out,fun _=>rfl⟩,hB⟩
end Go.Proofs.YtbbclfbpllbbbaaGreatDoor
