/- Walks: plan.shaped. -/
import Derived.Test.YteepphiomcedfaaGreatDoorJ08
set_option maxRecDepth 100000
set_option linter.unusedVariables false
set_option linter.unusedSimpArgs false
set_option maxHeartbeats 6400000
namespace Go.Proofs.YteepphiomcedfaaGreatDoor
open Go.RowKit Go.Shelf
attribute [local go_sem] Oper.semAt_some
theorem pshaped_ok (l:Ring) (v:Value) (w:World) (hv:IsRing w v l) (hlen:l.length≤1000) (hr:RRing l) (hsh:Shaped l) :
  Calls Tryz.prog 159 #[v] w (RetB (.bool true) w):=by
 have h4:=hsh.1
 have hl0:0 < l.length:=by omega
 have hl:l≠[]:=List.length_pos_iff.1 hl0
 have h4':¬ (l.length:Int) < 4:=by omega
 obtain ⟨b,off,cap,rfl,hc⟩:=hv.nonempty hl
 have hbw:b < w.heap.size:=lt_of_cell (hc 0 hl0).1
 have HC:=Lib.hid hc
 have HR:=Lib.hid hr
 have HSH:=Lib.hid (fun i hi=>@shaped_ways l hsh i hi)
 clear hc hr hv hsh
 refine (callsIn_wide (n:=5)).1 ?_
 refine callsIn_of_wp_marks Tryz.func159 rfl trivial ?_ rfl
 simp only [Tryz.ntmps159,List.size_toArray,List.length_cons,List.length_nil,Nat.reduceAdd,Nat.reduceSub,Array.replicate_succ,Array.replicate_zero,List.push_toArray,List.append_toArray,List.nil_append,List.cons_append]
 gi_wp2
 refine ⟨trivial,?_⟩
 refine (callsIn_wide.2 (psides_any _ _ _ _)).mono ?_
 rintro e w1 ⟨rfl,rfl⟩
 gi_wp2
 have hb0:Below w.heap.size w ((w.alloc (.cells #[.bool false] 4)).alloc (.cells #[.slice (some ⟨b,off,none⟩) l.length cap] 66)):=qbl
 have hx0:Boxed ((w.alloc (.cells #[.bool false] 4)).alloc (.cells #[.slice (some ⟨b,off,none⟩) l.length cap] 66)) w.heap.size 4 (.bool false):=(Boxed.new w _ _).alloc _
 have hx1:Boxed ((w.alloc (.cells #[.bool false] 4)).alloc (.cells #[.slice (some ⟨b,off,none⟩) l.length cap] 66)) (w.heap.size+1) 66 (.slice (some ⟨b,off,none⟩) l.length cap):=by have h:=Boxed.new (w.alloc (.cells #[.bool false] 4)) 66 (.slice (some ⟨b,off,none⟩) l.length cap);simpa only [World.size_alloc] using h
 have hsz:((w.alloc (.cells #[.bool false] 4)).alloc (.cells #[.slice (some ⟨b,off,none⟩) l.length cap] 66)).heap.size=w.heap.size+2:=by simp
 generalize ((w.alloc (.cells #[.bool false] 4)).alloc (.cells #[.slice (some ⟨b,off,none⟩) l.length cap] 66))=W0 at *
 refine wpIn_rangeFunc_ownH rfl (by omega) (gf:=254) (lb:=#[.pointer (some ⟨w.heap.size+1,0,none⟩)]) rfl trivial (enters_of Tryz.func254 (by kernel_rfl) rfl)
  (sides_stops l _ (by omega) (w.heap.size+1) w.heap.size b off cap hlen hl0 W0 hbw hb0.size hx1.cell (fun k hk=>(HC.out k hk).below hb0)) KpR.t (KpR.b hb0.size (by omega)) (bw0 _ _) (fun _=>rfl)
  (fun pre W=>(Boxed W w.heap.size 4 (.bool false)∧Boxed W (w.heap.size+1) 66 (.slice (some ⟨b,off,none⟩) l.length cap))∧Below w.heap.size w W∧w.heap.size+2≤W.heap.size)
  (fun _ _ _=>False)
  (OwnFrom.and (OwnFrom.and (Own.from (boxed_own _ _ _) _) (Own.from (boxed_own _ _ _) _)) (OwnFrom.and (ownFrom_below (Nat.le_refl _) (by omega)) (fun s A B row hs hg hr=>Nat.le_trans hs hg.size)))
  (fun _ _ _ _ _ hs _ _=>hs)
  ⟨⟨hx0,hx1⟩,hb0,by omega⟩
  (fun x a' W=>∃ Bx,w.heap.size+1 < Bx∧BoxA W Bx (pv l x.1) (sd l x.1) (nx l x.1)∧a'={ tmps:=#[.slice (some ⟨b,off,none⟩) l.length cap,undef,.pointer (some ⟨w.heap.size,0,none⟩),undef,.pointer (some ⟨Bx,0,none⟩),undef,undef,.slice (some ⟨b,off,none⟩) l.length cap,.int .i64 l.length,.bool false,.slice (some ⟨b,off,none⟩) l.length cap,.func (.func 254) #[] #[.pointer (some ⟨w.heap.size+1,0,none⟩)],.int .i64 x.1,aroundV (pv l x.1) (sd l x.1) (nx l x.1),undef,undef,undef,undef,undef,undef,undef,undef,undef,undef,undef,undef,undef,undef,undef,undef,undef,undef,undef,undef,undef,undef,undef,undef,undef],defers:=[] })
  (fun x a' _ X Y row hs hg hr=>by obtain ⟨Bx,h1,h2,h3⟩:=hs;exact ⟨Bx,h1,boxA_own () X Y row h2 hg hr,h3⟩)
  ?assign ?body ?done ?stop
 case assign =>
  rintro l1 pre x W K ⟨⟨bS,bR⟩,hB,hz⟩ hK
  unfold encS
  gi_wp2_with (refine wpListIn_store21 rfl _ _ rfl _ _ rfl (pv l x.1) (sd l x.1) (nx l x.1) rfl rfl ?_)
  exact hK _ _ ((KeepsOthers.alloc _ _).from _) ⟨(bw0 _ W).alloc hB.size _,Below.heap_alloc _ _ _ bR.lt⟩ ⟨⟨bS.alloc _,bR.alloc _⟩,hB.alloc hB.size _,by simp;omega⟩ ⟨W.heap.size,bR.lt,boxA_new,rfl⟩
 case body =>
  rintro l1 pre x a' W hl1 ⟨r,hr⟩ ⟨⟨bS,bR⟩,hB,hz⟩ ⟨Bx,hBx,bX,rfl⟩ hlt
  have hS0:=HR.out (pvi l.length x.1) (pvi_lt x.2)
  have hS1:=HR.out x.1 x.2
  have hS2:=HR.out (nxi l.length x.1) (nxi_lt x.2)
  rw [show sd l (nxi l.length x.1)=nx l x.1 from rfl] at hS2
  rw [show sd l (pvi l.length x.1)=pv l x.1 from rfl] at hS0
  have HA:=Lib.hid (corner_any (pv l x.1))
  have HS:=Lib.hid (corner_any (sd l x.1))
  have HT:=Lib.hid (fun W=>to_any (pv l x.1).x (pv l x.1).y (sd l x.1).x (sd l x.1).y W hS0.near.1 hS0.near.2.1 hS1.near.1 hS1.near.2.1)
  have HW:=Lib.hid (fun W=>way_any (pv l x.1) (sd l x.1) (nx l x.1) W hS1 hS2)
  have HSX:Hid (((nx l x.1).x - (sd l x.1).x=0∧(nx l x.1).y - (sd l x.1).y≠0∧(sd l x.1).x - (pv l x.1).x≠0)∨((nx l x.1).x - (sd l x.1).x≠0∧(nx l x.1).y - (sd l x.1).y=0∧(sd l x.1).x - (pv l x.1).x=0)):=Lib.hid (by
   rcases (HSH.out x.1 x.2).1 with ⟨h1,h2,h3,_⟩|⟨h1,h2,h3,_⟩
   ·exact .inl ⟨h1,h2,h3⟩
   ·exact .inr ⟨h1,h2,h3⟩)
  clear hS0 hS1 hS2
  have hR:AroundAt W.drew Bx (pv l x.1) (sd l x.1) (nx l x.1)∧Below W.heap.size W W.drew:=⟨bX.at.below (bw0 _ _).drew,(bw0 _ _).drew⟩
  have hzx:=bX.lt
  have hzd:Bx < W.drew.heap.size:=hzx
  have hzd2:W.heap.size≤W.drew.heap.size:=Nat.le_refl _
  have FIN:Hid (∀ wn:World,Below W.heap.size W wn→KeepsFrom W0.heap.size W wn∧KpR w.heap.size (w.heap.size+1) W wn∧((Boxed wn w.heap.size 4 (.bool false)∧Boxed wn (w.heap.size+1) 66 (.slice (some ⟨b,off,none⟩) l.length cap))∧Below w.heap.size w wn∧w.heap.size+2≤wn.heap.size)):=Lib.hid (fun wn hBn=>by
   have hT:=TurnBut.of_below (b:=w.heap.size) hBn
   exact ⟨hT.keepsFrom bS rfl,hT.kpR (Nat.le_refl _) hB.size bR.lt (by omega),⟨boxed_below bS hBn,boxed_below bR hBn⟩,hT.below hB (Nat.le_refl _) hB.size,Nat.le_trans hz hT.size⟩)
  gi_wp2
  unfold spotV sideV at *
  generalize pv l x.1=A at *
  generalize nx l x.1=C at *
  generalize sd l x.1=S at *
  refine region_I (L:=[11,12]) (R:=(fun w'=>AroundAt w' Bx A S C∧Below W.heap.size W w')) 13 #[false,false,false,false,false,false,false,false,false,false,false,false,false] (by kernel_rfl) (by kernel_rfl) (by kernel_rfl) (fun _ _ _ _ _ h=>h) (fun Q' hQ' hN hLO=>?_)
  generalize W.drew=wd at *
  refine tkI 14 (i:=0) (v:=?_) (fw:=4) hQ' hR rfl (fun _=>rfl) ?_ ?_;rotate_left;(focus (intro wq hRq;obtain ⟨⟨e0,e1,e2,e3,e4,e5,e6,e7,e8,e9,e10,e11,e12,e13,e14,e15,e16,e17,e18,e19,e20⟩,_⟩:=hRq;go_simp;(try with_reducible rfl)));(try simp only [Act.put,bw7,bw8,bw9])
  refine tkI 15 (i:=1) (v:=?_) (fw:=4) hQ' hR rfl (fun _=>rfl) ?_ ?_;rotate_left;(focus (intro wq hRq;obtain ⟨⟨e0,e1,e2,e3,e4,e5,e6,e7,e8,e9,e10,e11,e12,e13,e14,e15,e16,e17,e18,e19,e20⟩,_⟩:=hRq;go_simp;(try with_reducible rfl)));(try simp only [Act.put,bw7,bw8,bw9])
  refine tkI 17 (i:=3) (v:=?_) (fw:=4) hQ' hR rfl (fun _=>rfl) ?_ ?_;rotate_left;(focus (intro wq hRq;obtain ⟨⟨e0,e1,e2,e3,e4,e5,e6,e7,e8,e9,e10,e11,e12,e13,e14,e15,e16,e17,e18,e19,e20⟩,_⟩:=hRq;go_simp;(try with_reducible rfl)));(try simp only [Act.put,bw7,bw8,bw9])
  refine tkI 18 (i:=4) (v:=?_) (fw:=4) hQ' hR rfl (fun _=>rfl) ?_ ?_;rotate_left;(focus (intro wq hRq;obtain ⟨⟨e0,e1,e2,e3,e4,e5,e6,e7,e8,e9,e10,e11,e12,e13,e14,e15,e16,e17,e18,e19,e20⟩,_⟩:=hRq;go_simp;(try with_reducible rfl)));(try simp only [Act.put,bw7,bw8,bw9])
  refine tkI 21 (i:=7) (v:=aroundV A S C) (fw:=4) hQ' hR rfl (fun _=>rfl) (fun wq hRq=>run_load21 rfl rfl hRq.1) ?_;(try simp only [Act.put,bw7,bw8,bw9])
  refine wpAnyI_ready (rs:=[2,9,10]) (by kernel_rfl) (by simp) ?_
  refine stepRI (i:=2) rfl (by kernel_rfl) (fun K hK=>?_) (stepRI (i:=9) rfl (by kernel_rfl) (fun K hK=>?_) (stepRI (i:=10) rfl (by kernel_rfl) (fun K hK=>?_) (AllReadyI.nil)))
  ·go_simp
   refine ⟨trivial,?_⟩
   refine (CallsIn.inRound l1 (callsIn_wide.2 (HA.out _))).mono ?_
   rintro e wn ⟨rfl,hB'⟩
   have hz':=hB'.size
   have hR:AroundAt wn Bx A S C∧Below W.heap.size W wn:=⟨hR.1.below hB',below_trans' hR.2 hB'⟩
   refine hK.out _ _ hR ?_
   clear hK K
   (try simp only [Act.put,bw7,bw8,bw9])
   refine wpAnyI_ready (rs:=[5,9,10]) (by kernel_rfl) (by simp) ?_
   refine stepRI (i:=5) rfl (by kernel_rfl) (fun K hK=>?_) (stepRI (i:=9) rfl (by kernel_rfl) (fun K hK=>?_) (stepRI (i:=10) rfl (by kernel_rfl) (fun K hK=>?_) (AllReadyI.nil)))
   ·go_simp
    refine ⟨trivial,?_⟩
    refine (CallsIn.inRound l1 (callsIn_wide.2 (HS.out _))).mono ?_
    rintro e wn ⟨rfl,hB'⟩
    have hz':=hB'.size
    have hR:AroundAt wn Bx A S C∧Below W.heap.size W wn:=⟨hR.1.below hB',below_trans' hR.2 hB'⟩
    refine hK.out _ _ hR ?_
    clear hK K
    (try simp only [Act.put,bw7,bw8,bw9])
    refine wpAnyI_ready (rs:=[6,9,10]) (by kernel_rfl) (by simp) ?_
    refine stepRI (i:=6) rfl (by kernel_rfl) (fun K hK=>?_) (stepRI (i:=9) rfl (by kernel_rfl) (fun K hK=>?_) (stepRI (i:=10) rfl (by kernel_rfl) (fun K hK=>?_) (AllReadyI.nil)))
    ·go_simp
     refine ⟨trivial,?_⟩
     refine (CallsIn.inRound l1 (callsIn_wide.2 (HT.out _))).mono ?_
     rintro e wn ⟨rfl,hB'⟩
     have hz':=hB'.size
     have hR:AroundAt wn Bx A S C∧Below W.heap.size W wn:=⟨hR.1.below hB',below_trans' hR.2 hB'⟩
     refine hK.out _ _ hR ?_
     clear hK K
     (try simp only [Act.put,bw7,bw8,bw9])
     refine wpAnyI_ready (rs:=[8,9,10]) (by kernel_rfl) (by simp) ?_
     refine stepRI (i:=8) rfl (by kernel_rfl) (fun K hK=>?_) (stepRI (i:=9) rfl (by kernel_rfl) (fun K hK=>?_) (stepRI (i:=10) rfl (by kernel_rfl) (fun K hK=>?_) (AllReadyI.nil)))
     ·go_simp
      refine ⟨trivial,?_⟩
      refine (CallsIn.inRound l1 (callsIn_wide.2 (HW.out _))).mono ?_
      rintro e wn ⟨rfl,hB'⟩
      have hz':=hB'.size
      have hR:AroundAt wn Bx A S C∧Below W.heap.size W wn:=⟨hR.1.below hB',below_trans' hR.2 hB'⟩
      refine hK.out _ _ hR ?_
      clear hK K
      (try simp only [Act.put,bw7,bw8,bw9])
      refine wpAnyI_ready (rs:=[9,10]) (by kernel_rfl) (by simp) ?_
      refine stepRI (i:=9) rfl (by kernel_rfl) (fun K hK=>?_) (stepRI (i:=10) rfl (by kernel_rfl) (fun K hK=>?_) (AllReadyI.nil))
      ·go_simp
       refine after_alloc (fun wn hB' hb5 hz5=>?_)
       have hb5:Box2 _ _ 216 (.int .i64 0) (.int .i64 0):=hb5
       have hz':=hB'.size
       have hR:AroundAt wn Bx A S C∧Below W.heap.size W wn:=⟨hR.1.below hB',below_trans' hR.2 hB'⟩
       refine hK.out _ _ hR ?_
       clear hK K
       (try simp only [Act.put,bw7,bw8,bw9])
       refine wpAnyI_ready (rs:=[10]) (by kernel_rfl) (by simp) ?_
       refine stepRI (i:=10) rfl (by kernel_rfl) (fun K hK=>?_) (AllReadyI.nil)
       go_simp
       refine after_alloc (fun wn hB' hb6 hz6=>?_)
       have hb6:Box2 _ _ 216 (.int .i64 0) (.int .i64 0):=hb6
       have hz':=hB'.size
       have hb5:=hb5.below hB'
       have hR:AroundAt wn Bx A S C∧Below W.heap.size W wn:=⟨hR.1.below hB',below_trans' hR.2 hB'⟩
       refine hK.out _ _ hR ?_
       clear hK K
       (try simp only [Act.put,bw7,bw8,bw9])
       refine wpAnyI_ready (rs:=[11]) (by kernel_rfl) (by simp) ?_
       refine stepFI (i:=11) rfl (by kernel_rfl) (by kernel_rfl) (fun K hK=>?_) (AllReadyI.nil)
       obtain ⟨f0,f1,g0,g1,zz5⟩:=hb5.facts
       go_simp
       refine after_set2 hb5 (fun wn hS hb5=>?_)
       have hb6:=hb6.but hS (by omega)
       have hz':=hS.size
       have hR:AroundAt wn Bx A S C∧Below W.heap.size W wn:=⟨hR.1.but hS (by omega),hS.below hR.2 (by omega)⟩
       clear f0 f1 g0 g1
       refine hK.out _ _ ?_
       clear hK K
       (try simp only [Act.put,bw7,bw8,bw9])
       refine wpAnyI_ready (rs:=[12]) (by kernel_rfl) (by simp) ?_
       refine stepFI (i:=12) rfl (by kernel_rfl) (by kernel_rfl) (fun K hK=>?_) (AllReadyI.nil)
       obtain ⟨f0,f1,g0,g1,zz6⟩:=hb6.facts
       go_simp
       refine after_set2 hb6 (fun wn hS hb6=>?_)
       have hb5:=hb5.but hS (by omega)
       have hz':=hS.size
       have hR:AroundAt wn Bx A S C∧Below W.heap.size W wn:=⟨hR.1.but hS (by omega),hS.below hR.2 (by omega)⟩
       clear f0 f1 g0 g1
       refine hK.out _ _ ?_
       clear hK K
       (try simp only [Act.put,bw7,bw8,bw9])
       refine wpAnyI_done (by kernel_rfl) ?_ _
       refine hN.out _ _ ?_
       obtain ⟨f0,f1,_,_,_⟩:=hb5.facts
       obtain ⟨g0,g1,_,_,_⟩:=hb6.facts
       rcases HSX.out with ⟨h1,h2,h3⟩|⟨h1,h2,h3⟩
       ·have d1:(C.x - S.x == 0)=true:=by simp;omega
        have d2:(C.y - S.y == 0)=false:=by simp;omega
        have d3:(S.x - A.x == 0)=false:=by simp;omega
        clear h1 h2 h3
        gi_wp2
        exact FIN.out _ hR.2
       ·have d1:(C.x - S.x == 0)=false:=by simp;omega
        have d2:(C.y - S.y == 0)=true:=by simp;omega
        have d3:(S.x - A.x == 0)=true:=by simp;omega
        clear h1 h2 h3
        gi_wp2
        exact FIN.out _ hR.2
      ·go_simp
       refine after_alloc (fun wn hB' hb6 hz6=>?_)
       have hb6:Box2 _ _ 216 (.int .i64 0) (.int .i64 0):=hb6
       have hz':=hB'.size
       have hR:AroundAt wn Bx A S C∧Below W.heap.size W wn:=⟨hR.1.below hB',below_trans' hR.2 hB'⟩
       refine hK.out _ _ hR ?_
       clear hK K
       (try simp only [Act.put,bw7,bw8,bw9])
       refine wpAnyI_ready (rs:=[9]) (by kernel_rfl) (by simp) ?_
       refine stepRI (i:=9) rfl (by kernel_rfl) (fun K hK=>?_) (AllReadyI.nil)
       go_simp
       refine after_alloc (fun wn hB' hb5 hz5=>?_)
       have hb5:Box2 _ _ 216 (.int .i64 0) (.int .i64 0):=hb5
       have hz':=hB'.size
       have hb6:=hb6.below hB'
       have hR:AroundAt wn Bx A S C∧Below W.heap.size W wn:=⟨hR.1.below hB',below_trans' hR.2 hB'⟩
       refine hK.out _ _ hR ?_
       clear hK K
       (try simp only [Act.put,bw7,bw8,bw9])
       refine wpAnyI_ready (rs:=[11]) (by kernel_rfl) (by simp) ?_
       refine stepFI (i:=11) rfl (by kernel_rfl) (by kernel_rfl) (fun K hK=>?_) (AllReadyI.nil)
       obtain ⟨f0,f1,g0,g1,zz5⟩:=hb5.facts
       go_simp
       refine after_set2 hb5 (fun wn hS hb5=>?_)
       have hb6:=hb6.but hS (by omega)
       have hz':=hS.size
       have hR:AroundAt wn Bx A S C∧Below W.heap.size W wn:=⟨hR.1.but hS (by omega),hS.below hR.2 (by omega)⟩
       clear f0 f1 g0 g1
       refine hK.out _ _ ?_
       clear hK K
       (try simp only [Act.put,bw7,bw8,bw9])
       refine wpAnyI_ready (rs:=[12]) (by kernel_rfl) (by simp) ?_
       refine stepFI (i:=12) rfl (by kernel_rfl) (by kernel_rfl) (fun K hK=>?_) (AllReadyI.nil)
       obtain ⟨f0,f1,g0,g1,zz6⟩:=hb6.facts
       go_simp
       refine after_set2 hb6 (fun wn hS hb6=>?_)
       have hb5:=hb5.but hS (by omega)
       have hz':=hS.size
       have hR:AroundAt wn Bx A S C∧Below W.heap.size W wn:=⟨hR.1.but hS (by omega),hS.below hR.2 (by omega)⟩
       clear f0 f1 g0 g1
       refine hK.out _ _ ?_
       clear hK K
       (try simp only [Act.put,bw7,bw8,bw9])
       refine wpAnyI_done (by kernel_rfl) ?_ _
       refine hN.out _ _ ?_
       obtain ⟨f0,f1,_,_,_⟩:=hb5.facts
       obtain ⟨g0,g1,_,_,_⟩:=hb6.facts
       rcases HSX.out with ⟨h1,h2,h3⟩|⟨h1,h2,h3⟩
       ·have d1:(C.x - S.x == 0)=true:=by simp;omega
        have d2:(C.y - S.y == 0)=false:=by simp;omega
        have d3:(S.x - A.x == 0)=false:=by simp;omega
        clear h1 h2 h3
        gi_wp2
        exact FIN.out _ hR.2
       ·have d1:(C.x - S.x == 0)=false:=by simp;omega
        have d2:(C.y - S.y == 0)=true:=by simp;omega
        have d3:(S.x - A.x == 0)=true:=by simp;omega
        clear h1 h2 h3
        gi_wp2
        exact FIN.out _ hR.2
     ·go_simp
      refine after_alloc (fun wn hB' hb5 hz5=>?_)
      have hb5:Box2 _ _ 216 (.int .i64 0) (.int .i64 0):=hb5
      have hz':=hB'.size
      have hR:AroundAt wn Bx A S C∧Below W.heap.size W wn:=⟨hR.1.below hB',below_trans' hR.2 hB'⟩
      refine hK.out _ _ hR ?_
      clear hK K
      (try simp only [Act.put,bw7,bw8,bw9])
      refine wpAnyI_ready (rs:=[8,10]) (by kernel_rfl) (by simp) ?_
      refine stepRI (i:=8) rfl (by kernel_rfl) (fun K hK=>?_) (stepRI (i:=10) rfl (by kernel_rfl) (fun K hK=>?_) (AllReadyI.nil))
      ·go_simp
       refine ⟨trivial,?_⟩
       refine (CallsIn.inRound l1 (callsIn_wide.2 (HW.out _))).mono ?_
       rintro e wn ⟨rfl,hB'⟩
       have hz':=hB'.size
       have hb5:=hb5.below hB'
       have hR:AroundAt wn Bx A S C∧Below W.heap.size W wn:=⟨hR.1.below hB',below_trans' hR.2 hB'⟩
       refine hK.out _ _ hR ?_
       clear hK K
       (try simp only [Act.put,bw7,bw8,bw9])
       refine wpAnyI_ready (rs:=[10]) (by kernel_rfl) (by simp) ?_
       refine stepRI (i:=10) rfl (by kernel_rfl) (fun K hK=>?_) (AllReadyI.nil)
       go_simp
       refine after_alloc (fun wn hB' hb6 hz6=>?_)
       have hb6:Box2 _ _ 216 (.int .i64 0) (.int .i64 0):=hb6
       have hz':=hB'.size
       have hb5:=hb5.below hB'
       have hR:AroundAt wn Bx A S C∧Below W.heap.size W wn:=⟨hR.1.below hB',below_trans' hR.2 hB'⟩
       refine hK.out _ _ hR ?_
       clear hK K
       (try simp only [Act.put,bw7,bw8,bw9])
       refine wpAnyI_ready (rs:=[11]) (by kernel_rfl) (by simp) ?_
       refine stepFI (i:=11) rfl (by kernel_rfl) (by kernel_rfl) (fun K hK=>?_) (AllReadyI.nil)
       obtain ⟨f0,f1,g0,g1,zz5⟩:=hb5.facts
       go_simp
       refine after_set2 hb5 (fun wn hS hb5=>?_)
       have hb6:=hb6.but hS (by omega)
       have hz':=hS.size
       have hR:AroundAt wn Bx A S C∧Below W.heap.size W wn:=⟨hR.1.but hS (by omega),hS.below hR.2 (by omega)⟩
       clear f0 f1 g0 g1
       refine hK.out _ _ ?_
       clear hK K
       (try simp only [Act.put,bw7,bw8,bw9])
       refine wpAnyI_ready (rs:=[12]) (by kernel_rfl) (by simp) ?_
       refine stepFI (i:=12) rfl (by kernel_rfl) (by kernel_rfl) (fun K hK=>?_) (AllReadyI.nil)
       obtain ⟨f0,f1,g0,g1,zz6⟩:=hb6.facts
       go_simp
       refine after_set2 hb6 (fun wn hS hb6=>?_)
       have hb5:=hb5.but hS (by omega)
       have hz':=hS.size
       have hR:AroundAt wn Bx A S C∧Below W.heap.size W wn:=⟨hR.1.but hS (by omega),hS.below hR.2 (by omega)⟩
       clear f0 f1 g0 g1
       refine hK.out _ _ ?_
       clear hK K
       (try simp only [Act.put,bw7,bw8,bw9])
       refine wpAnyI_done (by kernel_rfl) ?_ _
       refine hN.out _ _ ?_
       obtain ⟨f0,f1,_,_,_⟩:=hb5.facts
       obtain ⟨g0,g1,_,_,_⟩:=hb6.facts
       rcases HSX.out with ⟨h1,h2,h3⟩|⟨h1,h2,h3⟩
       ·have d1:(C.x - S.x == 0)=true:=by simp;omega
        have d2:(C.y - S.y == 0)=false:=by simp;omega
        have d3:(S.x - A.x == 0)=false:=by simp;omega
        clear h1 h2 h3
        gi_wp2
        exact FIN.out _ hR.2
       ·have d1:(C.x - S.x == 0)=false:=by simp;omega
        have d2:(C.y - S.y == 0)=true:=by simp;omega
        have d3:(S.x - A.x == 0)=true:=by simp;omega
        clear h1 h2 h3
        gi_wp2
        exact FIN.out _ hR.2
      ·go_simp
       refine after_alloc (fun wn hB' hb6 hz6=>?_)
       have hb6:Box2 _ _ 216 (.int .i64 0) (.int .i64 0):=hb6
       have hz':=hB'.size
       have hb5:=hb5.below hB'
       have hR:AroundAt wn Bx A S C∧Below W.heap.size W wn:=⟨hR.1.below hB',below_trans' hR.2 hB'⟩
       refine hK.out _ _ hR ?_
       clear hK K
       (try simp only [Act.put,bw7,bw8,bw9])
       refine wpAnyI_ready (rs:=[8]) (by kernel_rfl) (by simp) ?_
       refine stepRI (i:=8) rfl (by kernel_rfl) (fun K hK=>?_) (AllReadyI.nil)
       go_simp
       refine ⟨trivial,?_⟩
       refine (CallsIn.inRound l1 (callsIn_wide.2 (HW.out _))).mono ?_
       rintro e wn ⟨rfl,hB'⟩
       have hz':=hB'.size
       have hb5:=hb5.below hB'
       have hb6:=hb6.below hB'
       have hR:AroundAt wn Bx A S C∧Below W.heap.size W wn:=⟨hR.1.below hB',below_trans' hR.2 hB'⟩
       refine hK.out _ _ hR ?_
       clear hK K
       (try simp only [Act.put,bw7,bw8,bw9])
       refine wpAnyI_ready (rs:=[11]) (by kernel_rfl) (by simp) ?_
       refine stepFI (i:=11) rfl (by kernel_rfl) (by kernel_rfl) (fun K hK=>?_) (AllReadyI.nil)
       obtain ⟨f0,f1,g0,g1,zz5⟩:=hb5.facts
       go_simp
       refine after_set2 hb5 (fun wn hS hb5=>?_)
       have hb6:=hb6.but hS (by omega)
       have hz':=hS.size
       have hR:AroundAt wn Bx A S C∧Below W.heap.size W wn:=⟨hR.1.but hS (by omega),hS.below hR.2 (by omega)⟩
       clear f0 f1 g0 g1
       refine hK.out _ _ ?_
       clear hK K
       (try simp only [Act.put,bw7,bw8,bw9])
       refine wpAnyI_ready (rs:=[12]) (by kernel_rfl) (by simp) ?_
       refine stepFI (i:=12) rfl (by kernel_rfl) (by kernel_rfl) (fun K hK=>?_) (AllReadyI.nil)
       obtain ⟨f0,f1,g0,g1,zz6⟩:=hb6.facts
       go_simp
       refine after_set2 hb6 (fun wn hS hb6=>?_)
       have hb5:=hb5.but hS (by omega)
       have hz':=hS.size
       have hR:AroundAt wn Bx A S C∧Below W.heap.size W wn:=⟨hR.1.but hS (by omega),hS.below hR.2 (by omega)⟩
       clear f0 f1 g0 g1
       refine hK.out _ _ ?_
       clear hK K
       (try simp only [Act.put,bw7,bw8,bw9])
       refine wpAnyI_done (by kernel_rfl) ?_ _
       refine hN.out _ _ ?_
       obtain ⟨f0,f1,_,_,_⟩:=hb5.facts
       obtain ⟨g0,g1,_,_,_⟩:=hb6.facts
       rcases HSX.out with ⟨h1,h2,h3⟩|⟨h1,h2,h3⟩
       ·have d1:(C.x - S.x == 0)=true:=by simp;omega
        have d2:(C.y - S.y == 0)=false:=by simp;omega
        have d3:(S.x - A.x == 0)=false:=by simp;omega
        clear h1 h2 h3
        gi_wp2
        exact FIN.out _ hR.2
       ·have d1:(C.x - S.x == 0)=false:=by simp;omega
        have d2:(C.y - S.y == 0)=true:=by simp;omega
        have d3:(S.x - A.x == 0)=true:=by simp;omega
        clear h1 h2 h3
        gi_wp2
        exact FIN.out _ hR.2
     ·go_simp
      refine after_alloc (fun wn hB' hb6 hz6=>?_)
      have hb6:Box2 _ _ 216 (.int .i64 0) (.int .i64 0):=hb6
      have hz':=hB'.size
      have hR:AroundAt wn Bx A S C∧Below W.heap.size W wn:=⟨hR.1.below hB',below_trans' hR.2 hB'⟩
      refine hK.out _ _ hR ?_
      clear hK K
      (try simp only [Act.put,bw7,bw8,bw9])
      refine wpAnyI_ready (rs:=[8,9]) (by kernel_rfl) (by simp) ?_
      refine stepRI (i:=8) rfl (by kernel_rfl) (fun K hK=>?_) (stepRI (i:=9) rfl (by kernel_rfl) (fun K hK=>?_) (AllReadyI.nil))
      ·go_simp
       refine ⟨trivial,?_⟩
       refine (CallsIn.inRound l1 (callsIn_wide.2 (HW.out _))).mono ?_
       rintro e wn ⟨rfl,hB'⟩
       have hz':=hB'.size
       have hb6:=hb6.below hB'
       have hR:AroundAt wn Bx A S C∧Below W.heap.size W wn:=⟨hR.1.below hB',below_trans' hR.2 hB'⟩
       refine hK.out _ _ hR ?_
       clear hK K
       (try simp only [Act.put,bw7,bw8,bw9])
       refine wpAnyI_ready (rs:=[9]) (by kernel_rfl) (by simp) ?_
       refine stepRI (i:=9) rfl (by kernel_rfl) (fun K hK=>?_) (AllReadyI.nil)
       go_simp
       refine after_alloc (fun wn hB' hb5 hz5=>?_)
       have hb5:Box2 _ _ 216 (.int .i64 0) (.int .i64 0):=hb5
       have hz':=hB'.size
       have hb6:=hb6.below hB'
       have hR:AroundAt wn Bx A S C∧Below W.heap.size W wn:=⟨hR.1.below hB',below_trans' hR.2 hB'⟩
       refine hK.out _ _ hR ?_
       clear hK K
       (try simp only [Act.put,bw7,bw8,bw9])
       refine wpAnyI_ready (rs:=[11]) (by kernel_rfl) (by simp) ?_
       refine stepFI (i:=11) rfl (by kernel_rfl) (by kernel_rfl) (fun K hK=>?_) (AllReadyI.nil)
       obtain ⟨f0,f1,g0,g1,zz5⟩:=hb5.facts
       go_simp
       refine after_set2 hb5 (fun wn hS hb5=>?_)
       have hb6:=hb6.but hS (by omega)
       have hz':=hS.size
       have hR:AroundAt wn Bx A S C∧Below W.heap.size W wn:=⟨hR.1.but hS (by omega),hS.below hR.2 (by omega)⟩
       clear f0 f1 g0 g1
       refine hK.out _ _ ?_
       clear hK K
       (try simp only [Act.put,bw7,bw8,bw9])
       refine wpAnyI_ready (rs:=[12]) (by kernel_rfl) (by simp) ?_
       refine stepFI (i:=12) rfl (by kernel_rfl) (by kernel_rfl) (fun K hK=>?_) (AllReadyI.nil)
       obtain ⟨f0,f1,g0,g1,zz6⟩:=hb6.facts
       go_simp
       refine after_set2 hb6 (fun wn hS hb6=>?_)
       have hb5:=hb5.but hS (by omega)
       have hz':=hS.size
       have hR:AroundAt wn Bx A S C∧Below W.heap.size W wn:=⟨hR.1.but hS (by omega),hS.below hR.2 (by omega)⟩
       clear f0 f1 g0 g1
       refine hK.out _ _ ?_
       clear hK K
       (try simp only [Act.put,bw7,bw8,bw9])
       refine wpAnyI_done (by kernel_rfl) ?_ _
       refine hN.out _ _ ?_
       obtain ⟨f0,f1,_,_,_⟩:=hb5.facts
       obtain ⟨g0,g1,_,_,_⟩:=hb6.facts
       rcases HSX.out with ⟨h1,h2,h3⟩|⟨h1,h2,h3⟩
       ·have d1:(C.x - S.x == 0)=true:=by simp;omega
        have d2:(C.y - S.y == 0)=false:=by simp;omega
        have d3:(S.x - A.x == 0)=false:=by simp;omega
        clear h1 h2 h3
        gi_wp2
        exact FIN.out _ hR.2
       ·have d1:(C.x - S.x == 0)=false:=by simp;omega
        have d2:(C.y - S.y == 0)=true:=by simp;omega
        have d3:(S.x - A.x == 0)=true:=by simp;omega
        clear h1 h2 h3
        gi_wp2
        exact FIN.out _ hR.2
      ·go_simp
       refine after_alloc (fun wn hB' hb5 hz5=>?_)
       have hb5:Box2 _ _ 216 (.int .i64 0) (.int .i64 0):=hb5
       have hz':=hB'.size
       have hb6:=hb6.below hB'
       have hR:AroundAt wn Bx A S C∧Below W.heap.size W wn:=⟨hR.1.below hB',below_trans' hR.2 hB'⟩
       refine hK.out _ _ hR ?_
       clear hK K
       (try simp only [Act.put,bw7,bw8,bw9])
       refine wpAnyI_ready (rs:=[8]) (by kernel_rfl) (by simp) ?_
       refine stepRI (i:=8) rfl (by kernel_rfl) (fun K hK=>?_) (AllReadyI.nil)
       go_simp
       refine ⟨trivial,?_⟩
       refine (CallsIn.inRound l1 (callsIn_wide.2 (HW.out _))).mono ?_
       rintro e wn ⟨rfl,hB'⟩
       have hz':=hB'.size
       have hb5:=hb5.below hB'
       have hb6:=hb6.below hB'
       have hR:AroundAt wn Bx A S C∧Below W.heap.size W wn:=⟨hR.1.below hB',below_trans' hR.2 hB'⟩
       refine hK.out _ _ hR ?_
       clear hK K
       (try simp only [Act.put,bw7,bw8,bw9])
       refine wpAnyI_ready (rs:=[11]) (by kernel_rfl) (by simp) ?_
       refine stepFI (i:=11) rfl (by kernel_rfl) (by kernel_rfl) (fun K hK=>?_) (AllReadyI.nil)
       obtain ⟨f0,f1,g0,g1,zz5⟩:=hb5.facts
       go_simp
       refine after_set2 hb5 (fun wn hS hb5=>?_)
       have hb6:=hb6.but hS (by omega)
       have hz':=hS.size
       have hR:AroundAt wn Bx A S C∧Below W.heap.size W wn:=⟨hR.1.but hS (by omega),hS.below hR.2 (by omega)⟩
       clear f0 f1 g0 g1
       refine hK.out _ _ ?_
       clear hK K
       (try simp only [Act.put,bw7,bw8,bw9])
       refine wpAnyI_ready (rs:=[12]) (by kernel_rfl) (by simp) ?_
       refine stepFI (i:=12) rfl (by kernel_rfl) (by kernel_rfl) (fun K hK=>?_) (AllReadyI.nil)
       obtain ⟨f0,f1,g0,g1,zz6⟩:=hb6.facts
       go_simp
       refine after_set2 hb6 (fun wn hS hb6=>?_)
       have hb5:=hb5.but hS (by omega)
       have hz':=hS.size
       have hR:AroundAt wn Bx A S C∧Below W.heap.size W wn:=⟨hR.1.but hS (by omega),hS.below hR.2 (by omega)⟩
       clear f0 f1 g0 g1
       refine hK.out _ _ ?_
       clear hK K
       (try simp only [Act.put,bw7,bw8,bw9])
       refine wpAnyI_done (by kernel_rfl) ?_ _
       refine hN.out _ _ ?_
       obtain ⟨f0,f1,_,_,_⟩:=hb5.facts
       obtain ⟨g0,g1,_,_,_⟩:=hb6.facts
       rcases HSX.out with ⟨h1,h2,h3⟩|⟨h1,h2,h3⟩
       ·have d1:(C.x - S.x == 0)=true:=by simp;omega
        have d2:(C.y - S.y == 0)=false:=by simp;omega
        have d3:(S.x - A.x == 0)=false:=by simp;omega
        clear h1 h2 h3
        gi_wp2
        exact FIN.out _ hR.2
       ·have d1:(C.x - S.x == 0)=false:=by simp;omega
        have d2:(C.y - S.y == 0)=true:=by simp;omega
        have d3:(S.x - A.x == 0)=true:=by simp;omega
        clear h1 h2 h3
        gi_wp2
        exact FIN.out _ hR.2
    ·go_simp
     refine after_alloc (fun wn hB' hb5 hz5=>?_)
     have hb5:Box2 _ _ 216 (.int .i64 0) (.int .i64 0):=hb5
     have hz':=hB'.size
     have hR:AroundAt wn Bx A S C∧Below W.heap.size W wn:=⟨hR.1.below hB',below_trans' hR.2 hB'⟩
     refine hK.out _ _ hR ?_
     clear hK K
     (try simp only [Act.put,bw7,bw8,bw9])
     refine wpAnyI_ready (rs:=[6,10]) (by kernel_rfl) (by simp) ?_
     refine stepRI (i:=6) rfl (by kernel_rfl) (fun K hK=>?_) (stepRI (i:=10) rfl (by kernel_rfl) (fun K hK=>?_) (AllReadyI.nil))
     ·go_simp
      refine ⟨trivial,?_⟩
      refine (CallsIn.inRound l1 (callsIn_wide.2 (HT.out _))).mono ?_
      rintro e wn ⟨rfl,hB'⟩
      have hz':=hB'.size
      have hb5:=hb5.below hB'
      have hR:AroundAt wn Bx A S C∧Below W.heap.size W wn:=⟨hR.1.below hB',below_trans' hR.2 hB'⟩
      refine hK.out _ _ hR ?_
      clear hK K
      (try simp only [Act.put,bw7,bw8,bw9])
      refine wpAnyI_ready (rs:=[8,10]) (by kernel_rfl) (by simp) ?_
      refine stepRI (i:=8) rfl (by kernel_rfl) (fun K hK=>?_) (stepRI (i:=10) rfl (by kernel_rfl) (fun K hK=>?_) (AllReadyI.nil))
      ·go_simp
       refine ⟨trivial,?_⟩
       refine (CallsIn.inRound l1 (callsIn_wide.2 (HW.out _))).mono ?_
       rintro e wn ⟨rfl,hB'⟩
       have hz':=hB'.size
       have hb5:=hb5.below hB'
       have hR:AroundAt wn Bx A S C∧Below W.heap.size W wn:=⟨hR.1.below hB',below_trans' hR.2 hB'⟩
       refine hK.out _ _ hR ?_
       clear hK K
       (try simp only [Act.put,bw7,bw8,bw9])
       refine wpAnyI_ready (rs:=[10]) (by kernel_rfl) (by simp) ?_
       refine stepRI (i:=10) rfl (by kernel_rfl) (fun K hK=>?_) (AllReadyI.nil)
       go_simp
       refine after_alloc (fun wn hB' hb6 hz6=>?_)
       have hb6:Box2 _ _ 216 (.int .i64 0) (.int .i64 0):=hb6
       have hz':=hB'.size
       have hb5:=hb5.below hB'
       have hR:AroundAt wn Bx A S C∧Below W.heap.size W wn:=⟨hR.1.below hB',below_trans' hR.2 hB'⟩
       refine hK.out _ _ hR ?_
       clear hK K
       (try simp only [Act.put,bw7,bw8,bw9])
       refine wpAnyI_ready (rs:=[11]) (by kernel_rfl) (by simp) ?_
       refine stepFI (i:=11) rfl (by kernel_rfl) (by kernel_rfl) (fun K hK=>?_) (AllReadyI.nil)
       obtain ⟨f0,f1,g0,g1,zz5⟩:=hb5.facts
       go_simp
       refine after_set2 hb5 (fun wn hS hb5=>?_)
       have hb6:=hb6.but hS (by omega)
       have hz':=hS.size
       have hR:AroundAt wn Bx A S C∧Below W.heap.size W wn:=⟨hR.1.but hS (by omega),hS.below hR.2 (by omega)⟩
       clear f0 f1 g0 g1
       refine hK.out _ _ ?_
       clear hK K
       (try simp only [Act.put,bw7,bw8,bw9])
       refine wpAnyI_ready (rs:=[12]) (by kernel_rfl) (by simp) ?_
       refine stepFI (i:=12) rfl (by kernel_rfl) (by kernel_rfl) (fun K hK=>?_) (AllReadyI.nil)
       obtain ⟨f0,f1,g0,g1,zz6⟩:=hb6.facts
       go_simp
       refine after_set2 hb6 (fun wn hS hb6=>?_)
       have hb5:=hb5.but hS (by omega)
       have hz':=hS.size
       have hR:AroundAt wn Bx A S C∧Below W.heap.size W wn:=⟨hR.1.but hS (by omega),hS.below hR.2 (by omega)⟩
       clear f0 f1 g0 g1
       refine hK.out _ _ ?_
       clear hK K
       (try simp only [Act.put,bw7,bw8,bw9])
       refine wpAnyI_done (by kernel_rfl) ?_ _
       refine hN.out _ _ ?_
       obtain ⟨f0,f1,_,_,_⟩:=hb5.facts
       obtain ⟨g0,g1,_,_,_⟩:=hb6.facts
       rcases HSX.out with ⟨h1,h2,h3⟩|⟨h1,h2,h3⟩
       ·have d1:(C.x - S.x == 0)=true:=by simp;omega
        have d2:(C.y - S.y == 0)=false:=by simp;omega
        have d3:(S.x - A.x == 0)=false:=by simp;omega
        clear h1 h2 h3
        gi_wp2
        exact FIN.out _ hR.2
       ·have d1:(C.x - S.x == 0)=false:=by simp;omega
        have d2:(C.y - S.y == 0)=true:=by simp;omega
        have d3:(S.x - A.x == 0)=true:=by simp;omega
        clear h1 h2 h3
        gi_wp2
        exact FIN.out _ hR.2
      ·go_simp
       refine after_alloc (fun wn hB' hb6 hz6=>?_)
       have hb6:Box2 _ _ 216 (.int .i64 0) (.int .i64 0):=hb6
       have hz':=hB'.size
       have hb5:=hb5.below hB'
       have hR:AroundAt wn Bx A S C∧Below W.heap.size W wn:=⟨hR.1.below hB',below_trans' hR.2 hB'⟩
       refine hK.out _ _ hR ?_
       clear hK K
       (try simp only [Act.put,bw7,bw8,bw9])
       refine wpAnyI_ready (rs:=[8]) (by kernel_rfl) (by simp) ?_
       refine stepRI (i:=8) rfl (by kernel_rfl) (fun K hK=>?_) (AllReadyI.nil)
       go_simp
       refine ⟨trivial,?_⟩
       refine (CallsIn.inRound l1 (callsIn_wide.2 (HW.out _))).mono ?_
       rintro e wn ⟨rfl,hB'⟩
       have hz':=hB'.size
       have hb5:=hb5.below hB'
       have hb6:=hb6.below hB'
       have hR:AroundAt wn Bx A S C∧Below W.heap.size W wn:=⟨hR.1.below hB',below_trans' hR.2 hB'⟩
       refine hK.out _ _ hR ?_
       clear hK K
       (try simp only [Act.put,bw7,bw8,bw9])
       refine wpAnyI_ready (rs:=[11]) (by kernel_rfl) (by simp) ?_
       refine stepFI (i:=11) rfl (by kernel_rfl) (by kernel_rfl) (fun K hK=>?_) (AllReadyI.nil)
       obtain ⟨f0,f1,g0,g1,zz5⟩:=hb5.facts
       go_simp
       refine after_set2 hb5 (fun wn hS hb5=>?_)
       have hb6:=hb6.but hS (by omega)
       have hz':=hS.size
       have hR:AroundAt wn Bx A S C∧Below W.heap.size W wn:=⟨hR.1.but hS (by omega),hS.below hR.2 (by omega)⟩
       clear f0 f1 g0 g1
       refine hK.out _ _ ?_
       clear hK K
       (try simp only [Act.put,bw7,bw8,bw9])
       refine wpAnyI_ready (rs:=[12]) (by kernel_rfl) (by simp) ?_
       refine stepFI (i:=12) rfl (by kernel_rfl) (by kernel_rfl) (fun K hK=>?_) (AllReadyI.nil)
       obtain ⟨f0,f1,g0,g1,zz6⟩:=hb6.facts
       go_simp
       refine after_set2 hb6 (fun wn hS hb6=>?_)
       have hb5:=hb5.but hS (by omega)
       have hz':=hS.size
       have hR:AroundAt wn Bx A S C∧Below W.heap.size W wn:=⟨hR.1.but hS (by omega),hS.below hR.2 (by omega)⟩
       clear f0 f1 g0 g1
       refine hK.out _ _ ?_
       clear hK K
       (try simp only [Act.put,bw7,bw8,bw9])
       refine wpAnyI_done (by kernel_rfl) ?_ _
       refine hN.out _ _ ?_
       obtain ⟨f0,f1,_,_,_⟩:=hb5.facts
       obtain ⟨g0,g1,_,_,_⟩:=hb6.facts
       rcases HSX.out with ⟨h1,h2,h3⟩|⟨h1,h2,h3⟩
       ·have d1:(C.x - S.x == 0)=true:=by simp;omega
        have d2:(C.y - S.y == 0)=false:=by simp;omega
        have d3:(S.x - A.x == 0)=false:=by simp;omega
        clear h1 h2 h3
        gi_wp2
        exact FIN.out _ hR.2
       ·have d1:(C.x - S.x == 0)=false:=by simp;omega
        have d2:(C.y - S.y == 0)=true:=by simp;omega
        have d3:(S.x - A.x == 0)=true:=by simp;omega
        clear h1 h2 h3
        gi_wp2
        exact FIN.out _ hR.2
     ·go_simp
      refine after_alloc (fun wn hB' hb6 hz6=>?_)
      have hb6:Box2 _ _ 216 (.int .i64 0) (.int .i64 0):=hb6
      have hz':=hB'.size
      have hb5:=hb5.below hB'
      have hR:AroundAt wn Bx A S C∧Below W.heap.size W wn:=⟨hR.1.below hB',below_trans' hR.2 hB'⟩
      refine hK.out _ _ hR ?_
      clear hK K
      (try simp only [Act.put,bw7,bw8,bw9])
      refine wpAnyI_ready (rs:=[6]) (by kernel_rfl) (by simp) ?_
      refine stepRI (i:=6) rfl (by kernel_rfl) (fun K hK=>?_) (AllReadyI.nil)
      go_simp
      refine ⟨trivial,?_⟩
      refine (CallsIn.inRound l1 (callsIn_wide.2 (HT.out _))).mono ?_
      rintro e wn ⟨rfl,hB'⟩
      have hz':=hB'.size
      have hb5:=hb5.below hB'
      have hb6:=hb6.below hB'
      have hR:AroundAt wn Bx A S C∧Below W.heap.size W wn:=⟨hR.1.below hB',below_trans' hR.2 hB'⟩
      refine hK.out _ _ hR ?_
      clear hK K
      (try simp only [Act.put,bw7,bw8,bw9])
      refine wpAnyI_ready (rs:=[8]) (by kernel_rfl) (by simp) ?_
      refine stepRI (i:=8) rfl (by kernel_rfl) (fun K hK=>?_) (AllReadyI.nil)
      go_simp
      refine ⟨trivial,?_⟩
      refine (CallsIn.inRound l1 (callsIn_wide.2 (HW.out _))).mono ?_
      rintro e wn ⟨rfl,hB'⟩
      have hz':=hB'.size
      have hb5:=hb5.below hB'
      have hb6:=hb6.below hB'
      have hR:AroundAt wn Bx A S C∧Below W.heap.size W wn:=⟨hR.1.below hB',below_trans' hR.2 hB'⟩
      refine hK.out _ _ hR ?_
      clear hK K
      (try simp only [Act.put,bw7,bw8,bw9])
      refine wpAnyI_ready (rs:=[11]) (by kernel_rfl) (by simp) ?_
      refine stepFI (i:=11) rfl (by kernel_rfl) (by kernel_rfl) (fun K hK=>?_) (AllReadyI.nil)
      obtain ⟨f0,f1,g0,g1,zz5⟩:=hb5.facts
      go_simp
      refine after_set2 hb5 (fun wn hS hb5=>?_)
      have hb6:=hb6.but hS (by omega)
      have hz':=hS.size
      have hR:AroundAt wn Bx A S C∧Below W.heap.size W wn:=⟨hR.1.but hS (by omega),hS.below hR.2 (by omega)⟩
      clear f0 f1 g0 g1
      refine hK.out _ _ ?_
      clear hK K
      (try simp only [Act.put,bw7,bw8,bw9])
      refine wpAnyI_ready (rs:=[12]) (by kernel_rfl) (by simp) ?_
      refine stepFI (i:=12) rfl (by kernel_rfl) (by kernel_rfl) (fun K hK=>?_) (AllReadyI.nil)
      obtain ⟨f0,f1,g0,g1,zz6⟩:=hb6.facts
      go_simp
      refine after_set2 hb6 (fun wn hS hb6=>?_)
      have hb5:=hb5.but hS (by omega)
      have hz':=hS.size
      have hR:AroundAt wn Bx A S C∧Below W.heap.size W wn:=⟨hR.1.but hS (by omega),hS.below hR.2 (by omega)⟩
      clear f0 f1 g0 g1
      refine hK.out _ _ ?_
      clear hK K
      (try simp only [Act.put,bw7,bw8,bw9])
      refine wpAnyI_done (by kernel_rfl) ?_ _
      refine hN.out _ _ ?_
      obtain ⟨f0,f1,_,_,_⟩:=hb5.facts
      obtain ⟨g0,g1,_,_,_⟩:=hb6.facts
      rcases HSX.out with ⟨h1,h2,h3⟩|⟨h1,h2,h3⟩
      ·have d1:(C.x - S.x == 0)=true:=by simp;omega
       have d2:(C.y - S.y == 0)=false:=by simp;omega
       have d3:(S.x - A.x == 0)=false:=by simp;omega
       clear h1 h2 h3
       gi_wp2
       exact FIN.out _ hR.2
      ·have d1:(C.x - S.x == 0)=false:=by simp;omega
       have d2:(C.y - S.y == 0)=true:=by simp;omega
       have d3:(S.x - A.x == 0)=true:=by simp;omega
       clear h1 h2 h3
       gi_wp2
       exact FIN.out _ hR.2
    ·go_simp
     refine after_alloc (fun wn hB' hb6 hz6=>?_)
     have hb6:Box2 _ _ 216 (.int .i64 0) (.int .i64 0):=hb6
     have hz':=hB'.size
     have hR:AroundAt wn Bx A S C∧Below W.heap.size W wn:=⟨hR.1.below hB',below_trans' hR.2 hB'⟩
     refine hK.out _ _ hR ?_
     clear hK K
     (try simp only [Act.put,bw7,bw8,bw9])
     refine wpAnyI_ready (rs:=[6,9]) (by kernel_rfl) (by simp) ?_
     refine stepRI (i:=6) rfl (by kernel_rfl) (fun K hK=>?_) (stepRI (i:=9) rfl (by kernel_rfl) (fun K hK=>?_) (AllReadyI.nil))
     ·go_simp
      refine ⟨trivial,?_⟩
      refine (CallsIn.inRound l1 (callsIn_wide.2 (HT.out _))).mono ?_
      rintro e wn ⟨rfl,hB'⟩
      have hz':=hB'.size
      have hb6:=hb6.below hB'
      have hR:AroundAt wn Bx A S C∧Below W.heap.size W wn:=⟨hR.1.below hB',below_trans' hR.2 hB'⟩
      refine hK.out _ _ hR ?_
      clear hK K
      (try simp only [Act.put,bw7,bw8,bw9])
      refine wpAnyI_ready (rs:=[8,9]) (by kernel_rfl) (by simp) ?_
      refine stepRI (i:=8) rfl (by kernel_rfl) (fun K hK=>?_) (stepRI (i:=9) rfl (by kernel_rfl) (fun K hK=>?_) (AllReadyI.nil))
      ·go_simp
       refine ⟨trivial,?_⟩
       refine (CallsIn.inRound l1 (callsIn_wide.2 (HW.out _))).mono ?_
       rintro e wn ⟨rfl,hB'⟩
       have hz':=hB'.size
       have hb6:=hb6.below hB'
       have hR:AroundAt wn Bx A S C∧Below W.heap.size W wn:=⟨hR.1.below hB',below_trans' hR.2 hB'⟩
       refine hK.out _ _ hR ?_
       clear hK K
       (try simp only [Act.put,bw7,bw8,bw9])
       refine wpAnyI_ready (rs:=[9]) (by kernel_rfl) (by simp) ?_
       refine stepRI (i:=9) rfl (by kernel_rfl) (fun K hK=>?_) (AllReadyI.nil)
       go_simp
       refine after_alloc (fun wn hB' hb5 hz5=>?_)
       have hb5:Box2 _ _ 216 (.int .i64 0) (.int .i64 0):=hb5
       have hz':=hB'.size
       have hb6:=hb6.below hB'
       have hR:AroundAt wn Bx A S C∧Below W.heap.size W wn:=⟨hR.1.below hB',below_trans' hR.2 hB'⟩
       refine hK.out _ _ hR ?_
       clear hK K
       (try simp only [Act.put,bw7,bw8,bw9])
       refine wpAnyI_ready (rs:=[11]) (by kernel_rfl) (by simp) ?_
       refine stepFI (i:=11) rfl (by kernel_rfl) (by kernel_rfl) (fun K hK=>?_) (AllReadyI.nil)
       obtain ⟨f0,f1,g0,g1,zz5⟩:=hb5.facts
       go_simp
       refine after_set2 hb5 (fun wn hS hb5=>?_)
       have hb6:=hb6.but hS (by omega)
       have hz':=hS.size
       have hR:AroundAt wn Bx A S C∧Below W.heap.size W wn:=⟨hR.1.but hS (by omega),hS.below hR.2 (by omega)⟩
       clear f0 f1 g0 g1
       refine hK.out _ _ ?_
       clear hK K
       (try simp only [Act.put,bw7,bw8,bw9])
       refine wpAnyI_ready (rs:=[12]) (by kernel_rfl) (by simp) ?_
       refine stepFI (i:=12) rfl (by kernel_rfl) (by kernel_rfl) (fun K hK=>?_) (AllReadyI.nil)
       obtain ⟨f0,f1,g0,g1,zz6⟩:=hb6.facts
       go_simp
       refine after_set2 hb6 (fun wn hS hb6=>?_)
       have hb5:=hb5.but hS (by omega)
       have hz':=hS.size
       have hR:AroundAt wn Bx A S C∧Below W.heap.size W wn:=⟨hR.1.but hS (by omega),hS.below hR.2 (by omega)⟩
       clear f0 f1 g0 g1
       refine hK.out _ _ ?_
       clear hK K
       (try simp only [Act.put,bw7,bw8,bw9])
       refine wpAnyI_done (by kernel_rfl) ?_ _
       refine hN.out _ _ ?_
       obtain ⟨f0,f1,_,_,_⟩:=hb5.facts
       obtain ⟨g0,g1,_,_,_⟩:=hb6.facts
       rcases HSX.out with ⟨h1,h2,h3⟩|⟨h1,h2,h3⟩
       ·have d1:(C.x - S.x == 0)=true:=by simp;omega
        have d2:(C.y - S.y == 0)=false:=by simp;omega
        have d3:(S.x - A.x == 0)=false:=by simp;omega
        clear h1 h2 h3
        gi_wp2
        exact FIN.out _ hR.2
       ·have d1:(C.x - S.x == 0)=false:=by simp;omega
        have d2:(C.y - S.y == 0)=true:=by simp;omega
        have d3:(S.x - A.x == 0)=true:=by simp;omega
        clear h1 h2 h3
        gi_wp2
        exact FIN.out _ hR.2
      ·go_simp
       refine after_alloc (fun wn hB' hb5 hz5=>?_)
       have hb5:Box2 _ _ 216 (.int .i64 0) (.int .i64 0):=hb5
       have hz':=hB'.size
       have hb6:=hb6.below hB'
       have hR:AroundAt wn Bx A S C∧Below W.heap.size W wn:=⟨hR.1.below hB',below_trans' hR.2 hB'⟩
       refine hK.out _ _ hR ?_
       clear hK K
       (try simp only [Act.put,bw7,bw8,bw9])
       refine wpAnyI_ready (rs:=[8]) (by kernel_rfl) (by simp) ?_
       refine stepRI (i:=8) rfl (by kernel_rfl) (fun K hK=>?_) (AllReadyI.nil)
       go_simp
       refine ⟨trivial,?_⟩
       refine (CallsIn.inRound l1 (callsIn_wide.2 (HW.out _))).mono ?_
       rintro e wn ⟨rfl,hB'⟩
       have hz':=hB'.size
       have hb5:=hb5.below hB'
       have hb6:=hb6.below hB'
       have hR:AroundAt wn Bx A S C∧Below W.heap.size W wn:=⟨hR.1.below hB',below_trans' hR.2 hB'⟩
       refine hK.out _ _ hR ?_
       clear hK K
       (try simp only [Act.put,bw7,bw8,bw9])
       refine wpAnyI_ready (rs:=[11]) (by kernel_rfl) (by simp) ?_
       refine stepFI (i:=11) rfl (by kernel_rfl) (by kernel_rfl) (fun K hK=>?_) (AllReadyI.nil)
       obtain ⟨f0,f1,g0,g1,zz5⟩:=hb5.facts
       go_simp
       refine after_set2 hb5 (fun wn hS hb5=>?_)
       have hb6:=hb6.but hS (by omega)
       have hz':=hS.size
       have hR:AroundAt wn Bx A S C∧Below W.heap.size W wn:=⟨hR.1.but hS (by omega),hS.below hR.2 (by omega)⟩
       clear f0 f1 g0 g1
       refine hK.out _ _ ?_
       clear hK K
       (try simp only [Act.put,bw7,bw8,bw9])
       refine wpAnyI_ready (rs:=[12]) (by kernel_rfl) (by simp) ?_
       refine stepFI (i:=12) rfl (by kernel_rfl) (by kernel_rfl) (fun K hK=>?_) (AllReadyI.nil)
       obtain ⟨f0,f1,g0,g1,zz6⟩:=hb6.facts
       go_simp
       refine after_set2 hb6 (fun wn hS hb6=>?_)
       have hb5:=hb5.but hS (by omega)
       have hz':=hS.size
       have hR:AroundAt wn Bx A S C∧Below W.heap.size W wn:=⟨hR.1.but hS (by omega),hS.below hR.2 (by omega)⟩
       clear f0 f1 g0 g1
       refine hK.out _ _ ?_
       clear hK K
       (try simp only [Act.put,bw7,bw8,bw9])
       refine wpAnyI_done (by kernel_rfl) ?_ _
       refine hN.out _ _ ?_
       obtain ⟨f0,f1,_,_,_⟩:=hb5.facts
       obtain ⟨g0,g1,_,_,_⟩:=hb6.facts
       rcases HSX.out with ⟨h1,h2,h3⟩|⟨h1,h2,h3⟩
       ·have d1:(C.x - S.x == 0)=true:=by simp;omega
        have d2:(C.y - S.y == 0)=false:=by simp;omega
        have d3:(S.x - A.x == 0)=false:=by simp;omega
        clear h1 h2 h3
        gi_wp2
        exact FIN.out _ hR.2
       ·have d1:(C.x - S.x == 0)=false:=by simp;omega
        have d2:(C.y - S.y == 0)=true:=by simp;omega
        have d3:(S.x - A.x == 0)=true:=by simp;omega
        clear h1 h2 h3
        gi_wp2
        exact FIN.out _ hR.2
     ·go_simp
      refine after_alloc (fun wn hB' hb5 hz5=>?_)
      have hb5:Box2 _ _ 216 (.int .i64 0) (.int .i64 0):=hb5
      have hz':=hB'.size
      have hb6:=hb6.below hB'
      have hR:AroundAt wn Bx A S C∧Below W.heap.size W wn:=⟨hR.1.below hB',below_trans' hR.2 hB'⟩
      refine hK.out _ _ hR ?_
      clear hK K
      (try simp only [Act.put,bw7,bw8,bw9])
      refine wpAnyI_ready (rs:=[6]) (by kernel_rfl) (by simp) ?_
      refine stepRI (i:=6) rfl (by kernel_rfl) (fun K hK=>?_) (AllReadyI.nil)
      go_simp
      refine ⟨trivial,?_⟩
      refine (CallsIn.inRound l1 (callsIn_wide.2 (HT.out _))).mono ?_
      rintro e wn ⟨rfl,hB'⟩
      have hz':=hB'.size
      have hb5:=hb5.below hB'
      have hb6:=hb6.below hB'
      have hR:AroundAt wn Bx A S C∧Below W.heap.size W wn:=⟨hR.1.below hB',below_trans' hR.2 hB'⟩
      refine hK.out _ _ hR ?_
      clear hK K
      (try simp only [Act.put,bw7,bw8,bw9])
      refine wpAnyI_ready (rs:=[8]) (by kernel_rfl) (by simp) ?_
      refine stepRI (i:=8) rfl (by kernel_rfl) (fun K hK=>?_) (AllReadyI.nil)
      go_simp
      refine ⟨trivial,?_⟩
      refine (CallsIn.inRound l1 (callsIn_wide.2 (HW.out _))).mono ?_
      rintro e wn ⟨rfl,hB'⟩
      have hz':=hB'.size
      have hb5:=hb5.below hB'
      have hb6:=hb6.below hB'
      have hR:AroundAt wn Bx A S C∧Below W.heap.size W wn:=⟨hR.1.below hB',below_trans' hR.2 hB'⟩
      refine hK.out _ _ hR ?_
      clear hK K
      (try simp only [Act.put,bw7,bw8,bw9])
      refine wpAnyI_ready (rs:=[11]) (by kernel_rfl) (by simp) ?_
      refine stepFI (i:=11) rfl (by kernel_rfl) (by kernel_rfl) (fun K hK=>?_) (AllReadyI.nil)
      obtain ⟨f0,f1,g0,g1,zz5⟩:=hb5.facts
      go_simp
      refine after_set2 hb5 (fun wn hS hb5=>?_)
      have hb6:=hb6.but hS (by omega)
      have hz':=hS.size
      have hR:AroundAt wn Bx A S C∧Below W.heap.size W wn:=⟨hR.1.but hS (by omega),hS.below hR.2 (by omega)⟩
      clear f0 f1 g0 g1
      refine hK.out _ _ ?_
      clear hK K
      (try simp only [Act.put,bw7,bw8,bw9])
      refine wpAnyI_ready (rs:=[12]) (by kernel_rfl) (by simp) ?_
      refine stepFI (i:=12) rfl (by kernel_rfl) (by kernel_rfl) (fun K hK=>?_) (AllReadyI.nil)
      obtain ⟨f0,f1,g0,g1,zz6⟩:=hb6.facts
      go_simp
      refine after_set2 hb6 (fun wn hS hb6=>?_)
      have hb5:=hb5.but hS (by omega)
      have hz':=hS.size
      have hR:AroundAt wn Bx A S C∧Below W.heap.size W wn:=⟨hR.1.but hS (by omega),hS.below hR.2 (by omega)⟩
      clear f0 f1 g0 g1
      refine hK.out _ _ ?_
      clear hK K
      (try simp only [Act.put,bw7,bw8,bw9])
      refine wpAnyI_done (by kernel_rfl) ?_ _
      refine hN.out _ _ ?_
      obtain ⟨f0,f1,_,_,_⟩:=hb5.facts
      obtain ⟨g0,g1,_,_,_⟩:=hb6.facts
      rcases HSX.out with ⟨h1,h2,h3⟩|⟨h1,h2,h3⟩
      ·have d1:(C.x - S.x == 0)=true:=by simp;omega
       have d2:(C.y - S.y == 0)=false:=by simp;omega
       have d3:(S.x - A.x == 0)=false:=by simp;omega
       clear h1 h2 h3
       gi_wp2
       exact FIN.out _ hR.2
      ·have d1:(C.x - S.x == 0)=false:=by simp;omega
       have d2:(C.y - S.y == 0)=true:=by simp;omega
       have d3:(S.x - A.x == 0)=true:=by simp;omega
       clear h1 h2 h3
       gi_wp2
       exact FIN.out _ hR.2
   ·go_simp
    refine after_alloc (fun wn hB' hb5 hz5=>?_)
    have hb5:Box2 _ _ 216 (.int .i64 0) (.int .i64 0):=hb5
    have hz':=hB'.size
    have hR:AroundAt wn Bx A S C∧Below W.heap.size W wn:=⟨hR.1.below hB',below_trans' hR.2 hB'⟩
    refine hK.out _ _ hR ?_
    clear hK K
    (try simp only [Act.put,bw7,bw8,bw9])
    refine wpAnyI_ready (rs:=[5,10]) (by kernel_rfl) (by simp) ?_
    refine stepRI (i:=5) rfl (by kernel_rfl) (fun K hK=>?_) (stepRI (i:=10) rfl (by kernel_rfl) (fun K hK=>?_) (AllReadyI.nil))
    ·go_simp
     refine ⟨trivial,?_⟩
     refine (CallsIn.inRound l1 (callsIn_wide.2 (HS.out _))).mono ?_
     rintro e wn ⟨rfl,hB'⟩
     have hz':=hB'.size
     have hb5:=hb5.below hB'
     have hR:AroundAt wn Bx A S C∧Below W.heap.size W wn:=⟨hR.1.below hB',below_trans' hR.2 hB'⟩
     refine hK.out _ _ hR ?_
     clear hK K
     (try simp only [Act.put,bw7,bw8,bw9])
     refine wpAnyI_ready (rs:=[6,10]) (by kernel_rfl) (by simp) ?_
     refine stepRI (i:=6) rfl (by kernel_rfl) (fun K hK=>?_) (stepRI (i:=10) rfl (by kernel_rfl) (fun K hK=>?_) (AllReadyI.nil))
     ·go_simp
      refine ⟨trivial,?_⟩
      refine (CallsIn.inRound l1 (callsIn_wide.2 (HT.out _))).mono ?_
      rintro e wn ⟨rfl,hB'⟩
      have hz':=hB'.size
      have hb5:=hb5.below hB'
      have hR:AroundAt wn Bx A S C∧Below W.heap.size W wn:=⟨hR.1.below hB',below_trans' hR.2 hB'⟩
      refine hK.out _ _ hR ?_
      clear hK K
      (try simp only [Act.put,bw7,bw8,bw9])
      refine wpAnyI_ready (rs:=[8,10]) (by kernel_rfl) (by simp) ?_
      refine stepRI (i:=8) rfl (by kernel_rfl) (fun K hK=>?_) (stepRI (i:=10) rfl (by kernel_rfl) (fun K hK=>?_) (AllReadyI.nil))
      ·go_simp
       refine ⟨trivial,?_⟩
       refine (CallsIn.inRound l1 (callsIn_wide.2 (HW.out _))).mono ?_
       rintro e wn ⟨rfl,hB'⟩
       have hz':=hB'.size
       have hb5:=hb5.below hB'
       have hR:AroundAt wn Bx A S C∧Below W.heap.size W wn:=⟨hR.1.below hB',below_trans' hR.2 hB'⟩
       refine hK.out _ _ hR ?_
       clear hK K
       (try simp only [Act.put,bw7,bw8,bw9])
       refine wpAnyI_ready (rs:=[10]) (by kernel_rfl) (by simp) ?_
       refine stepRI (i:=10) rfl (by kernel_rfl) (fun K hK=>?_) (AllReadyI.nil)
       go_simp
       refine after_alloc (fun wn hB' hb6 hz6=>?_)
       have hb6:Box2 _ _ 216 (.int .i64 0) (.int .i64 0):=hb6
       have hz':=hB'.size
       have hb5:=hb5.below hB'
       have hR:AroundAt wn Bx A S C∧Below W.heap.size W wn:=⟨hR.1.below hB',below_trans' hR.2 hB'⟩
       refine hK.out _ _ hR ?_
       clear hK K
       (try simp only [Act.put,bw7,bw8,bw9])
       refine wpAnyI_ready (rs:=[11]) (by kernel_rfl) (by simp) ?_
       refine stepFI (i:=11) rfl (by kernel_rfl) (by kernel_rfl) (fun K hK=>?_) (AllReadyI.nil)
       obtain ⟨f0,f1,g0,g1,zz5⟩:=hb5.facts
       go_simp
       refine after_set2 hb5 (fun wn hS hb5=>?_)
       have hb6:=hb6.but hS (by omega)
       have hz':=hS.size
       have hR:AroundAt wn Bx A S C∧Below W.heap.size W wn:=⟨hR.1.but hS (by omega),hS.below hR.2 (by omega)⟩
       clear f0 f1 g0 g1
       refine hK.out _ _ ?_
       clear hK K
       (try simp only [Act.put,bw7,bw8,bw9])
       refine wpAnyI_ready (rs:=[12]) (by kernel_rfl) (by simp) ?_
       refine stepFI (i:=12) rfl (by kernel_rfl) (by kernel_rfl) (fun K hK=>?_) (AllReadyI.nil)
       obtain ⟨f0,f1,g0,g1,zz6⟩:=hb6.facts
       go_simp
       refine after_set2 hb6 (fun wn hS hb6=>?_)
       have hb5:=hb5.but hS (by omega)
       have hz':=hS.size
       have hR:AroundAt wn Bx A S C∧Below W.heap.size W wn:=⟨hR.1.but hS (by omega),hS.below hR.2 (by omega)⟩
       clear f0 f1 g0 g1
       refine hK.out _ _ ?_
       clear hK K
       (try simp only [Act.put,bw7,bw8,bw9])
       refine wpAnyI_done (by kernel_rfl) ?_ _
       refine hN.out _ _ ?_
       obtain ⟨f0,f1,_,_,_⟩:=hb5.facts
       obtain ⟨g0,g1,_,_,_⟩:=hb6.facts
       rcases HSX.out with ⟨h1,h2,h3⟩|⟨h1,h2,h3⟩
       ·have d1:(C.x - S.x == 0)=true:=by simp;omega
        have d2:(C.y - S.y == 0)=false:=by simp;omega
        have d3:(S.x - A.x == 0)=false:=by simp;omega
        clear h1 h2 h3
        gi_wp2
        exact FIN.out _ hR.2
       ·have d1:(C.x - S.x == 0)=false:=by simp;omega
        have d2:(C.y - S.y == 0)=true:=by simp;omega
        have d3:(S.x - A.x == 0)=true:=by simp;omega
        clear h1 h2 h3
        gi_wp2
        exact FIN.out _ hR.2
      ·go_simp
       refine after_alloc (fun wn hB' hb6 hz6=>?_)
       have hb6:Box2 _ _ 216 (.int .i64 0) (.int .i64 0):=hb6
       have hz':=hB'.size
       have hb5:=hb5.below hB'
       have hR:AroundAt wn Bx A S C∧Below W.heap.size W wn:=⟨hR.1.below hB',below_trans' hR.2 hB'⟩
       refine hK.out _ _ hR ?_
       clear hK K
       (try simp only [Act.put,bw7,bw8,bw9])
       refine wpAnyI_ready (rs:=[8]) (by kernel_rfl) (by simp) ?_
       refine stepRI (i:=8) rfl (by kernel_rfl) (fun K hK=>?_) (AllReadyI.nil)
       go_simp
       refine ⟨trivial,?_⟩
       refine (CallsIn.inRound l1 (callsIn_wide.2 (HW.out _))).mono ?_
       rintro e wn ⟨rfl,hB'⟩
       have hz':=hB'.size
       have hb5:=hb5.below hB'
       have hb6:=hb6.below hB'
       have hR:AroundAt wn Bx A S C∧Below W.heap.size W wn:=⟨hR.1.below hB',below_trans' hR.2 hB'⟩
       refine hK.out _ _ hR ?_
       clear hK K
       (try simp only [Act.put,bw7,bw8,bw9])
       refine wpAnyI_ready (rs:=[11]) (by kernel_rfl) (by simp) ?_
       refine stepFI (i:=11) rfl (by kernel_rfl) (by kernel_rfl) (fun K hK=>?_) (AllReadyI.nil)
       obtain ⟨f0,f1,g0,g1,zz5⟩:=hb5.facts
       go_simp
       refine after_set2 hb5 (fun wn hS hb5=>?_)
       have hb6:=hb6.but hS (by omega)
       have hz':=hS.size
       have hR:AroundAt wn Bx A S C∧Below W.heap.size W wn:=⟨hR.1.but hS (by omega),hS.below hR.2 (by omega)⟩
       clear f0 f1 g0 g1
       refine hK.out _ _ ?_
       clear hK K
       (try simp only [Act.put,bw7,bw8,bw9])
       refine wpAnyI_ready (rs:=[12]) (by kernel_rfl) (by simp) ?_
       refine stepFI (i:=12) rfl (by kernel_rfl) (by kernel_rfl) (fun K hK=>?_) (AllReadyI.nil)
       obtain ⟨f0,f1,g0,g1,zz6⟩:=hb6.facts
       go_simp
       refine after_set2 hb6 (fun wn hS hb6=>?_)
       have hb5:=hb5.but hS (by omega)
       have hz':=hS.size
       have hR:AroundAt wn Bx A S C∧Below W.heap.size W wn:=⟨hR.1.but hS (by omega),hS.below hR.2 (by omega)⟩
       clear f0 f1 g0 g1
       refine hK.out _ _ ?_
       clear hK K
       (try simp only [Act.put,bw7,bw8,bw9])
       refine wpAnyI_done (by kernel_rfl) ?_ _
       refine hN.out _ _ ?_
       obtain ⟨f0,f1,_,_,_⟩:=hb5.facts
       obtain ⟨g0,g1,_,_,_⟩:=hb6.facts
       rcases HSX.out with ⟨h1,h2,h3⟩|⟨h1,h2,h3⟩
       ·have d1:(C.x - S.x == 0)=true:=by simp;omega
        have d2:(C.y - S.y == 0)=false:=by simp;omega
        have d3:(S.x - A.x == 0)=false:=by simp;omega
        clear h1 h2 h3
        gi_wp2
        exact FIN.out _ hR.2
       ·have d1:(C.x - S.x == 0)=false:=by simp;omega
        have d2:(C.y - S.y == 0)=true:=by simp;omega
        have d3:(S.x - A.x == 0)=true:=by simp;omega
        clear h1 h2 h3
        gi_wp2
        exact FIN.out _ hR.2
     ·go_simp
      refine after_alloc (fun wn hB' hb6 hz6=>?_)
      have hb6:Box2 _ _ 216 (.int .i64 0) (.int .i64 0):=hb6
      have hz':=hB'.size
      have hb5:=hb5.below hB'
      have hR:AroundAt wn Bx A S C∧Below W.heap.size W wn:=⟨hR.1.below hB',below_trans' hR.2 hB'⟩
      refine hK.out _ _ hR ?_
      clear hK K
      (try simp only [Act.put,bw7,bw8,bw9])
      refine wpAnyI_ready (rs:=[6]) (by kernel_rfl) (by simp) ?_
      refine stepRI (i:=6) rfl (by kernel_rfl) (fun K hK=>?_) (AllReadyI.nil)
      go_simp
      refine ⟨trivial,?_⟩
      refine (CallsIn.inRound l1 (callsIn_wide.2 (HT.out _))).mono ?_
      rintro e wn ⟨rfl,hB'⟩
      have hz':=hB'.size
      have hb5:=hb5.below hB'
      have hb6:=hb6.below hB'
      have hR:AroundAt wn Bx A S C∧Below W.heap.size W wn:=⟨hR.1.below hB',below_trans' hR.2 hB'⟩
      refine hK.out _ _ hR ?_
      clear hK K
      (try simp only [Act.put,bw7,bw8,bw9])
      refine wpAnyI_ready (rs:=[8]) (by kernel_rfl) (by simp) ?_
      refine stepRI (i:=8) rfl (by kernel_rfl) (fun K hK=>?_) (AllReadyI.nil)
      go_simp
      refine ⟨trivial,?_⟩
      refine (CallsIn.inRound l1 (callsIn_wide.2 (HW.out _))).mono ?_
      rintro e wn ⟨rfl,hB'⟩
      have hz':=hB'.size
      have hb5:=hb5.below hB'
      have hb6:=hb6.below hB'
      have hR:AroundAt wn Bx A S C∧Below W.heap.size W wn:=⟨hR.1.below hB',below_trans' hR.2 hB'⟩
      refine hK.out _ _ hR ?_
      clear hK K
      (try simp only [Act.put,bw7,bw8,bw9])
      refine wpAnyI_ready (rs:=[11]) (by kernel_rfl) (by simp) ?_
      refine stepFI (i:=11) rfl (by kernel_rfl) (by kernel_rfl) (fun K hK=>?_) (AllReadyI.nil)
      obtain ⟨f0,f1,g0,g1,zz5⟩:=hb5.facts
      go_simp
      refine after_set2 hb5 (fun wn hS hb5=>?_)
      have hb6:=hb6.but hS (by omega)
      have hz':=hS.size
      have hR:AroundAt wn Bx A S C∧Below W.heap.size W wn:=⟨hR.1.but hS (by omega),hS.below hR.2 (by omega)⟩
      clear f0 f1 g0 g1
      refine hK.out _ _ ?_
      clear hK K
      (try simp only [Act.put,bw7,bw8,bw9])
      refine wpAnyI_ready (rs:=[12]) (by kernel_rfl) (by simp) ?_
      refine stepFI (i:=12) rfl (by kernel_rfl) (by kernel_rfl) (fun K hK=>?_) (AllReadyI.nil)
      obtain ⟨f0,f1,g0,g1,zz6⟩:=hb6.facts
      go_simp
      refine after_set2 hb6 (fun wn hS hb6=>?_)
      have hb5:=hb5.but hS (by omega)
      have hz':=hS.size
      have hR:AroundAt wn Bx A S C∧Below W.heap.size W wn:=⟨hR.1.but hS (by omega),hS.below hR.2 (by omega)⟩
      clear f0 f1 g0 g1
      refine hK.out _ _ ?_
      clear hK K
      (try simp only [Act.put,bw7,bw8,bw9])
      refine wpAnyI_done (by kernel_rfl) ?_ _
      refine hN.out _ _ ?_
      obtain ⟨f0,f1,_,_,_⟩:=hb5.facts
      obtain ⟨g0,g1,_,_,_⟩:=hb6.facts
      rcases HSX.out with ⟨h1,h2,h3⟩|⟨h1,h2,h3⟩
      ·have d1:(C.x - S.x == 0)=true:=by simp;omega
       have d2:(C.y - S.y == 0)=false:=by simp;omega
       have d3:(S.x - A.x == 0)=false:=by simp;omega
       clear h1 h2 h3
       gi_wp2
       exact FIN.out _ hR.2
      ·have d1:(C.x - S.x == 0)=false:=by simp;omega
       have d2:(C.y - S.y == 0)=true:=by simp;omega
       have d3:(S.x - A.x == 0)=true:=by simp;omega
       clear h1 h2 h3
       gi_wp2
       exact FIN.out _ hR.2
    ·go_simp
     refine after_alloc (fun wn hB' hb6 hz6=>?_)
     have hb6:Box2 _ _ 216 (.int .i64 0) (.int .i64 0):=hb6
     have hz':=hB'.size
     have hb5:=hb5.below hB'
     have hR:AroundAt wn Bx A S C∧Below W.heap.size W wn:=⟨hR.1.below hB',below_trans' hR.2 hB'⟩
     refine hK.out _ _ hR ?_
     clear hK K
     (try simp only [Act.put,bw7,bw8,bw9])
     refine wpAnyI_ready (rs:=[5]) (by kernel_rfl) (by simp) ?_
     refine stepRI (i:=5) rfl (by kernel_rfl) (fun K hK=>?_) (AllReadyI.nil)
     go_simp
     refine ⟨trivial,?_⟩
     refine (CallsIn.inRound l1 (callsIn_wide.2 (HS.out _))).mono ?_
     rintro e wn ⟨rfl,hB'⟩
     have hz':=hB'.size
     have hb5:=hb5.below hB'
     have hb6:=hb6.below hB'
     have hR:AroundAt wn Bx A S C∧Below W.heap.size W wn:=⟨hR.1.below hB',below_trans' hR.2 hB'⟩
     refine hK.out _ _ hR ?_
     clear hK K
     (try simp only [Act.put,bw7,bw8,bw9])
     refine wpAnyI_ready (rs:=[6]) (by kernel_rfl) (by simp) ?_
     refine stepRI (i:=6) rfl (by kernel_rfl) (fun K hK=>?_) (AllReadyI.nil)
     go_simp
     refine ⟨trivial,?_⟩
     refine (CallsIn.inRound l1 (callsIn_wide.2 (HT.out _))).mono ?_
     rintro e wn ⟨rfl,hB'⟩
     have hz':=hB'.size
     have hb5:=hb5.below hB'
     have hb6:=hb6.below hB'
     have hR:AroundAt wn Bx A S C∧Below W.heap.size W wn:=⟨hR.1.below hB',below_trans' hR.2 hB'⟩
     refine hK.out _ _ hR ?_
     clear hK K
     (try simp only [Act.put,bw7,bw8,bw9])
     refine wpAnyI_ready (rs:=[8]) (by kernel_rfl) (by simp) ?_
     refine stepRI (i:=8) rfl (by kernel_rfl) (fun K hK=>?_) (AllReadyI.nil)
     go_simp
     refine ⟨trivial,?_⟩
     refine (CallsIn.inRound l1 (callsIn_wide.2 (HW.out _))).mono ?_
     rintro e wn ⟨rfl,hB'⟩
     have hz':=hB'.size
     have hb5:=hb5.below hB'
     have hb6:=hb6.below hB'
     have hR:AroundAt wn Bx A S C∧Below W.heap.size W wn:=⟨hR.1.below hB',below_trans' hR.2 hB'⟩
     refine hK.out _ _ hR ?_
     clear hK K
     (try simp only [Act.put,bw7,bw8,bw9])
     refine wpAnyI_ready (rs:=[11]) (by kernel_rfl) (by simp) ?_
     refine stepFI (i:=11) rfl (by kernel_rfl) (by kernel_rfl) (fun K hK=>?_) (AllReadyI.nil)
     obtain ⟨f0,f1,g0,g1,zz5⟩:=hb5.facts
     go_simp
     refine after_set2 hb5 (fun wn hS hb5=>?_)
     have hb6:=hb6.but hS (by omega)
     have hz':=hS.size
     have hR:AroundAt wn Bx A S C∧Below W.heap.size W wn:=⟨hR.1.but hS (by omega),hS.below hR.2 (by omega)⟩
     clear f0 f1 g0 g1
     refine hK.out _ _ ?_
     clear hK K
     (try simp only [Act.put,bw7,bw8,bw9])
     refine wpAnyI_ready (rs:=[12]) (by kernel_rfl) (by simp) ?_
     refine stepFI (i:=12) rfl (by kernel_rfl) (by kernel_rfl) (fun K hK=>?_) (AllReadyI.nil)
     obtain ⟨f0,f1,g0,g1,zz6⟩:=hb6.facts
     go_simp
     refine after_set2 hb6 (fun wn hS hb6=>?_)
     have hb5:=hb5.but hS (by omega)
     have hz':=hS.size
     have hR:AroundAt wn Bx A S C∧Below W.heap.size W wn:=⟨hR.1.but hS (by omega),hS.below hR.2 (by omega)⟩
     clear f0 f1 g0 g1
     refine hK.out _ _ ?_
     clear hK K
     (try simp only [Act.put,bw7,bw8,bw9])
     refine wpAnyI_done (by kernel_rfl) ?_ _
     refine hN.out _ _ ?_
     obtain ⟨f0,f1,_,_,_⟩:=hb5.facts
     obtain ⟨g0,g1,_,_,_⟩:=hb6.facts
     rcases HSX.out with ⟨h1,h2,h3⟩|⟨h1,h2,h3⟩
     ·have d1:(C.x - S.x == 0)=true:=by simp;omega
      have d2:(C.y - S.y == 0)=false:=by simp;omega
      have d3:(S.x - A.x == 0)=false:=by simp;omega
      clear h1 h2 h3
      gi_wp2
      exact FIN.out _ hR.2
     ·have d1:(C.x - S.x == 0)=false:=by simp;omega
      have d2:(C.y - S.y == 0)=true:=by simp;omega
      have d3:(S.x - A.x == 0)=true:=by simp;omega
      clear h1 h2 h3
      gi_wp2
      exact FIN.out _ hR.2
   ·go_simp
    refine after_alloc (fun wn hB' hb6 hz6=>?_)
    have hb6:Box2 _ _ 216 (.int .i64 0) (.int .i64 0):=hb6
    have hz':=hB'.size
    have hR:AroundAt wn Bx A S C∧Below W.heap.size W wn:=⟨hR.1.below hB',below_trans' hR.2 hB'⟩
    refine hK.out _ _ hR ?_
    clear hK K
    (try simp only [Act.put,bw7,bw8,bw9])
    refine wpAnyI_ready (rs:=[5,9]) (by kernel_rfl) (by simp) ?_
    refine stepRI (i:=5) rfl (by kernel_rfl) (fun K hK=>?_) (stepRI (i:=9) rfl (by kernel_rfl) (fun K hK=>?_) (AllReadyI.nil))
    ·go_simp
     refine ⟨trivial,?_⟩
     refine (CallsIn.inRound l1 (callsIn_wide.2 (HS.out _))).mono ?_
     rintro e wn ⟨rfl,hB'⟩
     have hz':=hB'.size
     have hb6:=hb6.below hB'
     have hR:AroundAt wn Bx A S C∧Below W.heap.size W wn:=⟨hR.1.below hB',below_trans' hR.2 hB'⟩
     refine hK.out _ _ hR ?_
     clear hK K
     (try simp only [Act.put,bw7,bw8,bw9])
     refine wpAnyI_ready (rs:=[6,9]) (by kernel_rfl) (by simp) ?_
     refine stepRI (i:=6) rfl (by kernel_rfl) (fun K hK=>?_) (stepRI (i:=9) rfl (by kernel_rfl) (fun K hK=>?_) (AllReadyI.nil))
     ·go_simp
      refine ⟨trivial,?_⟩
      refine (CallsIn.inRound l1 (callsIn_wide.2 (HT.out _))).mono ?_
      rintro e wn ⟨rfl,hB'⟩
      have hz':=hB'.size
      have hb6:=hb6.below hB'
      have hR:AroundAt wn Bx A S C∧Below W.heap.size W wn:=⟨hR.1.below hB',below_trans' hR.2 hB'⟩
      refine hK.out _ _ hR ?_
      clear hK K
      (try simp only [Act.put,bw7,bw8,bw9])
      refine wpAnyI_ready (rs:=[8,9]) (by kernel_rfl) (by simp) ?_
      refine stepRI (i:=8) rfl (by kernel_rfl) (fun K hK=>?_) (stepRI (i:=9) rfl (by kernel_rfl) (fun K hK=>?_) (AllReadyI.nil))
      ·go_simp
       refine ⟨trivial,?_⟩
       refine (CallsIn.inRound l1 (callsIn_wide.2 (HW.out _))).mono ?_
       rintro e wn ⟨rfl,hB'⟩
       have hz':=hB'.size
       have hb6:=hb6.below hB'
       have hR:AroundAt wn Bx A S C∧Below W.heap.size W wn:=⟨hR.1.below hB',below_trans' hR.2 hB'⟩
       refine hK.out _ _ hR ?_
       clear hK K
       (try simp only [Act.put,bw7,bw8,bw9])
       refine wpAnyI_ready (rs:=[9]) (by kernel_rfl) (by simp) ?_
       refine stepRI (i:=9) rfl (by kernel_rfl) (fun K hK=>?_) (AllReadyI.nil)
       go_simp
       refine after_alloc (fun wn hB' hb5 hz5=>?_)
       have hb5:Box2 _ _ 216 (.int .i64 0) (.int .i64 0):=hb5
       have hz':=hB'.size
       have hb6:=hb6.below hB'
       have hR:AroundAt wn Bx A S C∧Below W.heap.size W wn:=⟨hR.1.below hB',below_trans' hR.2 hB'⟩
       refine hK.out _ _ hR ?_
       clear hK K
       (try simp only [Act.put,bw7,bw8,bw9])
       refine wpAnyI_ready (rs:=[11]) (by kernel_rfl) (by simp) ?_
       refine stepFI (i:=11) rfl (by kernel_rfl) (by kernel_rfl) (fun K hK=>?_) (AllReadyI.nil)
       obtain ⟨f0,f1,g0,g1,zz5⟩:=hb5.facts
       go_simp
       refine after_set2 hb5 (fun wn hS hb5=>?_)
       have hb6:=hb6.but hS (by omega)
       have hz':=hS.size
       have hR:AroundAt wn Bx A S C∧Below W.heap.size W wn:=⟨hR.1.but hS (by omega),hS.below hR.2 (by omega)⟩
       clear f0 f1 g0 g1
       refine hK.out _ _ ?_
       clear hK K
       (try simp only [Act.put,bw7,bw8,bw9])
       refine wpAnyI_ready (rs:=[12]) (by kernel_rfl) (by simp) ?_
       refine stepFI (i:=12) rfl (by kernel_rfl) (by kernel_rfl) (fun K hK=>?_) (AllReadyI.nil)
       obtain ⟨f0,f1,g0,g1,zz6⟩:=hb6.facts
       go_simp
       refine after_set2 hb6 (fun wn hS hb6=>?_)
       have hb5:=hb5.but hS (by omega)
       have hz':=hS.size
       have hR:AroundAt wn Bx A S C∧Below W.heap.size W wn:=⟨hR.1.but hS (by omega),hS.below hR.2 (by omega)⟩
       clear f0 f1 g0 g1
       refine hK.out _ _ ?_
       clear hK K
       (try simp only [Act.put,bw7,bw8,bw9])
       refine wpAnyI_done (by kernel_rfl) ?_ _
       refine hN.out _ _ ?_
       obtain ⟨f0,f1,_,_,_⟩:=hb5.facts
       obtain ⟨g0,g1,_,_,_⟩:=hb6.facts
       rcases HSX.out with ⟨h1,h2,h3⟩|⟨h1,h2,h3⟩
       ·have d1:(C.x - S.x == 0)=true:=by simp;omega
        have d2:(C.y - S.y == 0)=false:=by simp;omega
        have d3:(S.x - A.x == 0)=false:=by simp;omega
        clear h1 h2 h3
        gi_wp2
        exact FIN.out _ hR.2
       ·have d1:(C.x - S.x == 0)=false:=by simp;omega
        have d2:(C.y - S.y == 0)=true:=by simp;omega
        have d3:(S.x - A.x == 0)=true:=by simp;omega
        clear h1 h2 h3
        gi_wp2
        exact FIN.out _ hR.2
      ·go_simp
       refine after_alloc (fun wn hB' hb5 hz5=>?_)
       have hb5:Box2 _ _ 216 (.int .i64 0) (.int .i64 0):=hb5
       have hz':=hB'.size
       have hb6:=hb6.below hB'
       have hR:AroundAt wn Bx A S C∧Below W.heap.size W wn:=⟨hR.1.below hB',below_trans' hR.2 hB'⟩
       refine hK.out _ _ hR ?_
       clear hK K
       (try simp only [Act.put,bw7,bw8,bw9])
       refine wpAnyI_ready (rs:=[8]) (by kernel_rfl) (by simp) ?_
       refine stepRI (i:=8) rfl (by kernel_rfl) (fun K hK=>?_) (AllReadyI.nil)
       go_simp
       refine ⟨trivial,?_⟩
       refine (CallsIn.inRound l1 (callsIn_wide.2 (HW.out _))).mono ?_
       rintro e wn ⟨rfl,hB'⟩
       have hz':=hB'.size
       have hb5:=hb5.below hB'
       have hb6:=hb6.below hB'
       have hR:AroundAt wn Bx A S C∧Below W.heap.size W wn:=⟨hR.1.below hB',below_trans' hR.2 hB'⟩
       refine hK.out _ _ hR ?_
       clear hK K
       (try simp only [Act.put,bw7,bw8,bw9])
       refine wpAnyI_ready (rs:=[11]) (by kernel_rfl) (by simp) ?_
       refine stepFI (i:=11) rfl (by kernel_rfl) (by kernel_rfl) (fun K hK=>?_) (AllReadyI.nil)
       obtain ⟨f0,f1,g0,g1,zz5⟩:=hb5.facts
       go_simp
       refine after_set2 hb5 (fun wn hS hb5=>?_)
       have hb6:=hb6.but hS (by omega)
       have hz':=hS.size
       have hR:AroundAt wn Bx A S C∧Below W.heap.size W wn:=⟨hR.1.but hS (by omega),hS.below hR.2 (by omega)⟩
       clear f0 f1 g0 g1
       refine hK.out _ _ ?_
       clear hK K
       (try simp only [Act.put,bw7,bw8,bw9])
       refine wpAnyI_ready (rs:=[12]) (by kernel_rfl) (by simp) ?_
       refine stepFI (i:=12) rfl (by kernel_rfl) (by kernel_rfl) (fun K hK=>?_) (AllReadyI.nil)
       obtain ⟨f0,f1,g0,g1,zz6⟩:=hb6.facts
       go_simp
       refine after_set2 hb6 (fun wn hS hb6=>?_)
       have hb5:=hb5.but hS (by omega)
       have hz':=hS.size
       have hR:AroundAt wn Bx A S C∧Below W.heap.size W wn:=⟨hR.1.but hS (by omega),hS.below hR.2 (by omega)⟩
       clear f0 f1 g0 g1
       refine hK.out _ _ ?_
       clear hK K
       (try simp only [Act.put,bw7,bw8,bw9])
       refine wpAnyI_done (by kernel_rfl) ?_ _
       refine hN.out _ _ ?_
       obtain ⟨f0,f1,_,_,_⟩:=hb5.facts
       obtain ⟨g0,g1,_,_,_⟩:=hb6.facts
       rcases HSX.out with ⟨h1,h2,h3⟩|⟨h1,h2,h3⟩
       ·have d1:(C.x - S.x == 0)=true:=by simp;omega
        have d2:(C.y - S.y == 0)=false:=by simp;omega
        have d3:(S.x - A.x == 0)=false:=by simp;omega
        clear h1 h2 h3
        gi_wp2
        exact FIN.out _ hR.2
       ·have d1:(C.x - S.x == 0)=false:=by simp;omega
        have d2:(C.y - S.y == 0)=true:=by simp;omega
        have d3:(S.x - A.x == 0)=true:=by simp;omega
        clear h1 h2 h3
        gi_wp2
        exact FIN.out _ hR.2
     ·go_simp
      refine after_alloc (fun wn hB' hb5 hz5=>?_)
      have hb5:Box2 _ _ 216 (.int .i64 0) (.int .i64 0):=hb5
      have hz':=hB'.size
      have hb6:=hb6.below hB'
      have hR:AroundAt wn Bx A S C∧Below W.heap.size W wn:=⟨hR.1.below hB',below_trans' hR.2 hB'⟩
      refine hK.out _ _ hR ?_
      clear hK K
      (try simp only [Act.put,bw7,bw8,bw9])
      refine wpAnyI_ready (rs:=[6]) (by kernel_rfl) (by simp) ?_
      refine stepRI (i:=6) rfl (by kernel_rfl) (fun K hK=>?_) (AllReadyI.nil)
      go_simp
      refine ⟨trivial,?_⟩
      refine (CallsIn.inRound l1 (callsIn_wide.2 (HT.out _))).mono ?_
      rintro e wn ⟨rfl,hB'⟩
      have hz':=hB'.size
      have hb5:=hb5.below hB'
      have hb6:=hb6.below hB'
      have hR:AroundAt wn Bx A S C∧Below W.heap.size W wn:=⟨hR.1.below hB',below_trans' hR.2 hB'⟩
      refine hK.out _ _ hR ?_
      clear hK K
      (try simp only [Act.put,bw7,bw8,bw9])
      refine wpAnyI_ready (rs:=[8]) (by kernel_rfl) (by simp) ?_
      refine stepRI (i:=8) rfl (by kernel_rfl) (fun K hK=>?_) (AllReadyI.nil)
      go_simp
      refine ⟨trivial,?_⟩
      refine (CallsIn.inRound l1 (callsIn_wide.2 (HW.out _))).mono ?_
      rintro e wn ⟨rfl,hB'⟩
      have hz':=hB'.size
      have hb5:=hb5.below hB'
      have hb6:=hb6.below hB'
      have hR:AroundAt wn Bx A S C∧Below W.heap.size W wn:=⟨hR.1.below hB',below_trans' hR.2 hB'⟩
      refine hK.out _ _ hR ?_
      clear hK K
      (try simp only [Act.put,bw7,bw8,bw9])
      refine wpAnyI_ready (rs:=[11]) (by kernel_rfl) (by simp) ?_
      refine stepFI (i:=11) rfl (by kernel_rfl) (by kernel_rfl) (fun K hK=>?_) (AllReadyI.nil)
      obtain ⟨f0,f1,g0,g1,zz5⟩:=hb5.facts
      go_simp
      refine after_set2 hb5 (fun wn hS hb5=>?_)
      have hb6:=hb6.but hS (by omega)
      have hz':=hS.size
      have hR:AroundAt wn Bx A S C∧Below W.heap.size W wn:=⟨hR.1.but hS (by omega),hS.below hR.2 (by omega)⟩
      clear f0 f1 g0 g1
      refine hK.out _ _ ?_
      clear hK K
      (try simp only [Act.put,bw7,bw8,bw9])
      refine wpAnyI_ready (rs:=[12]) (by kernel_rfl) (by simp) ?_
      refine stepFI (i:=12) rfl (by kernel_rfl) (by kernel_rfl) (fun K hK=>?_) (AllReadyI.nil)
      obtain ⟨f0,f1,g0,g1,zz6⟩:=hb6.facts
      go_simp
      refine after_set2 hb6 (fun wn hS hb6=>?_)
      have hb5:=hb5.but hS (by omega)
      have hz':=hS.size
      have hR:AroundAt wn Bx A S C∧Below W.heap.size W wn:=⟨hR.1.but hS (by omega),hS.below hR.2 (by omega)⟩
      clear f0 f1 g0 g1
      refine hK.out _ _ ?_
      clear hK K
      (try simp only [Act.put,bw7,bw8,bw9])
      refine wpAnyI_done (by kernel_rfl) ?_ _
      refine hN.out _ _ ?_
      obtain ⟨f0,f1,_,_,_⟩:=hb5.facts
      obtain ⟨g0,g1,_,_,_⟩:=hb6.facts
      rcases HSX.out with ⟨h1,h2,h3⟩|⟨h1,h2,h3⟩
      ·have d1:(C.x - S.x == 0)=true:=by simp;omega
       have d2:(C.y - S.y == 0)=false:=by simp;omega
       have d3:(S.x - A.x == 0)=false:=by simp;omega
       clear h1 h2 h3
       gi_wp2
       exact FIN.out _ hR.2
      ·have d1:(C.x - S.x == 0)=false:=by simp;omega
       have d2:(C.y - S.y == 0)=true:=by simp;omega
       have d3:(S.x - A.x == 0)=true:=by simp;omega
       clear h1 h2 h3
       gi_wp2
       exact FIN.out _ hR.2
    ·go_simp
     refine after_alloc (fun wn hB' hb5 hz5=>?_)
     have hb5:Box2 _ _ 216 (.int .i64 0) (.int .i64 0):=hb5
     have hz':=hB'.size
     have hb6:=hb6.below hB'
     have hR:AroundAt wn Bx A S C∧Below W.heap.size W wn:=⟨hR.1.below hB',below_trans' hR.2 hB'⟩
     refine hK.out _ _ hR ?_
     clear hK K
     (try simp only [Act.put,bw7,bw8,bw9])
     refine wpAnyI_ready (rs:=[5]) (by kernel_rfl) (by simp) ?_
     refine stepRI (i:=5) rfl (by kernel_rfl) (fun K hK=>?_) (AllReadyI.nil)
     go_simp
     refine ⟨trivial,?_⟩
     refine (CallsIn.inRound l1 (callsIn_wide.2 (HS.out _))).mono ?_
     rintro e wn ⟨rfl,hB'⟩
     have hz':=hB'.size
     have hb5:=hb5.below hB'
     have hb6:=hb6.below hB'
     have hR:AroundAt wn Bx A S C∧Below W.heap.size W wn:=⟨hR.1.below hB',below_trans' hR.2 hB'⟩
     refine hK.out _ _ hR ?_
     clear hK K
     (try simp only [Act.put,bw7,bw8,bw9])
     refine wpAnyI_ready (rs:=[6]) (by kernel_rfl) (by simp) ?_
     refine stepRI (i:=6) rfl (by kernel_rfl) (fun K hK=>?_) (AllReadyI.nil)
     go_simp
     refine ⟨trivial,?_⟩
     refine (CallsIn.inRound l1 (callsIn_wide.2 (HT.out _))).mono ?_
     rintro e wn ⟨rfl,hB'⟩
     have hz':=hB'.size
     have hb5:=hb5.below hB'
     have hb6:=hb6.below hB'
     have hR:AroundAt wn Bx A S C∧Below W.heap.size W wn:=⟨hR.1.below hB',below_trans' hR.2 hB'⟩
     refine hK.out _ _ hR ?_
     clear hK K
     (try simp only [Act.put,bw7,bw8,bw9])
     refine wpAnyI_ready (rs:=[8]) (by kernel_rfl) (by simp) ?_
     refine stepRI (i:=8) rfl (by kernel_rfl) (fun K hK=>?_) (AllReadyI.nil)
     go_simp
     refine ⟨trivial,?_⟩
     refine (CallsIn.inRound l1 (callsIn_wide.2 (HW.out _))).mono ?_
     rintro e wn ⟨rfl,hB'⟩
     have hz':=hB'.size
     have hb5:=hb5.below hB'
     have hb6:=hb6.below hB'
     have hR:AroundAt wn Bx A S C∧Below W.heap.size W wn:=⟨hR.1.below hB',below_trans' hR.2 hB'⟩
     refine hK.out _ _ hR ?_
     clear hK K
     (try simp only [Act.put,bw7,bw8,bw9])
     refine wpAnyI_ready (rs:=[11]) (by kernel_rfl) (by simp) ?_
     refine stepFI (i:=11) rfl (by kernel_rfl) (by kernel_rfl) (fun K hK=>?_) (AllReadyI.nil)
     obtain ⟨f0,f1,g0,g1,zz5⟩:=hb5.facts
     go_simp
     refine after_set2 hb5 (fun wn hS hb5=>?_)
     have hb6:=hb6.but hS (by omega)
     have hz':=hS.size
     have hR:AroundAt wn Bx A S C∧Below W.heap.size W wn:=⟨hR.1.but hS (by omega),hS.below hR.2 (by omega)⟩
     clear f0 f1 g0 g1
     refine hK.out _ _ ?_
     clear hK K
     (try simp only [Act.put,bw7,bw8,bw9])
     refine wpAnyI_ready (rs:=[12]) (by kernel_rfl) (by simp) ?_
     refine stepFI (i:=12) rfl (by kernel_rfl) (by kernel_rfl) (fun K hK=>?_) (AllReadyI.nil)
     obtain ⟨f0,f1,g0,g1,zz6⟩:=hb6.facts
     go_simp
     refine after_set2 hb6 (fun wn hS hb6=>?_)
     have hb5:=hb5.but hS (by omega)
     have hz':=hS.size
     have hR:AroundAt wn Bx A S C∧Below W.heap.size W wn:=⟨hR.1.but hS (by omega),hS.below hR.2 (by omega)⟩
     clear f0 f1 g0 g1
     refine hK.out _ _ ?_
     clear hK K
     (try simp only [Act.put,bw7,bw8,bw9])
     refine wpAnyI_done (by kernel_rfl) ?_ _
     refine hN.out _ _ ?_
     obtain ⟨f0,f1,_,_,_⟩:=hb5.facts
     obtain ⟨g0,g1,_,_,_⟩:=hb6.facts
     rcases HSX.out with ⟨h1,h2,h3⟩|⟨h1,h2,h3⟩
     ·have d1:(C.x - S.x == 0)=true:=by simp;omega
      have d2:(C.y - S.y == 0)=false:=by simp;omega
      have d3:(S.x - A.x == 0)=false:=by simp;omega
      clear h1 h2 h3
      gi_wp2
      exact FIN.out _ hR.2
     ·have d1:(C.x - S.x == 0)=false:=by simp;omega
      have d2:(C.y - S.y == 0)=true:=by simp;omega
      have d3:(S.x - A.x == 0)=true:=by simp;omega
      clear h1 h2 h3
      gi_wp2
      exact FIN.out _ hR.2
  ·go_simp
   refine after_alloc (fun wn hB' hb5 hz5=>?_)
   have hb5:Box2 _ _ 216 (.int .i64 0) (.int .i64 0):=hb5
   have hz':=hB'.size
   have hR:AroundAt wn Bx A S C∧Below W.heap.size W wn:=⟨hR.1.below hB',below_trans' hR.2 hB'⟩
   refine hK.out _ _ hR ?_
   clear hK K
   (try simp only [Act.put,bw7,bw8,bw9])
   refine wpAnyI_ready (rs:=[2,10]) (by kernel_rfl) (by simp) ?_
   refine stepRI (i:=2) rfl (by kernel_rfl) (fun K hK=>?_) (stepRI (i:=10) rfl (by kernel_rfl) (fun K hK=>?_) (AllReadyI.nil))
   ·go_simp
    refine ⟨trivial,?_⟩
    refine (CallsIn.inRound l1 (callsIn_wide.2 (HA.out _))).mono ?_
    rintro e wn ⟨rfl,hB'⟩
    have hz':=hB'.size
    have hb5:=hb5.below hB'
    have hR:AroundAt wn Bx A S C∧Below W.heap.size W wn:=⟨hR.1.below hB',below_trans' hR.2 hB'⟩
    refine hK.out _ _ hR ?_
    clear hK K
    (try simp only [Act.put,bw7,bw8,bw9])
    refine wpAnyI_ready (rs:=[5,10]) (by kernel_rfl) (by simp) ?_
    refine stepRI (i:=5) rfl (by kernel_rfl) (fun K hK=>?_) (stepRI (i:=10) rfl (by kernel_rfl) (fun K hK=>?_) (AllReadyI.nil))
    ·go_simp
     refine ⟨trivial,?_⟩
     refine (CallsIn.inRound l1 (callsIn_wide.2 (HS.out _))).mono ?_
     rintro e wn ⟨rfl,hB'⟩
     have hz':=hB'.size
     have hb5:=hb5.below hB'
     have hR:AroundAt wn Bx A S C∧Below W.heap.size W wn:=⟨hR.1.below hB',below_trans' hR.2 hB'⟩
     refine hK.out _ _ hR ?_
     clear hK K
     (try simp only [Act.put,bw7,bw8,bw9])
     refine wpAnyI_ready (rs:=[6,10]) (by kernel_rfl) (by simp) ?_
     refine stepRI (i:=6) rfl (by kernel_rfl) (fun K hK=>?_) (stepRI (i:=10) rfl (by kernel_rfl) (fun K hK=>?_) (AllReadyI.nil))
     ·go_simp
      refine ⟨trivial,?_⟩
      refine (CallsIn.inRound l1 (callsIn_wide.2 (HT.out _))).mono ?_
      rintro e wn ⟨rfl,hB'⟩
      have hz':=hB'.size
      have hb5:=hb5.below hB'
      have hR:AroundAt wn Bx A S C∧Below W.heap.size W wn:=⟨hR.1.below hB',below_trans' hR.2 hB'⟩
      refine hK.out _ _ hR ?_
      clear hK K
      (try simp only [Act.put,bw7,bw8,bw9])
      refine wpAnyI_ready (rs:=[8,10]) (by kernel_rfl) (by simp) ?_
      refine stepRI (i:=8) rfl (by kernel_rfl) (fun K hK=>?_) (stepRI (i:=10) rfl (by kernel_rfl) (fun K hK=>?_) (AllReadyI.nil))
      ·go_simp
       refine ⟨trivial,?_⟩
       refine (CallsIn.inRound l1 (callsIn_wide.2 (HW.out _))).mono ?_
       rintro e wn ⟨rfl,hB'⟩
       have hz':=hB'.size
       have hb5:=hb5.below hB'
       have hR:AroundAt wn Bx A S C∧Below W.heap.size W wn:=⟨hR.1.below hB',below_trans' hR.2 hB'⟩
       refine hK.out _ _ hR ?_
       clear hK K
       (try simp only [Act.put,bw7,bw8,bw9])
       refine wpAnyI_ready (rs:=[10]) (by kernel_rfl) (by simp) ?_
       refine stepRI (i:=10) rfl (by kernel_rfl) (fun K hK=>?_) (AllReadyI.nil)
       go_simp
       refine after_alloc (fun wn hB' hb6 hz6=>?_)
       have hb6:Box2 _ _ 216 (.int .i64 0) (.int .i64 0):=hb6
       have hz':=hB'.size
       have hb5:=hb5.below hB'
       have hR:AroundAt wn Bx A S C∧Below W.heap.size W wn:=⟨hR.1.below hB',below_trans' hR.2 hB'⟩
       refine hK.out _ _ hR ?_
       clear hK K
       (try simp only [Act.put,bw7,bw8,bw9])
       refine wpAnyI_ready (rs:=[11]) (by kernel_rfl) (by simp) ?_
       refine stepFI (i:=11) rfl (by kernel_rfl) (by kernel_rfl) (fun K hK=>?_) (AllReadyI.nil)
       obtain ⟨f0,f1,g0,g1,zz5⟩:=hb5.facts
       go_simp
       refine after_set2 hb5 (fun wn hS hb5=>?_)
       have hb6:=hb6.but hS (by omega)
       have hz':=hS.size
       have hR:AroundAt wn Bx A S C∧Below W.heap.size W wn:=⟨hR.1.but hS (by omega),hS.below hR.2 (by omega)⟩
       clear f0 f1 g0 g1
       refine hK.out _ _ ?_
       clear hK K
       (try simp only [Act.put,bw7,bw8,bw9])
       refine wpAnyI_ready (rs:=[12]) (by kernel_rfl) (by simp) ?_
       refine stepFI (i:=12) rfl (by kernel_rfl) (by kernel_rfl) (fun K hK=>?_) (AllReadyI.nil)
       obtain ⟨f0,f1,g0,g1,zz6⟩:=hb6.facts
       go_simp
       refine after_set2 hb6 (fun wn hS hb6=>?_)
       have hb5:=hb5.but hS (by omega)
       have hz':=hS.size
       have hR:AroundAt wn Bx A S C∧Below W.heap.size W wn:=⟨hR.1.but hS (by omega),hS.below hR.2 (by omega)⟩
       clear f0 f1 g0 g1
       refine hK.out _ _ ?_
       clear hK K
       (try simp only [Act.put,bw7,bw8,bw9])
       refine wpAnyI_done (by kernel_rfl) ?_ _
       refine hN.out _ _ ?_
       obtain ⟨f0,f1,_,_,_⟩:=hb5.facts
       obtain ⟨g0,g1,_,_,_⟩:=hb6.facts
       rcases HSX.out with ⟨h1,h2,h3⟩|⟨h1,h2,h3⟩
       ·have d1:(C.x - S.x == 0)=true:=by simp;omega
        have d2:(C.y - S.y == 0)=false:=by simp;omega
        have d3:(S.x - A.x == 0)=false:=by simp;omega
        clear h1 h2 h3
        gi_wp2
        exact FIN.out _ hR.2
       ·have d1:(C.x - S.x == 0)=false:=by simp;omega
        have d2:(C.y - S.y == 0)=true:=by simp;omega
        have d3:(S.x - A.x == 0)=true:=by simp;omega
        clear h1 h2 h3
        gi_wp2
        exact FIN.out _ hR.2
      ·go_simp
       refine after_alloc (fun wn hB' hb6 hz6=>?_)
       have hb6:Box2 _ _ 216 (.int .i64 0) (.int .i64 0):=hb6
       have hz':=hB'.size
       have hb5:=hb5.below hB'
       have hR:AroundAt wn Bx A S C∧Below W.heap.size W wn:=⟨hR.1.below hB',below_trans' hR.2 hB'⟩
       refine hK.out _ _ hR ?_
       clear hK K
       (try simp only [Act.put,bw7,bw8,bw9])
       refine wpAnyI_ready (rs:=[8]) (by kernel_rfl) (by simp) ?_
       refine stepRI (i:=8) rfl (by kernel_rfl) (fun K hK=>?_) (AllReadyI.nil)
       go_simp
       refine ⟨trivial,?_⟩
       refine (CallsIn.inRound l1 (callsIn_wide.2 (HW.out _))).mono ?_
       rintro e wn ⟨rfl,hB'⟩
       have hz':=hB'.size
       have hb5:=hb5.below hB'
       have hb6:=hb6.below hB'
       have hR:AroundAt wn Bx A S C∧Below W.heap.size W wn:=⟨hR.1.below hB',below_trans' hR.2 hB'⟩
       refine hK.out _ _ hR ?_
       clear hK K
       (try simp only [Act.put,bw7,bw8,bw9])
       refine wpAnyI_ready (rs:=[11]) (by kernel_rfl) (by simp) ?_
       refine stepFI (i:=11) rfl (by kernel_rfl) (by kernel_rfl) (fun K hK=>?_) (AllReadyI.nil)
       obtain ⟨f0,f1,g0,g1,zz5⟩:=hb5.facts
       go_simp
       refine after_set2 hb5 (fun wn hS hb5=>?_)
       have hb6:=hb6.but hS (by omega)
       have hz':=hS.size
       have hR:AroundAt wn Bx A S C∧Below W.heap.size W wn:=⟨hR.1.but hS (by omega),hS.below hR.2 (by omega)⟩
       clear f0 f1 g0 g1
       refine hK.out _ _ ?_
       clear hK K
       (try simp only [Act.put,bw7,bw8,bw9])
       refine wpAnyI_ready (rs:=[12]) (by kernel_rfl) (by simp) ?_
       refine stepFI (i:=12) rfl (by kernel_rfl) (by kernel_rfl) (fun K hK=>?_) (AllReadyI.nil)
       obtain ⟨f0,f1,g0,g1,zz6⟩:=hb6.facts
       go_simp
       refine after_set2 hb6 (fun wn hS hb6=>?_)
       have hb5:=hb5.but hS (by omega)
       have hz':=hS.size
       have hR:AroundAt wn Bx A S C∧Below W.heap.size W wn:=⟨hR.1.but hS (by omega),hS.below hR.2 (by omega)⟩
       clear f0 f1 g0 g1
       refine hK.out _ _ ?_
       clear hK K
       (try simp only [Act.put,bw7,bw8,bw9])
       refine wpAnyI_done (by kernel_rfl) ?_ _
       refine hN.out _ _ ?_
       obtain ⟨f0,f1,_,_,_⟩:=hb5.facts
       obtain ⟨g0,g1,_,_,_⟩:=hb6.facts
       rcases HSX.out with ⟨h1,h2,h3⟩|⟨h1,h2,h3⟩
       ·have d1:(C.x - S.x == 0)=true:=by simp;omega
        have d2:(C.y - S.y == 0)=false:=by simp;omega
        have d3:(S.x - A.x == 0)=false:=by simp;omega
        clear h1 h2 h3
        gi_wp2
        exact FIN.out _ hR.2
       ·have d1:(C.x - S.x == 0)=false:=by simp;omega
        have d2:(C.y - S.y == 0)=true:=by simp;omega
        have d3:(S.x - A.x == 0)=true:=by simp;omega
        clear h1 h2 h3
        gi_wp2
        exact FIN.out _ hR.2
     ·go_simp
      refine after_alloc (fun wn hB' hb6 hz6=>?_)
      have hb6:Box2 _ _ 216 (.int .i64 0) (.int .i64 0):=hb6
      have hz':=hB'.size
      have hb5:=hb5.below hB'
      have hR:AroundAt wn Bx A S C∧Below W.heap.size W wn:=⟨hR.1.below hB',below_trans' hR.2 hB'⟩
      refine hK.out _ _ hR ?_
      clear hK K
      (try simp only [Act.put,bw7,bw8,bw9])
      refine wpAnyI_ready (rs:=[6]) (by kernel_rfl) (by simp) ?_
      refine stepRI (i:=6) rfl (by kernel_rfl) (fun K hK=>?_) (AllReadyI.nil)
      go_simp
      refine ⟨trivial,?_⟩
      refine (CallsIn.inRound l1 (callsIn_wide.2 (HT.out _))).mono ?_
      rintro e wn ⟨rfl,hB'⟩
      have hz':=hB'.size
      have hb5:=hb5.below hB'
      have hb6:=hb6.below hB'
      have hR:AroundAt wn Bx A S C∧Below W.heap.size W wn:=⟨hR.1.below hB',below_trans' hR.2 hB'⟩
      refine hK.out _ _ hR ?_
      clear hK K
      (try simp only [Act.put,bw7,bw8,bw9])
      refine wpAnyI_ready (rs:=[8]) (by kernel_rfl) (by simp) ?_
      refine stepRI (i:=8) rfl (by kernel_rfl) (fun K hK=>?_) (AllReadyI.nil)
      go_simp
      refine ⟨trivial,?_⟩
      refine (CallsIn.inRound l1 (callsIn_wide.2 (HW.out _))).mono ?_
      rintro e wn ⟨rfl,hB'⟩
      have hz':=hB'.size
      have hb5:=hb5.below hB'
      have hb6:=hb6.below hB'
      have hR:AroundAt wn Bx A S C∧Below W.heap.size W wn:=⟨hR.1.below hB',below_trans' hR.2 hB'⟩
      refine hK.out _ _ hR ?_
      clear hK K
      (try simp only [Act.put,bw7,bw8,bw9])
      refine wpAnyI_ready (rs:=[11]) (by kernel_rfl) (by simp) ?_
      refine stepFI (i:=11) rfl (by kernel_rfl) (by kernel_rfl) (fun K hK=>?_) (AllReadyI.nil)
      obtain ⟨f0,f1,g0,g1,zz5⟩:=hb5.facts
      go_simp
      refine after_set2 hb5 (fun wn hS hb5=>?_)
      have hb6:=hb6.but hS (by omega)
      have hz':=hS.size
      have hR:AroundAt wn Bx A S C∧Below W.heap.size W wn:=⟨hR.1.but hS (by omega),hS.below hR.2 (by omega)⟩
      clear f0 f1 g0 g1
      refine hK.out _ _ ?_
      clear hK K
      (try simp only [Act.put,bw7,bw8,bw9])
      refine wpAnyI_ready (rs:=[12]) (by kernel_rfl) (by simp) ?_
      refine stepFI (i:=12) rfl (by kernel_rfl) (by kernel_rfl) (fun K hK=>?_) (AllReadyI.nil)
      obtain ⟨f0,f1,g0,g1,zz6⟩:=hb6.facts
      go_simp
      refine after_set2 hb6 (fun wn hS hb6=>?_)
      have hb5:=hb5.but hS (by omega)
      have hz':=hS.size
      have hR:AroundAt wn Bx A S C∧Below W.heap.size W wn:=⟨hR.1.but hS (by omega),hS.below hR.2 (by omega)⟩
      clear f0 f1 g0 g1
      refine hK.out _ _ ?_
      clear hK K
      (try simp only [Act.put,bw7,bw8,bw9])
      refine wpAnyI_done (by kernel_rfl) ?_ _
      refine hN.out _ _ ?_
      obtain ⟨f0,f1,_,_,_⟩:=hb5.facts
      obtain ⟨g0,g1,_,_,_⟩:=hb6.facts
      rcases HSX.out with ⟨h1,h2,h3⟩|⟨h1,h2,h3⟩
      ·have d1:(C.x - S.x == 0)=true:=by simp;omega
       have d2:(C.y - S.y == 0)=false:=by simp;omega
       have d3:(S.x - A.x == 0)=false:=by simp;omega
       clear h1 h2 h3
       gi_wp2
       exact FIN.out _ hR.2
      ·have d1:(C.x - S.x == 0)=false:=by simp;omega
       have d2:(C.y - S.y == 0)=true:=by simp;omega
       have d3:(S.x - A.x == 0)=true:=by simp;omega
       clear h1 h2 h3
       gi_wp2
       exact FIN.out _ hR.2
    ·go_simp
     refine after_alloc (fun wn hB' hb6 hz6=>?_)
     have hb6:Box2 _ _ 216 (.int .i64 0) (.int .i64 0):=hb6
     have hz':=hB'.size
     have hb5:=hb5.below hB'
     have hR:AroundAt wn Bx A S C∧Below W.heap.size W wn:=⟨hR.1.below hB',below_trans' hR.2 hB'⟩
     refine hK.out _ _ hR ?_
     clear hK K
     (try simp only [Act.put,bw7,bw8,bw9])
     refine wpAnyI_ready (rs:=[5]) (by kernel_rfl) (by simp) ?_
     refine stepRI (i:=5) rfl (by kernel_rfl) (fun K hK=>?_) (AllReadyI.nil)
     go_simp
     refine ⟨trivial,?_⟩
     refine (CallsIn.inRound l1 (callsIn_wide.2 (HS.out _))).mono ?_
     rintro e wn ⟨rfl,hB'⟩
     have hz':=hB'.size
     have hb5:=hb5.below hB'
     have hb6:=hb6.below hB'
     have hR:AroundAt wn Bx A S C∧Below W.heap.size W wn:=⟨hR.1.below hB',below_trans' hR.2 hB'⟩
     refine hK.out _ _ hR ?_
     clear hK K
     (try simp only [Act.put,bw7,bw8,bw9])
     refine wpAnyI_ready (rs:=[6]) (by kernel_rfl) (by simp) ?_
     refine stepRI (i:=6) rfl (by kernel_rfl) (fun K hK=>?_) (AllReadyI.nil)
     go_simp
     refine ⟨trivial,?_⟩
     refine (CallsIn.inRound l1 (callsIn_wide.2 (HT.out _))).mono ?_
     rintro e wn ⟨rfl,hB'⟩
     have hz':=hB'.size
     have hb5:=hb5.below hB'
     have hb6:=hb6.below hB'
     have hR:AroundAt wn Bx A S C∧Below W.heap.size W wn:=⟨hR.1.below hB',below_trans' hR.2 hB'⟩
     refine hK.out _ _ hR ?_
     clear hK K
     (try simp only [Act.put,bw7,bw8,bw9])
     refine wpAnyI_ready (rs:=[8]) (by kernel_rfl) (by simp) ?_
     refine stepRI (i:=8) rfl (by kernel_rfl) (fun K hK=>?_) (AllReadyI.nil)
     go_simp
     refine ⟨trivial,?_⟩
     refine (CallsIn.inRound l1 (callsIn_wide.2 (HW.out _))).mono ?_
     rintro e wn ⟨rfl,hB'⟩
     have hz':=hB'.size
     have hb5:=hb5.below hB'
     have hb6:=hb6.below hB'
     have hR:AroundAt wn Bx A S C∧Below W.heap.size W wn:=⟨hR.1.below hB',below_trans' hR.2 hB'⟩
     refine hK.out _ _ hR ?_
     clear hK K
     (try simp only [Act.put,bw7,bw8,bw9])
     refine wpAnyI_ready (rs:=[11]) (by kernel_rfl) (by simp) ?_
     refine stepFI (i:=11) rfl (by kernel_rfl) (by kernel_rfl) (fun K hK=>?_) (AllReadyI.nil)
     obtain ⟨f0,f1,g0,g1,zz5⟩:=hb5.facts
     go_simp
     refine after_set2 hb5 (fun wn hS hb5=>?_)
     have hb6:=hb6.but hS (by omega)
     have hz':=hS.size
     have hR:AroundAt wn Bx A S C∧Below W.heap.size W wn:=⟨hR.1.but hS (by omega),hS.below hR.2 (by omega)⟩
     clear f0 f1 g0 g1
     refine hK.out _ _ ?_
     clear hK K
     (try simp only [Act.put,bw7,bw8,bw9])
     refine wpAnyI_ready (rs:=[12]) (by kernel_rfl) (by simp) ?_
     refine stepFI (i:=12) rfl (by kernel_rfl) (by kernel_rfl) (fun K hK=>?_) (AllReadyI.nil)
     obtain ⟨f0,f1,g0,g1,zz6⟩:=hb6.facts
     go_simp
     refine after_set2 hb6 (fun wn hS hb6=>?_)
     have hb5:=hb5.but hS (by omega)
     have hz':=hS.size
     have hR:AroundAt wn Bx A S C∧Below W.heap.size W wn:=⟨hR.1.but hS (by omega),hS.below hR.2 (by omega)⟩
     clear f0 f1 g0 g1
     refine hK.out _ _ ?_
     clear hK K
     (try simp only [Act.put,bw7,bw8,bw9])
     refine wpAnyI_done (by kernel_rfl) ?_ _
     refine hN.out _ _ ?_
     obtain ⟨f0,f1,_,_,_⟩:=hb5.facts
     obtain ⟨g0,g1,_,_,_⟩:=hb6.facts
     rcases HSX.out with ⟨h1,h2,h3⟩|⟨h1,h2,h3⟩
     ·have d1:(C.x - S.x == 0)=true:=by simp;omega
      have d2:(C.y - S.y == 0)=false:=by simp;omega
      have d3:(S.x - A.x == 0)=false:=by simp;omega
      clear h1 h2 h3
      gi_wp2
      exact FIN.out _ hR.2
     ·have d1:(C.x - S.x == 0)=false:=by simp;omega
      have d2:(C.y - S.y == 0)=true:=by simp;omega
      have d3:(S.x - A.x == 0)=true:=by simp;omega
      clear h1 h2 h3
      gi_wp2
      exact FIN.out _ hR.2
   ·go_simp
    refine after_alloc (fun wn hB' hb6 hz6=>?_)
    have hb6:Box2 _ _ 216 (.int .i64 0) (.int .i64 0):=hb6
    have hz':=hB'.size
    have hb5:=hb5.below hB'
    have hR:AroundAt wn Bx A S C∧Below W.heap.size W wn:=⟨hR.1.below hB',below_trans' hR.2 hB'⟩
    refine hK.out _ _ hR ?_
    clear hK K
    (try simp only [Act.put,bw7,bw8,bw9])
    refine wpAnyI_ready (rs:=[2]) (by kernel_rfl) (by simp) ?_
    refine stepRI (i:=2) rfl (by kernel_rfl) (fun K hK=>?_) (AllReadyI.nil)
    go_simp
    refine ⟨trivial,?_⟩
    refine (CallsIn.inRound l1 (callsIn_wide.2 (HA.out _))).mono ?_
    rintro e wn ⟨rfl,hB'⟩
    have hz':=hB'.size
    have hb5:=hb5.below hB'
    have hb6:=hb6.below hB'
    have hR:AroundAt wn Bx A S C∧Below W.heap.size W wn:=⟨hR.1.below hB',below_trans' hR.2 hB'⟩
    refine hK.out _ _ hR ?_
    clear hK K
    (try simp only [Act.put,bw7,bw8,bw9])
    refine wpAnyI_ready (rs:=[5]) (by kernel_rfl) (by simp) ?_
    refine stepRI (i:=5) rfl (by kernel_rfl) (fun K hK=>?_) (AllReadyI.nil)
    go_simp
    refine ⟨trivial,?_⟩
    refine (CallsIn.inRound l1 (callsIn_wide.2 (HS.out _))).mono ?_
    rintro e wn ⟨rfl,hB'⟩
    have hz':=hB'.size
    have hb5:=hb5.below hB'
    have hb6:=hb6.below hB'
    have hR:AroundAt wn Bx A S C∧Below W.heap.size W wn:=⟨hR.1.below hB',below_trans' hR.2 hB'⟩
    refine hK.out _ _ hR ?_
    clear hK K
    (try simp only [Act.put,bw7,bw8,bw9])
    refine wpAnyI_ready (rs:=[6]) (by kernel_rfl) (by simp) ?_
    refine stepRI (i:=6) rfl (by kernel_rfl) (fun K hK=>?_) (AllReadyI.nil)
    go_simp
    refine ⟨trivial,?_⟩
    refine (CallsIn.inRound l1 (callsIn_wide.2 (HT.out _))).mono ?_
    rintro e wn ⟨rfl,hB'⟩
    have hz':=hB'.size
    have hb5:=hb5.below hB'
    have hb6:=hb6.below hB'
    have hR:AroundAt wn Bx A S C∧Below W.heap.size W wn:=⟨hR.1.below hB',below_trans' hR.2 hB'⟩
    refine hK.out _ _ hR ?_
    clear hK K
    (try simp only [Act.put,bw7,bw8,bw9])
    refine wpAnyI_ready (rs:=[8]) (by kernel_rfl) (by simp) ?_
    refine stepRI (i:=8) rfl (by kernel_rfl) (fun K hK=>?_) (AllReadyI.nil)
    go_simp
    refine ⟨trivial,?_⟩
    refine (CallsIn.inRound l1 (callsIn_wide.2 (HW.out _))).mono ?_
    rintro e wn ⟨rfl,hB'⟩
    have hz':=hB'.size
    have hb5:=hb5.below hB'
    have hb6:=hb6.below hB'
    have hR:AroundAt wn Bx A S C∧Below W.heap.size W wn:=⟨hR.1.below hB',below_trans' hR.2 hB'⟩
    refine hK.out _ _ hR ?_
    clear hK K
    (try simp only [Act.put,bw7,bw8,bw9])
    refine wpAnyI_ready (rs:=[11]) (by kernel_rfl) (by simp) ?_
    refine stepFI (i:=11) rfl (by kernel_rfl) (by kernel_rfl) (fun K hK=>?_) (AllReadyI.nil)
    obtain ⟨f0,f1,g0,g1,zz5⟩:=hb5.facts
    go_simp
    refine after_set2 hb5 (fun wn hS hb5=>?_)
    have hb6:=hb6.but hS (by omega)
    have hz':=hS.size
    have hR:AroundAt wn Bx A S C∧Below W.heap.size W wn:=⟨hR.1.but hS (by omega),hS.below hR.2 (by omega)⟩
    clear f0 f1 g0 g1
    refine hK.out _ _ ?_
    clear hK K
    (try simp only [Act.put,bw7,bw8,bw9])
    refine wpAnyI_ready (rs:=[12]) (by kernel_rfl) (by simp) ?_
    refine stepFI (i:=12) rfl (by kernel_rfl) (by kernel_rfl) (fun K hK=>?_) (AllReadyI.nil)
    obtain ⟨f0,f1,g0,g1,zz6⟩:=hb6.facts
    go_simp
    refine after_set2 hb6 (fun wn hS hb6=>?_)
    have hb5:=hb5.but hS (by omega)
    have hz':=hS.size
    have hR:AroundAt wn Bx A S C∧Below W.heap.size W wn:=⟨hR.1.but hS (by omega),hS.below hR.2 (by omega)⟩
    clear f0 f1 g0 g1
    refine hK.out _ _ ?_
    clear hK K
    (try simp only [Act.put,bw7,bw8,bw9])
    refine wpAnyI_done (by kernel_rfl) ?_ _
    refine hN.out _ _ ?_
    obtain ⟨f0,f1,_,_,_⟩:=hb5.facts
    obtain ⟨g0,g1,_,_,_⟩:=hb6.facts
    rcases HSX.out with ⟨h1,h2,h3⟩|⟨h1,h2,h3⟩
    ·have d1:(C.x - S.x == 0)=true:=by simp;omega
     have d2:(C.y - S.y == 0)=false:=by simp;omega
     have d3:(S.x - A.x == 0)=false:=by simp;omega
     clear h1 h2 h3
     gi_wp2
     exact FIN.out _ hR.2
    ·have d1:(C.x - S.x == 0)=false:=by simp;omega
     have d2:(C.y - S.y == 0)=true:=by simp;omega
     have d3:(S.x - A.x == 0)=true:=by simp;omega
     clear h1 h2 h3
     gi_wp2
     exact FIN.out _ hR.2
  ·go_simp
   refine after_alloc (fun wn hB' hb6 hz6=>?_)
   have hb6:Box2 _ _ 216 (.int .i64 0) (.int .i64 0):=hb6
   have hz':=hB'.size
   have hR:AroundAt wn Bx A S C∧Below W.heap.size W wn:=⟨hR.1.below hB',below_trans' hR.2 hB'⟩
   refine hK.out _ _ hR ?_
   clear hK K
   (try simp only [Act.put,bw7,bw8,bw9])
   refine wpAnyI_ready (rs:=[2,9]) (by kernel_rfl) (by simp) ?_
   refine stepRI (i:=2) rfl (by kernel_rfl) (fun K hK=>?_) (stepRI (i:=9) rfl (by kernel_rfl) (fun K hK=>?_) (AllReadyI.nil))
   ·go_simp
    refine ⟨trivial,?_⟩
    refine (CallsIn.inRound l1 (callsIn_wide.2 (HA.out _))).mono ?_
    rintro e wn ⟨rfl,hB'⟩
    have hz':=hB'.size
    have hb6:=hb6.below hB'
    have hR:AroundAt wn Bx A S C∧Below W.heap.size W wn:=⟨hR.1.below hB',below_trans' hR.2 hB'⟩
    refine hK.out _ _ hR ?_
    clear hK K
    (try simp only [Act.put,bw7,bw8,bw9])
    refine wpAnyI_ready (rs:=[5,9]) (by kernel_rfl) (by simp) ?_
    refine stepRI (i:=5) rfl (by kernel_rfl) (fun K hK=>?_) (stepRI (i:=9) rfl (by kernel_rfl) (fun K hK=>?_) (AllReadyI.nil))
    ·go_simp
     refine ⟨trivial,?_⟩
     refine (CallsIn.inRound l1 (callsIn_wide.2 (HS.out _))).mono ?_
     rintro e wn ⟨rfl,hB'⟩
     have hz':=hB'.size
     have hb6:=hb6.below hB'
     have hR:AroundAt wn Bx A S C∧Below W.heap.size W wn:=⟨hR.1.below hB',below_trans' hR.2 hB'⟩
     refine hK.out _ _ hR ?_
     clear hK K
     (try simp only [Act.put,bw7,bw8,bw9])
     refine wpAnyI_ready (rs:=[6,9]) (by kernel_rfl) (by simp) ?_
     refine stepRI (i:=6) rfl (by kernel_rfl) (fun K hK=>?_) (stepRI (i:=9) rfl (by kernel_rfl) (fun K hK=>?_) (AllReadyI.nil))
     ·go_simp
      refine ⟨trivial,?_⟩
      refine (CallsIn.inRound l1 (callsIn_wide.2 (HT.out _))).mono ?_
      rintro e wn ⟨rfl,hB'⟩
      have hz':=hB'.size
      have hb6:=hb6.below hB'
      have hR:AroundAt wn Bx A S C∧Below W.heap.size W wn:=⟨hR.1.below hB',below_trans' hR.2 hB'⟩
      refine hK.out _ _ hR ?_
      clear hK K
      (try simp only [Act.put,bw7,bw8,bw9])
      refine wpAnyI_ready (rs:=[8,9]) (by kernel_rfl) (by simp) ?_
      refine stepRI (i:=8) rfl (by kernel_rfl) (fun K hK=>?_) (stepRI (i:=9) rfl (by kernel_rfl) (fun K hK=>?_) (AllReadyI.nil))
      ·go_simp
       refine ⟨trivial,?_⟩
       refine (CallsIn.inRound l1 (callsIn_wide.2 (HW.out _))).mono ?_
       rintro e wn ⟨rfl,hB'⟩
       have hz':=hB'.size
       have hb6:=hb6.below hB'
       have hR:AroundAt wn Bx A S C∧Below W.heap.size W wn:=⟨hR.1.below hB',below_trans' hR.2 hB'⟩
       refine hK.out _ _ hR ?_
       clear hK K
       (try simp only [Act.put,bw7,bw8,bw9])
       refine wpAnyI_ready (rs:=[9]) (by kernel_rfl) (by simp) ?_
       refine stepRI (i:=9) rfl (by kernel_rfl) (fun K hK=>?_) (AllReadyI.nil)
       go_simp
       refine after_alloc (fun wn hB' hb5 hz5=>?_)
       have hb5:Box2 _ _ 216 (.int .i64 0) (.int .i64 0):=hb5
       have hz':=hB'.size
       have hb6:=hb6.below hB'
       have hR:AroundAt wn Bx A S C∧Below W.heap.size W wn:=⟨hR.1.below hB',below_trans' hR.2 hB'⟩
       refine hK.out _ _ hR ?_
       clear hK K
       (try simp only [Act.put,bw7,bw8,bw9])
       refine wpAnyI_ready (rs:=[11]) (by kernel_rfl) (by simp) ?_
       refine stepFI (i:=11) rfl (by kernel_rfl) (by kernel_rfl) (fun K hK=>?_) (AllReadyI.nil)
       obtain ⟨f0,f1,g0,g1,zz5⟩:=hb5.facts
       go_simp
       refine after_set2 hb5 (fun wn hS hb5=>?_)
       have hb6:=hb6.but hS (by omega)
       have hz':=hS.size
       have hR:AroundAt wn Bx A S C∧Below W.heap.size W wn:=⟨hR.1.but hS (by omega),hS.below hR.2 (by omega)⟩
       clear f0 f1 g0 g1
       refine hK.out _ _ ?_
       clear hK K
       (try simp only [Act.put,bw7,bw8,bw9])
       refine wpAnyI_ready (rs:=[12]) (by kernel_rfl) (by simp) ?_
       refine stepFI (i:=12) rfl (by kernel_rfl) (by kernel_rfl) (fun K hK=>?_) (AllReadyI.nil)
       obtain ⟨f0,f1,g0,g1,zz6⟩:=hb6.facts
       go_simp
       refine after_set2 hb6 (fun wn hS hb6=>?_)
       have hb5:=hb5.but hS (by omega)
       have hz':=hS.size
       have hR:AroundAt wn Bx A S C∧Below W.heap.size W wn:=⟨hR.1.but hS (by omega),hS.below hR.2 (by omega)⟩
       clear f0 f1 g0 g1
       refine hK.out _ _ ?_
       clear hK K
       (try simp only [Act.put,bw7,bw8,bw9])
       refine wpAnyI_done (by kernel_rfl) ?_ _
       refine hN.out _ _ ?_
       obtain ⟨f0,f1,_,_,_⟩:=hb5.facts
       obtain ⟨g0,g1,_,_,_⟩:=hb6.facts
       rcases HSX.out with ⟨h1,h2,h3⟩|⟨h1,h2,h3⟩
       ·have d1:(C.x - S.x == 0)=true:=by simp;omega
        have d2:(C.y - S.y == 0)=false:=by simp;omega
        have d3:(S.x - A.x == 0)=false:=by simp;omega
        clear h1 h2 h3
        gi_wp2
        exact FIN.out _ hR.2
       ·have d1:(C.x - S.x == 0)=false:=by simp;omega
        have d2:(C.y - S.y == 0)=true:=by simp;omega
        have d3:(S.x - A.x == 0)=true:=by simp;omega
        clear h1 h2 h3
        gi_wp2
        exact FIN.out _ hR.2
      ·go_simp
       refine after_alloc (fun wn hB' hb5 hz5=>?_)
       have hb5:Box2 _ _ 216 (.int .i64 0) (.int .i64 0):=hb5
       have hz':=hB'.size
       have hb6:=hb6.below hB'
       have hR:AroundAt wn Bx A S C∧Below W.heap.size W wn:=⟨hR.1.below hB',below_trans' hR.2 hB'⟩
       refine hK.out _ _ hR ?_
       clear hK K
       (try simp only [Act.put,bw7,bw8,bw9])
       refine wpAnyI_ready (rs:=[8]) (by kernel_rfl) (by simp) ?_
       refine stepRI (i:=8) rfl (by kernel_rfl) (fun K hK=>?_) (AllReadyI.nil)
       go_simp
       refine ⟨trivial,?_⟩
       refine (CallsIn.inRound l1 (callsIn_wide.2 (HW.out _))).mono ?_
       rintro e wn ⟨rfl,hB'⟩
       have hz':=hB'.size
       have hb5:=hb5.below hB'
       have hb6:=hb6.below hB'
       have hR:AroundAt wn Bx A S C∧Below W.heap.size W wn:=⟨hR.1.below hB',below_trans' hR.2 hB'⟩
       refine hK.out _ _ hR ?_
       clear hK K
       (try simp only [Act.put,bw7,bw8,bw9])
       refine wpAnyI_ready (rs:=[11]) (by kernel_rfl) (by simp) ?_
       refine stepFI (i:=11) rfl (by kernel_rfl) (by kernel_rfl) (fun K hK=>?_) (AllReadyI.nil)
       obtain ⟨f0,f1,g0,g1,zz5⟩:=hb5.facts
       go_simp
       refine after_set2 hb5 (fun wn hS hb5=>?_)
       have hb6:=hb6.but hS (by omega)
       have hz':=hS.size
       have hR:AroundAt wn Bx A S C∧Below W.heap.size W wn:=⟨hR.1.but hS (by omega),hS.below hR.2 (by omega)⟩
       clear f0 f1 g0 g1
       refine hK.out _ _ ?_
       clear hK K
       (try simp only [Act.put,bw7,bw8,bw9])
       refine wpAnyI_ready (rs:=[12]) (by kernel_rfl) (by simp) ?_
       refine stepFI (i:=12) rfl (by kernel_rfl) (by kernel_rfl) (fun K hK=>?_) (AllReadyI.nil)
       obtain ⟨f0,f1,g0,g1,zz6⟩:=hb6.facts
       go_simp
       refine after_set2 hb6 (fun wn hS hb6=>?_)
       have hb5:=hb5.but hS (by omega)
       have hz':=hS.size
       have hR:AroundAt wn Bx A S C∧Below W.heap.size W wn:=⟨hR.1.but hS (by omega),hS.below hR.2 (by omega)⟩
       clear f0 f1 g0 g1
       refine hK.out _ _ ?_
       clear hK K
       (try simp only [Act.put,bw7,bw8,bw9])
       refine wpAnyI_done (by kernel_rfl) ?_ _
       refine hN.out _ _ ?_
       obtain ⟨f0,f1,_,_,_⟩:=hb5.facts
       obtain ⟨g0,g1,_,_,_⟩:=hb6.facts
       rcases HSX.out with ⟨h1,h2,h3⟩|⟨h1,h2,h3⟩
       ·have d1:(C.x - S.x == 0)=true:=by simp;omega
        have d2:(C.y - S.y == 0)=false:=by simp;omega
        have d3:(S.x - A.x == 0)=false:=by simp;omega
        clear h1 h2 h3
        gi_wp2
        exact FIN.out _ hR.2
       ·have d1:(C.x - S.x == 0)=false:=by simp;omega
        have d2:(C.y - S.y == 0)=true:=by simp;omega
        have d3:(S.x - A.x == 0)=true:=by simp;omega
        clear h1 h2 h3
        gi_wp2
        exact FIN.out _ hR.2
     ·go_simp
      refine after_alloc (fun wn hB' hb5 hz5=>?_)
      have hb5:Box2 _ _ 216 (.int .i64 0) (.int .i64 0):=hb5
      have hz':=hB'.size
      have hb6:=hb6.below hB'
      have hR:AroundAt wn Bx A S C∧Below W.heap.size W wn:=⟨hR.1.below hB',below_trans' hR.2 hB'⟩
      refine hK.out _ _ hR ?_
      clear hK K
      (try simp only [Act.put,bw7,bw8,bw9])
      refine wpAnyI_ready (rs:=[6]) (by kernel_rfl) (by simp) ?_
      refine stepRI (i:=6) rfl (by kernel_rfl) (fun K hK=>?_) (AllReadyI.nil)
      go_simp
      refine ⟨trivial,?_⟩
      refine (CallsIn.inRound l1 (callsIn_wide.2 (HT.out _))).mono ?_
      rintro e wn ⟨rfl,hB'⟩
      have hz':=hB'.size
      have hb5:=hb5.below hB'
      have hb6:=hb6.below hB'
      have hR:AroundAt wn Bx A S C∧Below W.heap.size W wn:=⟨hR.1.below hB',below_trans' hR.2 hB'⟩
      refine hK.out _ _ hR ?_
      clear hK K
      (try simp only [Act.put,bw7,bw8,bw9])
      refine wpAnyI_ready (rs:=[8]) (by kernel_rfl) (by simp) ?_
      refine stepRI (i:=8) rfl (by kernel_rfl) (fun K hK=>?_) (AllReadyI.nil)
      go_simp
      refine ⟨trivial,?_⟩
      refine (CallsIn.inRound l1 (callsIn_wide.2 (HW.out _))).mono ?_
      rintro e wn ⟨rfl,hB'⟩
      have hz':=hB'.size
      have hb5:=hb5.below hB'
      have hb6:=hb6.below hB'
      have hR:AroundAt wn Bx A S C∧Below W.heap.size W wn:=⟨hR.1.below hB',below_trans' hR.2 hB'⟩
      refine hK.out _ _ hR ?_
      clear hK K
      (try simp only [Act.put,bw7,bw8,bw9])
      refine wpAnyI_ready (rs:=[11]) (by kernel_rfl) (by simp) ?_
      refine stepFI (i:=11) rfl (by kernel_rfl) (by kernel_rfl) (fun K hK=>?_) (AllReadyI.nil)
      obtain ⟨f0,f1,g0,g1,zz5⟩:=hb5.facts
      go_simp
      refine after_set2 hb5 (fun wn hS hb5=>?_)
      have hb6:=hb6.but hS (by omega)
      have hz':=hS.size
      have hR:AroundAt wn Bx A S C∧Below W.heap.size W wn:=⟨hR.1.but hS (by omega),hS.below hR.2 (by omega)⟩
      clear f0 f1 g0 g1
      refine hK.out _ _ ?_
      clear hK K
      (try simp only [Act.put,bw7,bw8,bw9])
      refine wpAnyI_ready (rs:=[12]) (by kernel_rfl) (by simp) ?_
      refine stepFI (i:=12) rfl (by kernel_rfl) (by kernel_rfl) (fun K hK=>?_) (AllReadyI.nil)
      obtain ⟨f0,f1,g0,g1,zz6⟩:=hb6.facts
      go_simp
      refine after_set2 hb6 (fun wn hS hb6=>?_)
      have hb5:=hb5.but hS (by omega)
      have hz':=hS.size
      have hR:AroundAt wn Bx A S C∧Below W.heap.size W wn:=⟨hR.1.but hS (by omega),hS.below hR.2 (by omega)⟩
      clear f0 f1 g0 g1
      refine hK.out _ _ ?_
      clear hK K
      (try simp only [Act.put,bw7,bw8,bw9])
      refine wpAnyI_done (by kernel_rfl) ?_ _
      refine hN.out _ _ ?_
      obtain ⟨f0,f1,_,_,_⟩:=hb5.facts
      obtain ⟨g0,g1,_,_,_⟩:=hb6.facts
      rcases HSX.out with ⟨h1,h2,h3⟩|⟨h1,h2,h3⟩
      ·have d1:(C.x - S.x == 0)=true:=by simp;omega
       have d2:(C.y - S.y == 0)=false:=by simp;omega
       have d3:(S.x - A.x == 0)=false:=by simp;omega
       clear h1 h2 h3
       gi_wp2
       exact FIN.out _ hR.2
      ·have d1:(C.x - S.x == 0)=false:=by simp;omega
       have d2:(C.y - S.y == 0)=true:=by simp;omega
       have d3:(S.x - A.x == 0)=true:=by simp;omega
       clear h1 h2 h3
       gi_wp2
       exact FIN.out _ hR.2
    ·go_simp
     refine after_alloc (fun wn hB' hb5 hz5=>?_)
     have hb5:Box2 _ _ 216 (.int .i64 0) (.int .i64 0):=hb5
     have hz':=hB'.size
     have hb6:=hb6.below hB'
     have hR:AroundAt wn Bx A S C∧Below W.heap.size W wn:=⟨hR.1.below hB',below_trans' hR.2 hB'⟩
     refine hK.out _ _ hR ?_
     clear hK K
     (try simp only [Act.put,bw7,bw8,bw9])
     refine wpAnyI_ready (rs:=[5]) (by kernel_rfl) (by simp) ?_
     refine stepRI (i:=5) rfl (by kernel_rfl) (fun K hK=>?_) (AllReadyI.nil)
     go_simp
     refine ⟨trivial,?_⟩
     refine (CallsIn.inRound l1 (callsIn_wide.2 (HS.out _))).mono ?_
     rintro e wn ⟨rfl,hB'⟩
     have hz':=hB'.size
     have hb5:=hb5.below hB'
     have hb6:=hb6.below hB'
     have hR:AroundAt wn Bx A S C∧Below W.heap.size W wn:=⟨hR.1.below hB',below_trans' hR.2 hB'⟩
     refine hK.out _ _ hR ?_
     clear hK K
     (try simp only [Act.put,bw7,bw8,bw9])
     refine wpAnyI_ready (rs:=[6]) (by kernel_rfl) (by simp) ?_
     refine stepRI (i:=6) rfl (by kernel_rfl) (fun K hK=>?_) (AllReadyI.nil)
     go_simp
     refine ⟨trivial,?_⟩
     refine (CallsIn.inRound l1 (callsIn_wide.2 (HT.out _))).mono ?_
     rintro e wn ⟨rfl,hB'⟩
     have hz':=hB'.size
     have hb5:=hb5.below hB'
     have hb6:=hb6.below hB'
     have hR:AroundAt wn Bx A S C∧Below W.heap.size W wn:=⟨hR.1.below hB',below_trans' hR.2 hB'⟩
     refine hK.out _ _ hR ?_
     clear hK K
     (try simp only [Act.put,bw7,bw8,bw9])
     refine wpAnyI_ready (rs:=[8]) (by kernel_rfl) (by simp) ?_
     refine stepRI (i:=8) rfl (by kernel_rfl) (fun K hK=>?_) (AllReadyI.nil)
     go_simp
     refine ⟨trivial,?_⟩
     refine (CallsIn.inRound l1 (callsIn_wide.2 (HW.out _))).mono ?_
     rintro e wn ⟨rfl,hB'⟩
     have hz':=hB'.size
     have hb5:=hb5.below hB'
     have hb6:=hb6.below hB'
     have hR:AroundAt wn Bx A S C∧Below W.heap.size W wn:=⟨hR.1.below hB',below_trans' hR.2 hB'⟩
     refine hK.out _ _ hR ?_
     clear hK K
     (try simp only [Act.put,bw7,bw8,bw9])
     refine wpAnyI_ready (rs:=[11]) (by kernel_rfl) (by simp) ?_
     refine stepFI (i:=11) rfl (by kernel_rfl) (by kernel_rfl) (fun K hK=>?_) (AllReadyI.nil)
     obtain ⟨f0,f1,g0,g1,zz5⟩:=hb5.facts
     go_simp
     refine after_set2 hb5 (fun wn hS hb5=>?_)
     have hb6:=hb6.but hS (by omega)
     have hz':=hS.size
     have hR:AroundAt wn Bx A S C∧Below W.heap.size W wn:=⟨hR.1.but hS (by omega),hS.below hR.2 (by omega)⟩
     clear f0 f1 g0 g1
     refine hK.out _ _ ?_
     clear hK K
     (try simp only [Act.put,bw7,bw8,bw9])
     refine wpAnyI_ready (rs:=[12]) (by kernel_rfl) (by simp) ?_
     refine stepFI (i:=12) rfl (by kernel_rfl) (by kernel_rfl) (fun K hK=>?_) (AllReadyI.nil)
     obtain ⟨f0,f1,g0,g1,zz6⟩:=hb6.facts
     go_simp
     refine after_set2 hb6 (fun wn hS hb6=>?_)
     have hb5:=hb5.but hS (by omega)
     have hz':=hS.size
     have hR:AroundAt wn Bx A S C∧Below W.heap.size W wn:=⟨hR.1.but hS (by omega),hS.below hR.2 (by omega)⟩
     clear f0 f1 g0 g1
     refine hK.out _ _ ?_
     clear hK K
     (try simp only [Act.put,bw7,bw8,bw9])
     refine wpAnyI_done (by kernel_rfl) ?_ _
     refine hN.out _ _ ?_
     obtain ⟨f0,f1,_,_,_⟩:=hb5.facts
     obtain ⟨g0,g1,_,_,_⟩:=hb6.facts
     rcases HSX.out with ⟨h1,h2,h3⟩|⟨h1,h2,h3⟩
     ·have d1:(C.x - S.x == 0)=true:=by simp;omega
      have d2:(C.y - S.y == 0)=false:=by simp;omega
      have d3:(S.x - A.x == 0)=false:=by simp;omega
      clear h1 h2 h3
      gi_wp2
      exact FIN.out _ hR.2
     ·have d1:(C.x - S.x == 0)=false:=by simp;omega
      have d2:(C.y - S.y == 0)=true:=by simp;omega
      have d3:(S.x - A.x == 0)=true:=by simp;omega
      clear h1 h2 h3
      gi_wp2
      exact FIN.out _ hR.2
   ·go_simp
    refine after_alloc (fun wn hB' hb5 hz5=>?_)
    have hb5:Box2 _ _ 216 (.int .i64 0) (.int .i64 0):=hb5
    have hz':=hB'.size
    have hb6:=hb6.below hB'
    have hR:AroundAt wn Bx A S C∧Below W.heap.size W wn:=⟨hR.1.below hB',below_trans' hR.2 hB'⟩
    refine hK.out _ _ hR ?_
    clear hK K
    (try simp only [Act.put,bw7,bw8,bw9])
    refine wpAnyI_ready (rs:=[2]) (by kernel_rfl) (by simp) ?_
    refine stepRI (i:=2) rfl (by kernel_rfl) (fun K hK=>?_) (AllReadyI.nil)
    go_simp
    refine ⟨trivial,?_⟩
    refine (CallsIn.inRound l1 (callsIn_wide.2 (HA.out _))).mono ?_
    rintro e wn ⟨rfl,hB'⟩
    have hz':=hB'.size
    have hb5:=hb5.below hB'
    have hb6:=hb6.below hB'
    have hR:AroundAt wn Bx A S C∧Below W.heap.size W wn:=⟨hR.1.below hB',below_trans' hR.2 hB'⟩
    refine hK.out _ _ hR ?_
    clear hK K
    (try simp only [Act.put,bw7,bw8,bw9])
    refine wpAnyI_ready (rs:=[5]) (by kernel_rfl) (by simp) ?_
    refine stepRI (i:=5) rfl (by kernel_rfl) (fun K hK=>?_) (AllReadyI.nil)
    go_simp
    refine ⟨trivial,?_⟩
    refine (CallsIn.inRound l1 (callsIn_wide.2 (HS.out _))).mono ?_
    rintro e wn ⟨rfl,hB'⟩
    have hz':=hB'.size
    have hb5:=hb5.below hB'
    have hb6:=hb6.below hB'
    have hR:AroundAt wn Bx A S C∧Below W.heap.size W wn:=⟨hR.1.below hB',below_trans' hR.2 hB'⟩
    refine hK.out _ _ hR ?_
    clear hK K
    (try simp only [Act.put,bw7,bw8,bw9])
    refine wpAnyI_ready (rs:=[6]) (by kernel_rfl) (by simp) ?_
    refine stepRI (i:=6) rfl (by kernel_rfl) (fun K hK=>?_) (AllReadyI.nil)
    go_simp
    refine ⟨trivial,?_⟩
    refine (CallsIn.inRound l1 (callsIn_wide.2 (HT.out _))).mono ?_
    rintro e wn ⟨rfl,hB'⟩
    have hz':=hB'.size
    have hb5:=hb5.below hB'
    have hb6:=hb6.below hB'
    have hR:AroundAt wn Bx A S C∧Below W.heap.size W wn:=⟨hR.1.below hB',below_trans' hR.2 hB'⟩
    refine hK.out _ _ hR ?_
    clear hK K
    (try simp only [Act.put,bw7,bw8,bw9])
    refine wpAnyI_ready (rs:=[8]) (by kernel_rfl) (by simp) ?_
    refine stepRI (i:=8) rfl (by kernel_rfl) (fun K hK=>?_) (AllReadyI.nil)
    go_simp
    refine ⟨trivial,?_⟩
    refine (CallsIn.inRound l1 (callsIn_wide.2 (HW.out _))).mono ?_
    rintro e wn ⟨rfl,hB'⟩
    have hz':=hB'.size
    have hb5:=hb5.below hB'
    have hb6:=hb6.below hB'
    have hR:AroundAt wn Bx A S C∧Below W.heap.size W wn:=⟨hR.1.below hB',below_trans' hR.2 hB'⟩
    refine hK.out _ _ hR ?_
    clear hK K
    (try simp only [Act.put,bw7,bw8,bw9])
    refine wpAnyI_ready (rs:=[11]) (by kernel_rfl) (by simp) ?_
    refine stepFI (i:=11) rfl (by kernel_rfl) (by kernel_rfl) (fun K hK=>?_) (AllReadyI.nil)
    obtain ⟨f0,f1,g0,g1,zz5⟩:=hb5.facts
    go_simp
    refine after_set2 hb5 (fun wn hS hb5=>?_)
    have hb6:=hb6.but hS (by omega)
    have hz':=hS.size
    have hR:AroundAt wn Bx A S C∧Below W.heap.size W wn:=⟨hR.1.but hS (by omega),hS.below hR.2 (by omega)⟩
    clear f0 f1 g0 g1
    refine hK.out _ _ ?_
    clear hK K
    (try simp only [Act.put,bw7,bw8,bw9])
    refine wpAnyI_ready (rs:=[12]) (by kernel_rfl) (by simp) ?_
    refine stepFI (i:=12) rfl (by kernel_rfl) (by kernel_rfl) (fun K hK=>?_) (AllReadyI.nil)
    obtain ⟨f0,f1,g0,g1,zz6⟩:=hb6.facts
    go_simp
    refine after_set2 hb6 (fun wn hS hb6=>?_)
    have hb5:=hb5.but hS (by omega)
    have hz':=hS.size
    have hR:AroundAt wn Bx A S C∧Below W.heap.size W wn:=⟨hR.1.but hS (by omega),hS.below hR.2 (by omega)⟩
    clear f0 f1 g0 g1
    refine hK.out _ _ ?_
    clear hK K
    (try simp only [Act.put,bw7,bw8,bw9])
    refine wpAnyI_done (by kernel_rfl) ?_ _
    refine hN.out _ _ ?_
    obtain ⟨f0,f1,_,_,_⟩:=hb5.facts
    obtain ⟨g0,g1,_,_,_⟩:=hb6.facts
    rcases HSX.out with ⟨h1,h2,h3⟩|⟨h1,h2,h3⟩
    ·have d1:(C.x - S.x == 0)=true:=by simp;omega
     have d2:(C.y - S.y == 0)=false:=by simp;omega
     have d3:(S.x - A.x == 0)=false:=by simp;omega
     clear h1 h2 h3
     gi_wp2
     exact FIN.out _ hR.2
    ·have d1:(C.x - S.x == 0)=false:=by simp;omega
     have d2:(C.y - S.y == 0)=true:=by simp;omega
     have d3:(S.x - A.x == 0)=true:=by simp;omega
     clear h1 h2 h3
     gi_wp2
     exact FIN.out _ hR.2
 case done =>
  rintro D ys W hD rfl ⟨⟨bS,bR⟩,hB,hz⟩ hK
  have hc:=bS.cell
  have hf:=bS.frozen
  gi_wp2
  refine ⟨by simp,.inl ⟨_,_,rfl,run_takeDeferred (((KeepsOthers.setCell _ _ _).same D _ hK rfl)),?_⟩⟩
  have hK2:=(KeepsOthers.setCell W ⟨w.heap.size,0,none⟩ (.bool true)).same D _ hK rfl
  have hne:some w.heap.size≠some D:=fun e=>by cases e;omega
  have hc2:=((bS.set (.bool true)).kept (grownBy_putObj' _ D (.deferred none)) hne).cell
  exact ⟨.bool true,by simp [results,Tryz.results159,go_sem,hc2],rfl,(hB.setCell (Nat.le_refl _) _).trans (belowK_b (w:=w) (Nat.le_refl _) _ D _ _ (by omega) hK2 rfl rfl)⟩
 case stop =>
  rintro D c pre W _ _ h _
  exact h.elim
end Go.Proofs.YteepphiomcedfaaGreatDoor
