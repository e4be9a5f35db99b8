/- Joined texts: WPlan2, Drawn4, WSidesIt, WBody. -/
import Derived.Test.YteepphiomcedfaaGreatDoorJ07
import Derived.OrdersIn
import Derived.OwnWalkIn
import Derived.RangeFuncNested
import Derived.RangeFuncBound
import Derived.RangeFuncCalls
import Derived.RangeFuncLeaves
import Derived.Shelf.Abstract
import Derived.Shelf.RegionOpen
import Derived.TacticsInMore
import Derived.LoopNIn
import Derived.LoopIn
import Derived.Sort.LoopGhostIn
import Derived.Deep.WholeRow
set_option maxRecDepth 100000
set_option linter.unusedVariables false
set_option linter.unusedSimpArgs false
set_option maxHeartbeats 6400000
namespace Go.Proofs.YteepphiomcedfaaGreatDoor
open Go.RowKit
def leftB (A B C:Side):Bool:=decide ((B.y - A.y) * (C.x - B.x) < (B.x - A.x) * (C.y - B.y))
theorem near_mul {a b c d:Int} (ha:Ran a 0 65536) (hb:Ran b 0 65536) (hc:Ran c 0 65536) (hd:Ran d 0 65536) : -1000000000000≤(a - b) * (c - d)∧(a - b) * (c - d)≤1000000000000:=by
 obtain ⟨a1,a2⟩:=ha
 obtain ⟨b1,b2⟩:=hb
 obtain ⟨c1,c2⟩:=hc
 obtain ⟨d1,d2⟩:=hd
 have h:((a - b) * (c - d)).natAbs≤65536 * 65536:=by
  rw [Int.natAbs_mul];exact Nat.mul_le_mul (by omega) (by omega)
 omega
theorem left_any (A B C:Side) (w:World) (hA:RSide A) (hB:RSide B) (hC:RSide C):Calls Tryz.prog 216 #[aroundV A B C] w (RetB (.bool (leftB A B C)) w):=by
 have HT:=Lib.hid (fun W=>to_any A.x A.y B.x B.y W hA.near.1 hA.near.2.1 hB.near.1 hB.near.2.1)
 have HX:=Lib.hid (fun W=>cross_any (B.x - A.x) (B.y - A.y) (C.x - B.x) (C.y - B.y) W (near_mul hB.1 hA.1 hC.2.1 hB.2.1) (near_mul hB.2.1 hA.2.1 hC.1 hB.1))
 have HW:=Lib.hid (fun W=>way_any A B C W hB hC)
 have HA:=Lib.hid (corner_any A)
 have HB:=Lib.hid (corner_any B)
 clear hB hC hA
 unfold aroundV at *
 unfold spotV sideV leftB at *
 go_enter Tryz.func216,Tryz.ntmps216
 go_upto_region 0 with fail
 go_cut [1] (fun s1 wx=>s1=.pointer (some ⟨w.heap.size,0,none⟩)∧AroundAt wx w.heap.size A B C∧Below w.heap.size w wx)
 case first =>
  go_wp2_with fail
  go_meet
  exact ⟨rfl,by simp [AroundAt,go_sem],qbl⟩
 case rest =>
  obtain ⟨rfl,hA,hBw⟩:=hcut
  have hR:AroundAt wc.drew w.heap.size A B C∧Below w.heap.size w wc.drew:=⟨hA.below (bw0 _ _).drew,qbl⟩
  go_wp2_with fail
  refine region_S (F:=[]) (R:=(fun w'=>AroundAt w' w.heap.size A B C∧Below w.heap.size w w')) 12 #[false,false,false,false,false,false,false,false,false,false,false,false] (by kernel_rfl) (by kernel_rfl) (by kernel_rfl) (fun _ _ _ _ _ h=>h) (fun Q' hQ' hN=>?_)
  generalize wc.drew=wd at *
  clear hA hBw
  refine tkS 3 (i:=0) (v:=?_) (fw:=3) hQ' hR rfl ?_ ?_;rotate_left;(focus (intro wq hRq;obtain ⟨⟨e0,e1,e2,e3,e4,e5,e6,e7,e8,e9,e10,e11,e12,e13,e14,e15,e16,e17,e18,e19,e20⟩,_⟩:=hRq;go_simp;(try with_reducible rfl)));(try simp only [Act.put,bw7,bw8,bw9])
  refine tkS 4 (i:=1) (v:=?_) (fw:=3) hQ' hR rfl ?_ ?_;rotate_left;(focus (intro wq hRq;obtain ⟨⟨e0,e1,e2,e3,e4,e5,e6,e7,e8,e9,e10,e11,e12,e13,e14,e15,e16,e17,e18,e19,e20⟩,_⟩:=hRq;go_simp;(try with_reducible rfl)));(try simp only [Act.put,bw7,bw8,bw9])
  refine tkS 6 (i:=3) (v:=?_) (fw:=3) hQ' hR rfl ?_ ?_;rotate_left;(focus (intro wq hRq;obtain ⟨⟨e0,e1,e2,e3,e4,e5,e6,e7,e8,e9,e10,e11,e12,e13,e14,e15,e16,e17,e18,e19,e20⟩,_⟩:=hRq;go_simp;(try with_reducible rfl)));(try simp only [Act.put,bw7,bw8,bw9])
  refine tkS 7 (i:=4) (v:=?_) (fw:=3) hQ' hR rfl ?_ ?_;rotate_left;(focus (intro wq hRq;obtain ⟨⟨e0,e1,e2,e3,e4,e5,e6,e7,e8,e9,e10,e11,e12,e13,e14,e15,e16,e17,e18,e19,e20⟩,_⟩:=hRq;go_simp;(try with_reducible rfl)));(try simp only [Act.put,bw7,bw8,bw9])
  refine tkS 10 (i:=7) (v:=aroundV A B C) (fw:=3) hQ' hR rfl (fun wq hRq=>run_load21 rfl rfl hRq.1) ?_;(try simp only [Act.put,bw7,bw8,bw9])
  refine wpAnyS_ready (rs:=[2]) (by kernel_rfl) (by simp) ?_
  refine stepR (i:=2) rfl (by kernel_rfl) (fun K hK=>?_) (AllReadyS.nil)
  go_simp
  refine (HA.out _).mono ?_
  rintro e wn ⟨rfl,hB'⟩
  have hR:AroundAt wn w.heap.size A B C∧Below w.heap.size w wn:=⟨hR.1.below hB',below_trans' hR.2 hB'⟩
  refine hK.out _ _ hR ?_
  clear hK K
  (try simp only [Act.put,bw7,bw8,bw9])
  refine wpAnyS_ready (rs:=[5]) (by kernel_rfl) (by simp) ?_
  refine stepR (i:=5) rfl (by kernel_rfl) (fun K hK=>?_) (AllReadyS.nil)
  go_simp
  refine (HB.out _).mono ?_
  rintro e wn ⟨rfl,hB'⟩
  have hR:AroundAt wn w.heap.size A B C∧Below w.heap.size w wn:=⟨hR.1.below hB',below_trans' hR.2 hB'⟩
  refine hK.out _ _ hR ?_
  clear hK K
  (try simp only [Act.put,bw7,bw8,bw9])
  refine wpAnyS_ready (rs:=[6]) (by kernel_rfl) (by simp) ?_
  refine stepR (i:=6) rfl (by kernel_rfl) (fun K hK=>?_) (AllReadyS.nil)
  go_simp
  refine (HT.out _).mono ?_
  rintro e wn ⟨rfl,hB'⟩
  have hR:AroundAt wn w.heap.size A B C∧Below w.heap.size w wn:=⟨hR.1.below hB',below_trans' hR.2 hB'⟩
  refine hK.out _ _ hR ?_
  clear hK K
  (try simp only [Act.put,bw7,bw8,bw9])
  refine wpAnyS_ready (rs:=[8]) (by kernel_rfl) (by simp) ?_
  refine stepR (i:=8) rfl (by kernel_rfl) (fun K hK=>?_) (AllReadyS.nil)
  go_simp
  refine (HW.out _).mono ?_
  rintro e wn ⟨rfl,hB'⟩
  have hR:AroundAt wn w.heap.size A B C∧Below w.heap.size w wn:=⟨hR.1.below hB',below_trans' hR.2 hB'⟩
  refine hK.out _ _ hR ?_
  clear hK K
  (try simp only [Act.put,bw7,bw8,bw9])
  refine wpAnyS_ready (rs:=[9]) (by kernel_rfl) (by simp) ?_
  refine stepR (i:=9) rfl (by kernel_rfl) (fun K hK=>?_) (AllReadyS.nil)
  go_simp
  refine (HX.out _).mono ?_
  rintro e wn ⟨rfl,hB'⟩
  have hR:AroundAt wn w.heap.size A B C∧Below w.heap.size w wn:=⟨hR.1.below hB',below_trans' hR.2 hB'⟩
  refine hK.out _ _ hR ?_
  clear hK K
  (try simp only [Act.put,bw7,bw8,bw9])
  refine tkS 13 (i:=10) (v:=?_) (fw:=3) hQ' hR rfl ?_ ?_;rotate_left;(focus (intro wq hRq;obtain ⟨⟨e0,e1,e2,e3,e4,e5,e6,e7,e8,e9,e10,e11,e12,e13,e14,e15,e16,e17,e18,e19,e20⟩,_⟩:=hRq;go_simp;(try with_reducible rfl)));(try simp only [Act.put,bw7,bw8,bw9])
  refine tkS 2 (i:=11) (v:=?_) (fw:=3) hQ' hR rfl ?_ ?_;rotate_left;(focus (intro wq hRq;obtain ⟨⟨e0,e1,e2,e3,e4,e5,e6,e7,e8,e9,e10,e11,e12,e13,e14,e15,e16,e17,e18,e19,e20⟩,_⟩:=hRq;go_simp;(try with_reducible rfl)));(try simp only [Act.put,bw7,bw8,bw9])
  refine wpAnyS_done (by kernel_rfl) ?_ _
  refine hN.out _ _ ?_
  have hBw:=hR.2
  go_wp2_with fail
  go_ret
  exact ⟨rfl,hBw⟩
def Box4 (w:World) (b:Nat) (t:TypeId) (x y z u:Value):Prop:=w.heap[b]?=some (.cells #[x,y,z,u] t (0,0))
theorem Box4.below {w w':World} {b:Nat} {t:TypeId} {x y z u:Value} (h:Box4 w b t x y z u) (hB:Below w.heap.size w w'):Box4 w' b t x y z u:=(hB.block b (Array.getElem?_eq_some_iff.1 h).1).trans h
theorem Box4.facts {w:World} {b:Nat} {t:TypeId} {x y z u:Value} (h:Box4 w b t x y z u):(w.cell? ⟨b,0,none⟩=some x∧w.cell? ⟨b,1,none⟩=some y∧w.cell? ⟨b,2,none⟩=some z∧w.cell? ⟨b,3,none⟩=some u)∧(w.frozen? ⟨b,0,none⟩=false∧w.frozen? ⟨b,1,none⟩=false∧w.frozen? ⟨b,2,none⟩=false∧w.frozen? ⟨b,3,none⟩=false)∧b < w.heap.size:=by
 unfold Box4 at h
 refine ⟨⟨by simp [World.cell?,h],by simp [World.cell?,h],by simp [World.cell?,h],by simp [World.cell?,h]⟩,⟨by simp [World.frozen?,h],by simp [World.frozen?,h],by simp [World.frozen?,h],by simp [World.frozen?,h]⟩,(Array.getElem?_eq_some_iff.1 h).1⟩
theorem box4_new {X:World} {n:Nat} {t:TypeId} {x y z u:Value} (h:X.heap.size=n):Box4 (X.alloc (.cells #[x,y,z,u] t)) n t x y z u:=by subst h;exact Array.getElem?_push_size
structure SameBut (b:Nat) (w w':World):Prop where
 os:w'.os=w.os
 tape:w'.tape=w.tape
 output:w'.output=w.output
 size:w'.heap.size=w.heap.size
 block:∀ k,k≠b→w'.heap[k]?=w.heap[k]?
theorem SameBut.below {b B:Nat} {w0 w w':World} (h:SameBut b w w') (hB:Below B w0 w) (hb:B≤b):Below B w0 w':=hB.trans ⟨h.os,h.tape,h.output,Nat.le_of_eq h.size.symm,fun k hk=>h.block k (by omega)⟩
theorem SameBut.trans {b:Nat} {w w' w'':World} (h:SameBut b w w') (k:SameBut b w' w''):SameBut b w w'':=⟨k.os.trans h.os,k.tape.trans h.tape,k.output.trans h.output,k.size.trans h.size,fun j hj=>(k.block j hj).trans (h.block j hj)⟩
theorem sameBut_setCell (w:World) (b o:Nat) (v:Value):SameBut b w (w.setCell ⟨b,o,none⟩ v):=⟨rfl,rfl,rfl,World.size_setCell _ _ _,fun k hk=>Below.heap_setCell w ⟨b,o,none⟩ v k hk⟩
theorem heap_setCell_at {w:World} {b o:Nat} {cs:Array Value} {t:TypeId} {v:Value} (h:w.heap[b]?=some (.cells cs t (0,0))):(w.setCell ⟨b,o,none⟩ v).heap[b]?=some (.cells (cs.setIfInBounds o v) t (0,0)):=by
 show (w.heap.modify b _)[b]?=_
 rw [Array.getElem?_modify,if_pos rfl,h]
 rfl
theorem after_set2 {K:Act→World→Prop} {a:Act} {w:World} {b:Nat} {t:TypeId} {x y x' y':Value} (hx:Box2 w b t x y) (h:∀ W,SameBut b w W→Box2 W b t x' y'→K a W):K a ((w.setCell ⟨b,0,none⟩ x').setCell ⟨b,1,none⟩ y'):=by
 refine h _ ((sameBut_setCell _ _ _ _).trans (sameBut_setCell _ _ _ _)) ?_
 have:=heap_setCell_at (o:=1) (v:=y') (heap_setCell_at (o:=0) (v:=x') hx)
 simpa [Box2] using this
theorem Box2.but {w w':World} {b c:Nat} {t:TypeId} {x y:Value} (h:Box2 w b t x y) (hs:SameBut c w w') (hne:b≠c):Box2 w' b t x y:=(hs.block b hne).trans h
theorem Box4.but {w w':World} {b c:Nat} {t:TypeId} {x y z u:Value} (h:Box4 w b t x y z u) (hs:SameBut c w w') (hne:b≠c):Box4 w' b t x y z u:=(hs.block b hne).trans h
theorem after_alloc {K:Act→World→Prop} {a:Act} {X:World} {o:Obj} (h:∀ W,Below X.heap.size X W→W.heap[X.heap.size]?=some o→X.heap.size < W.heap.size→K a W):K a (X.alloc o) :=
 h _ (bw4 (bw0 _ _) _) Array.getElem?_push_size (by simp)
theorem AroundAt.but {w w':World} {b c:Nat} {A B C:Side} (h:AroundAt w b A B C) (hs:SameBut c w w') (hne:b≠c):AroundAt w' b A B C:=by
 have hc:∀ o,w'.cell? ⟨b,o,none⟩=w.cell? ⟨b,o,none⟩:=fun o=>World.cell?_of_block (hs.block b hne)
 unfold AroundAt at *
 simpa only [hc] using h
def boxV (B C:Side):Value:=.agg #[.int .i64 (min B.x C.x),.int .i64 (min B.y C.y),.int .i64 (max B.x C.x),.int .i64 (max B.y C.y)]
theorem boxOf_any (A B C:Side) (w:World):Calls Tryz.prog 212 #[aroundV A B C] w (RetB (boxV B C) w):=by
 have HB:=Lib.hid (corner_any B)
 have HC:=Lib.hid (corner_any C)
 unfold aroundV spotV sideV boxV at *
 go_enter Tryz.func212,Tryz.ntmps212
 go_upto_region 0 with fail
 go_cut [1,2] (fun s1 s2 wx=>s1=.pointer (some ⟨w.heap.size,0,none⟩)∧s2=.pointer (some ⟨w.heap.size+1,0,none⟩)∧AroundAt wx w.heap.size A B C∧Box4 wx (w.heap.size+1) 223 (.int .i64 0) (.int .i64 0) (.int .i64 0) (.int .i64 0)∧Below w.heap.size w wx)
 case first =>
  go_wp2_with fail
  go_meet
  exact ⟨rfl,rfl,by simp [AroundAt,go_sem],box4_new (by simp),qbl⟩
 case rest =>
  obtain ⟨rfl,rfl,hA,hx,hBw⟩:=hcut
  have z0:=hx.facts.2.2
  have hR:AroundAt wc.drew w.heap.size A B C∧Box4 wc.drew (w.heap.size+1) 223 (.int .i64 0) (.int .i64 0) (.int .i64 0) (.int .i64 0)∧Below w.heap.size w wc.drew:=⟨hA.below (bw0 _ _).drew,hx.below (bw0 _ _).drew,qbl⟩
  have z0:w.heap.size+1 < wc.drew.heap.size:=z0
  go_upto_region 1 with fail
  go_cut [3,4] (fun s3 s4 wx=>∃ b3 b4:Nat,s3=.pointer (some ⟨b3,0,none⟩)∧s4=.pointer (some ⟨b4,0,none⟩)∧Box2 wx b3 216 (.int .i64 B.x) (.int .i64 B.y)∧Box2 wx b4 216 (.int .i64 C.x) (.int .i64 C.y)∧Box4 wx (w.heap.size+1) 223 (.int .i64 0) (.int .i64 0) (.int .i64 0) (.int .i64 0)∧Below w.heap.size w wx∧w.heap.size+1 < b3∧w.heap.size+1 < b4)
  case first =>
   refine region_S (F:=[8,9]) (R:=(fun w'=>AroundAt w' w.heap.size A B C∧Box4 w' (w.heap.size+1) 223 (.int .i64 0) (.int .i64 0) (.int .i64 0) (.int .i64 0)∧Below w.heap.size w w')) 10 #[false,false,false,false,false,false,false,false,false,false] (by kernel_rfl) (by kernel_rfl) (by kernel_rfl) (fun _ _ _ _ _ h=>h) (fun Q' hQ' hN=>?_)
   generalize wc.drew=wd at *
   clear hA hx hBw
   refine tkS 5 (i:=0) (v:=?_) (fw:=3) hQ' hR rfl ?_ ?_;rotate_left;(focus (intro wq hRq;obtain ⟨⟨e0,e1,e2,e3,e4,e5,e6,e7,e8,e9,e10,e11,e12,e13,e14,e15,e16,e17,e18,e19,e20⟩,_⟩:=hRq;go_simp;(try with_reducible rfl)));(try simp only [Act.put,bw7,bw8,bw9])
   refine tkS 6 (i:=1) (v:=?_) (fw:=3) hQ' hR rfl ?_ ?_;rotate_left;(focus (intro wq hRq;obtain ⟨⟨e0,e1,e2,e3,e4,e5,e6,e7,e8,e9,e10,e11,e12,e13,e14,e15,e16,e17,e18,e19,e20⟩,_⟩:=hRq;go_simp;(try with_reducible rfl)));(try simp only [Act.put,bw7,bw8,bw9])
   refine tkS 8 (i:=3) (v:=?_) (fw:=3) hQ' hR rfl ?_ ?_;rotate_left;(focus (intro wq hRq;obtain ⟨⟨e0,e1,e2,e3,e4,e5,e6,e7,e8,e9,e10,e11,e12,e13,e14,e15,e16,e17,e18,e19,e20⟩,_⟩:=hRq;go_simp;(try with_reducible rfl)));(try simp only [Act.put,bw7,bw8,bw9])
   refine tkS 9 (i:=4) (v:=?_) (fw:=3) hQ' hR rfl ?_ ?_;rotate_left;(focus (intro wq hRq;obtain ⟨⟨e0,e1,e2,e3,e4,e5,e6,e7,e8,e9,e10,e11,e12,e13,e14,e15,e16,e17,e18,e19,e20⟩,_⟩:=hRq;go_simp;(try with_reducible rfl)));(try simp only [Act.put,bw7,bw8,bw9])
   refine wpAnyS_ready (rs:=[2,6,7]) (by kernel_rfl) (by simp) ?_
   refine stepR (i:=2) rfl (by kernel_rfl) (fun K hK=>?_) (stepR (i:=6) rfl (by kernel_rfl) (fun K hK=>?_) (stepR (i:=7) rfl (by kernel_rfl) (fun K hK=>?_) (AllReadyS.nil)))
   ·go_simp
    refine (HB.out _).mono ?_
    rintro e wn ⟨rfl,hB'⟩
    have hz':=hB'.size
    have hR:AroundAt wn w.heap.size A B C∧Box4 wn (w.heap.size+1) 223 (.int .i64 0) (.int .i64 0) (.int .i64 0) (.int .i64 0)∧Below w.heap.size w wn:=⟨hR.1.below hB',hR.2.1.below hB',below_trans' hR.2.2 hB'⟩
    refine hK.out _ _ hR ?_
    clear hK K
    (try simp only [Act.put,bw7,bw8,bw9])
    refine wpAnyS_ready (rs:=[5,6,7]) (by kernel_rfl) (by simp) ?_
    refine stepR (i:=5) rfl (by kernel_rfl) (fun K hK=>?_) (stepR (i:=6) rfl (by kernel_rfl) (fun K hK=>?_) (stepR (i:=7) rfl (by kernel_rfl) (fun K hK=>?_) (AllReadyS.nil)))
    ·go_simp
     refine (HC.out _).mono ?_
     rintro e wn ⟨rfl,hB'⟩
     have hz':=hB'.size
     have hR:AroundAt wn w.heap.size A B C∧Box4 wn (w.heap.size+1) 223 (.int .i64 0) (.int .i64 0) (.int .i64 0) (.int .i64 0)∧Below w.heap.size w wn:=⟨hR.1.below hB',hR.2.1.below hB',below_trans' hR.2.2 hB'⟩
     refine hK.out _ _ hR ?_
     clear hK K
     (try simp only [Act.put,bw7,bw8,bw9])
     refine wpAnyS_ready (rs:=[6,7]) (by kernel_rfl) (by simp) ?_
     refine stepR (i:=6) rfl (by kernel_rfl) (fun K hK=>?_) (stepR (i:=7) rfl (by kernel_rfl) (fun K hK=>?_) (AllReadyS.nil))
     ·go_simp
      refine after_alloc (fun wn hB' hb3 hz3=>?_)
      have hb3:Box2 _ _ 216 (.int .i64 0) (.int .i64 0):=hb3
      have hz':=hB'.size
      have hR:AroundAt wn w.heap.size A B C∧Box4 wn (w.heap.size+1) 223 (.int .i64 0) (.int .i64 0) (.int .i64 0) (.int .i64 0)∧Below w.heap.size w wn:=⟨hR.1.below hB',hR.2.1.below hB',below_trans' hR.2.2 hB'⟩
      refine hK.out _ _ hR ?_
      clear hK K
      (try simp only [Act.put,bw7,bw8,bw9])
      refine wpAnyS_ready (rs:=[7]) (by kernel_rfl) (by simp) ?_
      refine stepR (i:=7) rfl (by kernel_rfl) (fun K hK=>?_) (AllReadyS.nil)
      go_simp
      refine after_alloc (fun wn hB' hb4 hz4=>?_)
      have hb4:Box2 _ _ 216 (.int .i64 0) (.int .i64 0):=hb4
      have hz':=hB'.size
      have hb3:=hb3.below hB'
      have hR:AroundAt wn w.heap.size A B C∧Box4 wn (w.heap.size+1) 223 (.int .i64 0) (.int .i64 0) (.int .i64 0) (.int .i64 0)∧Below w.heap.size w wn:=⟨hR.1.below hB',hR.2.1.below hB',below_trans' hR.2.2 hB'⟩
      refine hK.out _ _ hR ?_
      clear hK K
      (try simp only [Act.put,bw7,bw8,bw9])
      refine wpAnyS_ready (rs:=[8]) (by kernel_rfl) (by simp) ?_
      refine stepF (i:=8) rfl (by kernel_rfl) (by kernel_rfl) (fun K hK=>?_) (AllReadyS.nil)
      obtain ⟨f0,f1,g0,g1,zz3⟩:=hb3.facts
      go_simp
      refine after_set2 hb3 (fun wn hS hb3=>?_)
      have hb4:=hb4.but hS (by omega)
      have hR:AroundAt wn w.heap.size A B C∧Box4 wn (w.heap.size+1) 223 (.int .i64 0) (.int .i64 0) (.int .i64 0) (.int .i64 0)∧Below w.heap.size w wn:=⟨hR.1.but hS (by omega),hR.2.1.but hS (by omega),hS.below hR.2.2 (by omega)⟩
      have hz':=hS.size
      clear f0 f1 g0 g1
      refine hK.out _ _ ?_
      clear hK K
      (try simp only [Act.put,bw7,bw8,bw9])
      refine wpAnyS_ready (rs:=[9]) (by kernel_rfl) (by simp) ?_
      refine stepF (i:=9) rfl (by kernel_rfl) (by kernel_rfl) (fun K hK=>?_) (AllReadyS.nil)
      obtain ⟨f0,f1,g0,g1,zz4⟩:=hb4.facts
      go_simp
      refine after_set2 hb4 (fun wn hS hb4=>?_)
      have hb3:=hb3.but hS (by omega)
      have hR:AroundAt wn w.heap.size A B C∧Box4 wn (w.heap.size+1) 223 (.int .i64 0) (.int .i64 0) (.int .i64 0) (.int .i64 0)∧Below w.heap.size w wn:=⟨hR.1.but hS (by omega),hR.2.1.but hS (by omega),hS.below hR.2.2 (by omega)⟩
      have hz':=hS.size
      clear f0 f1 g0 g1
      refine hK.out _ _ ?_
      clear hK K
      (try simp only [Act.put,bw7,bw8,bw9])
      refine wpAnyS_done (by kernel_rfl) ?_ _
      refine hN.out _ _ ?_
      go_wp2_with fail
      go_meet
      exact ⟨_,_,rfl,rfl,hb3,hb4,hR.2.1,hR.2.2,by omega,by omega⟩
     ·go_simp
      refine after_alloc (fun wn hB' hb4 hz4=>?_)
      have hb4:Box2 _ _ 216 (.int .i64 0) (.int .i64 0):=hb4
      have hz':=hB'.size
      have hR:AroundAt wn w.heap.size A B C∧Box4 wn (w.heap.size+1) 223 (.int .i64 0) (.int .i64 0) (.int .i64 0) (.int .i64 0)∧Below w.heap.size w wn:=⟨hR.1.below hB',hR.2.1.below hB',below_trans' hR.2.2 hB'⟩
      refine hK.out _ _ hR ?_
      clear hK K
      (try simp only [Act.put,bw7,bw8,bw9])
      refine wpAnyS_ready (rs:=[6]) (by kernel_rfl) (by simp) ?_
      refine stepR (i:=6) rfl (by kernel_rfl) (fun K hK=>?_) (AllReadyS.nil)
      go_simp
      refine after_alloc (fun wn hB' hb3 hz3=>?_)
      have hb3:Box2 _ _ 216 (.int .i64 0) (.int .i64 0):=hb3
      have hz':=hB'.size
      have hb4:=hb4.below hB'
      have hR:AroundAt wn w.heap.size A B C∧Box4 wn (w.heap.size+1) 223 (.int .i64 0) (.int .i64 0) (.int .i64 0) (.int .i64 0)∧Below w.heap.size w wn:=⟨hR.1.below hB',hR.2.1.below hB',below_trans' hR.2.2 hB'⟩
      refine hK.out _ _ hR ?_
      clear hK K
      (try simp only [Act.put,bw7,bw8,bw9])
      refine wpAnyS_ready (rs:=[8]) (by kernel_rfl) (by simp) ?_
      refine stepF (i:=8) rfl (by kernel_rfl) (by kernel_rfl) (fun K hK=>?_) (AllReadyS.nil)
      obtain ⟨f0,f1,g0,g1,zz3⟩:=hb3.facts
      go_simp
      refine after_set2 hb3 (fun wn hS hb3=>?_)
      have hb4:=hb4.but hS (by omega)
      have hR:AroundAt wn w.heap.size A B C∧Box4 wn (w.heap.size+1) 223 (.int .i64 0) (.int .i64 0) (.int .i64 0) (.int .i64 0)∧Below w.heap.size w wn:=⟨hR.1.but hS (by omega),hR.2.1.but hS (by omega),hS.below hR.2.2 (by omega)⟩
      have hz':=hS.size
      clear f0 f1 g0 g1
      refine hK.out _ _ ?_
      clear hK K
      (try simp only [Act.put,bw7,bw8,bw9])
      refine wpAnyS_ready (rs:=[9]) (by kernel_rfl) (by simp) ?_
      refine stepF (i:=9) rfl (by kernel_rfl) (by kernel_rfl) (fun K hK=>?_) (AllReadyS.nil)
      obtain ⟨f0,f1,g0,g1,zz4⟩:=hb4.facts
      go_simp
      refine after_set2 hb4 (fun wn hS hb4=>?_)
      have hb3:=hb3.but hS (by omega)
      have hR:AroundAt wn w.heap.size A B C∧Box4 wn (w.heap.size+1) 223 (.int .i64 0) (.int .i64 0) (.int .i64 0) (.int .i64 0)∧Below w.heap.size w wn:=⟨hR.1.but hS (by omega),hR.2.1.but hS (by omega),hS.below hR.2.2 (by omega)⟩
      have hz':=hS.size
      clear f0 f1 g0 g1
      refine hK.out _ _ ?_
      clear hK K
      (try simp only [Act.put,bw7,bw8,bw9])
      refine wpAnyS_done (by kernel_rfl) ?_ _
      refine hN.out _ _ ?_
      go_wp2_with fail
      go_meet
      exact ⟨_,_,rfl,rfl,hb3,hb4,hR.2.1,hR.2.2,by omega,by omega⟩
    ·go_simp
     refine after_alloc (fun wn hB' hb3 hz3=>?_)
     have hb3:Box2 _ _ 216 (.int .i64 0) (.int .i64 0):=hb3
     have hz':=hB'.size
     have hR:AroundAt wn w.heap.size A B C∧Box4 wn (w.heap.size+1) 223 (.int .i64 0) (.int .i64 0) (.int .i64 0) (.int .i64 0)∧Below w.heap.size w wn:=⟨hR.1.below hB',hR.2.1.below hB',below_trans' hR.2.2 hB'⟩
     refine hK.out _ _ hR ?_
     clear hK K
     (try simp only [Act.put,bw7,bw8,bw9])
     refine wpAnyS_ready (rs:=[5,7]) (by kernel_rfl) (by simp) ?_
     refine stepR (i:=5) rfl (by kernel_rfl) (fun K hK=>?_) (stepR (i:=7) rfl (by kernel_rfl) (fun K hK=>?_) (AllReadyS.nil))
     ·go_simp
      refine (HC.out _).mono ?_
      rintro e wn ⟨rfl,hB'⟩
      have hz':=hB'.size
      have hb3:=hb3.below hB'
      have hR:AroundAt wn w.heap.size A B C∧Box4 wn (w.heap.size+1) 223 (.int .i64 0) (.int .i64 0) (.int .i64 0) (.int .i64 0)∧Below w.heap.size w wn:=⟨hR.1.below hB',hR.2.1.below hB',below_trans' hR.2.2 hB'⟩
      refine hK.out _ _ hR ?_
      clear hK K
      (try simp only [Act.put,bw7,bw8,bw9])
      refine wpAnyS_ready (rs:=[7]) (by kernel_rfl) (by simp) ?_
      refine stepR (i:=7) rfl (by kernel_rfl) (fun K hK=>?_) (AllReadyS.nil)
      go_simp
      refine after_alloc (fun wn hB' hb4 hz4=>?_)
      have hb4:Box2 _ _ 216 (.int .i64 0) (.int .i64 0):=hb4
      have hz':=hB'.size
      have hb3:=hb3.below hB'
      have hR:AroundAt wn w.heap.size A B C∧Box4 wn (w.heap.size+1) 223 (.int .i64 0) (.int .i64 0) (.int .i64 0) (.int .i64 0)∧Below w.heap.size w wn:=⟨hR.1.below hB',hR.2.1.below hB',below_trans' hR.2.2 hB'⟩
      refine hK.out _ _ hR ?_
      clear hK K
      (try simp only [Act.put,bw7,bw8,bw9])
      refine wpAnyS_ready (rs:=[8]) (by kernel_rfl) (by simp) ?_
      refine stepF (i:=8) rfl (by kernel_rfl) (by kernel_rfl) (fun K hK=>?_) (AllReadyS.nil)
      obtain ⟨f0,f1,g0,g1,zz3⟩:=hb3.facts
      go_simp
      refine after_set2 hb3 (fun wn hS hb3=>?_)
      have hb4:=hb4.but hS (by omega)
      have hR:AroundAt wn w.heap.size A B C∧Box4 wn (w.heap.size+1) 223 (.int .i64 0) (.int .i64 0) (.int .i64 0) (.int .i64 0)∧Below w.heap.size w wn:=⟨hR.1.but hS (by omega),hR.2.1.but hS (by omega),hS.below hR.2.2 (by omega)⟩
      have hz':=hS.size
      clear f0 f1 g0 g1
      refine hK.out _ _ ?_
      clear hK K
      (try simp only [Act.put,bw7,bw8,bw9])
      refine wpAnyS_ready (rs:=[9]) (by kernel_rfl) (by simp) ?_
      refine stepF (i:=9) rfl (by kernel_rfl) (by kernel_rfl) (fun K hK=>?_) (AllReadyS.nil)
      obtain ⟨f0,f1,g0,g1,zz4⟩:=hb4.facts
      go_simp
      refine after_set2 hb4 (fun wn hS hb4=>?_)
      have hb3:=hb3.but hS (by omega)
      have hR:AroundAt wn w.heap.size A B C∧Box4 wn (w.heap.size+1) 223 (.int .i64 0) (.int .i64 0) (.int .i64 0) (.int .i64 0)∧Below w.heap.size w wn:=⟨hR.1.but hS (by omega),hR.2.1.but hS (by omega),hS.below hR.2.2 (by omega)⟩
      have hz':=hS.size
      clear f0 f1 g0 g1
      refine hK.out _ _ ?_
      clear hK K
      (try simp only [Act.put,bw7,bw8,bw9])
      refine wpAnyS_done (by kernel_rfl) ?_ _
      refine hN.out _ _ ?_
      go_wp2_with fail
      go_meet
      exact ⟨_,_,rfl,rfl,hb3,hb4,hR.2.1,hR.2.2,by omega,by omega⟩
     ·go_simp
      refine after_alloc (fun wn hB' hb4 hz4=>?_)
      have hb4:Box2 _ _ 216 (.int .i64 0) (.int .i64 0):=hb4
      have hz':=hB'.size
      have hb3:=hb3.below hB'
      have hR:AroundAt wn w.heap.size A B C∧Box4 wn (w.heap.size+1) 223 (.int .i64 0) (.int .i64 0) (.int .i64 0) (.int .i64 0)∧Below w.heap.size w wn:=⟨hR.1.below hB',hR.2.1.below hB',below_trans' hR.2.2 hB'⟩
      refine hK.out _ _ hR ?_
      clear hK K
      (try simp only [Act.put,bw7,bw8,bw9])
      refine wpAnyS_ready (rs:=[5]) (by kernel_rfl) (by simp) ?_
      refine stepR (i:=5) rfl (by kernel_rfl) (fun K hK=>?_) (AllReadyS.nil)
      go_simp
      refine (HC.out _).mono ?_
      rintro e wn ⟨rfl,hB'⟩
      have hz':=hB'.size
      have hb3:=hb3.below hB'
      have hb4:=hb4.below hB'
      have hR:AroundAt wn w.heap.size A B C∧Box4 wn (w.heap.size+1) 223 (.int .i64 0) (.int .i64 0) (.int .i64 0) (.int .i64 0)∧Below w.heap.size w wn:=⟨hR.1.below hB',hR.2.1.below hB',below_trans' hR.2.2 hB'⟩
      refine hK.out _ _ hR ?_
      clear hK K
      (try simp only [Act.put,bw7,bw8,bw9])
      refine wpAnyS_ready (rs:=[8]) (by kernel_rfl) (by simp) ?_
      refine stepF (i:=8) rfl (by kernel_rfl) (by kernel_rfl) (fun K hK=>?_) (AllReadyS.nil)
      obtain ⟨f0,f1,g0,g1,zz3⟩:=hb3.facts
      go_simp
      refine after_set2 hb3 (fun wn hS hb3=>?_)
      have hb4:=hb4.but hS (by omega)
      have hR:AroundAt wn w.heap.size A B C∧Box4 wn (w.heap.size+1) 223 (.int .i64 0) (.int .i64 0) (.int .i64 0) (.int .i64 0)∧Below w.heap.size w wn:=⟨hR.1.but hS (by omega),hR.2.1.but hS (by omega),hS.below hR.2.2 (by omega)⟩
      have hz':=hS.size
      clear f0 f1 g0 g1
      refine hK.out _ _ ?_
      clear hK K
      (try simp only [Act.put,bw7,bw8,bw9])
      refine wpAnyS_ready (rs:=[9]) (by kernel_rfl) (by simp) ?_
      refine stepF (i:=9) rfl (by kernel_rfl) (by kernel_rfl) (fun K hK=>?_) (AllReadyS.nil)
      obtain ⟨f0,f1,g0,g1,zz4⟩:=hb4.facts
      go_simp
      refine after_set2 hb4 (fun wn hS hb4=>?_)
      have hb3:=hb3.but hS (by omega)
      have hR:AroundAt wn w.heap.size A B C∧Box4 wn (w.heap.size+1) 223 (.int .i64 0) (.int .i64 0) (.int .i64 0) (.int .i64 0)∧Below w.heap.size w wn:=⟨hR.1.but hS (by omega),hR.2.1.but hS (by omega),hS.below hR.2.2 (by omega)⟩
      have hz':=hS.size
      clear f0 f1 g0 g1
      refine hK.out _ _ ?_
      clear hK K
      (try simp only [Act.put,bw7,bw8,bw9])
      refine wpAnyS_done (by kernel_rfl) ?_ _
      refine hN.out _ _ ?_
      go_wp2_with fail
      go_meet
      exact ⟨_,_,rfl,rfl,hb3,hb4,hR.2.1,hR.2.2,by omega,by omega⟩
    ·go_simp
     refine after_alloc (fun wn hB' hb4 hz4=>?_)
     have hb4:Box2 _ _ 216 (.int .i64 0) (.int .i64 0):=hb4
     have hz':=hB'.size
     have hR:AroundAt wn w.heap.size A B C∧Box4 wn (w.heap.size+1) 223 (.int .i64 0) (.int .i64 0) (.int .i64 0) (.int .i64 0)∧Below w.heap.size w wn:=⟨hR.1.below hB',hR.2.1.below hB',below_trans' hR.2.2 hB'⟩
     refine hK.out _ _ hR ?_
     clear hK K
     (try simp only [Act.put,bw7,bw8,bw9])
     refine wpAnyS_ready (rs:=[5,6]) (by kernel_rfl) (by simp) ?_
     refine stepR (i:=5) rfl (by kernel_rfl) (fun K hK=>?_) (stepR (i:=6) rfl (by kernel_rfl) (fun K hK=>?_) (AllReadyS.nil))
     ·go_simp
      refine (HC.out _).mono ?_
      rintro e wn ⟨rfl,hB'⟩
      have hz':=hB'.size
      have hb4:=hb4.below hB'
      have hR:AroundAt wn w.heap.size A B C∧Box4 wn (w.heap.size+1) 223 (.int .i64 0) (.int .i64 0) (.int .i64 0) (.int .i64 0)∧Below w.heap.size w wn:=⟨hR.1.below hB',hR.2.1.below hB',below_trans' hR.2.2 hB'⟩
      refine hK.out _ _ hR ?_
      clear hK K
      (try simp only [Act.put,bw7,bw8,bw9])
      refine wpAnyS_ready (rs:=[6]) (by kernel_rfl) (by simp) ?_
      refine stepR (i:=6) rfl (by kernel_rfl) (fun K hK=>?_) (AllReadyS.nil)
      go_simp
      refine after_alloc (fun wn hB' hb3 hz3=>?_)
      have hb3:Box2 _ _ 216 (.int .i64 0) (.int .i64 0):=hb3
      have hz':=hB'.size
      have hb4:=hb4.below hB'
      have hR:AroundAt wn w.heap.size A B C∧Box4 wn (w.heap.size+1) 223 (.int .i64 0) (.int .i64 0) (.int .i64 0) (.int .i64 0)∧Below w.heap.size w wn:=⟨hR.1.below hB',hR.2.1.below hB',below_trans' hR.2.2 hB'⟩
      refine hK.out _ _ hR ?_
      clear hK K
      (try simp only [Act.put,bw7,bw8,bw9])
      refine wpAnyS_ready (rs:=[8]) (by kernel_rfl) (by simp) ?_
      refine stepF (i:=8) rfl (by kernel_rfl) (by kernel_rfl) (fun K hK=>?_) (AllReadyS.nil)
      obtain ⟨f0,f1,g0,g1,zz3⟩:=hb3.facts
      go_simp
      refine after_set2 hb3 (fun wn hS hb3=>?_)
      have hb4:=hb4.but hS (by omega)
      have hR:AroundAt wn w.heap.size A B C∧Box4 wn (w.heap.size+1) 223 (.int .i64 0) (.int .i64 0) (.int .i64 0) (.int .i64 0)∧Below w.heap.size w wn:=⟨hR.1.but hS (by omega),hR.2.1.but hS (by omega),hS.below hR.2.2 (by omega)⟩
      have hz':=hS.size
      clear f0 f1 g0 g1
      refine hK.out _ _ ?_
      clear hK K
      (try simp only [Act.put,bw7,bw8,bw9])
      refine wpAnyS_ready (rs:=[9]) (by kernel_rfl) (by simp) ?_
      refine stepF (i:=9) rfl (by kernel_rfl) (by kernel_rfl) (fun K hK=>?_) (AllReadyS.nil)
      obtain ⟨f0,f1,g0,g1,zz4⟩:=hb4.facts
      go_simp
      refine after_set2 hb4 (fun wn hS hb4=>?_)
      have hb3:=hb3.but hS (by omega)
      have hR:AroundAt wn w.heap.size A B C∧Box4 wn (w.heap.size+1) 223 (.int .i64 0) (.int .i64 0) (.int .i64 0) (.int .i64 0)∧Below w.heap.size w wn:=⟨hR.1.but hS (by omega),hR.2.1.but hS (by omega),hS.below hR.2.2 (by omega)⟩
      have hz':=hS.size
      clear f0 f1 g0 g1
      refine hK.out _ _ ?_
      clear hK K
      (try simp only [Act.put,bw7,bw8,bw9])
      refine wpAnyS_done (by kernel_rfl) ?_ _
      refine hN.out _ _ ?_
      go_wp2_with fail
      go_meet
      exact ⟨_,_,rfl,rfl,hb3,hb4,hR.2.1,hR.2.2,by omega,by omega⟩
     ·go_simp
      refine after_alloc (fun wn hB' hb3 hz3=>?_)
      have hb3:Box2 _ _ 216 (.int .i64 0) (.int .i64 0):=hb3
      have hz':=hB'.size
      have hb4:=hb4.below hB'
      have hR:AroundAt wn w.heap.size A B C∧Box4 wn (w.heap.size+1) 223 (.int .i64 0) (.int .i64 0) (.int .i64 0) (.int .i64 0)∧Below w.heap.size w wn:=⟨hR.1.below hB',hR.2.1.below hB',below_trans' hR.2.2 hB'⟩
      refine hK.out _ _ hR ?_
      clear hK K
      (try simp only [Act.put,bw7,bw8,bw9])
      refine wpAnyS_ready (rs:=[5]) (by kernel_rfl) (by simp) ?_
      refine stepR (i:=5) rfl (by kernel_rfl) (fun K hK=>?_) (AllReadyS.nil)
      go_simp
      refine (HC.out _).mono ?_
      rintro e wn ⟨rfl,hB'⟩
      have hz':=hB'.size
      have hb3:=hb3.below hB'
      have hb4:=hb4.below hB'
      have hR:AroundAt wn w.heap.size A B C∧Box4 wn (w.heap.size+1) 223 (.int .i64 0) (.int .i64 0) (.int .i64 0) (.int .i64 0)∧Below w.heap.size w wn:=⟨hR.1.below hB',hR.2.1.below hB',below_trans' hR.2.2 hB'⟩
      refine hK.out _ _ hR ?_
      clear hK K
      (try simp only [Act.put,bw7,bw8,bw9])
      refine wpAnyS_ready (rs:=[8]) (by kernel_rfl) (by simp) ?_
      refine stepF (i:=8) rfl (by kernel_rfl) (by kernel_rfl) (fun K hK=>?_) (AllReadyS.nil)
      obtain ⟨f0,f1,g0,g1,zz3⟩:=hb3.facts
      go_simp
      refine after_set2 hb3 (fun wn hS hb3=>?_)
      have hb4:=hb4.but hS (by omega)
      have hR:AroundAt wn w.heap.size A B C∧Box4 wn (w.heap.size+1) 223 (.int .i64 0) (.int .i64 0) (.int .i64 0) (.int .i64 0)∧Below w.heap.size w wn:=⟨hR.1.but hS (by omega),hR.2.1.but hS (by omega),hS.below hR.2.2 (by omega)⟩
      have hz':=hS.size
      clear f0 f1 g0 g1
      refine hK.out _ _ ?_
      clear hK K
      (try simp only [Act.put,bw7,bw8,bw9])
      refine wpAnyS_ready (rs:=[9]) (by kernel_rfl) (by simp) ?_
      refine stepF (i:=9) rfl (by kernel_rfl) (by kernel_rfl) (fun K hK=>?_) (AllReadyS.nil)
      obtain ⟨f0,f1,g0,g1,zz4⟩:=hb4.facts
      go_simp
      refine after_set2 hb4 (fun wn hS hb4=>?_)
      have hb3:=hb3.but hS (by omega)
      have hR:AroundAt wn w.heap.size A B C∧Box4 wn (w.heap.size+1) 223 (.int .i64 0) (.int .i64 0) (.int .i64 0) (.int .i64 0)∧Below w.heap.size w wn:=⟨hR.1.but hS (by omega),hR.2.1.but hS (by omega),hS.below hR.2.2 (by omega)⟩
      have hz':=hS.size
      clear f0 f1 g0 g1
      refine hK.out _ _ ?_
      clear hK K
      (try simp only [Act.put,bw7,bw8,bw9])
      refine wpAnyS_done (by kernel_rfl) ?_ _
      refine hN.out _ _ ?_
      go_wp2_with fail
      go_meet
      exact ⟨_,_,rfl,rfl,hb3,hb4,hR.2.1,hR.2.2,by omega,by omega⟩
   ·go_simp
    refine after_alloc (fun wn hB' hb3 hz3=>?_)
    have hb3:Box2 _ _ 216 (.int .i64 0) (.int .i64 0):=hb3
    have hz':=hB'.size
    have hR:AroundAt wn w.heap.size A B C∧Box4 wn (w.heap.size+1) 223 (.int .i64 0) (.int .i64 0) (.int .i64 0) (.int .i64 0)∧Below w.heap.size w wn:=⟨hR.1.below hB',hR.2.1.below hB',below_trans' hR.2.2 hB'⟩
    refine hK.out _ _ hR ?_
    clear hK K
    (try simp only [Act.put,bw7,bw8,bw9])
    refine wpAnyS_ready (rs:=[2,7]) (by kernel_rfl) (by simp) ?_
    refine stepR (i:=2) rfl (by kernel_rfl) (fun K hK=>?_) (stepR (i:=7) rfl (by kernel_rfl) (fun K hK=>?_) (AllReadyS.nil))
    ·go_simp
     refine (HB.out _).mono ?_
     rintro e wn ⟨rfl,hB'⟩
     have hz':=hB'.size
     have hb3:=hb3.below hB'
     have hR:AroundAt wn w.heap.size A B C∧Box4 wn (w.heap.size+1) 223 (.int .i64 0) (.int .i64 0) (.int .i64 0) (.int .i64 0)∧Below w.heap.size w wn:=⟨hR.1.below hB',hR.2.1.below hB',below_trans' hR.2.2 hB'⟩
     refine hK.out _ _ hR ?_
     clear hK K
     (try simp only [Act.put,bw7,bw8,bw9])
     refine wpAnyS_ready (rs:=[5,7]) (by kernel_rfl) (by simp) ?_
     refine stepR (i:=5) rfl (by kernel_rfl) (fun K hK=>?_) (stepR (i:=7) rfl (by kernel_rfl) (fun K hK=>?_) (AllReadyS.nil))
     ·go_simp
      refine (HC.out _).mono ?_
      rintro e wn ⟨rfl,hB'⟩
      have hz':=hB'.size
      have hb3:=hb3.below hB'
      have hR:AroundAt wn w.heap.size A B C∧Box4 wn (w.heap.size+1) 223 (.int .i64 0) (.int .i64 0) (.int .i64 0) (.int .i64 0)∧Below w.heap.size w wn:=⟨hR.1.below hB',hR.2.1.below hB',below_trans' hR.2.2 hB'⟩
      refine hK.out _ _ hR ?_
      clear hK K
      (try simp only [Act.put,bw7,bw8,bw9])
      refine wpAnyS_ready (rs:=[7]) (by kernel_rfl) (by simp) ?_
      refine stepR (i:=7) rfl (by kernel_rfl) (fun K hK=>?_) (AllReadyS.nil)
      go_simp
      refine after_alloc (fun wn hB' hb4 hz4=>?_)
      have hb4:Box2 _ _ 216 (.int .i64 0) (.int .i64 0):=hb4
      have hz':=hB'.size
      have hb3:=hb3.below hB'
      have hR:AroundAt wn w.heap.size A B C∧Box4 wn (w.heap.size+1) 223 (.int .i64 0) (.int .i64 0) (.int .i64 0) (.int .i64 0)∧Below w.heap.size w wn:=⟨hR.1.below hB',hR.2.1.below hB',below_trans' hR.2.2 hB'⟩
      refine hK.out _ _ hR ?_
      clear hK K
      (try simp only [Act.put,bw7,bw8,bw9])
      refine wpAnyS_ready (rs:=[8]) (by kernel_rfl) (by simp) ?_
      refine stepF (i:=8) rfl (by kernel_rfl) (by kernel_rfl) (fun K hK=>?_) (AllReadyS.nil)
      obtain ⟨f0,f1,g0,g1,zz3⟩:=hb3.facts
      go_simp
      refine after_set2 hb3 (fun wn hS hb3=>?_)
      have hb4:=hb4.but hS (by omega)
      have hR:AroundAt wn w.heap.size A B C∧Box4 wn (w.heap.size+1) 223 (.int .i64 0) (.int .i64 0) (.int .i64 0) (.int .i64 0)∧Below w.heap.size w wn:=⟨hR.1.but hS (by omega),hR.2.1.but hS (by omega),hS.below hR.2.2 (by omega)⟩
      have hz':=hS.size
      clear f0 f1 g0 g1
      refine hK.out _ _ ?_
      clear hK K
      (try simp only [Act.put,bw7,bw8,bw9])
      refine wpAnyS_ready (rs:=[9]) (by kernel_rfl) (by simp) ?_
      refine stepF (i:=9) rfl (by kernel_rfl) (by kernel_rfl) (fun K hK=>?_) (AllReadyS.nil)
      obtain ⟨f0,f1,g0,g1,zz4⟩:=hb4.facts
      go_simp
      refine after_set2 hb4 (fun wn hS hb4=>?_)
      have hb3:=hb3.but hS (by omega)
      have hR:AroundAt wn w.heap.size A B C∧Box4 wn (w.heap.size+1) 223 (.int .i64 0) (.int .i64 0) (.int .i64 0) (.int .i64 0)∧Below w.heap.size w wn:=⟨hR.1.but hS (by omega),hR.2.1.but hS (by omega),hS.below hR.2.2 (by omega)⟩
      have hz':=hS.size
      clear f0 f1 g0 g1
      refine hK.out _ _ ?_
      clear hK K
      (try simp only [Act.put,bw7,bw8,bw9])
      refine wpAnyS_done (by kernel_rfl) ?_ _
      refine hN.out _ _ ?_
      go_wp2_with fail
      go_meet
      exact ⟨_,_,rfl,rfl,hb3,hb4,hR.2.1,hR.2.2,by omega,by omega⟩
     ·go_simp
      refine after_alloc (fun wn hB' hb4 hz4=>?_)
      have hb4:Box2 _ _ 216 (.int .i64 0) (.int .i64 0):=hb4
      have hz':=hB'.size
      have hb3:=hb3.below hB'
      have hR:AroundAt wn w.heap.size A B C∧Box4 wn (w.heap.size+1) 223 (.int .i64 0) (.int .i64 0) (.int .i64 0) (.int .i64 0)∧Below w.heap.size w wn:=⟨hR.1.below hB',hR.2.1.below hB',below_trans' hR.2.2 hB'⟩
      refine hK.out _ _ hR ?_
      clear hK K
      (try simp only [Act.put,bw7,bw8,bw9])
      refine wpAnyS_ready (rs:=[5]) (by kernel_rfl) (by simp) ?_
      refine stepR (i:=5) rfl (by kernel_rfl) (fun K hK=>?_) (AllReadyS.nil)
      go_simp
      refine (HC.out _).mono ?_
      rintro e wn ⟨rfl,hB'⟩
      have hz':=hB'.size
      have hb3:=hb3.below hB'
      have hb4:=hb4.below hB'
      have hR:AroundAt wn w.heap.size A B C∧Box4 wn (w.heap.size+1) 223 (.int .i64 0) (.int .i64 0) (.int .i64 0) (.int .i64 0)∧Below w.heap.size w wn:=⟨hR.1.below hB',hR.2.1.below hB',below_trans' hR.2.2 hB'⟩
      refine hK.out _ _ hR ?_
      clear hK K
      (try simp only [Act.put,bw7,bw8,bw9])
      refine wpAnyS_ready (rs:=[8]) (by kernel_rfl) (by simp) ?_
      refine stepF (i:=8) rfl (by kernel_rfl) (by kernel_rfl) (fun K hK=>?_) (AllReadyS.nil)
      obtain ⟨f0,f1,g0,g1,zz3⟩:=hb3.facts
      go_simp
      refine after_set2 hb3 (fun wn hS hb3=>?_)
      have hb4:=hb4.but hS (by omega)
      have hR:AroundAt wn w.heap.size A B C∧Box4 wn (w.heap.size+1) 223 (.int .i64 0) (.int .i64 0) (.int .i64 0) (.int .i64 0)∧Below w.heap.size w wn:=⟨hR.1.but hS (by omega),hR.2.1.but hS (by omega),hS.below hR.2.2 (by omega)⟩
      have hz':=hS.size
      clear f0 f1 g0 g1
      refine hK.out _ _ ?_
      clear hK K
      (try simp only [Act.put,bw7,bw8,bw9])
      refine wpAnyS_ready (rs:=[9]) (by kernel_rfl) (by simp) ?_
      refine stepF (i:=9) rfl (by kernel_rfl) (by kernel_rfl) (fun K hK=>?_) (AllReadyS.nil)
      obtain ⟨f0,f1,g0,g1,zz4⟩:=hb4.facts
      go_simp
      refine after_set2 hb4 (fun wn hS hb4=>?_)
      have hb3:=hb3.but hS (by omega)
      have hR:AroundAt wn w.heap.size A B C∧Box4 wn (w.heap.size+1) 223 (.int .i64 0) (.int .i64 0) (.int .i64 0) (.int .i64 0)∧Below w.heap.size w wn:=⟨hR.1.but hS (by omega),hR.2.1.but hS (by omega),hS.below hR.2.2 (by omega)⟩
      have hz':=hS.size
      clear f0 f1 g0 g1
      refine hK.out _ _ ?_
      clear hK K
      (try simp only [Act.put,bw7,bw8,bw9])
      refine wpAnyS_done (by kernel_rfl) ?_ _
      refine hN.out _ _ ?_
      go_wp2_with fail
      go_meet
      exact ⟨_,_,rfl,rfl,hb3,hb4,hR.2.1,hR.2.2,by omega,by omega⟩
    ·go_simp
     refine after_alloc (fun wn hB' hb4 hz4=>?_)
     have hb4:Box2 _ _ 216 (.int .i64 0) (.int .i64 0):=hb4
     have hz':=hB'.size
     have hb3:=hb3.below hB'
     have hR:AroundAt wn w.heap.size A B C∧Box4 wn (w.heap.size+1) 223 (.int .i64 0) (.int .i64 0) (.int .i64 0) (.int .i64 0)∧Below w.heap.size w wn:=⟨hR.1.below hB',hR.2.1.below hB',below_trans' hR.2.2 hB'⟩
     refine hK.out _ _ hR ?_
     clear hK K
     (try simp only [Act.put,bw7,bw8,bw9])
     refine wpAnyS_ready (rs:=[2]) (by kernel_rfl) (by simp) ?_
     refine stepR (i:=2) rfl (by kernel_rfl) (fun K hK=>?_) (AllReadyS.nil)
     go_simp
     refine (HB.out _).mono ?_
     rintro e wn ⟨rfl,hB'⟩
     have hz':=hB'.size
     have hb3:=hb3.below hB'
     have hb4:=hb4.below hB'
     have hR:AroundAt wn w.heap.size A B C∧Box4 wn (w.heap.size+1) 223 (.int .i64 0) (.int .i64 0) (.int .i64 0) (.int .i64 0)∧Below w.heap.size w wn:=⟨hR.1.below hB',hR.2.1.below hB',below_trans' hR.2.2 hB'⟩
     refine hK.out _ _ hR ?_
     clear hK K
     (try simp only [Act.put,bw7,bw8,bw9])
     refine wpAnyS_ready (rs:=[5]) (by kernel_rfl) (by simp) ?_
     refine stepR (i:=5) rfl (by kernel_rfl) (fun K hK=>?_) (AllReadyS.nil)
     go_simp
     refine (HC.out _).mono ?_
     rintro e wn ⟨rfl,hB'⟩
     have hz':=hB'.size
     have hb3:=hb3.below hB'
     have hb4:=hb4.below hB'
     have hR:AroundAt wn w.heap.size A B C∧Box4 wn (w.heap.size+1) 223 (.int .i64 0) (.int .i64 0) (.int .i64 0) (.int .i64 0)∧Below w.heap.size w wn:=⟨hR.1.below hB',hR.2.1.below hB',below_trans' hR.2.2 hB'⟩
     refine hK.out _ _ hR ?_
     clear hK K
     (try simp only [Act.put,bw7,bw8,bw9])
     refine wpAnyS_ready (rs:=[8]) (by kernel_rfl) (by simp) ?_
     refine stepF (i:=8) rfl (by kernel_rfl) (by kernel_rfl) (fun K hK=>?_) (AllReadyS.nil)
     obtain ⟨f0,f1,g0,g1,zz3⟩:=hb3.facts
     go_simp
     refine after_set2 hb3 (fun wn hS hb3=>?_)
     have hb4:=hb4.but hS (by omega)
     have hR:AroundAt wn w.heap.size A B C∧Box4 wn (w.heap.size+1) 223 (.int .i64 0) (.int .i64 0) (.int .i64 0) (.int .i64 0)∧Below w.heap.size w wn:=⟨hR.1.but hS (by omega),hR.2.1.but hS (by omega),hS.below hR.2.2 (by omega)⟩
     have hz':=hS.size
     clear f0 f1 g0 g1
     refine hK.out _ _ ?_
     clear hK K
     (try simp only [Act.put,bw7,bw8,bw9])
     refine wpAnyS_ready (rs:=[9]) (by kernel_rfl) (by simp) ?_
     refine stepF (i:=9) rfl (by kernel_rfl) (by kernel_rfl) (fun K hK=>?_) (AllReadyS.nil)
     obtain ⟨f0,f1,g0,g1,zz4⟩:=hb4.facts
     go_simp
     refine after_set2 hb4 (fun wn hS hb4=>?_)
     have hb3:=hb3.but hS (by omega)
     have hR:AroundAt wn w.heap.size A B C∧Box4 wn (w.heap.size+1) 223 (.int .i64 0) (.int .i64 0) (.int .i64 0) (.int .i64 0)∧Below w.heap.size w wn:=⟨hR.1.but hS (by omega),hR.2.1.but hS (by omega),hS.below hR.2.2 (by omega)⟩
     have hz':=hS.size
     clear f0 f1 g0 g1
     refine hK.out _ _ ?_
     clear hK K
     (try simp only [Act.put,bw7,bw8,bw9])
     refine wpAnyS_done (by kernel_rfl) ?_ _
     refine hN.out _ _ ?_
     go_wp2_with fail
     go_meet
     exact ⟨_,_,rfl,rfl,hb3,hb4,hR.2.1,hR.2.2,by omega,by omega⟩
   ·go_simp
    refine after_alloc (fun wn hB' hb4 hz4=>?_)
    have hb4:Box2 _ _ 216 (.int .i64 0) (.int .i64 0):=hb4
    have hz':=hB'.size
    have hR:AroundAt wn w.heap.size A B C∧Box4 wn (w.heap.size+1) 223 (.int .i64 0) (.int .i64 0) (.int .i64 0) (.int .i64 0)∧Below w.heap.size w wn:=⟨hR.1.below hB',hR.2.1.below hB',below_trans' hR.2.2 hB'⟩
    refine hK.out _ _ hR ?_
    clear hK K
    (try simp only [Act.put,bw7,bw8,bw9])
    refine wpAnyS_ready (rs:=[2,6]) (by kernel_rfl) (by simp) ?_
    refine stepR (i:=2) rfl (by kernel_rfl) (fun K hK=>?_) (stepR (i:=6) rfl (by kernel_rfl) (fun K hK=>?_) (AllReadyS.nil))
    ·go_simp
     refine (HB.out _).mono ?_
     rintro e wn ⟨rfl,hB'⟩
     have hz':=hB'.size
     have hb4:=hb4.below hB'
     have hR:AroundAt wn w.heap.size A B C∧Box4 wn (w.heap.size+1) 223 (.int .i64 0) (.int .i64 0) (.int .i64 0) (.int .i64 0)∧Below w.heap.size w wn:=⟨hR.1.below hB',hR.2.1.below hB',below_trans' hR.2.2 hB'⟩
     refine hK.out _ _ hR ?_
     clear hK K
     (try simp only [Act.put,bw7,bw8,bw9])
     refine wpAnyS_ready (rs:=[5,6]) (by kernel_rfl) (by simp) ?_
     refine stepR (i:=5) rfl (by kernel_rfl) (fun K hK=>?_) (stepR (i:=6) rfl (by kernel_rfl) (fun K hK=>?_) (AllReadyS.nil))
     ·go_simp
      refine (HC.out _).mono ?_
      rintro e wn ⟨rfl,hB'⟩
      have hz':=hB'.size
      have hb4:=hb4.below hB'
      have hR:AroundAt wn w.heap.size A B C∧Box4 wn (w.heap.size+1) 223 (.int .i64 0) (.int .i64 0) (.int .i64 0) (.int .i64 0)∧Below w.heap.size w wn:=⟨hR.1.below hB',hR.2.1.below hB',below_trans' hR.2.2 hB'⟩
      refine hK.out _ _ hR ?_
      clear hK K
      (try simp only [Act.put,bw7,bw8,bw9])
      refine wpAnyS_ready (rs:=[6]) (by kernel_rfl) (by simp) ?_
      refine stepR (i:=6) rfl (by kernel_rfl) (fun K hK=>?_) (AllReadyS.nil)
      go_simp
      refine after_alloc (fun wn hB' hb3 hz3=>?_)
      have hb3:Box2 _ _ 216 (.int .i64 0) (.int .i64 0):=hb3
      have hz':=hB'.size
      have hb4:=hb4.below hB'
      have hR:AroundAt wn w.heap.size A B C∧Box4 wn (w.heap.size+1) 223 (.int .i64 0) (.int .i64 0) (.int .i64 0) (.int .i64 0)∧Below w.heap.size w wn:=⟨hR.1.below hB',hR.2.1.below hB',below_trans' hR.2.2 hB'⟩
      refine hK.out _ _ hR ?_
      clear hK K
      (try simp only [Act.put,bw7,bw8,bw9])
      refine wpAnyS_ready (rs:=[8]) (by kernel_rfl) (by simp) ?_
      refine stepF (i:=8) rfl (by kernel_rfl) (by kernel_rfl) (fun K hK=>?_) (AllReadyS.nil)
      obtain ⟨f0,f1,g0,g1,zz3⟩:=hb3.facts
      go_simp
      refine after_set2 hb3 (fun wn hS hb3=>?_)
      have hb4:=hb4.but hS (by omega)
      have hR:AroundAt wn w.heap.size A B C∧Box4 wn (w.heap.size+1) 223 (.int .i64 0) (.int .i64 0) (.int .i64 0) (.int .i64 0)∧Below w.heap.size w wn:=⟨hR.1.but hS (by omega),hR.2.1.but hS (by omega),hS.below hR.2.2 (by omega)⟩
      have hz':=hS.size
      clear f0 f1 g0 g1
      refine hK.out _ _ ?_
      clear hK K
      (try simp only [Act.put,bw7,bw8,bw9])
      refine wpAnyS_ready (rs:=[9]) (by kernel_rfl) (by simp) ?_
      refine stepF (i:=9) rfl (by kernel_rfl) (by kernel_rfl) (fun K hK=>?_) (AllReadyS.nil)
      obtain ⟨f0,f1,g0,g1,zz4⟩:=hb4.facts
      go_simp
      refine after_set2 hb4 (fun wn hS hb4=>?_)
      have hb3:=hb3.but hS (by omega)
      have hR:AroundAt wn w.heap.size A B C∧Box4 wn (w.heap.size+1) 223 (.int .i64 0) (.int .i64 0) (.int .i64 0) (.int .i64 0)∧Below w.heap.size w wn:=⟨hR.1.but hS (by omega),hR.2.1.but hS (by omega),hS.below hR.2.2 (by omega)⟩
      have hz':=hS.size
      clear f0 f1 g0 g1
      refine hK.out _ _ ?_
      clear hK K
      (try simp only [Act.put,bw7,bw8,bw9])
      refine wpAnyS_done (by kernel_rfl) ?_ _
      refine hN.out _ _ ?_
      go_wp2_with fail
      go_meet
      exact ⟨_,_,rfl,rfl,hb3,hb4,hR.2.1,hR.2.2,by omega,by omega⟩
     ·go_simp
      refine after_alloc (fun wn hB' hb3 hz3=>?_)
      have hb3:Box2 _ _ 216 (.int .i64 0) (.int .i64 0):=hb3
      have hz':=hB'.size
      have hb4:=hb4.below hB'
      have hR:AroundAt wn w.heap.size A B C∧Box4 wn (w.heap.size+1) 223 (.int .i64 0) (.int .i64 0) (.int .i64 0) (.int .i64 0)∧Below w.heap.size w wn:=⟨hR.1.below hB',hR.2.1.below hB',below_trans' hR.2.2 hB'⟩
      refine hK.out _ _ hR ?_
      clear hK K
      (try simp only [Act.put,bw7,bw8,bw9])
      refine wpAnyS_ready (rs:=[5]) (by kernel_rfl) (by simp) ?_
      refine stepR (i:=5) rfl (by kernel_rfl) (fun K hK=>?_) (AllReadyS.nil)
      go_simp
      refine (HC.out _).mono ?_
      rintro e wn ⟨rfl,hB'⟩
      have hz':=hB'.size
      have hb3:=hb3.below hB'
      have hb4:=hb4.below hB'
      have hR:AroundAt wn w.heap.size A B C∧Box4 wn (w.heap.size+1) 223 (.int .i64 0) (.int .i64 0) (.int .i64 0) (.int .i64 0)∧Below w.heap.size w wn:=⟨hR.1.below hB',hR.2.1.below hB',below_trans' hR.2.2 hB'⟩
      refine hK.out _ _ hR ?_
      clear hK K
      (try simp only [Act.put,bw7,bw8,bw9])
      refine wpAnyS_ready (rs:=[8]) (by kernel_rfl) (by simp) ?_
      refine stepF (i:=8) rfl (by kernel_rfl) (by kernel_rfl) (fun K hK=>?_) (AllReadyS.nil)
      obtain ⟨f0,f1,g0,g1,zz3⟩:=hb3.facts
      go_simp
      refine after_set2 hb3 (fun wn hS hb3=>?_)
      have hb4:=hb4.but hS (by omega)
      have hR:AroundAt wn w.heap.size A B C∧Box4 wn (w.heap.size+1) 223 (.int .i64 0) (.int .i64 0) (.int .i64 0) (.int .i64 0)∧Below w.heap.size w wn:=⟨hR.1.but hS (by omega),hR.2.1.but hS (by omega),hS.below hR.2.2 (by omega)⟩
      have hz':=hS.size
      clear f0 f1 g0 g1
      refine hK.out _ _ ?_
      clear hK K
      (try simp only [Act.put,bw7,bw8,bw9])
      refine wpAnyS_ready (rs:=[9]) (by kernel_rfl) (by simp) ?_
      refine stepF (i:=9) rfl (by kernel_rfl) (by kernel_rfl) (fun K hK=>?_) (AllReadyS.nil)
      obtain ⟨f0,f1,g0,g1,zz4⟩:=hb4.facts
      go_simp
      refine after_set2 hb4 (fun wn hS hb4=>?_)
      have hb3:=hb3.but hS (by omega)
      have hR:AroundAt wn w.heap.size A B C∧Box4 wn (w.heap.size+1) 223 (.int .i64 0) (.int .i64 0) (.int .i64 0) (.int .i64 0)∧Below w.heap.size w wn:=⟨hR.1.but hS (by omega),hR.2.1.but hS (by omega),hS.below hR.2.2 (by omega)⟩
      have hz':=hS.size
      clear f0 f1 g0 g1
      refine hK.out _ _ ?_
      clear hK K
      (try simp only [Act.put,bw7,bw8,bw9])
      refine wpAnyS_done (by kernel_rfl) ?_ _
      refine hN.out _ _ ?_
      go_wp2_with fail
      go_meet
      exact ⟨_,_,rfl,rfl,hb3,hb4,hR.2.1,hR.2.2,by omega,by omega⟩
    ·go_simp
     refine after_alloc (fun wn hB' hb3 hz3=>?_)
     have hb3:Box2 _ _ 216 (.int .i64 0) (.int .i64 0):=hb3
     have hz':=hB'.size
     have hb4:=hb4.below hB'
     have hR:AroundAt wn w.heap.size A B C∧Box4 wn (w.heap.size+1) 223 (.int .i64 0) (.int .i64 0) (.int .i64 0) (.int .i64 0)∧Below w.heap.size w wn:=⟨hR.1.below hB',hR.2.1.below hB',below_trans' hR.2.2 hB'⟩
     refine hK.out _ _ hR ?_
     clear hK K
     (try simp only [Act.put,bw7,bw8,bw9])
     refine wpAnyS_ready (rs:=[2]) (by kernel_rfl) (by simp) ?_
     refine stepR (i:=2) rfl (by kernel_rfl) (fun K hK=>?_) (AllReadyS.nil)
     go_simp
     refine (HB.out _).mono ?_
     rintro e wn ⟨rfl,hB'⟩
     have hz':=hB'.size
     have hb3:=hb3.below hB'
     have hb4:=hb4.below hB'
     have hR:AroundAt wn w.heap.size A B C∧Box4 wn (w.heap.size+1) 223 (.int .i64 0) (.int .i64 0) (.int .i64 0) (.int .i64 0)∧Below w.heap.size w wn:=⟨hR.1.below hB',hR.2.1.below hB',below_trans' hR.2.2 hB'⟩
     refine hK.out _ _ hR ?_
     clear hK K
     (try simp only [Act.put,bw7,bw8,bw9])
     refine wpAnyS_ready (rs:=[5]) (by kernel_rfl) (by simp) ?_
     refine stepR (i:=5) rfl (by kernel_rfl) (fun K hK=>?_) (AllReadyS.nil)
     go_simp
     refine (HC.out _).mono ?_
     rintro e wn ⟨rfl,hB'⟩
     have hz':=hB'.size
     have hb3:=hb3.below hB'
     have hb4:=hb4.below hB'
     have hR:AroundAt wn w.heap.size A B C∧Box4 wn (w.heap.size+1) 223 (.int .i64 0) (.int .i64 0) (.int .i64 0) (.int .i64 0)∧Below w.heap.size w wn:=⟨hR.1.below hB',hR.2.1.below hB',below_trans' hR.2.2 hB'⟩
     refine hK.out _ _ hR ?_
     clear hK K
     (try simp only [Act.put,bw7,bw8,bw9])
     refine wpAnyS_ready (rs:=[8]) (by kernel_rfl) (by simp) ?_
     refine stepF (i:=8) rfl (by kernel_rfl) (by kernel_rfl) (fun K hK=>?_) (AllReadyS.nil)
     obtain ⟨f0,f1,g0,g1,zz3⟩:=hb3.facts
     go_simp
     refine after_set2 hb3 (fun wn hS hb3=>?_)
     have hb4:=hb4.but hS (by omega)
     have hR:AroundAt wn w.heap.size A B C∧Box4 wn (w.heap.size+1) 223 (.int .i64 0) (.int .i64 0) (.int .i64 0) (.int .i64 0)∧Below w.heap.size w wn:=⟨hR.1.but hS (by omega),hR.2.1.but hS (by omega),hS.below hR.2.2 (by omega)⟩
     have hz':=hS.size
     clear f0 f1 g0 g1
     refine hK.out _ _ ?_
     clear hK K
     (try simp only [Act.put,bw7,bw8,bw9])
     refine wpAnyS_ready (rs:=[9]) (by kernel_rfl) (by simp) ?_
     refine stepF (i:=9) rfl (by kernel_rfl) (by kernel_rfl) (fun K hK=>?_) (AllReadyS.nil)
     obtain ⟨f0,f1,g0,g1,zz4⟩:=hb4.facts
     go_simp
     refine after_set2 hb4 (fun wn hS hb4=>?_)
     have hb3:=hb3.but hS (by omega)
     have hR:AroundAt wn w.heap.size A B C∧Box4 wn (w.heap.size+1) 223 (.int .i64 0) (.int .i64 0) (.int .i64 0) (.int .i64 0)∧Below w.heap.size w wn:=⟨hR.1.but hS (by omega),hR.2.1.but hS (by omega),hS.below hR.2.2 (by omega)⟩
     have hz':=hS.size
     clear f0 f1 g0 g1
     refine hK.out _ _ ?_
     clear hK K
     (try simp only [Act.put,bw7,bw8,bw9])
     refine wpAnyS_done (by kernel_rfl) ?_ _
     refine hN.out _ _ ?_
     go_wp2_with fail
     go_meet
     exact ⟨_,_,rfl,rfl,hb3,hb4,hR.2.1,hR.2.2,by omega,by omega⟩
  case rest =>
   obtain ⟨b3,b4,rfl,rfl,h3,h4,hx2,hB2,n3,n4⟩:=hcut
   obtain ⟨p0,p1,p2,p3,p4⟩:=h3.facts
   obtain ⟨q0,q1,q2,q3,q4⟩:=h4.facts
   obtain ⟨⟨r0,r1,r2,r3⟩,⟨k0,k1,k2,k3⟩,kz⟩:=hx2.facts
   clear hA hx hBw hR
   go_wp2_with fail
   exact bodyPost_ret (v:=.agg #[.int .i64 (min B.x C.x),.int .i64 (min B.y C.y),.int .i64 (max B.x C.x),.int .i64 (max B.y C.y)]) (by simp [results,Tryz.results212,go_sem,r0,r1,r2,r3]) rfl ⟨rfl,qbl⟩
end Go.Proofs.YteepphiomcedfaaGreatDoor
namespace Go.Proofs.YteepphiomcedfaaGreatDoor
section
variable {F:Fence} {n:Nat} {P:Program} {ops:Array Oper} {Q:Exit→Act→World→Prop} {md:Region.Mode} {L:List Nat} {R:World→Prop}
def wpAnyI (F:Fence) (n:Nat) (P:Program) (md:Region.Mode) (ops:Array Oper) (Q:Exit→Act→World→Prop) (L:List Nat) (R:World→Prop):Nat→Array Bool→Act→World→Prop
 | 0,listed,a,w=>Region.ready md ops listed=[]∧Q .normal a w
 | fuel+1,listed,a,w =>
  (Region.ready md ops listed=[]→Q .normal a w) ∧
  ∀ i ∈ Region.ready md ops listed,wpOpIn F n P ops Q i (fun a' w'=>SF L R (listed.setIfInBounds i true) w'∧wpAnyI F n P md ops Q L R fuel (listed.setIfInBounds i true) a' w') a w
theorem wpAnyIn_of_I:∀ (fuel:Nat) (listed:Array Bool) (a:Act) (w:World),wpAnyI F n P md ops Q L R fuel listed a w→wpAnyIn F n P md ops Q fuel listed a w
 | 0,_,_,_,h=>h
 | fuel+1,_,_,_,h=>⟨h.1,fun i hi=>wpOpIn_mono (fun a' w' h'=>wpAnyIn_of_I fuel _ a' w' h'.2) (h.2 i hi)⟩
def YieldsR (P:Program) (ops:Array Oper) (R:World→Prop) (o:Oper) (v:Value) (a:Act):Prop:=YieldsIf P ops R o v a∧∀ w,o.about P w a.eval=none
theorem YieldsR.of_same {o:Oper} {v:Value} {a a':Act} (hy:YieldsR P ops R o v a) (he:execOp a'.eval o=execOp a.eval o)
  (hw:Region.wanted o (yielded ops a'.tmps)=Region.wanted o (yielded ops a.tmps)) (hb:∀ w,o.about P w a'.eval=o.about P w a.eval):YieldsR P ops R o v a' :=
 ⟨hy.1.of_same he hw,fun w=>by rw [hb w];exact hy.2 w⟩
theorem YieldsR.wpOpIn {i:Nat} {o:Oper} {v:Value} {a:Act} (hnd:∀ c,o.op≠.defer c) (hi:ops[i]?=some o) (hy:YieldsR P ops R o v a)
  {K:Act→World→Prop} {w:World} (hR:R w) (h:K (a.put o.dst v) w):wpOpIn F n P ops Q i K a w:=by
 unfold Go.wpOpIn
 simp only [hi]
 have hab:∀ f,o.about P w a.eval=some f→F.fn f:=fun f hf=>by rw [hy.2 w] at hf;cases hf
 rcases hy.1 with ⟨hw,hv⟩|⟨hw,rfl⟩
 ·simp only [hw,if_true,Oper.wpIn,Oper.semAt_plain F _ _ hnd,hv w hR,Oper.uponIn];exact ⟨hab,h⟩
 ·simp only [hw,Bool.false_eq_true,if_false];exact ⟨hab,h⟩
theorem wpOpIn_putR {j:Nat} {oi oj:Oper} {v:Value} (hnd:∀ c,oj.op≠.defer c) (hj:ops[j]?=some oj) (hap:oi.apart ops oj=true)
  (hsi:∀ cs b,oi.op≠.select cs b) (hsj:∀ cs b,oj.op≠.select cs b)
  (hQ:∀ c a w,Q (.panic c) (a.put oi.dst v) w→Q (.panic c) a w) {K:Act→World→Prop} {a:Act} {w:World}
  (hy:YieldsR P ops R oi v a) (h:wpOpIn F n P ops Q j K (a.put oi.dst v) w) :
  wpOpIn F n P ops Q j (fun a' w'=>YieldsR P ops R oi v a'∧K (a'.put oi.dst v) w') a w:=by
 obtain ⟨h1,h2,h3⟩:=Oper.apart_spec hap
 have keep:∀ (a:Act),YieldsR P ops R oi v a→∀ u,YieldsR P ops R oi v (a.put oj.dst u):=fun a hy u =>
  hy.of_same (execOp_put oi hsi a oj.dst u h3) (wanted_put oi a oj.dst u h3) (fun w=>about_put oi w a oj.dst u h3)
 have keepD:∀ d,YieldsR P ops R oi v { a with defers:=d::a.defers }:=fun d=>hy.of_same rfl rfl (fun _=>rfl)
 unfold wpOpIn at *
 simp only [hj] at *
 rw [wanted_put oj a oi.dst v h1,about_put oj w a oi.dst v h1] at h
 split
 ·rename_i hw
  simp only [hw,if_true] at h
  unfold Oper.wpIn at *
  rw [about_put oj w a oi.dst v h1] at h
  refine ⟨h.1,?_⟩
  have h:=h.2
  rw [Oper.semAt_plain F _ _ hnd,execOp_put oj hsj a oi.dst v h1] at h
  rw [Oper.semAt_plain F _ _ hnd]
  generalize (execOp a.eval oj).run P w=r at *
  cases r with
  | ok x w' =>
   cases x<;>simp only [Oper.uponIn] at h ⊢
   case value u=>exact ⟨keep a hy u,by rw [← Act.put_comm a v u h2];exact h⟩
   case skip=>exact ⟨keep a hy _,by rw [← Act.put_comm a v undef h2];exact h⟩
   case defer d =>
    refine ⟨keep _ (keepD d) _,?_⟩
    rw [← Act.put_comm _ v undef h2,← Act.put_defers]
    exact h
   case enter f args =>
    refine ⟨h.1,CallsIn.mono h.2 fun e w'' he=>?_⟩
    cases e with
    | returned u=>exact ⟨keep a hy u,by rw [← Act.put_comm a v u h2];exact he⟩
    | panicked c=>exact hQ _ _ _ he
    | outgrown=>exact he
   case row row args=>exact ⟨h.1,RowsIn.mono h.2 fun u w'' he=>⟨keep a hy u,by rw [← Act.put_comm a v u h2];exact he⟩⟩
   case round l f tmps assign body =>
    refine ⟨h.1,RoundIn.mono h.2 fun e w'' he=>?_⟩
    cases e with
    | returned u=>exact ⟨keep a hy u,by rw [← Act.put_comm a v u h2];exact he⟩
    | panicked c=>exact hQ _ _ _ he
    | outgrown=>exact he
  | halt x w' =>
   cases x<;>simp only [Oper.uponIn] at h ⊢
   case panic u=>exact hQ _ _ _ h
 ·rename_i hw
  simp only [hw] at h
  exact ⟨h.1,keep a hy _,by rw [← Act.put_comm a v undef h2];exact h.2⟩
def NoDefer (ops:Array Oper):Prop:=∀ (j:Nat) (oj:Oper),ops[j]?=some oj→∀ c,oj.op≠Op.defer c
def isDefer:Op→Bool
 | .defer _=>true
 | _=>false
theorem noDefer_of (h:(ops.all fun o=>!isDefer o.op)=true):NoDefer ops:=by
 intro j oj hj c hc
 obtain ⟨hlt,rfl⟩:=Array.getElem?_eq_some_iff.1 hj
 have:=Array.all_eq_true.1 h j hlt
 rw [hc] at this
 cases this
theorem wpAnyI_first {i:Nat} {oi:Oper} {v:Value} (hi:ops[i]?=some oi) (hsel:∀ (j:Nat) (o:Oper) cs b,ops[j]?=some o→o.op≠.select cs b)
  (hQ:∀ c a w,Q (.panic c) (a.put oi.dst v) w→Q (.panic c) a w) (hiF:i ∉ L) (hnd:NoDefer ops) (hwt:∀ f ∈ L,Waits md ops i f) :
  ∀ (fuel:Nat) (listed:Array Bool) (a:Act) (w:World),Closed md ops listed →
   (∀ j oj,ops[j]?=some oj→j≠i→listed.getD j true=false→(∀ e ∈ oj.after,Region.binds md e=true→e.on≠i)→oi.apart ops oj=true) →
   i ∈ Region.ready md ops listed→YieldsR P ops R oi v a→SF L R listed w →
   wpAnyI F n P md ops Q L R fuel (listed.setIfInBounds i true) (a.put oi.dst v) w→wpAnyI F n P md ops Q L R (fuel+1) listed a w:=by
 have hund:∀ {listed:Array Bool},i ∈ Region.ready md ops listed→¬ listed.getD i false=true:=fun {listed} hr h=>by
  have h0:=(mem_ready.1 hr).1
  rcases Nat.lt_or_ge i listed.size with h'|h'
  ·simp [h'] at h0 h;rw [h0] at h;cases h
  ·simp [Array.getElem?_eq_none h'] at h
 have hR:∀ {listed:Array Bool} {w:World},Closed md ops listed→i ∈ Region.ready md ops listed→SF L R listed w→R w:=by
  intro listed w hcl hr hS
  rcases hS with ⟨f,hf,hl⟩|h
  ·exact absurd ((hwt f hf).listed hcl hl) (hund hr)
  ·exact h
 have hself:∀ {listed:Array Bool} {w:World},SF L R listed w→SF L R (listed.setIfInBounds i true) w:=by
  intro listed w hS
  refine hS.imp ?_ id
  rintro ⟨f,hf,hl⟩
  exact ⟨f,hf,getD_set_true hl⟩
 intro fuel
 induction fuel with
 | zero =>
  intro listed a w hcl _ hr hy hS H
  refine ⟨fun h=>(by rw [h] at hr;cases hr),fun j hj=>?_⟩
  by_cases hji:j=i
  ·subst hji;exact hy.wpOpIn (hnd _ _ hi) hi (hR hcl hr hS) ⟨hself hS,H⟩
  ·have:=ready_mono hj hji
   rw [H.1] at this
   cases this
 | succ fuel ih =>
  intro listed a w hcl hfree hr hy hS H
  refine ⟨fun h=>(by rw [h] at hr;cases hr),fun j hj=>?_⟩
  by_cases hji:j=i
  ·subst hji;exact hy.wpOpIn (hnd _ _ hi) hi (hR hcl hr hS) ⟨hself hS,H⟩
  ·have h1:=H.2 j (ready_mono hj hji)
   obtain ⟨hjun,oj,hoj,hall⟩:=mem_ready.1 hj
   have hnot:∀ e ∈ oj.after,Region.binds md e=true→e.on≠i:=fun e he hb heq=>by
    have h1:=hall e he hb
    have h0:=(mem_ready.1 hr).1
    rw [heq] at h1
    rcases Nat.lt_or_ge i listed.size with h'|h'
    ·simp [h'] at h0 h1;rw [h0] at h1;cases h1
    ·simp [Array.getElem?_eq_none h'] at h1
   have hjF:j ∉ L:=fun hjf=>hund hr ((hwt j hjf).ready hcl hj)
   have h2:=wpOpIn_putR (hnd _ _ hoj) hoj (hfree j oj hoj hji hjun hnot) (fun cs b=>hsel i oi cs b hi) (fun cs b=>hsel j oj cs b hoj) hQ hy h1
   have hfree':∀ k ok,ops[k]?=some ok→k≠i→(listed.setIfInBounds j true).getD k true=false →
     (∀ e ∈ ok.after,Region.binds md e=true→e.on≠i)→oi.apart ops ok=true:=fun k ok hk hki hun hno=>by
    refine hfree k ok hk hki ?_ hno
    by_cases hjk:j=k
    ·subst hjk;exact hjun
    ·rw [getD_set_ne true hjk] at hun;exact hun
   have hcl':=hcl.set hj
   refine wpOpIn_mono (fun a' w' h3=>⟨?_,ih (listed.setIfInBounds j true) a' w' hcl' hfree' (ready_mono hr (Ne.symm hji)) h3.1 ?_ ?_⟩) h2
   ·have:=h3.2.1
    rw [Array.setIfInBounds_comm _ _ (Ne.symm hji)] at this
    exact sF_set hiF this
   ·have:=h3.2.1
    rw [Array.setIfInBounds_comm _ _ (Ne.symm hji)] at this
    exact sF_set hiF this
   ·rw [Array.setIfInBounds_comm _ _ hji]
    exact h3.2.2
variable {listed:Array Bool} {a:Act} {w:World}
def wpE (F:Fence) (n:Nat) (P:Program) (md:Region.Mode) (ops:Array Oper) (Q:Exit→Act→World→Prop) (L:List Nat) (R:World→Prop) (fuel:Nat) (listed:Array Bool) (a:Act) (w:World):Prop:=Closed md ops listed→wpAnyI F n P md ops Q L R fuel listed a w
theorem region_I {id:Nat} (k:Nat) (M:Array Bool) (hm:P.follows .mixedOrders=true) (hn:ops.size=k) (hM:Array.replicate k false=M) (hQ:∀ c (a:Act) d v w,Q (.panic c) (a.put (some d) v) w→Q (.panic c) a w)
  (h:∀ Q':Exit→Act→World→Prop,(∀ c (a:Act) d v w,Q' (.panic c) (a.put (some d) v) w→Q' (.panic c) a w)→Shut (∀ a w,Q .normal a w→Q' .normal a w)→Shut (LetsOut Q→LetsOut Q')→wpE F n P .any ops Q' L R k M a w.drew) :
  (Code.region id ops true).wpIn F n P Q a w:=wpIn_region_any hm (by
 rw [hn,hM]
 refine wpAnyIn_of_I _ _ _ _ (h Q hQ (fun _ _ h=>h) (fun h=>h) ?_)
 intro f o ho hf
 rw [← hM] at hf
 simp only [Array.getD_eq_getD_getElem?] at hf
 by_cases hfn:f < k
 ·simp [hfn] at hf
 ·simp [hfn] at hf)
def NoPanic (Q:Exit→Act→World→Prop) (e:Exit) (a:Act) (w:World):Prop:=(∀ c,e≠.panic c)∧Q e a w
theorem region_J {id:Nat} (k:Nat) (M:Array Bool) (hm:P.follows .mixedOrders=true) (hn:ops.size=k) (hM:Array.replicate k false=M)
  (h:∀ Q':Exit→Act→World→Prop,(∀ c (a:Act) d v w,Q' (.panic c) (a.put (some d) v) w→Q' (.panic c) a w)→Shut (∀ a w,Q .normal a w→Q' .normal a w)→wpE F n P .any ops Q' L R k M a w.drew) :
  (Code.region id ops true).wpIn F n P Q a w :=
 Code.wpIn_mono (Q:=NoPanic Q) (fun e a w h=>h.2) (region_I (Q:=NoPanic Q) k M hm hn hM (fun c a d v w h=>absurd rfl (h.1 c)) (fun Q' hQ' hN _=>h Q' hQ' (fun a w hq=>hN.out a w ⟨(fun c hc=>by cases hc),hq⟩)))
theorem takeI (d:Nat) {i:Nat} {oi:Oper} {v:Value} {fuel:Nat} (hQ:∀ c (a:Act) d v w,Q (.panic c) (a.put (some d) v) w→Q (.panic c) a w) (hS:R w) (hi:ops[i]?=some oi) (hd:oi.dst=some d)
  (hs:Region.noSelect ops=true) (hf:Region.free md ops listed i=true) (hr:(Region.ready md ops listed).contains i=true)
  (hw:Region.wanted oi (yielded ops a.tmps)=true) {fw:Nat} (hk:(!L.contains i && L.all (waitsB md ops i fw) && ops.all fun o=>!isDefer o.op)=true) (hab:∀ w,oi.about P w a.eval=none) (hy:∀ w,R w→(execOp a.eval oi).run P w=.ok (.value v) w)
  (h:wpE F n P md ops Q L R fuel (listed.setIfInBounds i true) (a.put (some d) v) w):wpE F n P md ops Q L R (fuel+1) listed a w:=by
 simp only [Bool.and_eq_true,Bool.not_eq_true'] at hk
 obtain ⟨⟨hk1,hk2⟩,hk3⟩:=hk
 have hr':i ∈ Region.ready md ops listed:=by simpa using hr
 intro hc
 exact wpAnyI_first hi (Region.noSelect_spec hs) (fun c a w h=>putQ hQ c a w h) (by simpa using hk1) (noDefer_of (by simpa using hk3)) (fun f hf=>waits_of (List.all_eq_true.1 hk2 f hf)) fuel listed a w hc (Region.free_spec hi hf) hr' ⟨Or.inl ⟨hw,hy⟩,hab⟩ (.inr hS) (by rw [hd];exact h (hc.set hr'))
theorem tkI (d : Nat) {i : Nat} {oi : Oper} {v : Value} {fuel : Nat} (hQ : ∀ c (a : Act) d v w, Q (.panic c) (a.put (some d) v) w → Q (.panic c) a w) (hS : R w) (hi : ops[i]? = some oi) {fw : Nat}
 (hab : ∀ w, oi.about P w a.eval = none) (hy : ∀ w, R w → (execOp a.eval oi).run P w = .ok (.value v) w) (h : wpE F n P md ops Q L R fuel (listed.setIfInBounds i true) (a.put (some d) v) w) (hd : oi.dst = some d := by kernel_rfl)
 (hs : Region.noSelect ops = true := by kernel_rfl) (hf : Region.free md ops listed i = true := by kernel_rfl) (hr : (Region.ready md ops listed).contains i = true := by kernel_rfl)
 (hw : Region.wanted oi (yielded ops a.tmps) = true := by kernel_rfl) (hk : (!L.contains i && L.all (waitsB md ops i fw) && ops.all fun o => !isDefer o.op) = true := by kernel_rfl) : wpE F n P md ops Q L R (fuel + 1) listed a w :=
 takeI d hQ hS hi hd hs hf hr hw hk hab hy h
theorem skipI (d:Nat) {i:Nat} {oi:Oper} {fuel:Nat} (hQ:∀ c (a:Act) d v w,Q (.panic c) (a.put (some d) v) w→Q (.panic c) a w) (hS:R w) (hi:ops[i]?=some oi) (hd:oi.dst=some d)
  (hs:Region.noSelect ops=true) (hf:Region.free md ops listed i=true) (hr:(Region.ready md ops listed).contains i=true)
  (hw:Region.wanted oi (yielded ops a.tmps)=false) {fw:Nat} (hk:(!L.contains i && L.all (waitsB md ops i fw) && ops.all fun o=>!isDefer o.op)=true) (hab:∀ w,oi.about P w a.eval=none)
  (h:wpE F n P md ops Q L R fuel (listed.setIfInBounds i true) (a.put (some d) undef) w):wpE F n P md ops Q L R (fuel+1) listed a w:=by
 simp only [Bool.and_eq_true,Bool.not_eq_true'] at hk
 obtain ⟨⟨hk1,hk2⟩,hk3⟩:=hk
 have hr':i ∈ Region.ready md ops listed:=by simpa using hr
 intro hc
 exact wpAnyI_first hi (Region.noSelect_spec hs) (fun c a w h=>putQ hQ c a w h) (by simpa using hk1) (noDefer_of (by simpa using hk3)) (fun f hf=>waits_of (List.all_eq_true.1 hk2 f hf)) fuel listed a w hc (Region.free_spec hi hf) hr' ⟨Or.inr ⟨hw,rfl⟩,hab⟩ (.inr hS) (by rw [hd];exact h (hc.set hr'))
def AllReadyI (F:Fence) (n:Nat) (P:Program) (md:Region.Mode) (ops:Array Oper) (Q:Exit→Act→World→Prop) (L:List Nat) (R:World→Prop) (fuel:Nat) (listed:Array Bool) (a:Act) (w:World) (rs:List Nat):Prop :=
 ∀ i ∈ rs,i ∈ Region.ready md ops listed→Closed md ops listed→wpOpIn F n P ops Q i (fun a' w'=>SF L R (listed.setIfInBounds i true) w'∧wpAnyI F n P md ops Q L R fuel (listed.setIfInBounds i true) a' w') a w
theorem AllReadyI.nil {fuel:Nat}:AllReadyI F n P md ops Q L R fuel listed a w []:=fun _ h=>by cases h
theorem stepRI {i:Nat} {o:Oper} {rs:List Nat} {fuel:Nat} (ho:ops[i]?=some o) (hw:Region.wanted o (yielded ops a.tmps)=true)
  (h:∀ K':Act→World→Prop,Shut (∀ a w,R w→wpE F n P md ops Q L R fuel (listed.setIfInBounds i true) a w→K' a w)→Oper.wpIn F n P o a w K' Q)
  (hs:AllReadyI F n P md ops Q L R fuel listed a w rs):AllReadyI F n P md ops Q L R fuel listed a w (i::rs):=fun j hj hr hc=>by
 rcases List.mem_cons.1 hj with rfl|hj
 ·exact wpOpIn_step ho (fun K' hK=>by rw [if_pos hw];exact h K' (fun a w hR hW=>hK a w ⟨.inr hR,hW (hc.set hr)⟩))
 ·exact hs j hj hr hc
theorem stepFI {i:Nat} {o:Oper} {rs:List Nat} {fuel:Nat} (ho:ops[i]?=some o) (hw:Region.wanted o (yielded ops a.tmps)=true) (hF:(L.contains i && decide (i < listed.size))=true)
  (h:∀ K':Act→World→Prop,Shut (∀ a w,wpE F n P md ops Q L R fuel (listed.setIfInBounds i true) a w→K' a w)→Oper.wpIn F n P o a w K' Q)
  (hs:AllReadyI F n P md ops Q L R fuel listed a w rs):AllReadyI F n P md ops Q L R fuel listed a w (i::rs):=fun j hj hr hc=>by
 rcases List.mem_cons.1 hj with rfl|hj
 ·simp only [Bool.and_eq_true,decide_eq_true_eq] at hF
  refine wpOpIn_step ho (fun K' hK=>by rw [if_pos hw];exact h K' (fun a w hW=>hK a w ⟨.inl ⟨j,by simpa using hF.1,by simp [hF.2]⟩,hW (hc.set hr)⟩))
 ·exact hs j hj hr hc
theorem stepNI {i:Nat} {o:Oper} {rs:List Nat} {fuel:Nat} (ho:ops[i]?=some o) (hw:Region.wanted o (yielded ops a.tmps)=false) (hF:∀ f,F.fn f) (hR:R w)
  (h:wpE F n P md ops Q L R fuel (listed.setIfInBounds i true) (a.put o.dst undef) w)
  (hs:AllReadyI F n P md ops Q L R fuel listed a w rs):AllReadyI F n P md ops Q L R fuel listed a w (i::rs):=fun j hj hr hc=>by
 rcases List.mem_cons.1 hj with rfl|hj
 ·exact wpOpIn_step ho (fun K' hK=>by rw [if_neg (by rw [hw];exact Bool.false_ne_true)];exact ⟨fun f _=>hF f,hK _ _ ⟨.inr hR,h (hc.set hr)⟩⟩)
 ·exact hs j hj hr hc
theorem wpAnyI_ready {rs:List Nat} {fuel:Nat} (hr:Region.ready md ops listed=rs) (hne:rs≠[])
  (h:AllReadyI F n P md ops Q L R fuel listed a w rs):wpE F n P md ops Q L R (fuel+1) listed a w:=fun hc=>⟨fun h0=>absurd (hr ▸ h0) hne,fun i hi=>h i (hr ▸ hi) hi hc⟩
theorem wpAnyI_done (hr:Region.ready md ops listed=[]) (h:Q .normal a w):∀ fuel,wpE F n P md ops Q L R fuel listed a w
 | 0=>fun _=>⟨hr,h⟩
 | _+1=>fun _=>⟨fun _=>h,by rw [hr];simp⟩
end
end Go.Proofs.YteepphiomcedfaaGreatDoor
namespace Go.Proofs.YteepphiomcedfaaGreatDoor
open Go.RowKit Go.Shelf
attribute [local go_sem] Oper.semAt_some
def KpR (B b1:Nat) (W W':World):Prop:=Below B W W'∧W'.heap[b1]?=W.heap[b1]?
theorem KpR.t {B b1:Nat} {X Y Z:World} (h:KpR B b1 X Y) (k:KpR B b1 Y Z):KpR B b1 X Z:=⟨h.1.trans k.1,k.2.trans h.2⟩
theorem KpR.b {B b1 m:Nat} (h1:B≤m) (h2:b1 < m) (W:World) (l:Nat) (o o':Obj) (hl:m≤l) (_:W.heap[l]?=some o) (_:o.isCells=false) (_:o.isWalk=false):KpR B b1 W (W.putObj l o'):=by
 have hg:=grownBy_putObj' W l o'
 exact ⟨⟨hg.os,hg.tape,hg.output,hg.size,fun k hk=>World.putObj_heap_other (by omega)⟩,World.putObj_heap_other (by omega)⟩
def fst (n k:Nat):List (Fin n):=(List.finRange n).take k
theorem fst_zero (n:Nat):fst n 0=[]:=rfl
theorem fst_succ {n k:Nat} (h:k < n):fst n (k+1)=fst n k++[⟨k,h⟩]:=by
 unfold fst
 rw [List.take_succ_eq_append_getElem (by simpa using h)]
 simp
theorem fst_all (n:Nat):fst n n=List.finRange n:=List.take_of_length_le (by simp)
theorem fst_length {n k:Nat} (h:k≤n):(fst n k).length=k:=by simp [fst];omega
theorem fst_prefix (n k:Nat):fst n k <+: List.finRange n:=List.take_prefix _ _
def encS (l:Ring) (x:Fin l.length):Array Value:=#[.int .i64 x.1,aroundV (pv l x.1) (sd l x.1) (nx l x.1)]
theorem abides_below' {α:Type} {J:List α→World→Prop} {B:Nat} (hJ:AbidesFrom B J) {xs:List α} {W W':World} (h:J xs W) (hB:Below W.heap.size W W'):J xs W' :=
 hJ xs W W' none h ⟨hB.os,hB.tape,hB.output,hB.size,fun k hk _=>hB.block k hk⟩ (fun r e=>by cases e)
theorem SideAt.belowB {w w':World} {B b o:Nat} {s:Side} (h:SideAt w b o s) (hB:Below B w w') (hb:b < B):SideAt w' b o s:=by
 obtain ⟨h0,h1,h2,h3,h4,h5,h6⟩:=h
 exact ⟨(hB.cell (p:=⟨b,o,none⟩) hb).trans h0,(hB.cell (p:=⟨b,o+1,none⟩) hb).trans h1,(hB.cell (p:=⟨b,o+2,none⟩) hb).trans h2,(hB.cell (p:=⟨b,o+3,none⟩) hb).trans h3,(hB.cell (p:=⟨b,o+4,none⟩) hb).trans h4,(hB.cell (p:=⟨b,o+5,none⟩) hb).trans h5,(hB.cell (p:=⟨b,o+6,none⟩) hb).trans h6⟩
theorem psides_any (a:Option Addr) (n cap:Nat) (w:World) :
  Calls Tryz.prog 208 #[.slice a n cap] w fun e w'=>e=.returned (.func (.func 254) #[] #[.pointer (some ⟨w.heap.size,0,none⟩)])∧w'=w.alloc (.cells #[.slice a n cap] 66):=by
 have hmf:∀ (fn:Fn) (first cap:Array Value) (w:World),(Instr.makeFunc fn first cap).run Tryz.prog w=.ok (.func fn first cap) w:=fun _ _ _ _=>rfl
 go_enter Tryz.func208,Tryz.ntmps208
 go_wp2_with fail
 go_ret
 exact ⟨rfl,rfl⟩
theorem sides1_in (l:Ring) (n:Nat) (hn:1≤n) (lb b1 B b off cap:Nat) (J Jx:List (Fin l.length)→World→Prop) (hlen:l.length≤1000) (hl0:0 < l.length)
  (hY:∀ pre x W,J pre W→pre.length < l.length→YieldAt Fence.wide (n - 1) Tryz.prog lb (encS l x) W fun e W' =>
   (e=.returned (.bool true)∧J (pre++[x]) W'∧KpR B b1 W W')∨(e=.returned (.bool false)∧Jx (pre++[x]) W'))
  (W:World) (hJ:AbidesFrom W.heap.size J) (hbB:b < B) (c1:W.cell? ⟨b1,0,none⟩=some (.slice (some ⟨b,off,none⟩) l.length cap)) (hring:∀ k,k < l.length→SideAt W b (off+k * 7) (sd l k)) (h0:J [] W) :
  CallsIn Fence.wide n Tryz.prog 254 #[.func (.yield lb) #[] #[],.pointer (some ⟨b1,0,none⟩)] W fun e W'=>(∃ v,e=.returned v) ∧
   ((∃ ys,ys=List.finRange l.length∧J ys W')∨(∃ pre,pre <+: List.finRange l.length∧Jx pre W')):=by
 have HJ:=Lib.hid hJ
 have HY:=Lib.hid hY
 clear hJ hY
 refine callsIn_of_wp Tryz.func254 rfl trivial ?_ rfl
 simp only [Tryz.ntmps254,List.size_toArray,List.length_cons,List.length_nil,Nat.reduceAdd,Nat.reduceSub,Array.replicate_succ,Array.replicate_zero,List.push_toArray,List.append_toArray,List.nil_append,List.cons_append]
 gi_wp2
 gi_loopg [9] l.length (fun g v wr=>∃ k:Nat,k≤l.length∧g=l.length - k∧v=.int .i64 k∧Hid (J (fst l.length k) wr)∧wr.cell? ⟨b1,0,none⟩=some (.slice (some ⟨b,off,none⟩) l.length cap)∧Hid (∀ k,k < l.length→SideAt wr b (off+k * 7) (sd l k)))
 case atStart=>exact ⟨0,by omega,rfl,rfl,Lib.hid h0,c1,Lib.hid hring⟩
 case round =>
  obtain ⟨k,hk,rfl,rfl,hJk,k1,hRk⟩:=hrel
  by_cases hkn:k=l.length
  ·subst hkn
   gi_wp2
   go_end0
   exact ⟨⟨_,rfl⟩,.inl ⟨_,rfl,by have:=hJk.out;rw [fst_all] at this;exact this⟩⟩
  ·have hk1:k < l.length:=by omega
   have hp:=pvi_lt hk1
   have hx:=nxi_lt hk1
   have hm1:((k:Int)+(l.length:Int) - 1) % (l.length:Int)=((pvi l.length k:Nat):Int):=by
    unfold pvi
    rw [Int.natCast_emod,show ((k+l.length - 1:Nat):Int)=(k:Int)+(l.length:Int) - 1 by omega]
   have hm2:((k:Int)+1) % (l.length:Int)=((nxi l.length k:Nat):Int):=by simp [nxi]
   have hne:¬ l=[]:=fun h=>by rw [h] at hk1;simp at hk1
   have hw1:IntKind.i64.wrap ((k:Int)+(l.length:Int))=(k:Int)+(l.length:Int):=IntWalk.i64_in _ (by omega)
   have hw2:IntKind.i64.wrap ((k:Int)+(l.length:Int) - 1)=(k:Int)+(l.length:Int) - 1:=IntWalk.i64_in _ (by omega)
   have hw3:IntKind.i64.wrap ((k:Int)+1)=(k:Int)+1:=IntWalk.i64_in _ (by omega)
   have ht1:((k:Int)+(l.length:Int) - 1).tmod (l.length:Int)=((pvi l.length k:Nat):Int):=by rw [Int.tmod_eq_emod_of_nonneg (by omega)];exact hm1
   have ht2:((k:Int)+1).tmod (l.length:Int)=((nxi l.length k:Nat):Int):=by rw [Int.tmod_eq_emod_of_nonneg (by omega)];exact hm2
   have hRw:wr.drew.cell? ⟨b1,0,none⟩=some (.slice (some ⟨b,off,none⟩) l.length cap)∧SideAt wr.drew b (off+pvi l.length k * 7) (sd l (pvi l.length k))∧SideAt wr.drew b (off+k * 7) (sd l k)∧SideAt wr.drew b (off+nxi l.length k * 7) (sd l (nxi l.length k)):=⟨k1,hRk.out _ hp,hRk.out _ hk1,hRk.out _ hx⟩
   have hJd:Hid (J (fst l.length k) wr.drew):=Lib.hid (abides_below' HJ.out hJk.out (bw0 _ _).drew)
   have hRd:Hid (∀ k,k < l.length→SideAt wr.drew b (off+k * 7) (sd l k)):=Lib.hid (fun k hk=>(hRk.out k hk).below (bw0 _ _).drew)
   have hYk:=Lib.hid (fun W hW=>HY.out (fst l.length k) ⟨k,hk1⟩ W hW (by rw [fst_length hk];exact hk1))
   have HE:Hid (encS l ⟨k,hk1⟩=#[.int .i64 k,aroundV (sd l (pvi l.length k)) (sd l k) (sd l (nxi l.length k))]):=Lib.hid rfl
   have HFS:=Lib.hid (fst_succ hk1)
   gi_wp2
   clear hm1 hm2
   generalize sd l (pvi l.length k)=A at *
   generalize sd l (nxi l.length k)=C at *
   generalize sd l k=S at *
   generalize pvi l.length k=kp at *
   generalize nxi l.length k=kn at *
   refine region_I (L:=[23,24]) (R:=(fun w'=>w'.cell? ⟨b1,0,none⟩=some (.slice (some ⟨b,off,none⟩) l.length cap)∧SideAt w' b (off+kp * 7) A∧SideAt w' b (off+k * 7) S∧SideAt w' b (off+kn * 7) C)) 25 #[false,false,false,false,false,false,false,false,false,false,false,false,false,false,false,false,false,false,false,false,false,false,false,false,false] (by kernel_rfl) (by kernel_rfl) (by kernel_rfl) (fun _ _ _ _ _ h=>h) (fun Q' hQ' hN hLO=>?_)
   have hR:=hRw
   clear hRw k1 hRk hJk
   generalize wr.drew=wd at *
   refine tkI 12 (i:=0) (v:=?_) (fw:=12) hQ' hR rfl (fun _=>rfl) ?_ ?_;rotate_left;(focus (intro wq hRq;obtain ⟨q1,⟨ea0,ea1,ea2,ea3,ea4,ea5,ea6⟩,⟨eb0,eb1,eb2,eb3,eb4,eb5,eb6⟩,⟨ec0,ec1,ec2,ec3,ec4,ec5,ec6⟩⟩:=hRq;go_simp;(try with_reducible rfl)));(try simp only [Act.put,bw7,bw8,bw9])
   refine tkI 13 (i:=1) (v:=?_) (fw:=12) hQ' hR rfl (fun _=>rfl) ?_ ?_;rotate_left;(focus (intro wq hRq;obtain ⟨q1,⟨ea0,ea1,ea2,ea3,ea4,ea5,ea6⟩,⟨eb0,eb1,eb2,eb3,eb4,eb5,eb6⟩,⟨ec0,ec1,ec2,ec3,ec4,ec5,ec6⟩⟩:=hRq;go_simp;(try with_reducible rfl)));(try simp only [Act.put,bw7,bw8,bw9])
   refine tkI 14 (i:=2) (v:=?_) (fw:=12) hQ' hR rfl (fun _=>rfl) ?_ ?_;rotate_left;(focus (intro wq hRq;obtain ⟨q1,⟨ea0,ea1,ea2,ea3,ea4,ea5,ea6⟩,⟨eb0,eb1,eb2,eb3,eb4,eb5,eb6⟩,⟨ec0,ec1,ec2,ec3,ec4,ec5,ec6⟩⟩:=hRq;go_simp;(try with_reducible rfl)));(try simp only [Act.put,bw7,bw8,bw9])
   refine tkI 15 (i:=3) (v:=?_) (fw:=12) hQ' hR rfl (fun _=>rfl) ?_ ?_;rotate_left;(focus (intro wq hRq;obtain ⟨q1,⟨ea0,ea1,ea2,ea3,ea4,ea5,ea6⟩,⟨eb0,eb1,eb2,eb3,eb4,eb5,eb6⟩,⟨ec0,ec1,ec2,ec3,ec4,ec5,ec6⟩⟩:=hRq;go_simp;(try with_reducible rfl)));(try simp only [Act.put,bw7,bw8,bw9])
   refine tkI 16 (i:=4) (v:=?_) (fw:=12) hQ' hR rfl (fun _=>rfl) ?_ ?_;rotate_left;(focus (intro wq hRq;obtain ⟨q1,⟨ea0,ea1,ea2,ea3,ea4,ea5,ea6⟩,⟨eb0,eb1,eb2,eb3,eb4,eb5,eb6⟩,⟨ec0,ec1,ec2,ec3,ec4,ec5,ec6⟩⟩:=hRq;go_simp;(try with_reducible rfl)));(try simp only [Act.put,bw7,bw8,bw9])
   refine tkI 17 (i:=5) (v:=?_) (fw:=12) hQ' hR rfl (fun _=>rfl) ?_ ?_;rotate_left;(focus (intro wq hRq;obtain ⟨q1,⟨ea0,ea1,ea2,ea3,ea4,ea5,ea6⟩,⟨eb0,eb1,eb2,eb3,eb4,eb5,eb6⟩,⟨ec0,ec1,ec2,ec3,ec4,ec5,ec6⟩⟩:=hRq;go_simp;(try with_reducible rfl)));(try simp only [Act.put,bw7,bw8,bw9])
   refine tkI 18 (i:=6) (v:=?_) (fw:=12) hQ' hR rfl (fun _=>rfl) ?_ ?_;rotate_left;(focus (intro wq hRq;obtain ⟨q1,⟨ea0,ea1,ea2,ea3,ea4,ea5,ea6⟩,⟨eb0,eb1,eb2,eb3,eb4,eb5,eb6⟩,⟨ec0,ec1,ec2,ec3,ec4,ec5,ec6⟩⟩:=hRq;go_simp;(try with_reducible rfl)));(try simp only [Act.put,bw7,bw8,bw9])
   refine tkI 19 (i:=7) (v:=?_) (fw:=12) hQ' hR rfl (fun _=>rfl) ?_ ?_;rotate_left;(focus (intro wq hRq;obtain ⟨q1,⟨ea0,ea1,ea2,ea3,ea4,ea5,ea6⟩,⟨eb0,eb1,eb2,eb3,eb4,eb5,eb6⟩,⟨ec0,ec1,ec2,ec3,ec4,ec5,ec6⟩⟩:=hRq;go_simp;(try with_reducible rfl)));(try simp only [Act.put,bw7,bw8,bw9])
   refine tkI 20 (i:=8) (v:=?_) (fw:=12) hQ' hR rfl (fun _=>rfl) ?_ ?_;rotate_left;(focus (intro wq hRq;obtain ⟨q1,⟨ea0,ea1,ea2,ea3,ea4,ea5,ea6⟩,⟨eb0,eb1,eb2,eb3,eb4,eb5,eb6⟩,⟨ec0,ec1,ec2,ec3,ec4,ec5,ec6⟩⟩:=hRq;go_simp;(try with_reducible rfl)));(try simp only [Act.put,bw7,bw8,bw9])
   refine tkI 21 (i:=9) (v:=?_) (fw:=12) hQ' hR rfl (fun _=>rfl) ?_ ?_;rotate_left;(focus (intro wq hRq;obtain ⟨q1,⟨ea0,ea1,ea2,ea3,ea4,ea5,ea6⟩,⟨eb0,eb1,eb2,eb3,eb4,eb5,eb6⟩,⟨ec0,ec1,ec2,ec3,ec4,ec5,ec6⟩⟩:=hRq;go_simp;(try with_reducible rfl)));(try simp only [Act.put,bw7,bw8,bw9])
   refine tkI 22 (i:=10) (v:=?_) (fw:=12) hQ' hR rfl (fun _=>rfl) ?_ ?_;rotate_left;(focus (intro wq hRq;obtain ⟨q1,⟨ea0,ea1,ea2,ea3,ea4,ea5,ea6⟩,⟨eb0,eb1,eb2,eb3,eb4,eb5,eb6⟩,⟨ec0,ec1,ec2,ec3,ec4,ec5,ec6⟩⟩:=hRq;go_simp;(try with_reducible rfl)));(try simp only [Act.put,bw7,bw8,bw9])
   refine tkI 23 (i:=11) (v:=?_) (fw:=12) hQ' hR rfl (fun _=>rfl) ?_ ?_;rotate_left;(focus (intro wq hRq;obtain ⟨q1,⟨ea0,ea1,ea2,ea3,ea4,ea5,ea6⟩,⟨eb0,eb1,eb2,eb3,eb4,eb5,eb6⟩,⟨ec0,ec1,ec2,ec3,ec4,ec5,ec6⟩⟩:=hRq;go_simp;(try with_reducible rfl)));(try simp only [Act.put,bw7,bw8,bw9])
   refine tkI 24 (i:=12) (v:=?_) (fw:=12) hQ' hR rfl (fun _=>rfl) ?_ ?_;rotate_left;(focus (intro wq hRq;obtain ⟨q1,⟨ea0,ea1,ea2,ea3,ea4,ea5,ea6⟩,⟨eb0,eb1,eb2,eb3,eb4,eb5,eb6⟩,⟨ec0,ec1,ec2,ec3,ec4,ec5,ec6⟩⟩:=hRq;go_simp;(try with_reducible rfl)));(try simp only [Act.put,bw7,bw8,bw9])
   refine tkI 25 (i:=13) (v:=?_) (fw:=12) hQ' hR rfl (fun _=>rfl) ?_ ?_;rotate_left;(focus (intro wq hRq;obtain ⟨q1,⟨ea0,ea1,ea2,ea3,ea4,ea5,ea6⟩,⟨eb0,eb1,eb2,eb3,eb4,eb5,eb6⟩,⟨ec0,ec1,ec2,ec3,ec4,ec5,ec6⟩⟩:=hRq;go_simp;(try with_reducible rfl)));(try simp only [Act.put,bw7,bw8,bw9])
   refine tkI 26 (i:=14) (v:=?_) (fw:=12) hQ' hR rfl (fun _=>rfl) ?_ ?_;rotate_left;(focus (intro wq hRq;obtain ⟨q1,⟨ea0,ea1,ea2,ea3,ea4,ea5,ea6⟩,⟨eb0,eb1,eb2,eb3,eb4,eb5,eb6⟩,⟨ec0,ec1,ec2,ec3,ec4,ec5,ec6⟩⟩:=hRq;go_simp;(try with_reducible rfl)));(try simp only [Act.put,bw7,bw8,bw9])
   refine tkI 27 (i:=15) (v:=?_) (fw:=12) hQ' hR rfl (fun _=>rfl) ?_ ?_;rotate_left;(focus (intro wq hRq;obtain ⟨q1,⟨ea0,ea1,ea2,ea3,ea4,ea5,ea6⟩,⟨eb0,eb1,eb2,eb3,eb4,eb5,eb6⟩,⟨ec0,ec1,ec2,ec3,ec4,ec5,ec6⟩⟩:=hRq;go_simp;(try with_reducible rfl)));(try simp only [Act.put,bw7,bw8,bw9])
   refine tkI 28 (i:=16) (v:=?_) (fw:=12) hQ' hR rfl (fun _=>rfl) ?_ ?_;rotate_left;(focus (intro wq hRq;obtain ⟨q1,⟨ea0,ea1,ea2,ea3,ea4,ea5,ea6⟩,⟨eb0,eb1,eb2,eb3,eb4,eb5,eb6⟩,⟨ec0,ec1,ec2,ec3,ec4,ec5,ec6⟩⟩:=hRq;go_simp;(try with_reducible rfl)));(try simp only [Act.put,bw7,bw8,bw9])
   refine tkI 29 (i:=17) (v:=?_) (fw:=12) hQ' hR rfl (fun _=>rfl) ?_ ?_;rotate_left;(focus (intro wq hRq;obtain ⟨q1,⟨ea0,ea1,ea2,ea3,ea4,ea5,ea6⟩,⟨eb0,eb1,eb2,eb3,eb4,eb5,eb6⟩,⟨ec0,ec1,ec2,ec3,ec4,ec5,ec6⟩⟩:=hRq;go_simp;(try with_reducible rfl)));(try simp only [Act.put,bw7,bw8,bw9])
   refine tkI 30 (i:=18) (v:=?_) (fw:=12) hQ' hR rfl (fun _=>rfl) ?_ ?_;rotate_left;(focus (intro wq hRq;obtain ⟨q1,⟨ea0,ea1,ea2,ea3,ea4,ea5,ea6⟩,⟨eb0,eb1,eb2,eb3,eb4,eb5,eb6⟩,⟨ec0,ec1,ec2,ec3,ec4,ec5,ec6⟩⟩:=hRq;go_simp;(try with_reducible rfl)));(try simp only [Act.put,bw7,bw8,bw9])
   refine tkI 31 (i:=19) (v:=?_) (fw:=12) hQ' hR rfl (fun _=>rfl) ?_ ?_;rotate_left;(focus (intro wq hRq;obtain ⟨q1,⟨ea0,ea1,ea2,ea3,ea4,ea5,ea6⟩,⟨eb0,eb1,eb2,eb3,eb4,eb5,eb6⟩,⟨ec0,ec1,ec2,ec3,ec4,ec5,ec6⟩⟩:=hRq;go_simp;(try with_reducible rfl)));(try simp only [Act.put,bw7,bw8,bw9])
   refine tkI 32 (i:=20) (v:=?_) (fw:=12) hQ' hR rfl (fun _=>rfl) ?_ ?_;rotate_left;(focus (intro wq hRq;obtain ⟨q1,⟨ea0,ea1,ea2,ea3,ea4,ea5,ea6⟩,⟨eb0,eb1,eb2,eb3,eb4,eb5,eb6⟩,⟨ec0,ec1,ec2,ec3,ec4,ec5,ec6⟩⟩:=hRq;go_simp;(try with_reducible rfl)));(try simp only [Act.put,bw7,bw8,bw9])
   refine tkI 33 (i:=21) (v:=?_) (fw:=12) hQ' hR rfl (fun _=>rfl) ?_ ?_;rotate_left;(focus (intro wq hRq;obtain ⟨q1,⟨ea0,ea1,ea2,ea3,ea4,ea5,ea6⟩,⟨eb0,eb1,eb2,eb3,eb4,eb5,eb6⟩,⟨ec0,ec1,ec2,ec3,ec4,ec5,ec6⟩⟩:=hRq;go_simp;(try with_reducible rfl)));(try simp only [Act.put,bw7,bw8,bw9])
   refine tkI 34 (i:=22) (v:=?_) (fw:=12) hQ' hR rfl (fun _=>rfl) ?_ ?_;rotate_left;(focus (intro wq hRq;obtain ⟨q1,⟨ea0,ea1,ea2,ea3,ea4,ea5,ea6⟩,⟨eb0,eb1,eb2,eb3,eb4,eb5,eb6⟩,⟨ec0,ec1,ec2,ec3,ec4,ec5,ec6⟩⟩:=hRq;go_simp;(try with_reducible rfl)));(try simp only [Act.put,bw7,bw8,bw9])
   refine wpAnyI_ready (rs:=[23]) (by kernel_rfl) (by simp) ?_
   refine stepFI (i:=23) rfl (by kernel_rfl) (by kernel_rfl) (fun K hK=>?_) (AllReadyI.nil)
   obtain ⟨fn,tmps,assign,body,hy,hR2⟩:=hYk.out _ hJd.out
   rw [HE.out] at hy
   unfold aroundV at hy
   go_simp
   refine hR2.mono ?_
   rintro e W3 (⟨rfl,hJ3,hk3⟩|⟨rfl,hJx3⟩)
   ·refine hK.out _ _ ?_
    clear hK K
    (try simp only [Act.put,bw7,bw8,bw9])
    refine wpAnyI_ready (rs:=[24]) (by kernel_rfl) (by simp) ?_
    refine stepFI (i:=24) rfl (by kernel_rfl) (by kernel_rfl) (fun K hK=>?_) AllReadyI.nil
    go_simp
    refine hK.out _ _ ?_
    clear hK K
    (try simp only [Act.put,bw7,bw8,bw9])
    refine wpAnyI_done (by kernel_rfl) ?_ _
    refine hN.out _ _ ?_
    have k13:W3.cell? ⟨b1,0,none⟩=some (.slice (some ⟨b,off,none⟩) l.length cap):=(World.cell?_of_block hk3.2).trans hR.1
    have hR3:Hid (∀ k,k < l.length→SideAt W3 b (off+k * 7) (sd l k)):=Lib.hid (fun k hk=>(hRd.out k hk).belowB hk3.1 hbB)
    have hJ3':=Lib.hid hJ3
    clear hJ3 hk3 hR hRd hy
    gi_wp2
    gi_roundg (l.length - (k+1))
    case rel=>exact ⟨k+1,hk1,rfl,by go_num,Lib.hid (by rw [HFS.out];exact hJ3'.out),k13,hR3⟩
    case measure=>omega
   ·refine hK.out _ _ ?_
    clear hK K
    (try simp only [Act.put,bw7,bw8,bw9])
    refine wpAnyI_ready (rs:=[24]) (by kernel_rfl) (by simp) ?_
    refine stepFI (i:=24) rfl (by kernel_rfl) (by kernel_rfl) (fun K hK=>?_) AllReadyI.nil
    go_simp
    refine hK.out _ _ ?_
    clear hK K
    (try simp only [Act.put,bw7,bw8,bw9])
    refine wpAnyI_done (by kernel_rfl) ?_ _
    refine hN.out _ _ ?_
    clear hR hRd hy
    gi_wp2
    refine bodyPost_ret (results_none rfl _ _ _) rfl ?_
    exact ⟨⟨_,rfl⟩,.inr ⟨_,by rw [← HFS.out];exact fst_prefix _ _,hJx3⟩⟩
theorem sides_stops (l:Ring) (n:Nat) (hn:1≤n) (b1 B b off cap:Nat) (hlen:l.length≤1000) (hl0:0 < l.length) (w:World) (hbB:b < B) (hB1:B≤w.heap.size)
  (c1:w.cell? ⟨b1,0,none⟩=some (.slice (some ⟨b,off,none⟩) l.length cap)) (hring:∀ k,k < l.length→SideAt w b (off+k * 7) (sd l k)) :
  SeqStopsK Fence.wide n Tryz.prog 254 #[.pointer (some ⟨b1,0,none⟩)] (encS l) (KpR B b1) (fun ys=>ys=List.finRange l.length) (fun pre=>pre <+: List.finRange l.length) l.length w:=fun lb J Jx W hW hJ _ hY h0 =>
 sides1_in l n hn lb b1 B b off cap J Jx hlen hl0 hY W hJ hbB (keep hW c1) (fun k hk=>(hring k hk).below hW) h0
end Go.Proofs.YteepphiomcedfaaGreatDoor
namespace Go.Proofs.YteepphiomcedfaaGreatDoor
open Go.RowKit Go.Shelf
def BoxA (W:World) (b:Nat) (A B C:Side):Prop:=W.heap[b]?=some (.cells #[.int .i64 A.x,.int .i64 A.y,.int .i64 A.rise,.int .i64 A.run,.bool A.gable,.int .i64 A.plate,.int .i64 A.over,.int .i64 B.x,.int .i64 B.y,.int .i64 B.rise,.int .i64 B.run,.bool B.gable,.int .i64 B.plate,.int .i64 B.over,.int .i64 C.x,.int .i64 C.y,.int .i64 C.rise,.int .i64 C.run,.bool C.gable,.int .i64 C.plate,.int .i64 C.over] 207 (0,0))
theorem BoxA.lt {W:World} {b:Nat} {A B C:Side} (h:BoxA W b A B C):b < W.heap.size:=(Array.getElem?_eq_some_iff.1 h).1
theorem BoxA.at {W:World} {b:Nat} {A B C:Side} (h:BoxA W b A B C):AroundAt W b A B C:=by
 have key:∀ o,W.cell? ⟨b,o,none⟩=(#[Value.int .i64 A.x,.int .i64 A.y,.int .i64 A.rise,.int .i64 A.run,.bool A.gable,.int .i64 A.plate,.int .i64 A.over,.int .i64 B.x,.int .i64 B.y,.int .i64 B.rise,.int .i64 B.run,.bool B.gable,.int .i64 B.plate,.int .i64 B.over,.int .i64 C.x,.int .i64 C.y,.int .i64 C.rise,.int .i64 C.run,.bool C.gable,.int .i64 C.plate,.int .i64 C.over])[o]?:=by
  intro o
  simp only [World.cell?,show W.heap[b]?=_ from h]
  rfl
 unfold AroundAt
 simp only [key]
 exact ⟨rfl,rfl,rfl,rfl,rfl,rfl,rfl,rfl,rfl,rfl,rfl,rfl,rfl,rfl,rfl,rfl,rfl,rfl,rfl,rfl,rfl⟩
theorem BoxA.below {w w':World} {b:Nat} {A B C:Side} (h:BoxA w b A B C) (hB:Below w.heap.size w w'):BoxA w' b A B C:=(hB.block b h.lt).trans h
def aroundArr (A B C:Side):Array Value:=#[.int .i64 A.x,.int .i64 A.y,.int .i64 A.rise,.int .i64 A.run,.bool A.gable,.int .i64 A.plate,.int .i64 A.over,.int .i64 B.x,.int .i64 B.y,.int .i64 B.rise,.int .i64 B.run,.bool B.gable,.int .i64 B.plate,.int .i64 B.over,.int .i64 C.x,.int .i64 C.y,.int .i64 C.rise,.int .i64 C.run,.bool C.gable,.int .i64 C.plate,.int .i64 C.over]
theorem Tryz.infoAround:(Tryz.prog.info? 207).map (·.size)=some 21:=by kernel_rfl
theorem wpListIn_store21 {F:Fence} {n:Nat} {ops:Array Oper} {rest:List Oper} {o:Oper} {a:Act} {Q:Exit→Act→World→Prop} (hg:o.guard=none) (p x:Operand) (ho:o.op=.store 207 p x) (w:World) (c:Array Value) (hcs:c.size=21) (A B C:Side)
  (hp:a.eval p=.pointer (some ⟨w.heap.size,0,none⟩)) (hx:a.eval x=aroundV A B C) (h:wpListIn F n Tryz.prog ops Q rest (a.put o.dst undef) (w.alloc (.cells (aroundArr A B C) 207))) :
  wpListIn F n Tryz.prog ops Q (o::rest) a (w.alloc (.cells c 207)):=by
 refine wpListIn_plain hg fun K hK=>?_
 have hrun:=run_storeAt_new (P:=Tryz.prog) w 207 c (aroundArr A B C) Tryz.infoAround (by rw [hcs];rfl) (by simp [aroundArr,Value.oneCell'])
 unfold Oper.wpIn
 refine ⟨by simp [Oper.about,ho],?_⟩
 rw [Oper.semAt_plain F _ _ (by rw [ho];intro c hc';cases hc')]
 have he:(execOp a.eval o).run Tryz.prog (w.alloc (.cells c 207))=.ok .skip (w.alloc (.cells (aroundArr A B C) 207)):=by
  unfold execOp
  rw [ho]
  simp only [hp,hx,Sem.run_bind]
  have e:aroundV A B C=.agg (aroundArr A B C):=rfl
  rw [e,hrun]
  rfl
 rw [he]
 exact hK _ _ h
theorem wpListIn_load21 {F:Fence} {n:Nat} {ops:Array Oper} {rest:List Oper} {o:Oper} {a:Act} {Q:Exit→Act→World→Prop} (hg:o.guard=none) (p:Operand) (ho:o.op=.load 207 p) {w:World} {b:Nat} {A B C:Side} (hA:AroundAt w b A B C)
  (hp:a.eval p=.pointer (some ⟨b,0,none⟩)) (h:wpListIn F n Tryz.prog ops Q rest (a.put o.dst (aroundV A B C)) w) :
  wpListIn F n Tryz.prog ops Q (o::rest) a w:=by
 refine wpListIn_plain hg fun K hK=>?_
 unfold Oper.wpIn
 refine ⟨by simp [Oper.about,ho],?_⟩
 rw [Oper.semAt_plain F _ _ (by rw [ho];intro c hc';cases hc'),run_load21 ho hp hA]
 exact hK _ _ h
theorem field_spot0 (x y:Int) (w:World):(Instr.field 216 (.agg #[.int .i64 x,.int .i64 y]) 0).run Tryz.prog w=.ok (.int .i64 x) w:=by
 have hu:=run_underlying Tryz.underlying216
 have hz:=Tryz.sizeOf3
 have ha:=Tryz.isAgg3
 simp [Instr.field,hu,part,asAgg,hz,ha]
theorem boxA_new {X:World} {A B C:Side}:BoxA (X.alloc (.cells (aroundArr A B C) 207)) X.heap.size A B C:=heap_alloc_last X _
theorem cells_own {β:Type} {m b:Nat} {o:Obj} (ho:o.isCells=true):OwnFrom m (fun (_:β) W=>W.heap[b]?=some o):=fun s W W' row hs hg hr=>by
 refine (hg.block b (Array.getElem?_eq_some_iff.1 hs).1 ?_).trans hs
 intro e
 obtain ⟨_,o',ho',hc⟩:=hr b e.symm
 rw [hs] at ho'
 cases ho'
 rw [ho] at hc
 cases hc
theorem boxA_own {β:Type} {m b:Nat} {A B C:Side}:OwnFrom m (fun (_:β) W=>BoxA W b A B C):=cells_own rfl
structure TurnBut (b:Nat) (W W':World):Prop where
 os:W'.os=W.os
 tape:W'.tape=W.tape
 output:W'.output=W.output
 size:W.heap.size≤W'.heap.size
 block:∀ k,k < W.heap.size→k≠b→W'.heap[k]?=W.heap[k]?
theorem TurnBut.of_below {b:Nat} {W W':World} (h:Below W.heap.size W W'):TurnBut b W W':=⟨h.os,h.tape,h.output,h.size,fun k hk _=>h.block k hk⟩
theorem TurnBut.but {b:Nat} {W X Y:World} (h:TurnBut b W X) (hs:SameBut b X Y):TurnBut b W Y:=⟨hs.os.trans h.os,hs.tape.trans h.tape,hs.output.trans h.output,by rw [hs.size];exact h.size,fun k hk hne=>(hs.block k hne).trans (h.block k hk hne)⟩
theorem TurnBut.below' {b:Nat} {W X Y:World} (h:TurnBut b W X) (hB:Below X.heap.size X Y):TurnBut b W Y:=⟨hB.os.trans h.os,hB.tape.trans h.tape,hB.output.trans h.output,Nat.le_trans h.size hB.size,fun k hk hne=>(hB.block k (Nat.lt_of_lt_of_le hk h.size)).trans (h.block k hk hne)⟩
theorem TurnBut.keepsFrom {b m:Nat} {W W':World} (h:TurnBut b W W') {o:Obj} (hb:W.heap[b]?=some o) (ho:o.isCells=true):KeepsFrom m W W':=⟨h.size,fun k o' _ hk hc=>by
 have hlt:=(Array.getElem?_eq_some_iff.1 hk).1
 refine (h.block k hlt ?_).trans hk
 intro e
 subst e
 rw [hb] at hk;cases hk
 rw [ho] at hc;cases hc⟩
theorem TurnBut.kpR {b B b1:Nat} {W W':World} (h:TurnBut b W W') (hB:B≤b) (hBW:B≤W.heap.size) (h1:b1 < W.heap.size) (hne:b1≠b):KpR B b1 W W' :=
 ⟨⟨h.os,h.tape,h.output,h.size,fun k hk=>h.block k (by omega) (by omega)⟩,h.block b1 h1 hne⟩
theorem TurnBut.below {b B:Nat} {w W W':World} (h:TurnBut b W W') (hB:Below B w W) (hb:B≤b) (hBW:B≤W.heap.size):Below B w W':=hB.trans ⟨h.os,h.tape,h.output,h.size,fun k hk=>h.block k (by omega) (by omega)⟩
theorem after_set1 {K:Act→World→Prop} {a:Act} {w:World} {b:Nat} {t:TypeId} {v v':Value} (hx:Boxed w b t v) (h:∀ W,SameBut b w W→Boxed W b t v'→K a W):K a (w.setCell ⟨b,0,none⟩ v') :=
 h _ (sameBut_setCell _ _ _ _) (hx.set v')
theorem boxed_below {w w':World} {b:Nat} {t:TypeId} {v:Value} (h:Boxed w b t v) (hB:Below w.heap.size w w'):Boxed w' b t v:=(hB.block b h.lt).trans h
def sumOver (l:Ring) (xs:List (Fin l.length)):Int:=(xs.map fun x=>cro (sd l x.1) (nx l x.1)).sum
theorem sumOver_snoc (l:Ring) (xs:List (Fin l.length)) (x:Fin l.length):sumOver l (xs++[x])=sumOver l xs+cro (sd l x.1) (nx l x.1):=by simp [sumOver]
theorem sumOver_fst (l:Ring):∀ k,k≤l.length→sumOver l (fst l.length k)=twiceTo l k:=by
 intro k
 induction k with
 | zero=>intro _;rfl
 | succ k ih=>intro hk;rw [fst_succ hk,sumOver_snoc,ih (by omega)];rfl
theorem sumOver_bds {l:Ring} (h:RRing l):∀ xs,-4294967296 * (xs.length:Int)≤sumOver l xs∧sumOver l xs≤4294967296 * (xs.length:Int):=by
 intro xs
 induction xs with
 | nil=>simp [sumOver]
 | cons x xs ih =>
  have e:sumOver l (x::xs)=cro (sd l x.1) (nx l x.1)+sumOver l xs:=by simp [sumOver]
  have:=cro_bds (h x.1 x.2) (h (nxi l.length x.1) (nxi_lt x.2))
  rw [show sd l (nxi l.length x.1)=nx l x.1 from rfl] at this
  rw [e,List.length_cons]
  push_cast
  omega
def insOver (l:Ring) (x y:Int) (xs:List (Fin l.length)):Bool:=xs.foldl (fun o i=>if Hit l x y i.1 then !o else o) false
theorem insOver_hit {l:Ring} {x y:Int} (xs:List (Fin l.length)) (i:Fin l.length) (h:Hit l x y i.1):insOver l x y (xs++[i])=!insOver l x y xs:=by simp [insOver,h]
theorem insOver_not {l:Ring} {x y:Int} (xs:List (Fin l.length)) (i:Fin l.length) (h:¬ Hit l x y i.1):insOver l x y (xs++[i])=insOver l x y xs:=by simp [insOver,h]
theorem insOver_fst (l:Ring) (x y:Int):∀ k,k≤l.length→insOver l x y (fst l.length k)=insTo l x y k:=by
 intro k
 induction k with
 | zero=>intro _;rfl
 | succ k ih =>
  intro hk
  rw [fst_succ hk]
  by_cases h:Hit l x y k
  ·rw [insOver_hit _ _ h,insTo_hit h,ih (by omega)]
  ·rw [insOver_not _ _ h,insTo_not h,ih (by omega)]
end Go.Proofs.YteepphiomcedfaaGreatDoor
