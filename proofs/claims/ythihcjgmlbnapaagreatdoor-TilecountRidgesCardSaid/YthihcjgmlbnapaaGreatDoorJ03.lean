/- Joined texts: WRight, WArea, WTile1, WTile2, WTile3, WBegin, WOffsets. -/
import Derived.Test.YthihcjgmlbnapaaGreatDoorJ02
import Derived.BigQuiet
import Derived.RangeFuncNested
import Derived.RangeFuncBound
import Derived.RangeFuncCalls
import Derived.RangeFuncLeaves
import Derived.Shelf.Abstract
import Derived.Shelf.RegionOpen
import Derived.OwnWalkIn
import Derived.TacticsInMore
import Derived.LoopNIn
import Derived.LoopIn
import Derived.Sort.LoopGhostIn
import Derived.Maps.AppendAt
set_option maxRecDepth 100000
set_option linter.unusedVariables false
set_option linter.unusedSimpArgs false
set_option maxHeartbeats 12800000
namespace Go.Proofs.YthihcjgmlbnapaaGreatDoor
open Go.RowKit
attribute [local go_sem ↓] Go.wp_at_zero Go.wp_at_succ
def IsSpans (w:World) (v:Value) (sp:List (Rat × Rat)):Prop:=∃ (a:Option Addr) (cap:Nat),v=.slice a sp.length cap∧sp.length≤cap ∧
 (sp≠[]→∃ b off,a=some ⟨b,off,none⟩∧b < w.heap.size∧∀ k (h:k < sp.length),∃ s t:ByteArray,w.cell? ⟨b,off+k * 2,none⟩=some (.string s)∧w.cell? ⟨b,off+k * 2+1,none⟩=some (.string t)∧s.data.toList=ratText sp[k].1∧t.data.toList=ratText sp[k].2)
theorem IsSpans.below {w w':World} {v:Value} {sp:List (Rat × Rat)} (h:IsSpans w v sp) (hB:Below w.heap.size w w'):IsSpans w' v sp:=by
 obtain ⟨a,cap,h1,h2,h3⟩:=h
 refine ⟨a,cap,h1,h2,fun hn=>?_⟩
 obtain ⟨b,off,e,hb,hc⟩:=h3 hn
 refine ⟨b,off,e,Nat.lt_of_lt_of_le hb hB.size,fun k hk=>?_⟩
 obtain ⟨s,t,c1,c2,c3,c4⟩:=hc k hk
 exact ⟨s,t,(hB.cell (p:=⟨b,_,none⟩) hb).trans c1,(hB.cell (p:=⟨b,_,none⟩) hb).trans c2,c3,c4⟩
def RightSpans (sp:List (Rat × Rat)):Prop:=(∀ k (h:k < sp.length),Small sp[k].1∧Small sp[k].2∧sp[k].1 < sp[k].2)∧(∀ k (h:k+1 < sp.length),sp[k].2 < sp[k+1].1)
theorem ordQ_lt {p q:Rat} (h:p < q):ordQ p q=-1:=if_pos h
theorem order_lt {p q:Rat} (s t:ByteArray) (w:World) (hs:s.data.toList=ratText p) (hp:Small p) (ht:t.data.toList=ratText q) (hq:Small q) (h:ordQ p q=-1) :
  Calls Tryz.prog 209 #[.string s,.string t] w (RetB (.int .i64 (-1)) w):=by
 rw [← h]
 exact order_small s t w hs hp ht hq
theorem right_one {lo hi:Rat} {sp:List (Rat × Rat)} (b0 o0 cap0:Nat) (s t:ByteArray) (v:Value) (w:World) (hG:Glo w)
  (c0:w.cell? ⟨b0,o0,none⟩=some (.string s)) (c1:w.cell? ⟨b0,o0+1,none⟩=some (.string t)) (c2:w.cell? ⟨b0,o0+2,none⟩=some v)
  (hs:s.data.toList=ratText lo) (ht:t.data.toList=ratText hi) (hlo:Small lo) (hhi:Small hi) (hlt:lo < hi)
  (hv:IsSpans w v sp) (hr:RightSpans sp) (hn:sp.length≤64) :
  Calls Tryz.prog 179 #[.slice (some ⟨b0,o0,none⟩) 1 cap0] w (RetB (.bool true) w):=by
 obtain ⟨a,cap,rfl,hcap,hcells⟩:=hv
 have HS:=Lib.hid hs
 have HT:=Lib.hid ht
 have HG:=Lib.hid hG
 have HC:=Lib.hid hcells
 have HR:=Lib.hid hr
 have ho1:=ordQ_lt hlt
 clear hs ht hG hcells hr
 go_enter Tryz.func179,Tryz.ntmps179
 go_wp2_with fail
 go_loopw [12] (fun i wr=>∃ k:Nat,k≤1∧i=.int .i64 k∧Below w.heap.size w wr) (fun i _=>1 - (intOf i).toNat)
 case atStart=>exact ⟨0,by omega,rfl,bw0 _ _⟩
 case round =>
  obtain ⟨k,hk,rfl,hB0⟩:=hrel
  by_cases hk1:k=1
  ·subst hk1
   go_wp2_with fail
   go_ret
   exact ⟨rfl,hB0⟩
  ·obtain rfl:k=0:=by omega
   clear hk hk1
   have d0:=keep hB0 c0
   have d1:=keep hB0 c1
   have d2:=keep hB0 c2
   clear c0 c1 c2
   go_wp2_with fail
   refine (short_small s _ (HG.out.below qbl) HS.out hlo).mono ?_
   rintro e w2 ⟨rfl,hB2⟩
   obtain ⟨hc2,hf2⟩:=bcell hB2
   have z2:=hB2.size
   simp only [World.size_alloc] at z2
   have f0:w2.cell? ⟨wr.heap.size,0,none⟩=some (.string s):=by rw [hc2 _ _ (by simp)];simp [go_sem]
   have f1:w2.cell? ⟨wr.heap.size,1,none⟩=some (.string t):=by rw [hc2 _ _ (by simp)];simp [go_sem]
   have f2:w2.cell? ⟨wr.heap.size,2,none⟩=some (.slice a sp.length cap):=by rw [hc2 _ _ (by simp)];simp [go_sem]
   have hB2':Below w.heap.size w w2:=qbl
   clear hc2 hf2 hB2 d0 d1 d2
   go_wp2_with fail
   refine (short_small t _ (HG.out.below hB2') HT.out hhi).mono ?_
   rintro e w3 ⟨rfl,hB3⟩
   have z3:=hB3.size
   have g0:=keep hB3 f0
   have g1:=keep hB3 f1
   have g2:=keep hB3 f2
   have hB3':Below w.heap.size w w3:=below_trans' hB2' hB3
   clear hB3 f0 f1 f2 hB2'
   go_wp2_with fail
   refine (order_small s t _ HS.out hlo HT.out hhi).mono ?_
   rintro e w4 ⟨rfl,hB4⟩
   have z4:=hB4.size
   have k0:=keep hB4 g0
   have k1:=keep hB4 g1
   have k2:=keep hB4 g2
   have hB4':Below w.heap.size w w4:=below_trans' hB3' hB4
   have zr:wr.heap.size < w4.heap.size:=by omega
   rw [ho1]
   clear hB4 g0 g1 g2 hB3' ho1
   go_wp2_with fail
   obtain ⟨wo,rfl⟩:∃ wo:World,wo=wr:=⟨_,rfl⟩
   go_loopw [43] (fun i wq=>∃ j:Nat,j≤sp.length∧i=.int .i64 j∧Below w.heap.size w wq∧wq.cell? ⟨wo.heap.size,2,none⟩=some (.slice a sp.length cap)) (fun i _=>sp.length - (intOf i).toNat)
   case atStart=>exact ⟨0,by omega,rfl,hB4',k2⟩
   case round =>
    obtain ⟨j,hj,rfl,hBj,kj⟩:=hrel
    clear k0 k1 k2 hB4' hB0 zr z4 z3 z2
    by_cases hjn:j=sp.length
    ·subst hjn
     go_wp2_with fail
     go_roundw
     case rel=>exact ⟨1,by omega,rfl,hBj⟩
     case measure=>simp [intOf]
    ·have hj1:j < sp.length:=by omega
     obtain ⟨b,off,rfl,hbb,hcc⟩:=HC.out (fun h=>by rw [h] at hj1;simp at hj1)
     obtain ⟨u,v,e0,e1,hu,hv⟩:=hcc j hj1
     have q0:=keep hBj e0
     have q1:=keep hBj e1
     have HU:=Lib.hid hu
     have HV:=Lib.hid hv
     have hji:(j:Int) < (sp.length:Int):=by omega
     clear hu hv e0 e1 hjn hcc
     go_wp2_with fail
     have hRj:=HR.out.1 j hj1
     obtain ⟨hR1,hR2,hR3⟩:=hRj
     have ho:=ordQ_lt hR3
     have HO:=Lib.hid ho
     clear ho hR3
     by_cases hj0:j=0
     ·as_aux_lemma =>
      subst hj0
      have x0:(wr.alloc (.cells #[.string u,.string v] 54)).cell? ⟨wr.heap.size,0,none⟩=some (.string u):=by simp [go_sem]
      have x1:(wr.alloc (.cells #[.string u,.string v] 54)).cell? ⟨wr.heap.size,1,none⟩=some (.string v):=by simp [go_sem]
      have hBk:Below w.heap.size w (wr.alloc (.cells #[.string u,.string v] 54)):=(by repeat (first|(with_reducible first|exact bw0 _ _|exact hB|refine bw1 ?_ ?_ _|refine bw2 ?_ _|refine bw3 ?_|refine bw4 ?_ _|refine bw5 (by assumption) ?_)|exact Nat.le_refl _|(focus (simp;done))|(focus (simp;omega))|omega))
      have kj':(wr.alloc (.cells #[.string u,.string v] 54)).cell? ⟨wo.heap.size,2,none⟩=some (.slice (some ⟨b,off,none⟩) sp.length cap):=keep (bw4 (bw0 _ _) _) kj
      have hS:(wr.alloc (.cells #[.string u,.string v] 54)).drew.cell? ⟨wr.heap.size,0,none⟩=some (.string u)∧(wr.alloc (.cells #[.string u,.string v] 54)).drew.cell? ⟨wr.heap.size,1,none⟩=some (.string v)∧(wr.alloc (.cells #[.string u,.string v] 54)).drew.cell? ⟨wo.heap.size,2,none⟩=some (.slice (some ⟨b,off,none⟩) sp.length cap)∧Below w.heap.size w (wr.alloc (.cells #[.string u,.string v] 54)).drew:=⟨x0,x1,kj',hBk.drew⟩
      generalize wr.alloc (.cells #[.string u,.string v] 54)=W at *
      clear x0 x1 kj' hBk
      refine region_held_abs (S:=(fun w'=>w'.cell? ⟨wr.heap.size,0,none⟩=some (.string u)∧w'.cell? ⟨wr.heap.size,1,none⟩=some (.string v)∧w'.cell? ⟨wo.heap.size,2,none⟩=some (.slice (some ⟨b,off,none⟩) sp.length cap)∧Below w.heap.size w w')) 35 #[false,false,false,false,false,false,false,false,false,false,false,false,false,false,false,false,false,false,false,false,false,false,false,false,false,false,false,false,false,false,false,false,false,false,false] (by kernel_rfl) (by kernel_rfl) (by kernel_rfl) (fun _ _ _ _ _ h=>h) hS (fun Q' hQ' hN hHeld=>?_)
      refine tT 48 0 ?_
      refine tT 49 1 ?_
      refine wpAnyH_ready (rs:=[2]) (by kernel_rfl) (by simp) ?_
      refine consW (i:=2) rfl (by kernel_rfl) (fun K hK=>?_)
      go_simp
      refine (short_small u _ (glo3 HG.out hHeld) HU.out hR1).mono ?_
      rintro e w' ⟨rfl,hBx⟩
      go_simp
      refine hK.out _ _ ?_ (fun hHeld=>?_)
      ·exact keep3 hHeld hBx
      clear hK K
      (try simp only [Act.put,bw7,bw8,bw9])
      refine tT 51 3 ?_
      refine tT 52 4 ?_
      refine tT 53 5 ?_
      refine tT 54 6 ?_
      refine wpAnyH_ready (rs:=[7]) (by kernel_rfl) (by simp) ?_
      refine consW (i:=7) rfl (by kernel_rfl) (fun K hK=>?_)
      go_simp
      refine (short_small v _ (glo3 HG.out hHeld) HV.out hR2).mono ?_
      rintro e w' ⟨rfl,hBx⟩
      go_simp
      refine hK.out _ _ ?_ (fun hHeld=>?_)
      ·exact keep3 hHeld hBx
      clear hK K
      (try simp only [Act.put,bw7,bw8,bw9])
      refine tT 56 8 ?_
      refine tT 57 9 ?_
      refine tT 58 10 ?_
      refine tT 59 11 ?_
      refine tT 60 12 ?_
      refine tT 61 13 ?_
      refine tT 62 14 ?_
      refine wpAnyH_ready (rs:=[15]) (by kernel_rfl) (by simp) ?_
      refine consW (i:=15) rfl (by kernel_rfl) (fun K hK=>?_)
      go_simp
      refine (order_lt u v _ HU.out hR1 HV.out hR2 HO.out).mono ?_
      rintro e w' ⟨rfl,hBx⟩
      go_simp
      refine hK.out _ _ ?_ (fun hHeld=>?_)
      ·exact keep3 hHeld hBx
      clear hK K
      (try simp only [Act.put,bw7,bw8,bw9])
      refine tT 64 16 ?_
      refine tT 65 17 ?_
      refine tT 66 18 ?_
      refine tT 67 19 ?_
      refine tT 68 20 ?_
      refine tT 69 21 ?_
      refine tF 70 22 ?_
      refine tF 71 23 ?_
      refine tF 72 24 ?_
      refine tF 73 25 ?_
      refine tF 74 26 ?_
      refine tF 75 27 ?_
      refine tF 76 28 ?_
      refine tF 77 29 ?_
      refine tF 78 30 ?_
      refine tF 79 31 ?_
      refine tF 80 32 ?_
      refine tT 81 33 ?_
      refine tT 82 34 ?_
      refine wpAnyH_done (by kernel_rfl) ?_ _
      refine hN.out _ _ ?_
      go_wp2_with fail
      go_roundw
      case rel=>exact ⟨1,by omega,by go_num,hHeld.2.2.2,hHeld.2.2.1⟩
      case measure=>simp [intOf];omega
     ·as_aux_lemma =>
      have hi1:j - 1 < sp.length:=by omega
      obtain ⟨b',off',hbo,hbb',hcc'⟩:=HC.out (fun h=>by rw [h] at hj1;simp at hj1)
      simp only [Option.some.injEq,Addr.mk.injEq] at hbo
      obtain ⟨rfl,rfl,_⟩:=hbo
      obtain ⟨_,z,_,e1',_,hz⟩:=hcc' (j - 1) hi1
      have q2:=keep hBj e1'
      have hR0:=(HR.out.1 (j - 1) hi1).2.1
      have hj2:j - 1+1 < sp.length:=by omega
      have hlt2:=HR.out.2 (j - 1) hj2
      have hjj:sp[j - 1+1]=sp[j]:=by congr 1;omega
      rw [hjj] at hlt2
      have ho2:=ordQ_lt hlt2
      have HO2:=Lib.hid ho2
      have HZ:=Lib.hid hz
      have hjz:(0:Int) < (j:Int):=by omega
      have hjN:0 < j:=by omega
      have hii:(j:Int) - 1 < (sp.length:Int):=by omega
      have hii0:(0:Int)≤(j:Int) - 1:=by omega
      have hii1:(1:Int)≤(j:Int):=by omega
      have hii2:(j:Int) < (sp.length:Int)+1:=by omega
      have hii3:(j:Int)≤(sp.length:Int):=by omega
      have hwj:IntKind.i64.wrap ((j:Int) - 1)=(j:Int) - 1:=IntWalk.i64_in _ (by omega)
      have hcap':(sp.length:Int)≤64:=by omega
      have x0:(wr.alloc (.cells #[.string u,.string v] 54)).cell? ⟨wr.heap.size,0,none⟩=some (.string u):=by simp [go_sem]
      have x1:(wr.alloc (.cells #[.string u,.string v] 54)).cell? ⟨wr.heap.size,1,none⟩=some (.string v):=by simp [go_sem]
      have hBk:Below w.heap.size w (wr.alloc (.cells #[.string u,.string v] 54)):=(by repeat (first|(with_reducible first|exact bw0 _ _|exact hB|refine bw1 ?_ ?_ _|refine bw2 ?_ _|refine bw3 ?_|refine bw4 ?_ _|refine bw5 (by assumption) ?_)|exact Nat.le_refl _|(focus (simp;done))|(focus (simp;omega))|omega))
      have kj':(wr.alloc (.cells #[.string u,.string v] 54)).cell? ⟨wo.heap.size,2,none⟩=some (.slice (some ⟨b,off,none⟩) sp.length cap):=keep (bw4 (bw0 _ _) _) kj
      have q2':(wr.alloc (.cells #[.string u,.string v] 54)).cell? ⟨b,off+(j - 1) * 2+1,none⟩=some (.string z):=keep (bw4 (bw0 _ _) _) q2
      have hS:(wr.alloc (.cells #[.string u,.string v] 54)).drew.cell? ⟨wr.heap.size,0,none⟩=some (.string u)∧(wr.alloc (.cells #[.string u,.string v] 54)).drew.cell? ⟨wr.heap.size,1,none⟩=some (.string v)∧(wr.alloc (.cells #[.string u,.string v] 54)).drew.cell? ⟨wo.heap.size,2,none⟩=some (.slice (some ⟨b,off,none⟩) sp.length cap)∧(wr.alloc (.cells #[.string u,.string v] 54)).drew.cell? ⟨b,off+(j - 1) * 2+1,none⟩=some (.string z)∧Below w.heap.size w (wr.alloc (.cells #[.string u,.string v] 54)).drew:=⟨x0,x1,kj',q2',hBk.drew⟩
      generalize wr.alloc (.cells #[.string u,.string v] 54)=W at *
      clear x0 x1 kj' hBk q0 q1 q2 q2' hcc' e1' ho2 hz hj0 hlt2 hjj
      refine region_held_abs (S:=(fun w'=>w'.cell? ⟨wr.heap.size,0,none⟩=some (.string u)∧w'.cell? ⟨wr.heap.size,1,none⟩=some (.string v)∧w'.cell? ⟨wo.heap.size,2,none⟩=some (.slice (some ⟨b,off,none⟩) sp.length cap)∧w'.cell? ⟨b,off+(j - 1) * 2+1,none⟩=some (.string z)∧Below w.heap.size w w')) 35 #[false,false,false,false,false,false,false,false,false,false,false,false,false,false,false,false,false,false,false,false,false,false,false,false,false,false,false,false,false,false,false,false,false,false,false] (by kernel_rfl) (by kernel_rfl) (by kernel_rfl) (fun _ _ _ _ _ h=>h) hS (fun Q' hQ' hN hHeld=>?_)
      refine tT 48 0 ?_
      refine tT 49 1 ?_
      refine wpAnyH_ready (rs:=[2]) (by kernel_rfl) (by simp) ?_
      refine consW (i:=2) rfl (by kernel_rfl) (fun K hK=>?_)
      go_simp
      refine (short_small u _ (glo4 HG.out hHeld) HU.out hR1).mono ?_
      rintro e w' ⟨rfl,hBx⟩
      go_simp
      refine hK.out _ _ ?_ (fun hHeld=>?_)
      ·exact keep4 hHeld hBx
      clear hK K
      (try simp only [Act.put,bw7,bw8,bw9])
      refine tT 51 3 ?_
      refine tT 52 4 ?_
      refine tT 53 5 ?_
      refine tT 54 6 ?_
      refine wpAnyH_ready (rs:=[7]) (by kernel_rfl) (by simp) ?_
      refine consW (i:=7) rfl (by kernel_rfl) (fun K hK=>?_)
      go_simp
      refine (short_small v _ (glo4 HG.out hHeld) HV.out hR2).mono ?_
      rintro e w' ⟨rfl,hBx⟩
      go_simp
      refine hK.out _ _ ?_ (fun hHeld=>?_)
      ·exact keep4 hHeld hBx
      clear hK K
      (try simp only [Act.put,bw7,bw8,bw9])
      refine tT 56 8 ?_
      refine tT 57 9 ?_
      refine tT 58 10 ?_
      refine tT 59 11 ?_
      refine tT 60 12 ?_
      refine tT 61 13 ?_
      refine tT 62 14 ?_
      refine wpAnyH_ready (rs:=[15]) (by kernel_rfl) (by simp) ?_
      refine consW (i:=15) rfl (by kernel_rfl) (fun K hK=>?_)
      go_simp
      refine (order_lt u v _ HU.out hR1 HV.out hR2 HO.out).mono ?_
      rintro e w' ⟨rfl,hBx⟩
      go_simp
      refine hK.out _ _ ?_ (fun hHeld=>?_)
      ·exact keep4 hHeld hBx
      clear hK K
      (try simp only [Act.put,bw7,bw8,bw9])
      refine tT 64 16 ?_
      refine tT 65 17 ?_
      refine tT 66 18 ?_
      refine tT 67 19 ?_
      refine tT 68 20 ?_
      refine tT 69 21 ?_
      refine tT 70 22 ?_
      refine tT 71 23 ?_
      refine tT 72 24 ?_
      refine tT 73 25 ?_
      refine tT 74 26 ?_
      refine tT 75 27 ?_
      refine tT 76 28 ?_
      refine tT 77 29 ?_
      refine tT 78 30 ?_
      refine wpAnyH_ready (rs:=[31]) (by kernel_rfl) (by simp) ?_
      refine consW (i:=31) rfl (by kernel_rfl) (fun K hK=>?_)
      go_simp
      refine (order_lt z u _ HZ.out hR0 HU.out hR1 HO2.out).mono ?_
      rintro e w' ⟨rfl,hBx⟩
      go_simp
      refine hK.out _ _ ?_ (fun hHeld=>?_)
      ·exact keep4 hHeld hBx
      clear hK K
      (try simp only [Act.put,bw7,bw8,bw9])
      refine tT 80 32 ?_
      refine tT 81 33 ?_
      refine tT 82 34 ?_
      refine wpAnyH_done (by kernel_rfl) ?_ _
      refine hN.out _ _ ?_
      go_wp2_with fail
      go_roundw
      case rel=>exact ⟨j+1,by omega,by go_num,hHeld.2.2.2.2,hHeld.2.2.1⟩
      case measure=>simp [intOf];omega
end Go.Proofs.YthihcjgmlbnapaaGreatDoor
namespace Go.Proofs.YthihcjgmlbnapaaGreatDoor
open Go.RowKit
def lenTo (sp:List (Rat × Rat)) (k:Nat):Rat:=(sp.take k).foldl (fun a p=>a+(p.2 - p.1)) 0
theorem lenTo_zero (sp:List (Rat × Rat)):lenTo sp 0=0:=rfl
theorem lenTo_succ (sp:List (Rat × Rat)) (k:Nat) (h:k < sp.length):lenTo sp (k+1)=lenTo sp k+(sp[k].2 - sp[k].1):=by
 unfold lenTo
 rw [List.take_succ_eq_append_getElem h,List.foldl_append];rfl
theorem zero_text:ratText 0=[48]:=by
 have:=ratText_int 0
 rw [show ((0:Int):Rat)=0 from rfl] at this
 rw [this];exact itoa_zero
theorem small_zero:Small 0:=by unfold Small;exact ⟨by decide,by decide⟩
theorem area1_small {lo hi l:Rat} (s t r:ByteArray) (v:Value) (w:World) (hG:Glo w) (hs:s.data.toList=ratText lo) (ht:t.data.toList=ratText hi) (hr:r.data.toList=ratText l)
  (hlo:Small lo) (hhi:Small hi) (hl:Small l) (hd:Small (hi - lo)) (hone:v.oneCell'=true) :
  Calls Tryz.prog 136 #[.agg #[.string s,.string t,v],.string r] w (RetN ((hi - lo) * l) w):=by
 have HS:=Lib.hid hs
 have HT:=Lib.hid ht
 have HR:=Lib.hid hr
 have HG:=Lib.hid hG
 clear hs ht hr hG
 go_enter Tryz.func136,Tryz.ntmps136
 go_wp2_with fail
 refine (Sub_small t s _ (HG.out.below qbl) HT.out hhi HS.out hlo).mono ?_
 rintro e w1 ⟨d,hdd,rfl,hB1⟩
 have HD:=Lib.hid hdd
 clear hdd
 go_wp2_with fail
 refine (Mul_small d r _ (HG.out.below qbl) HD.out hd HR.out hl).mono ?_
 rintro e w2 ⟨m,hm,rfl,hB2⟩
 have HM:=Lib.hid hm
 clear hm
 go_wp2_with fail
 go_ret2
 exact ⟨m,HM.out,rfl,qbl⟩
theorem sum_area_one {lo hi:Rat} {sp:List (Rat × Rat)} (b0 o0 cap0:Nat) (s t:ByteArray) (v:Value) (w:World) (hG:Glo w)
  (c0:w.cell? ⟨b0,o0,none⟩=some (.string s)) (c1:w.cell? ⟨b0,o0+1,none⟩=some (.string t)) (c2:w.cell? ⟨b0,o0+2,none⟩=some v)
  (hs:s.data.toList=ratText lo) (ht:t.data.toList=ratText hi) (hlo:Small lo) (hhi:Small hi) (hlt:lo < hi)
  (hv:IsSpans w v sp) (hr:RightSpans sp) (hn:sp.length≤64)
  (hsum:∀ k,k≤sp.length→Small (lenTo sp k)) (hdif:∀ k (h:k < sp.length),Small (sp[k].2 - sp[k].1)) (hd:Small (hi - lo)) (hp:Small ((hi - lo) * lenTo sp sp.length)) :
  Calls Tryz.prog 135 #[.slice (some ⟨b0,o0,none⟩) 1 cap0,.func (.func 136) #[] #[]] w (RetN ((hi - lo) * lenTo sp sp.length) w):=by
 have hright:=right_one b0 o0 cap0 s t v w hG c0 c1 c2 hs ht hlo hhi hlt hv hr hn
 have HRI:=Lib.hid hright
 have HV:=Lib.hid hv
 obtain ⟨a,cap,rfl,hcap,hcells⟩:=hv
 have HS:=Lib.hid hs
 have HT:=Lib.hid ht
 have HG:=Lib.hid hG
 have HC:=Lib.hid hcells
 have HSU:=Lib.hid hsum
 have HDI:=Lib.hid hdif
 have HRS:=Lib.hid hr
 clear hs ht hG hcells hright hsum hdif hr
 go_enter Tryz.func135,Tryz.ntmps135
 go_wp2_with fail
 refine (HRI.out).mono ?_
 rintro e w1 ⟨rfl,hB1⟩
 go_wp2_with fail
 go_loopw [6,21] (fun tot i wr=>∃ k:Nat,(k=0∧i=.int .i64 0∨k=1∧i=.int .i64 1)∧Below w.heap.size w wr∧∃ r:ByteArray,tot=.string r∧Hid (r.data.toList=ratText (if k=0 then 0 else (hi - lo) * lenTo sp sp.length))) (fun _ i _=>1 - (intOf i).toNat)
 case atStart=>exact ⟨0,Or.inl ⟨rfl,rfl⟩,hB1,_,rfl,Lib.hid (by rw [if_pos rfl,zero_text])⟩
 case round =>
  obtain ⟨k,hk,hB0,r,rfl,hrt⟩:=hrel
  rcases hk.symm with ⟨rfl,rfl⟩|⟨rfl,rfl⟩
  ·clear hk
   go_wp2_with fail
   go_ret2
   exact ⟨r,by rw [hrt.out,if_neg (by omega)],rfl,hB0⟩
  ·have hr0:Hid (r.data.toList=ratText 0):=Lib.hid (by rw [hrt.out,if_pos rfl])
   clear hk hrt
   have d0:=keep hB0 c0
   have d1:=keep hB0 c1
   have d2:=keep hB0 c2
   clear c0 c1 c2
   go_wp2_with fail
   obtain ⟨wo,rfl⟩:∃ wo:World,wo=wr:=⟨_,rfl⟩
   have k0:(wo.alloc (.cells #[.string s,.string t,.slice a sp.length cap] 57)).cell? ⟨wo.heap.size,0,none⟩=some (.string s):=by simp [go_sem]
   have k1:(wo.alloc (.cells #[.string s,.string t,.slice a sp.length cap] 57)).cell? ⟨wo.heap.size,1,none⟩=some (.string t):=by simp [go_sem]
   have k2:(wo.alloc (.cells #[.string s,.string t,.slice a sp.length cap] 57)).cell? ⟨wo.heap.size,2,none⟩=some (.slice a sp.length cap):=by simp [go_sem]
   have hBk:Below w.heap.size w (wo.alloc (.cells #[.string s,.string t,.slice a sp.length cap] 57)):=bw4 hB0 _
   go_loopw [9,28] (fun len i wq=>∃ j:Nat,j≤sp.length∧i=.int .i64 j∧(∃ q:ByteArray,len=.string q∧Hid (q.data.toList=ratText (lenTo sp j)))∧wq.cell? ⟨wo.heap.size,0,none⟩=some (.string s)∧wq.cell? ⟨wo.heap.size,1,none⟩=some (.string t)∧wq.cell? ⟨wo.heap.size,2,none⟩=some (.slice a sp.length cap)∧Below w.heap.size w wq) (fun _ i _=>sp.length - (intOf i).toNat)
   case atStart=>exact ⟨0,by omega,rfl,⟨_,rfl,Lib.hid (by rw [lenTo_zero,zero_text])⟩,k0,k1,k2,hBk⟩
   case round =>
    obtain ⟨j,hj,rfl,⟨q,rfl,hq⟩,e0,e1,e2,hBj⟩:=hrel
    clear k0 k1 k2 hBk hB0 d0 d1 d2
    by_cases hjn:j=sp.length
    ·subst hjn
     go_wp2_with fail
     refine (area1_small s t q (.slice a sp.length cap) _ (HG.out.below hBj) HS.out HT.out hq.out hlo hhi (HSU.out _ (Nat.le_refl _)) hd rfl).mono ?_
     rintro e w2 ⟨m,hm,rfl,hB2⟩
     have HM:=Lib.hid hm
     have hB2':=below_trans' hBj hB2
     clear hm
     go_wp2_with fail
     refine (Add_small r m _ (HG.out.below hB2') hr0.out small_zero HM.out hp).mono ?_
     rintro e w3 ⟨m',hm',rfl,hB3⟩
     have HM':=Lib.hid hm'
     have hB3':=below_trans' hB2' hB3
     clear hm'
     go_wp2_with fail
     go_roundw
     case rel=>exact ⟨1,Or.inr ⟨rfl,rfl⟩,hB3',m',rfl,Lib.hid (by rw [HM'.out,if_neg (by omega),Rat.zero_add])⟩
     case measure=>simp [intOf]
    ·have hj1:j < sp.length:=by omega
     obtain ⟨b,off,rfl,hbb,hcc⟩:=HC.out (fun h=>by rw [h] at hj1;simp at hj1)
     obtain ⟨u,v,f0,f1,hu,hv⟩:=hcc j hj1
     have q0:=keep hBj f0
     have q1:=keep hBj f1
     have HU:=Lib.hid hu
     have HV:=Lib.hid hv
     have hji:(j:Int) < (sp.length:Int):=by omega
     obtain ⟨hR1,hR2,hR3⟩:=HRS.out.1 j hj1
     have hdj:=HDI.out j hj1
     have hlj:=HSU.out j hj
     clear hu hv f0 f1 hjn hcc hR3
     go_wp2_with fail
     refine (Sub_small v u _ (HG.out.below qbl) HV.out hR2 HU.out hR1).mono ?_
     rintro e w2 ⟨m,hm,rfl,hB2⟩
     have HM:=Lib.hid hm
     have hB2':Below w.heap.size w w2:=qbl
     have e0':=keep hB2 (keep (bw4 (bw0 _ _) _) e0)
     have e1':=keep hB2 (keep (bw4 (bw0 _ _) _) e1)
     have e2':=keep hB2 (keep (bw4 (bw0 _ _) _) e2)
     clear hm e0 e1 e2 hB2 q0 q1
     go_wp2_with fail
     refine (Add_small q m _ (HG.out.below hB2') hq.out hlj HM.out hdj).mono ?_
     rintro e w3 ⟨m',hm',rfl,hB3⟩
     have HM':=Lib.hid hm'
     have hB3':=below_trans' hB2' hB3
     have e0:=keep hB3 e0'
     have e1:=keep hB3 e1'
     have e2:=keep hB3 e2'
     clear hm' e0' e1' e2' hB3
     go_wp2_with fail
     go_roundw
     case rel=>exact ⟨j+1,by omega,by go_num,⟨m',rfl,Lib.hid (by rw [HM'.out,lenTo_succ _ _ hj1])⟩,e0,e1,e2,hB3'⟩
     case measure=>simp [intOf];omega
theorem area_one {lo hi:Rat} {sp:List (Rat × Rat)} (b0 o0 cap0:Nat) (s t:ByteArray) (v:Value) (w:World) (hG:Glo w)
  (c0:w.cell? ⟨b0,o0,none⟩=some (.string s)) (c1:w.cell? ⟨b0,o0+1,none⟩=some (.string t)) (c2:w.cell? ⟨b0,o0+2,none⟩=some v)
  (hs:s.data.toList=ratText lo) (ht:t.data.toList=ratText hi) (hlo:Small lo) (hhi:Small hi) (hlt:lo < hi)
  (hv:IsSpans w v sp) (hr:RightSpans sp) (hn:sp.length≤64)
  (hsum:∀ k,k≤sp.length→Small (lenTo sp k)) (hdif:∀ k (h:k < sp.length),Small (sp[k].2 - sp[k].1)) (hd:Small (hi - lo)) (hp:Small ((hi - lo) * lenTo sp sp.length)) :
  Calls Tryz.prog 73 #[.slice (some ⟨b0,o0,none⟩) 1 cap0] w (RetN ((hi - lo) * lenTo sp sp.length) w):=by
 have H:=Lib.hid (sum_area_one b0 o0 cap0 s t v w hG c0 c1 c2 hs ht hlo hhi hlt hv hr hn hsum hdif hd hp)
 clear hG c0 c1 c2 hs ht hv hr hsum hdif
 go_enter Tryz.func73,Tryz.ntmps73
 go_wp2_with fail
 refine H.out.mono ?_
 rintro e w1 ⟨r,hr,rfl,hB⟩
 have HR:=Lib.hid hr
 clear hr
 go_wp2_with fail
 go_ret2
 exact ⟨r,HR.out,rfl,hB⟩
end Go.Proofs.YthihcjgmlbnapaaGreatDoor
namespace Go.Proofs.YthihcjgmlbnapaaGreatDoor
open Go.RowKit
structure GoodCourse (lo hi:Rat) (sp:List (Rat × Rat)):Prop where
 slo:Small lo
 shi:Small hi
 lt:lo < hi
 right:RightSpans sp
 len:sp.length≤64
 sum:∀ k,k≤sp.length→Small (lenTo sp k)
 dif:∀ k (h:k < sp.length),Small (sp[k].2 - sp[k].1)
 d:Small (hi - lo)
 p:Small ((hi - lo) * lenTo sp sp.length)
def IsCourse (w:World) (c:Value) (lo hi:Rat) (sp:List (Rat × Rat)):Prop:=∃ (s t:ByteArray) (v:Value),c=.agg #[.string s,.string t,v]∧s.data.toList=ratText lo∧t.data.toList=ratText hi∧IsSpans w v sp
theorem IsCourse.below {w w':World} {c:Value} {lo hi:Rat} {sp:List (Rat × Rat)} (h:IsCourse w c lo hi sp) (hB:Below w.heap.size w w'):IsCourse w' c lo hi sp:=by
 obtain ⟨s,t,v,h1,h2,h3,h4⟩:=h
 exact ⟨s,t,v,h1,h2,h3,h4.below hB⟩
theorem tright_ok {lo hi:Rat} {sp:List (Rat × Rat)} (c:Value) (wd:Int) (w:World) (hG:Glo w) (hc:IsCourse w c lo hi sp) (hg:GoodCourse lo hi sp) (h1:1≤wd) (h2:wd≤2000) :
  Calls Tryz.prog 34 #[c,.int .i64 wd] w (RetB (.int .i64 0) w):=by
 obtain ⟨s,t,v,rfl,hs,ht,hv⟩:=hc
 obtain ⟨a,cap,rfl,hv'⟩:=id hv
 have HS:=Lib.hid hs
 have HT:=Lib.hid ht
 have HV:=Lib.hid hv
 have HG:=Lib.hid hG
 have hg':=Lib.hid hg
 clear hs ht hv hv' hG hg
 go_enter Tryz.func34,Tryz.ntmps34
 go_wp2_with fail
 refine (area_one (w.heap.size+1) 0 1 s t (.slice a sp.length cap) _ (HG.out.below qbl) (by simp [go_sem]) (by simp [go_sem]) (by simp [go_sem]) HS.out HT.out hg'.out.slo hg'.out.shi hg'.out.lt (HV.out.below qbl) hg'.out.right hg'.out.len hg'.out.sum hg'.out.dif hg'.out.d hg'.out.p).mono ?_
 rintro e w1 ⟨r,hr,rfl,hB⟩
 have hB':Below w.heap.size w w1:=qbl
 clear hr hB
 go_wp2_with fail
 go_ret
 exact ⟨rfl,hB'⟩
theorem twhole_any (n:Int) (w:World) (hG:Glo w) (h0 : -9223372036854775808≤n) (h1:n≤9223372036854775807) :
  Calls Tryz.prog 18 #[.int .i64 n] w fun e w'=>∃ r:ByteArray,Hid (r.data.toList=ratText n)∧e=.returned (.string r)∧Below w.heap.size w w':=by
 have HG:=Lib.hid hG
 clear hG
 go_enter Tryz.func18,Tryz.ntmps18
 go_wp2_with fail
 refine (Of_one n _ HG.out h0 h1).mono ?_
 rintro e w1 ⟨r,hr,rfl,hB⟩
 have HR:=Lib.hid hr
 clear hr
 go_wp2_with fail
 go_ret
 exact ⟨r,HR,rfl,hB⟩
end Go.Proofs.YthihcjgmlbnapaaGreatDoor
namespace Go.Proofs.YthihcjgmlbnapaaGreatDoor
open Go.RowKit
def RetCount (bf bc:Nat) (vf vc:Int) (w:World) (e:Ending) (w':World):Prop:=e=.returned (.bool true)∧Below bf w w'∧w'.cell? ⟨bf,0,none⟩=some (.int .i64 vf)∧w'.frozen? ⟨bf,0,none⟩=false∧w'.cell? ⟨bc,0,none⟩=some (.int .i64 vc)∧w'.frozen? ⟨bc,0,none⟩=false
theorem cmp_most {p:Rat} (hp:Small p):Lib.compareInt p.num (1073741824 * (p.den:Int))=-1:=by
 have h1:=hp.1
 have h2:=p.den_pos
 rw [Lib.compareInt,if_pos (by omega)]
theorem count_ok {lo hi:Rat} (s t:ByteArray) (wd vf vc:Int) (bw bf bc:Nat) (w:World) (hG:Glo w) (hs:s.data.toList=ratText lo) (ht:t.data.toList=ratText hi) (hlo:Small lo) (hhi:Small hi) (hd:Small (hi - lo)) (h1:1≤wd) (h2:wd≤2000) (hq:Small ((hi - lo) / wd)) (hfl:Small (((hi - lo) / wd).floor:Int))
  (cw:w.cell? ⟨bw,0,none⟩=some (.int .i64 wd)) (cf:w.cell? ⟨bf,0,none⟩=some (.int .i64 vf)) (cc:w.cell? ⟨bc,0,none⟩=some (.int .i64 vc)) (ff:w.frozen? ⟨bf,0,none⟩=false) (fc:w.frozen? ⟨bc,0,none⟩=false) (hbc:bf < bc) (hvf:0≤vf) (hvf2:vf≤1000000000000) (hvc:0≤vc) (hvc2:vc≤1000000000000) :
  Calls Tryz.prog 35 #[.agg #[.string s,.string t],.pointer (some ⟨bw,0,none⟩),.pointer (some ⟨bf,0,none⟩),.pointer (some ⟨bc,0,none⟩)] w (RetCount bf bc (vf+((hi - lo) / wd).floor) (if ((hi - lo) / wd).den=1 then vc else vc+1) w):=by
 have HS:=Lib.hid hs
 have HT:=Lib.hid ht
 have HG:=Lib.hid hG
 have hws:Small (wd:Rat):=⟨by show wd.natAbs < 100000000;omega,by show 1 < 100000000;omega⟩
 have hw0:(wd:Rat)≠0:=by
  intro h
  have:wd=0:=by exact_mod_cast h
  omega
 have hfl1 : -100000000 < ((hi - lo) / wd).floor∧((hi - lo) / wd).floor < 100000000:=by
  have h3:=hfl.1
  have h4:(((hi - lo) / (wd:Rat)).floor:Rat).num=((hi - lo) / (wd:Rat)).floor:=rfl
  rw [h4] at h3
  omega
 have hcm:=cmp_most hq
 generalize hQ:(hi - lo) / (wd:Rat)=Q at *
 have hden:Q.den=1↔(Q.floor:Rat)=Q:=by
  constructor
  ·intro h
   rw [Rat.floor_def,h]
   refine Rat.ext ?_ h.symm
   show Q.num / ((1:Nat):Int)=Q.num
   exact Int.ediv_one _
  ·intro h
   rw [← h];rfl
 have hQ':=Lib.hid hQ
 have HDEN:=Lib.hid hden
 obtain ⟨hfa,hfb⟩:=hfl1
 generalize hV:(if Q.den=1 then vc else vc+1)=V
 have hV1:Q.den=1→V=vc:=fun h=>by rw [← hV,if_pos h]
 have hV2:¬ Q.den=1→V=vc+1:=fun h=>by rw [← hV,if_neg h]
 have HV1:=Lib.hid hV1
 have HV2:=Lib.hid hV2
 clear hs ht hG hden hQ hV hV1 hV2
 go_enter Tryz.func35,Tryz.ntmps35
 go_wp2_with fail
 refine (Sub_small t s _ (HG.out.below qbl) HT.out hhi HS.out hlo).mono ?_
 rintro e w1 ⟨r1,hr1,rfl,hB1⟩
 have hb1:Below w.heap.size w w1:=qbl
 have HR1:=Lib.hid hr1
 have cw1:=keep hb1 cw
 clear hr1 hB1
 go_wp2_with fail
 refine (twhole_any wd _ (HG.out.below qbl) (by omega) (by omega)).mono ?_
 rintro e w2 ⟨r2,hr2,rfl,hB2⟩
 have hb2:Below w.heap.size w w2:=qbl
 clear hB2
 go_wp2_with fail
 refine (Div_small r1 r2 _ (HG.out.below qbl) HR1.out hd hr2.out hws hw0).mono ?_
 rintro e w3 ⟨r3,hr3,rfl,hB3⟩
 have hb3:Below w.heap.size w w3:=qbl
 rw [hQ'.out] at hr3
 have HR3:=Lib.hid hr3
 clear hr3 hB3
 go_wp2_with fail
 refine (twhole_any 1073741824 _ (HG.out.below qbl) (by omega) (by omega)).mono ?_
 rintro e w4 ⟨r4,hr4,rfl,hB4⟩
 have hb4:Below w.heap.size w w4:=qbl
 have HR4:Hid (r4.data.toList=Lib.itoa 1073741824):=Lib.hid (by rw [hr4.out,ratText_int])
 clear hr4 hB4
 go_wp2_with fail
 refine (Compare_mid r3 r4 _ (HG.out.below qbl) HR3.out hq HR4.out mid_most (by omega)).mono ?_
 rintro e w5 ⟨rfl,hB5⟩
 have hb5:Below w.heap.size w w5:=qbl
 rw [hcm]
 clear hB5
 go_wp2_with fail
 refine (Floor_small r3 _ (HG.out.below qbl) HR3.out hq).mono ?_
 rintro e w6 ⟨r6,hr6,rfl,hB6⟩
 have hb6:Below w.heap.size w w6:=qbl
 have HR6:=Lib.hid hr6
 clear hr6 hB6
 go_wp2_with fail
 refine (Int_small Q.floor r6 _ (HG.out.below qbl) HR6.out hfl).mono ?_
 rintro e w7 ⟨rfl,hB7⟩
 have hb7:Below w.heap.size w w7:=qbl
 have cf7:=keep hb7 cf
 have cc7:=keep hb7 cc
 have ff7:=keepf hb7 cf ff
 have fc7:=keepf hb7 cc fc
 have z1:=lt_of_cell cf7
 have z2:=lt_of_cell cc7
 have hzf:=lt_of_cell cf
 have hw1:IntKind.i64.wrap (vf+Q.floor)=vf+Q.floor:=IntWalk.i64_in _ (by omega)
 have hw2:IntKind.i64.wrap (vc+1)=vc+1:=IntWalk.i64_in _ (by omega)
 have hbf7:Below bf w w7:=hb7.mono (by omega)
 clear hB7
 by_cases hde:Q.den=1
 ·have hE:(r6.toList == r3.toList)=true:=by
   have h3:=HDEN.out.1 hde
   have h4:r6.data.toList=r3.data.toList:=by rw [HR6.out,HR3.out,h3]
   rw [Lib.toList_data,Lib.toList_data,h4];simp
  have hVe:=HV1.out hde
  clear HV1 HV2
  subst hVe
  go_wp2_with fail
  go_ret
  refine ⟨rfl,(hbf7).setCell (Nat.le_refl _) _,?_,?_,?_,?_⟩
  all_goals simp [go_sem, *,World.cell?_setCell_far,Nat.ne_of_gt,Nat.ne_of_lt]
 ·have hE:(r6.toList == r3.toList)=false:=by
   have h4:r6.data.toList≠r3.data.toList:=by
    intro h
    rw [HR6.out,HR3.out] at h
    exact hde (HDEN.out.2 (ratText_inj hfl hq h))
   rw [Lib.toList_data,Lib.toList_data];simpa using h4
  have hVe:=HV2.out hde
  clear HV1 HV2
  subst hVe
  go_wp2_with fail
  go_ret
  refine ⟨rfl,((hbf7).setCell (Nat.le_refl _) _).setCell (Nat.le_of_lt hbc) _,?_,?_,?_,?_⟩
  all_goals simp [go_sem, *,World.cell?_setCell_far,Nat.ne_of_gt,Nat.ne_of_lt]
end Go.Proofs.YthihcjgmlbnapaaGreatDoor
namespace Go.Proofs.YthihcjgmlbnapaaGreatDoor
open Go.RowKit
def fullTo (sp:List (Rat × Rat)) (wd:Int) (k:Nat):Int:=((sp.take k).map (fun s=>((s.2 - s.1) / (wd:Rat)).floor)).sum
def cutTo (sp:List (Rat × Rat)) (wd:Int) (k:Nat):Int:=((sp.take k).map (fun s=>if ((s.2 - s.1) / (wd:Rat)).den=1 then (0:Int) else 1)).sum
theorem fullTo_zero (sp:List (Rat × Rat)) (wd:Int):fullTo sp wd 0=0:=by simp [fullTo]
theorem cutTo_zero (sp:List (Rat × Rat)) (wd:Int):cutTo sp wd 0=0:=by simp [cutTo]
theorem fullTo_succ (sp:List (Rat × Rat)) (wd:Int) {k:Nat} (h:k < sp.length):fullTo sp wd (k+1)=fullTo sp wd k+((sp[k].2 - sp[k].1) / (wd:Rat)).floor:=by
 unfold fullTo
 rw [List.take_succ_eq_append_getElem h,List.map_append,List.sum_append];simp
theorem cutTo_succ (sp:List (Rat × Rat)) (wd:Int) {k:Nat} (h:k < sp.length):cutTo sp wd (k+1)=if ((sp[k].2 - sp[k].1) / (wd:Rat)).den=1 then cutTo sp wd k else cutTo sp wd k+1:=by
 unfold cutTo
 rw [List.take_succ_eq_append_getElem h,List.map_append,List.sum_append]
 simp only [List.map_cons,List.map_nil,List.sum_cons,List.sum_nil,Int.add_zero]
 split<;>simp
def GoodSteps (sp:List (Rat × Rat)) (wd:Int):Prop:=∀ k (h:k < sp.length),0 < sp[k].2 - sp[k].1∧Small ((sp[k].2 - sp[k].1) / wd)
theorem floor_small' {q:Rat} (h:Small q) (h0:0≤q):0≤q.floor∧q.floor < 100000000:=by
 rw [Rat.floor_def]
 have h1:=h.1
 have h2:=q.den_pos
 have h3:0≤q.num:=Rat.num_nonneg.2 h0
 refine ⟨Int.ediv_nonneg h3 (by omega),?_⟩
 have:=Int.ediv_le_self (a:=q.num) q.den h3
 omega
theorem fullTo_bds {sp:List (Rat × Rat)} {wd:Int} (h1:1≤wd) (hg:GoodSteps sp wd):∀ k,k≤sp.length→0≤fullTo sp wd k∧fullTo sp wd k≤100000000 * k∧0≤cutTo sp wd k∧cutTo sp wd k≤k:=by
 intro k
 induction k with
 | zero=>intro _;simp [fullTo_zero,cutTo_zero]
 | succ k ih =>
  intro hk
  obtain ⟨i1,i2,i3,i4⟩:=ih (by omega)
  obtain ⟨g1,g2⟩:=hg k (by omega)
  have hw:(0:Rat) < wd:=by exact_mod_cast h1
  have:=floor_small' g2 (Rat.le_of_lt (by rw [Rat.div_def];exact Rat.mul_pos g1 (Rat.inv_pos.2 hw)))
  rw [fullTo_succ _ _ (by omega),cutTo_succ _ _ (by omega)]
  split<;>omega
theorem Course_ok {lo hi:Rat} {sp:List (Rat × Rat)} (c:Value) (wd:Int) (w:World) (hG:Glo w) (hc:IsCourse w c lo hi sp) (hg:GoodCourse lo hi sp) (hst:GoodSteps sp wd) (h1:1≤wd) (h2:wd≤2000) :
  Calls Tryz.prog 13 #[c,.int .i64 wd] w (RetB (.tuple #[.int .i64 (fullTo sp wd sp.length),.int .i64 (cutTo sp wd sp.length),.int .i64 0]) w):=by
 have hri:=fun (w':World) (hB:Below w.heap.size w w')=>tright_ok c wd w' (hG.below hB) (hc.below hB) hg h1 h2
 obtain ⟨s,t,v,rfl,hs,ht,hv⟩:=hc
 obtain ⟨a,cap,rfl,hcap,hcells⟩:=id hv
 have HRI:=Lib.hid hri
 have HG:=Lib.hid hG
 have HC:=Lib.hid hcells
 have HGC:=Lib.hid hg
 have HST:=Lib.hid hst
 have HBD:=Lib.hid (fullTo_bds h1 hst)
 have hl64:=hg.len
 clear hs ht hv hG hcells hg hst hri
 go_enter Tryz.func13,Tryz.ntmps13
 go_wp2_with fail
 refine (HRI.out _ qbl).mono ?_
 rintro e w1 ⟨rfl,hB1⟩
 have hb1:Below w.heap.size w w1:=qbl
 have c0:w1.cell? ⟨w.heap.size,0,none⟩=some (.string s):=keep hB1 (by simp [go_sem])
 have c1:w1.cell? ⟨w.heap.size,1,none⟩=some (.string t):=keep hB1 (by simp [go_sem])
 have c2:w1.cell? ⟨w.heap.size,2,none⟩=some (.slice a sp.length cap):=keep hB1 (by simp [go_sem])
 have c3:w1.cell? ⟨w.heap.size+1,0,none⟩=some (.int .i64 wd):=keep hB1 (by simp [go_sem])
 have z1:=lt_of_cell c2
 have z2:=lt_of_cell c3
 go_wp2_with fail
 go_loopw [23] (fun i wr=>∃ k:Nat,k≤sp.length∧i=.int .i64 k∧Below w.heap.size w wr∧wr.cell? ⟨w.heap.size+1,0,none⟩=some (.int .i64 wd)∧wr.cell? ⟨w1.heap.size,0,none⟩=some (.int .i64 (fullTo sp wd k))∧wr.frozen? ⟨w1.heap.size,0,none⟩=false∧wr.cell? ⟨w1.heap.size+1,0,none⟩=some (.int .i64 (cutTo sp wd k))∧wr.frozen? ⟨w1.heap.size+1,0,none⟩=false) (fun i _=>sp.length - (intOf i).toNat)
 case atStart =>
  refine ⟨0,by omega,rfl,qbl,?_,?_,?_,?_,?_⟩
  all_goals simp [go_sem,fullTo_zero,cutTo_zero, *,World.cell?_setCell_far]
 case round =>
  obtain ⟨j,hj,rfl,hBj,kw,kf,kff,kc,kcf⟩:=hrel
  obtain ⟨bd1,bd2,bd3,bd4⟩:=HBD.out j hj
  by_cases hjn:j=sp.length
  ·subst hjn
   go_wp2_with fail
   go_quiet (fail)
   go_wp2_with fail
   go_ret3
   exact ⟨rfl,qbl⟩
  ·have hj1:j < sp.length:=by omega
   obtain ⟨b,off,rfl,hbb,hcc⟩:=HC.out (fun h=>by rw [h] at hj1;simp at hj1)
   obtain ⟨u,v,e0,e1,hu,hv⟩:=hcc j hj1
   have q0:=keep hBj e0
   have q1:=keep hBj e1
   have HU:=Lib.hid hu
   have HV:=Lib.hid hv
   have hji:(j:Int) < (sp.length:Int):=by omega
   clear hu hv e0 e1 hjn hcc
   go_wp2_with fail
   refine (count_ok u v wd (fullTo sp wd j) (cutTo sp wd j) (w.heap.size+1) w1.heap.size (w1.heap.size+1) _ (HG.out.below qbl) HU.out HV.out (HGC.out.right.1 j hj1).1 (HGC.out.right.1 j hj1).2.1 (HGC.out.dif j hj1) h1 h2 (HST.out j hj1).2 ?_ (keep (bw4 (bw0 _ _) _) kw) (keep (bw4 (bw0 _ _) _) kf) (keep (bw4 (bw0 _ _) _) kc) (keepf (bw4 (bw0 _ _) _) kf kff) (keepf (bw4 (bw0 _ _) _) kc kcf) (by omega) (by omega) (by omega) (by omega) (by omega)).mono ?_
   ·obtain ⟨g1,g2⟩:=HST.out j hj1
    have hw:(0:Rat) < wd:=by exact_mod_cast h1
    have:=floor_small' g2 (Rat.le_of_lt (by rw [Rat.div_def];exact Rat.mul_pos g1 (Rat.inv_pos.2 hw)))
    refine ⟨?_,by show 1 < 100000000;omega⟩
    show (((sp[j].2 - sp[j].1) / (wd:Rat)).floor).natAbs < 100000000
    omega
   rintro e w2 ⟨rfl,hB2,kf',kff',kc',kcf'⟩
   have hB2':Below w.heap.size w w2:=(bw4 hBj _).trans (hB2.mono (by omega))
   have kw':w2.cell? ⟨w.heap.size+1,0,none⟩=some (.int .i64 wd):=(hB2.cell (p:=⟨w.heap.size+1,0,none⟩) z2).trans (keep (bw4 (bw0 _ _) _) kw)
   rw [← fullTo_succ _ _ hj1] at kf'
   rw [← cutTo_succ _ _ hj1] at kc'
   clear hB2 kw kf kff kc kcf
   go_wp2_with fail
   go_roundw
   case rel=>exact ⟨j+1,by omega,by go_num,hB2',kw',kf',kff',kc',kcf'⟩
   case measure=>simp [intOf];omega
end Go.Proofs.YthihcjgmlbnapaaGreatDoor
namespace Go.Proofs.YthihcjgmlbnapaaGreatDoor
open Go.RowKit Go.Shelf
attribute [local go_sem] Oper.semAt_some
def numS (q:Rat):ByteArray:=⟨(ratText q).toArray⟩
theorem numS_list (q:Rat):(numS q).data.toList=ratText q:=rfl
theorem numS_of {s:ByteArray} {q:Rat} (h:s.data.toList=ratText q):s=numS q:=by
 apply ByteArray.ext
 apply Array.toList_inj.1
 rw [h];rfl
def KpB (B b2 b3:Nat) (W W':World):Prop:=Below B W W'∧W'.heap[b2]?=W.heap[b2]?∧W'.heap[b3]?=W.heap[b3]?
theorem KpB.t {B b2 b3:Nat} {X Y Z:World} (h:KpB B b2 b3 X Y) (k:KpB B b2 b3 Y Z):KpB B b2 b3 X Z:=⟨h.1.trans k.1,k.2.1.trans h.2.1,k.2.2.trans h.2.2⟩
theorem KpB.b {B b2 b3 m:Nat} (h1:B≤m) (h2:b2 < m) (h3:b3 < m) (W:World) (l:Nat) (o o':Obj) (hl:m≤l) (_:W.heap[l]?=some o) (_:o.isCells=false) (_:o.isWalk=false):KpB B b2 b3 W (W.putObj l o'):=by
 have hg:=grownBy_putObj' W l o'
 refine ⟨⟨hg.os,hg.tape,hg.output,hg.size,fun k hk=>?_⟩,?_,?_⟩
 ·exact World.putObj_heap_other (by omega)
 ·exact World.putObj_heap_other (by omega)
 ·exact World.putObj_heap_other (by omega)
def ats (f wd:Rat) (N:Nat):List Rat:=(List.range N).map (fun k:Nat=>f+(k:Rat) * wd)
theorem ats_succ (f wd:Rat) (k:Nat):ats f wd (k+1)=ats f wd k++[f+(k:Rat) * wd]:=by simp [ats,List.range_succ]
theorem ats_length (f wd:Rat) (k:Nat):(ats f wd k).length=k:=by simp [ats]
theorem ats_prefix (f wd:Rat) {k N:Nat} (h:k≤N):ats f wd k <+: ats f wd N:=by
 induction h with
 | refl=>exact List.prefix_refl _
 | step h ih=>rw [ats_succ];exact ih.trans (List.prefix_append _ _)
structure StepsTo (f hi wd:Rat) (N:Nat):Prop where
 lt:∀ k:Nat,k < N→f+(k:Rat) * wd < hi
 ge:hi≤f+(N:Rat) * wd
 sm:∀ k:Nat,k≤N→Small (f+(k:Rat) * wd)
 hi:Small hi
 wd:Small wd
theorem abides_below {J:List Rat→World→Prop} {B:Nat} (hJ:AbidesFrom B J) {xs:List Rat} {W W':World} (h:J xs W) (hB:Below W.heap.size W W'):J xs W' :=
 hJ xs W W' none h ⟨hB.os,hB.tape,hB.output,hB.size,fun k hk _=>hB.block k hk⟩ (fun r e=>by cases e)
theorem cmp_lt {p q:Rat} (h:p < q):Lib.compareInt (p.num * q.den) (q.num * p.den)=-1:=by
 rw [Lib.compareInt,if_pos (Rat.lt_iff _ _ |>.1 h)]
theorem cmp_ge {p q:Rat} (h:q≤p):0≤Lib.compareInt (p.num * q.den) (q.num * p.den):=by
 have:=Rat.le_iff _ _ |>.1 h
 rw [Lib.compareInt,if_neg (by omega)]
 split<;>omega
theorem begin1_in {f hi wd:Rat} {N:Nat} (n:Nat) (hn:1≤n) (l b1 b2 b3:Nat) (B:Nat) (J Jx:List Rat→World→Prop) (hst:StepsTo f hi wd N)
  (hY:∀ pre x W,J pre W→pre.length < N→YieldAt Fence.wide (n - 1) Tryz.prog l #[.string (numS x)] W fun e W' =>
   (e=.returned (.bool true)∧J (pre++[x]) W'∧KpB B b2 b3 W W')∨(e=.returned (.bool false)∧Jx (pre++[x]) W'))
  (W:World) (hJ:AbidesFrom W.heap.size J) (w0:World) (hG:Glo w0) (hw0:Below w0.heap.size w0 W) (hB:w0.heap.size≤B)
  (c1:W.cell? ⟨b1,0,none⟩=some (.string (numS f))) (c2:W.cell? ⟨b2,1,none⟩=some (.string (numS hi))) (c3:W.cell? ⟨b3,0,none⟩=some (.string (numS wd))) (h0:J [] W) :
  CallsIn Fence.wide n Tryz.prog 83 #[.func (.yield l) #[] #[],.pointer (some ⟨b1,0,none⟩),.pointer (some ⟨b2,0,none⟩),.pointer (some ⟨b3,0,none⟩)] W fun e W'=>(∃ v,e=.returned v) ∧
   ((∃ ys,ys=ats f wd N∧J ys W')∨(∃ pre,pre <+: ats f wd N∧Jx pre W')):=by
 have HG:=Lib.hid hG
 have HST:=Lib.hid hst
 have HJ:=Lib.hid hJ
 have HY:=Lib.hid hY
 clear hG hst hJ hY
 refine callsIn_of_wp Tryz.func83 rfl trivial ?_ rfl
 simp only [Tryz.ntmps83,List.size_toArray,List.length_cons,List.length_nil,Nat.reduceAdd,Nat.reduceSub,Array.replicate_succ,Array.replicate_zero,List.push_toArray,List.append_toArray,List.nil_append,List.cons_append]
 gi_wp2
 gi_loopg [5] N (fun g v wr=>∃ k:Nat,k≤N∧g=N - k∧v=.string (numS (f+(k:Rat) * wd))∧Hid (J (ats f wd k) wr)∧Below w0.heap.size w0 wr∧wr.cell? ⟨b2,1,none⟩=some (.string (numS hi))∧wr.cell? ⟨b3,0,none⟩=some (.string (numS wd)))
 case atStart=>exact ⟨0,by omega,rfl,by simp [Rat.zero_mul,Rat.add_zero],Lib.hid h0,hw0,c2,c3⟩
 case round =>
  obtain ⟨k,hk,rfl,rfl,hJk,hBk,k2,k3⟩:=hrel
  by_cases hkn:k=N
  ·subst hkn
   have hc:=cmp_ge HST.out.ge
   gi_wp2_with (refine ⟨trivial,?_⟩;gi_at_call 30;refine (callsIn_wide.2 (Compare_small _ _ _ (numS_list _) (HST.out.sm k (Nat.le_refl _)) (numS_list _) HST.out.hi)).mono ?_;rintro e w' ⟨rfl,hB'⟩)
   refine ⟨fun _ h=>(by cases h),?_⟩
   gi_wp2
   refine bodyPost_ret (results_none rfl _ _ _) rfl ?_
   exact ⟨⟨_,rfl⟩,.inl ⟨_,rfl,abides_below HJ.out hJk.out hB'⟩⟩
  ·have hk1:k < N:=by omega
   have hc:=cmp_lt (HST.out.lt k hk1)
   have hpl:(ats f wd k).length < N:=by rw [ats_length];exact hk1
   gi_wp2_with (refine ⟨trivial,?_⟩;gi_at_call 30;refine (callsIn_wide.2 (Compare_small _ _ _ (numS_list _) (HST.out.sm k hk) (numS_list _) HST.out.hi)).mono ?_;rintro e w' ⟨rfl,hB'⟩;rw [hc];have hB2:Below w0.heap.size w0 w':=hBk.trans (hB'.mono hBk.size);have k2':=keep hB' k2;have k3':=keep hB' k3;obtain ⟨fn,tmps,assign,body,hy,hR⟩:=HY.out (ats f wd k) (f+(k:Rat) * wd) w' (abides_below (HJ.out) hJk.out hB') hpl)
   have hsm1:=HST.out.sm (k+1) hk1
   have hnx:f+(k:Rat) * wd+wd=f+((k+1:Nat):Rat) * wd:=by
    rw [Rat.natCast_add,Rat.add_mul,Rat.add_assoc];simp [Rat.one_mul]
   have HNX:=Lib.hid hnx
   clear hnx
   refine hR.mono ?_
   rintro e W3 (⟨rfl,hJ3,hk3⟩|⟨rfl,hJx3⟩)
   ·have hB3:Below w0.heap.size w0 W3:=hB2.trans (hk3.1.mono hB)
    have k23:W3.cell? ⟨b2,1,none⟩=some (.string (numS hi)):=(World.cell?_of_block hk3.2.1).trans k2'
    have k33:W3.cell? ⟨b3,0,none⟩=some (.string (numS wd)):=(World.cell?_of_block hk3.2.2).trans k3'
    have hJ3':=Lib.hid hJ3
    clear hJ3 hk3
    gi_wp2
    refine ⟨trivial,?_⟩
    refine (callsIn_wide.2 (Add_small _ _ _ (HG.out.below hB3) (numS_list _) (HST.out.sm k hk) (numS_list _) HST.out.wd)).mono ?_
    rintro e w4 ⟨r,hr,rfl,hB4⟩
    have he:=numS_of hr
    subst he
    rw [HNX.out]
    have hB4':Below w0.heap.size w0 w4:=hB3.trans (hB4.mono hB3.size)
    have k24:=keep hB4 k23
    have k34:=keep hB4 k33
    have hJ4:Hid (J (ats f wd (k+1)) w4):=Lib.hid (by rw [ats_succ];exact abides_below HJ.out hJ3'.out hB4)
    clear hr hB4 k23 k33 hJ3'
    gi_wp2
    gi_roundg (N - (k+1))
    case rel=>exact ⟨k+1,hk1,rfl,by simp [Rat.natCast_add],hJ4,hB4',k24,k34⟩
    case measure=>omega
   ·gi_wp2
    refine bodyPost_ret (results_none rfl _ _ _) rfl ?_
    exact ⟨⟨_,rfl⟩,.inr ⟨_,by rw [← ats_succ];exact ats_prefix _ _ hk1,hJx3⟩⟩
theorem begin_stops {f hi wd:Rat} {N:Nat} (n:Nat) (hn:1≤n) (b1 b2 b3:Nat) (B:Nat) (hst:StepsTo f hi wd N) (w0 w:World) (hG:Glo w0) (hw0:Below w0.heap.size w0 w) (hB:w0.heap.size≤B)
  (c1:w.cell? ⟨b1,0,none⟩=some (.string (numS f))) (c2:w.cell? ⟨b2,1,none⟩=some (.string (numS hi))) (c3:w.cell? ⟨b3,0,none⟩=some (.string (numS wd))) :
  SeqStopsK Fence.wide n Tryz.prog 83 #[.pointer (some ⟨b1,0,none⟩),.pointer (some ⟨b2,0,none⟩),.pointer (some ⟨b3,0,none⟩)] (fun q:Rat=>#[Value.string (numS q)]) (KpB B b2 b3) (fun ys=>ys=ats f wd N) (fun pre=>pre <+: ats f wd N) N w:=fun l J Jx W hW hJ _ hY h0 =>
 begin1_in n hn l b1 b2 b3 B J Jx hst hY W hJ w0 hG (hw0.trans (hW.mono hw0.size)) hB (keep hW c1) (keep hW c2) (keep hW c3) h0
theorem beginnings_any (a b c d:ByteArray) (w:World) :
  Calls Tryz.prog 40 #[.string a,.agg #[.string b,.string c],.string d] w fun e w'=>e=.returned (.func (.func 83) #[] #[.pointer (some ⟨w.heap.size,0,none⟩),.pointer (some ⟨w.heap.size+1,0,none⟩),.pointer (some ⟨w.heap.size+2,0,none⟩)])∧w'=((w.alloc (.cells #[.string a] 36)).alloc (.cells #[.string b,.string c] 54)).alloc (.cells #[.string d] 36):=by
 have hmf:∀ (fn:Fn) (first cap:Array Value) (w:World),(Instr.makeFunc fn first cap).run Tryz.prog w=.ok (.func fn first cap) w:=fun _ _ _ _=>rfl
 go_enter Tryz.func40,Tryz.ntmps40
 go_wp2_with fail
 go_ret
 exact ⟨rfl,rfl⟩
end Go.Proofs.YthihcjgmlbnapaaGreatDoor
namespace Go.Proofs.YthihcjgmlbnapaaGreatDoor
open Go.RowKit Go.Shelf
attribute [local go_sem] Oper.semAt_some
theorem two_text:ratText 2=[50]:=by decide +kernel
instance (q:Rat):Decidable (Small q):=inferInstanceAs (Decidable (_∧_))
theorem small_half_fin:∀ k:Fin 2001,Small (((k.1:Int):Rat) / 2):=by decide +kernel
theorem small_half {wd:Int} (h1:1≤wd) (h2:wd≤2000):Small ((wd:Rat) / 2):=by
 have:=small_half_fin ⟨wd.toNat,by omega⟩
 simp only [Int.toNat_of_nonneg (show 0≤wd by omega)] at this
 exact this
def firstAt (s:Rat × Rat) (wd:Int) (odd:Bool):Rat:=if odd then s.1 - (wd:Rat) / 2 else s.1
def markOf (D:Nat):Deferred:={ target:=.collected D,args:=#[] }
def offTo (sp:List (Rat × Rat)) (wd:Int) (odd:Bool) (Ns:Nat→Nat) (j:Nat):List Rat:=(List.range j).flatMap (fun k=>if h:k < sp.length then ats (firstAt sp[k] wd odd) wd (Ns k) else [])
theorem offTo_zero (sp:List (Rat × Rat)) (wd:Int) (odd:Bool) (Ns:Nat→Nat):offTo sp wd odd Ns 0=[]:=rfl
theorem offTo_succ (sp:List (Rat × Rat)) (wd:Int) (odd:Bool) (Ns:Nat→Nat) {j:Nat} (h:j < sp.length):offTo sp wd odd Ns (j+1)=offTo sp wd odd Ns j++ats (firstAt sp[j] wd odd) wd (Ns j):=by
 simp [offTo,List.range_succ,h]
def numVs (l:List Rat):List Value:=l.map (fun q=>.string (numS q))
def OutBox (B:Nat) (l:List Rat) (W:World):Prop:=∃ v,Boxed W B 60 v∧W.ownsRow B 36 1 v l.length (numVs l)∧(v=.slice none 0 0↔l=[])
structure OffInv (sp:List (Rat × Rat)) (wd:Int) (odd:Bool) (Ns:Nat→Nat) (j:Nat) (w3:World) (B:Nat) (Ds:List Nat) (W:World):Prop where
 out:OutBox B (offTo sp wd odd Ns j) W
 below:Below w3.heap.size w3 W
 nodup:Ds.Nodup
 marks:∀ D ∈ Ds,B≤D∧W.heap[D]?=some (.deferred (some []))
theorem offInv_zero (sp:List (Rat × Rat)) (wd:Int) (odd:Bool) (Ns:Nat→Nat) (w3:World):OffInv sp wd odd Ns 0 w3 w3.heap.size [] (w3.alloc (.cells #[.slice none 0 0] 60)) :=
 ⟨⟨_,Boxed.new _ _ _,World.ownsRow_nil _ _ _ _,by simp [offTo_zero]⟩,bw4 (bw0 _ _) _,List.nodup_nil,by simp⟩
theorem leaves_marks {F:Fence} {n:Nat} {P:Program} {fn:Func} {tmps:Array Value} {R:Ending→World→Prop} (B:Nat):∀ (Ds:List Nat) (W:World),Ds.Nodup→(∀ D ∈ Ds,B≤D∧W.heap[D]?=some (.deferred (some []))) →
  (∀ W',Below B W W'→(∀ (k:Nat) (o:Obj),W.heap[k]?=some o→o.isCells=true→W'.heap[k]?=some o)→LeavesIn F n P fn tmps R [] .returning W')→LeavesInM F n P fn tmps R (Ds.map markOf) .returning W
 | [],W,_,_,h=>h W (bw0 _ _) (fun _ _ hk _=>hk)
 | D::Ds,W,hn,hm,h=>by
  obtain ⟨hB,hD⟩:=hm D List.mem_cons_self
  rw [List.nodup_cons] at hn
  refine ⟨by simp,.inl ⟨D,_,rfl,run_takeDeferred hD,?_⟩⟩
  have hg:=grownBy_putObj' W D (.deferred none)
  refine leaves_marks B Ds _ hn.2 (fun E hE=>?_) (fun W' hB' hc=>?_)
  ·obtain ⟨x1,x2⟩:=hm E (List.mem_cons_of_mem _ hE)
   refine ⟨x1,(World.putObj_heap_other ?_).trans x2⟩
   intro e
   subst e
   exact hn.1 hE
  ·refine h W' ((?_:Below B W _).trans hB') (fun k o hk ho=>hc k o ?_ ho)
   ·exact ⟨hg.os,hg.tape,hg.output,hg.size,fun k hk=>World.putObj_heap_other (by omega)⟩
   ·refine (World.putObj_heap_other ?_).trans hk
    intro e
    subst e
    rw [hD] at hk;cases hk;cases ho
def RetOff (l:List Rat) (w:World) (e:Ending) (w':World):Prop:=∃ v,e=.returned (.tuple #[v,.int .i64 0])∧w'.ownsRow w.heap.size 36 1 v l.length (numVs l)∧(v=.slice none 0 0↔l=[])∧Below w.heap.size w w'
theorem ownsRow_keeps {W W':World} {B e size k:Nat} {v:Value} {xs:List Value} (h:W.ownsRow B e size v k xs) (hc:∀ (k:Nat) (o:Obj),W.heap[k]?=some o→o.isCells=true→W'.heap[k]?=some o):W'.ownsRow B e size v k xs:=by
 obtain ⟨h1,h2⟩:=h
 refine ⟨h1,h2.imp id ?_⟩
 rintro ⟨g,cap,cur,x1,x2,x3,x4⟩
 exact ⟨g,cap,cur,x1,x2,hc _ _ x3 rfl,x4⟩
theorem ownsRow_base {W:World} {B B' e size k:Nat} {v:Value} {xs:List Value} (h:W.ownsRow B e size v k xs) (hB:B'≤B):W.ownsRow B' e size v k xs:=by
 obtain ⟨h1,h2⟩:=h
 refine ⟨h1,h2.imp id ?_⟩
 rintro ⟨g,cap,cur,x1,x2,x3⟩
 exact ⟨g,cap,cur,x1,by omega,x3⟩
theorem cell_keeps {W W':World} {a:Addr} {v:Value} (h:W.cell? a=some v) (hc:∀ (k:Nat) (o:Obj),W.heap[k]?=some o→o.isCells=true→W'.heap[k]?=some o):W'.cell? a=some v:=by
 obtain ⟨o,ho,hoc⟩:=cells_of_cell h
 exact (World.cell?_of_block ((hc _ _ ho hoc).trans ho.symm)).trans h
theorem ownsRow_setCell {W:World} {B e size k b:Nat} {v u:Value} {xs:List Value} (h:W.ownsRow B e size v k xs) (hb:b < B):(W.setCell ⟨b,0,none⟩ u).ownsRow B e size v k xs:=by
 obtain ⟨h1,h2⟩:=h
 refine ⟨h1,h2.imp id ?_⟩
 rintro ⟨g,cap,cur,x1,x2,x3,x4⟩
 exact ⟨g,cap,cur,x1,x2,(Below.heap_setCell W ⟨b,0,none⟩ u g (by show g≠b;omega)).trans x3,x4⟩
theorem OffInv.below' {sp:List (Rat × Rat)} {wd:Int} {odd:Bool} {Ns:Nat→Nat} {j:Nat} {w3:World} {B:Nat} {Ds:List Nat} {W W':World} (h:OffInv sp wd odd Ns j w3 B Ds W) (hB:Below W.heap.size W W'):OffInv sp wd odd Ns j w3 B Ds W':=by
 obtain ⟨v,h1,h2,h3⟩:=h.out
 have hsz:∀ {k:Nat} {o:Obj},W.heap[k]?=some o→W'.heap[k]?=some o:=fun hk=>(hB.block _ (Array.getElem?_eq_some_iff.1 hk).1).trans hk
 refine ⟨⟨v,hsz h1,ownsRow_keeps h2 (fun k o hk _=>hsz hk),h3⟩,h.below.trans (hB.mono h.below.size),h.nodup,fun D hD=>⟨(h.marks D hD).1,hsz (h.marks D hD).2⟩⟩
theorem Tryz.infoNum:(Tryz.prog.info? 36).map (fun i=>(i.zero,i.size,i.bytes))=some (some (.string ⟨#[]⟩),1,16):=by kernel_rfl
theorem row_ne {W W1:World} {B e k b:Nat} {v v':Value} {ys:List Value} {o:Obj} (hb:W.heap[b]?=some o) (hgrow:W.grownBy W1 v.ownBlock) (hvb:v.ownBlock≠some b) (hown':W1.ownsRow B e 1 v' (k+1) ys) (ho:∀ cur,o=.cells cur e (0,0)→cur.size≤k):v'.ownBlock≠some b:=by
 have hb1:W1.heap[b]?=some o:=(hgrow.block b (Array.getElem?_eq_some_iff.1 hb).1 (fun e=>hvb e.symm)).trans hb
 rcases hown'.2 with ⟨_,h⟩|⟨g,cap,cur,rfl,_,hg,hc,_,hs,_⟩
 ·omega
 ·intro e
  obtain rfl:g=b:=by simpa [Value.ownBlock] using e
  rw [hb1] at hg
  have:=ho cur (by simpa using hg)
  omega
theorem base_pick {W:World} {B e k b2 b3:Nat} {v:Value} {xs:List Value} {o2 o3:Obj} (hrow:W.ownsRow B e 1 v k xs) (hB:B≤W.heap.size) (hnil:v=.slice none 0 0↔k=0)
  (h2:W.heap[b2]?=some o2) (h3:W.heap[b3]?=some o3) (n2:v.ownBlock≠some b2) (n3:v.ownBlock≠some b3) (k2:∀ cur,o2≠.cells cur e (0,0)) (k3:∀ cur,o3=.cells cur e (0,0)→cur.size=1) :
  ∃ B',B≤B'∧B'≤W.heap.size∧W.ownsRow B' e 1 v k xs∧(∀ v' W1 ys,W1.ownsRow B' e 1 v' (k+1) ys→W.grownBy W1 v.ownBlock→v'.ownBlock≠some b2∧v'.ownBlock≠some b3):=by
 by_cases hk:k=0
 ·have hv:=hnil.2 hk
  subst hv
  refine ⟨W.heap.size,hB,Nat.le_refl _,⟨hrow.1,.inl ⟨rfl,hk⟩⟩,fun v' W1 ys hy hg=>?_⟩
  rcases hy.2 with ⟨_,h⟩|⟨g,cap,cur,rfl,hbg,_⟩
  ·omega
  ·have l2:=(Array.getElem?_eq_some_iff.1 h2).1
   have l3:=(Array.getElem?_eq_some_iff.1 h3).1
   simp [Value.ownBlock]
   omega
 ·refine ⟨B,Nat.le_refl _,hB,hrow,fun v' W1 ys hy hg=>⟨row_ne h2 hg n2 hy (fun cur h=>absurd h (k2 cur)),row_ne h3 hg n3 hy (fun cur h=>by have:=k3 cur h;omega)⟩⟩
theorem marks_own {β:Type} {B m:Nat} {Ds:List Nat} (h:∀ D ∈ Ds,D < m):OwnFrom m (fun (_:β) W=>∀ D ∈ Ds,B≤D∧W.heap[D]?=some (.deferred (some []))):=fun s W W' row hs hg hr D hD=>by
 refine ⟨(hs D hD).1,(hg.block D (Array.getElem?_eq_some_iff.1 (hs D hD).2).1 ?_).trans (hs D hD).2⟩
 intro e
 have:=(hr D e.symm).1
 have:=h D hD
 omega
theorem block_own {β:Type} {m b:Nat} {o:Obj} (h:b < m):OwnFrom m (fun (_:β) W=>W.heap[b]?=some o):=fun s W W' row hs hg hr=>by
 refine (hg.block b (Array.getElem?_eq_some_iff.1 hs).1 ?_).trans hs
 intro e
 have:=(hr b e.symm).1
 omega
theorem Offsets_ok {lo hi:Rat} {sp:List (Rat × Rat)} (c:Value) (wd:Int) (odd:Bool) (w:World) (hG:Glo w) (hc:IsCourse w c lo hi sp) (hg:GoodCourse lo hi sp) (h1:1≤wd) (h2:wd≤2000)
  (Ns:Nat→Nat) (hst:∀ k (h:k < sp.length),StepsTo (firstAt sp[k] wd odd) sp[k].2 wd (Ns k)) (hmx:∀ k,k≤sp.length→(offTo sp wd odd Ns k).length≤4000) :
  Calls Tryz.prog 14 #[c,.int .i64 wd,.bool odd] w (RetOff (offTo sp wd odd Ns sp.length) w):=by
 have hri:=fun (w':World) (hB:Below w.heap.size w w')=>tright_ok c wd w' (hG.below hB) (hc.below hB) hg h1 h2
 obtain ⟨s,t,v,rfl,hs,ht,hv⟩:=hc
 obtain ⟨a,cap,rfl,hcap,hcells⟩:=id hv
 have hws:Small (wd:Rat):=⟨by show wd.natAbs < 100000000;omega,by show 1 < 100000000;omega⟩
 have hs2:Small 2:=⟨by decide,by decide⟩
 have HRI:=Lib.hid hri
 have HG:=Lib.hid hG
 have HC:=Lib.hid hcells
 have HGC:=Lib.hid hg
 have HST:=Lib.hid hst
 have hl64:=hg.len
 have HMX:=Lib.hid hmx
 obtain ⟨i0,hi0,hz0,hz1,hz2⟩:=info_parts Tryz.infoNum
 clear hs ht hv hG hcells hg hst hri hmx
 refine (callsIn_wide (n:=5)).1 ?_
 refine callsIn_of_wp_marks Tryz.func14 rfl trivial ?_ rfl
 simp only [Tryz.ntmps14,List.size_toArray,List.length_cons,List.length_nil,Nat.reduceAdd,Nat.reduceSub,Array.replicate_succ,Array.replicate_zero,List.push_toArray,List.append_toArray,List.nil_append,List.cons_append]
 gi_wp2
 refine ⟨trivial,?_⟩
 refine (callsIn_wide.2 (HRI.out _ qbl)).mono ?_
 rintro e w1 ⟨rfl,hB1⟩
 have hb1:Below w.heap.size w w1:=qbl
 have c0:w1.cell? ⟨w.heap.size,0,none⟩=some (.string s):=keep hB1 (by simp [go_sem])
 have c1:w1.cell? ⟨w.heap.size,1,none⟩=some (.string t):=keep hB1 (by simp [go_sem])
 have c2:w1.cell? ⟨w.heap.size,2,none⟩=some (.slice a sp.length cap):=keep hB1 (by simp [go_sem])
 have c3:w1.cell? ⟨w.heap.size+1,0,none⟩=some (.slice none 0 0):=keep hB1 (by simp [go_sem])
 have c4:w1.cell? ⟨w.heap.size+2,0,none⟩=some (.int .i64 0):=keep hB1 (by simp [go_sem])
 have z1:=lt_of_cell c2
 have z2:=lt_of_cell c3
 have z3:=lt_of_cell c4
 gi_wp2
 refine ⟨trivial,?_⟩
 refine (callsIn_wide.2 (twhole_any wd _ (HG.out.below qbl) (by omega) (by omega))).mono ?_
 rintro e w2 ⟨r2,hr2,rfl,hB2⟩
 obtain rfl:=numS_of hr2.out
 have hb2:Below w.heap.size w w2:=qbl
 clear hr2
 gi_wp2
 refine ⟨trivial,?_⟩
 refine (callsIn_wide.2 (Div_small (numS wd) ⟨#[50]⟩ _ (HG.out.below qbl) (numS_list _) hws two_text.symm hs2 (by decide))).mono ?_
 rintro e w3 ⟨r3,hr3,rfl,hB3⟩
 obtain rfl:=numS_of hr3
 have hb3:Below w.heap.size w w3:=qbl
 have m3:w1.frozen? ⟨w.heap.size+1,0,none⟩=false:=keepf hB1 (v:=.slice none 0 0) (by simp [go_sem]) (by simp [go_sem])
 have m4:w1.frozen? ⟨w.heap.size+2,0,none⟩=false:=keepf hB1 (v:=.int .i64 0) (by simp [go_sem]) (by simp [go_sem])
 have g3:=keepf hB3 (keep hB2 c3) (keepf hB2 c3 m3)
 have g4:=keepf hB3 (keep hB2 c4) (keepf hB2 c4 m4)
 clear m3 m4 hB1
 have e2:=keep hB3 (keep hB2 c2)
 have e3:=keep hB3 (keep hB2 c3)
 have e4:=keep hB3 (keep hB2 c4)
 have z4:=lt_of_cell e2
 have z5:=lt_of_cell e3
 have z6:=lt_of_cell e4
 clear hr3 hB2 hB3 c0 c1 c2 c3 c4
 gi_wp2
 refine wpIn_loop_ghost_k (fun (g:Nat) (a':Act) (w':World)=>∃ (Ds:List Nat) (u14 u15 u16 u33 u34 u35 u36 u37 u38 u39 u40 u41 u42 u43 u44 u45 u46 u47 u48 u49 u50 u51 u52 u53 u54 u55 u56 u57 u58 u59 u60:Value),(∃ j:Nat,j≤sp.length∧g=sp.length - j∧u33=.int .i64 j∧OffInv sp wd odd Ns j w3 (w3.heap.size) Ds w')∧a'={ tmps:=#[.agg #[.string s,.string t,.slice a sp.length cap],.int .i64 wd,.bool odd,.pointer (some ⟨w.heap.size,0,none⟩),undef,undef,.pointer (some ⟨w.heap.size+1,0,none⟩),.pointer (some ⟨w.heap.size+1+1,0,none⟩),.int .i64 0,.string (numS wd),.string (numS ((wd:Rat) / 2)),.int .i64 0,.pointer (some ⟨w3.heap.size,0,none⟩),undef,u14,u15,u16,.agg #[.string s,.string t,.slice a sp.length cap],.int .i64 wd,.int .i64 0,.int .i64 0,.bool false,undef,.int .i64 wd,.string (numS wd),.tuple #[.string (numS ((wd:Rat) / 2)),.int .i64 0],.string (numS wd),.tuple #[.string (numS ((wd:Rat) / 2)),.int .i64 0],.string (numS ((wd:Rat) / 2)),.int .i64 0,.pointer (some ⟨w.heap.size,2,none⟩),.slice a sp.length cap,.int .i64 sp.length,u33,u34,u35,u36,u37,u38,u39,u40,u41,u42,u43,u44,u45,u46,u47,u48,u49,u50,u51,u52,u53,u54,u55,u56,u57,u58,u59,u60],defers:=Ds.map markOf }) sp.length ?_ ?_
 ·exact ⟨[],_,_,_,_,_,_,_,_,_,_,_,_,_,_,_,_,_,_,_,_,_,_,_,_,_,_,_,_,_,_,_,⟨0,by omega,rfl,rfl,offInv_zero _ _ _ _ _⟩,rfl⟩
 ·rintro g _ wr ⟨Ds,u14,u15,u16,u33,u34,u35,u36,u37,u38,u39,u40,u41,u42,u43,u44,u45,u46,u47,u48,u49,u50,u51,u52,u53,u54,u55,u56,u57,u58,u59,u60,hrel,rfl⟩ J K hJ hK
  obtain ⟨j,hj,rfl,rfl,hI⟩:=hrel
  have f2:=keep hI.below e2
  have f3:=keep hI.below e3
  have f4:=keep hI.below e4
  have h3:=keepf hI.below e3 g3
  have h4:=keepf hI.below e4 g4
  have y3:=lt_of_cell f3
  have y4:=lt_of_cell f4
  have y2:=lt_of_cell f2
  by_cases hjn:j=sp.length
  ·subst hjn
   obtain ⟨v,hv,hrow,hnil⟩:=hI.out
   have hvc:=hv.cell
   obtain ⟨oa,on,oc,rfl⟩:∃ x y z,v=.slice x y z:=by
    rcases hrow.2 with ⟨rfl,_⟩|⟨g,cap',cur,rfl,_⟩<;>exact ⟨_,_,_,rfl⟩
   gi_wp2
   refine leaves_marks w3.heap.size Ds _ hI.nodup (fun D hD=>?_) (fun W' hB' hcc=>?_)
   ·obtain ⟨x1,x2⟩:=hI.marks D hD
    exact ⟨x1,(KeepsOthers.setCell _ _ _).same D _ ((KeepsOthers.setCell _ _ _).same D _ x2 rfl) rfl⟩
   ·have hW1:W'.cell? ⟨w.heap.size+1,0,none⟩=some (.slice oa on oc):=cell_keeps (by simp [go_sem,f3,f4]) hcc
    have hW2:W'.cell? ⟨w.heap.size+2,0,none⟩=some (.int .i64 0):=cell_keeps (by simp [go_sem,f3,f4]) hcc
    refine ⟨.tuple #[.slice oa on oc,.int .i64 0],by simp [results,Tryz.results14,go_sem,hW1,hW2],_,rfl,?_,hnil,?_⟩
    ·exact ownsRow_base (ownsRow_keeps (ownsRow_setCell (ownsRow_setCell hrow (by omega)) (by omega)) hcc) hb3.size
    ·exact (((hb3.trans (hI.below.mono hb3.size)).setCell (by simp) _).setCell (by simp;omega) _).trans (hB'.mono hb3.size)
  ·have hj1:j < sp.length:=by omega
   obtain ⟨b,off,rfl,hbb,hcc⟩:=HC.out (fun h=>by rw [h] at hj1;simp at hj1)
   obtain ⟨u,v,q0,q1,hu,hv⟩:=hcc j hj1
   have q0':=keep hI.below (keep hb3 q0)
   have q1':=keep hI.below (keep hb3 q1)
   obtain rfl:=numS_of hu
   obtain rfl:=numS_of hv
   have hji:(j:Int) < (sp.length:Int):=by omega
   clear hu hv q0 q1 hcc
   cases odd
   ·gi_wp2
    refine ⟨trivial,?_⟩
    refine (callsIn_wide.2 (beginnings_any _ _ _ _ _)).mono ?_
    rintro e w4 ⟨rfl,rfl⟩
    gi_wp2
    have hIs:OffInv sp wd _ Ns j w3 w3.heap.size Ds ((((wr.alloc (.cells #[.string (numS sp[j].1),.string (numS sp[j].2)] 54)).alloc (.cells #[.string (numS sp[j].1)] 36)).alloc (.cells #[.string (numS sp[j].1),.string (numS sp[j].2)] 54)).alloc (.cells #[.string (numS wd)] 36)):=hI.below' qbl
    have hsz:((((wr.alloc (.cells #[.string (numS sp[j].1),.string (numS sp[j].2)] 54)).alloc (.cells #[.string (numS sp[j].1)] 36)).alloc (.cells #[.string (numS sp[j].1),.string (numS sp[j].2)] 54)).alloc (.cells #[.string (numS wd)] 36)).heap.size=wr.heap.size+3+1:=by simp
    have k1:((((wr.alloc (.cells #[.string (numS sp[j].1),.string (numS sp[j].2)] 54)).alloc (.cells #[.string (numS sp[j].1)] 36)).alloc (.cells #[.string (numS sp[j].1),.string (numS sp[j].2)] 54)).alloc (.cells #[.string (numS wd)] 36)).cell? ⟨wr.heap.size+1,0,none⟩=some (.string (numS sp[j].1)):=by simp [go_sem]
    have k2:((((wr.alloc (.cells #[.string (numS sp[j].1),.string (numS sp[j].2)] 54)).alloc (.cells #[.string (numS sp[j].1)] 36)).alloc (.cells #[.string (numS sp[j].1),.string (numS sp[j].2)] 54)).alloc (.cells #[.string (numS wd)] 36)).cell? ⟨wr.heap.size+2,1,none⟩=some (.string (numS sp[j].2)):=by simp [go_sem]
    have k3:((((wr.alloc (.cells #[.string (numS sp[j].1),.string (numS sp[j].2)] 54)).alloc (.cells #[.string (numS sp[j].1)] 36)).alloc (.cells #[.string (numS sp[j].1),.string (numS sp[j].2)] 54)).alloc (.cells #[.string (numS wd)] 36)).cell? ⟨wr.heap.size+3,0,none⟩=some (.string (numS wd)):=by simp [go_sem]
    have j2:((((wr.alloc (.cells #[.string (numS sp[j].1),.string (numS sp[j].2)] 54)).alloc (.cells #[.string (numS sp[j].1)] 36)).alloc (.cells #[.string (numS sp[j].1),.string (numS sp[j].2)] 54)).alloc (.cells #[.string (numS wd)] 36)).heap[wr.heap.size+2]?=some (.cells #[.string (numS sp[j].1),.string (numS sp[j].2)] 54 (0,0)):=by have h:=World.alloc_heap_new ((wr.alloc (.cells #[.string (numS sp[j].1),.string (numS sp[j].2)] 54)).alloc (.cells #[.string (numS sp[j].1)] 36)) (.cells #[.string (numS sp[j].1),.string (numS sp[j].2)] 54);simp only [World.size_alloc] at h;exact (Below.heap_alloc _ _ _ (by simp)).trans h
    have j3:((((wr.alloc (.cells #[.string (numS sp[j].1),.string (numS sp[j].2)] 54)).alloc (.cells #[.string (numS sp[j].1)] 36)).alloc (.cells #[.string (numS sp[j].1),.string (numS sp[j].2)] 54)).alloc (.cells #[.string (numS wd)] 36)).heap[wr.heap.size+3]?=some (.cells #[.string (numS wd)] 36 (0,0)):=by have h:=World.alloc_heap_new (((wr.alloc (.cells #[.string (numS sp[j].1),.string (numS sp[j].2)] 54)).alloc (.cells #[.string (numS sp[j].1)] 36)).alloc (.cells #[.string (numS sp[j].1),.string (numS sp[j].2)] 54)) (.cells #[.string (numS wd)] 36);simp only [World.size_alloc] at h;exact h
    have hBs:Below wr.heap.size wr ((((wr.alloc (.cells #[.string (numS sp[j].1),.string (numS sp[j].2)] 54)).alloc (.cells #[.string (numS sp[j].1)] 36)).alloc (.cells #[.string (numS sp[j].1),.string (numS sp[j].2)] 54)).alloc (.cells #[.string (numS wd)] 36)):=qbl
    have hwl:wr.heap.size≤wr.heap.size+1:=by omega
    generalize ((((wr.alloc (.cells #[.string (numS sp[j].1),.string (numS sp[j].2)] 54)).alloc (.cells #[.string (numS sp[j].1)] 36)).alloc (.cells #[.string (numS sp[j].1),.string (numS sp[j].2)] 54)).alloc (.cells #[.string (numS wd)] 36))=Ws at *
    obtain ⟨v,hv0,hrow0,hnil⟩:=hI.out
    have hcs:∀ (k:Nat) (o:Obj),wr.heap[k]?=some o→Ws.heap[k]?=some o:=fun k o hk=>(hBs.block _ (Array.getElem?_eq_some_iff.1 hk).1).trans hk
    have hv:Boxed Ws w3.heap.size 60 v:=hcs _ _ hv0
    have hrow:=ownsRow_keeps hrow0 (fun k o hk _=>hcs k o hk)
    have hv3:∀ b,wr.heap.size≤b→v.ownBlock≠some b:=fun b hb e=>by
     rcases hrow0.2 with ⟨rfl,_⟩|⟨g,cap',cur,rfl,_,hg,_⟩
     ·cases e
     ·have:=(Array.getElem?_eq_some_iff.1 hg).1
      simp [Value.ownBlock] at e
      omega
    refine wpIn_rangeFunc_ownG (a₁:=?a1) rfl (by omega) (gf:=83) (lb:=#[.pointer (some ⟨wr.heap.size+1,0,none⟩),.pointer (some ⟨wr.heap.size+2,0,none⟩),.pointer (some ⟨wr.heap.size+3,0,none⟩)]) rfl trivial (enters_of Tryz.func83 (by kernel_rfl) rfl)
     (begin_stops _ (by omega) (wr.heap.size+1) (wr.heap.size+2) (wr.heap.size+3) w3.heap.size (HST.out j hj1) w3 _ (HG.out.below hb3) hIs.below (Nat.le_refl _) k1 k2 k3) KpB.t (KpB.b hIs.below.size (by omega) (by omega)) (bw0 _ _) (fun _=>rfl)
     (fun pre W=>(((∃ v,Boxed W w3.heap.size 60 v∧W.ownsRow w3.heap.size 36 1 v (offTo sp wd _ Ns j++pre).length (numVs (offTo sp wd _ Ns j++pre))∧((v=.slice none 0 0↔offTo sp wd _ Ns j++pre=[])∧v.ownBlock≠some (wr.heap.size+2)∧v.ownBlock≠some (wr.heap.size+3)))∧Below w3.heap.size w3 W)∧(∀ D ∈ Ds,w3.heap.size≤D∧W.heap[D]?=some (.deferred (some []))))∧(W.heap[wr.heap.size+2]?=some (.cells #[.string (numS sp[j].1),.string (numS sp[j].2)] 54 (0,0))∧W.heap[wr.heap.size+3]?=some (.cells #[.string (numS wd)] 36 (0,0))))
     (fun _ _ _=>False)
     (OwnFrom.and (OwnFrom.and (OwnFrom.and (Own.from (holdsRow_own w3.heap.size w3.heap.size 60 36 1 (fun pre=>(offTo sp wd _ Ns j++pre).length) (fun pre=>numVs (offTo sp wd _ Ns j++pre)) (fun pre v=>(v=.slice none 0 0↔offTo sp wd _ Ns j++pre=[])∧v.ownBlock≠some (wr.heap.size+2)∧v.ownBlock≠some (wr.heap.size+3))) _) (ownFrom_below (Nat.le_refl _) hIs.below.size)) (marks_own (m:=Ws.heap.size) (fun D hD=>(Array.getElem?_eq_some_iff.1 (hIs.marks D hD).2).1))) (OwnFrom.and (block_own (m:=Ws.heap.size) (b:=wr.heap.size+2) (by omega)) (block_own (m:=Ws.heap.size) (b:=wr.heap.size+3) (by omega))))
     (fun _ _ _ _ _ hs _ _=>hs)
     ⟨⟨⟨⟨v,hv,by simpa using hrow,by simpa using hnil,hv3 (wr.heap.size+2) (by omega),hv3 (wr.heap.size+3) (by omega)⟩,hIs.below⟩,hIs.marks⟩,j2,j3⟩ ?assign ?body ?done ?stop
    case assign =>
     intro l x W K hK
     gi_wp2
     exact hK
    case stop =>
     rintro D c pre W _ _ h _
     exact h.elim
    case body =>
     rintro l pre x W ⟨⟨⟨⟨v,hv,hrow,hnil,hn2,hn3⟩,hB⟩,hM⟩,hj2,hj3⟩ hlt
     have hln:(offTo sp wd false Ns j++pre).length < 4000:=by
      have:=HMX.out (j+1) (by omega)
      rw [offTo_succ _ _ _ _ hj1,List.length_append,ats_length] at this
      rw [List.length_append];omega
     obtain ⟨B',hB1,hB2,hrow',hpick⟩:=base_pick hrow hB.size (by rw [hnil];exact List.length_eq_zero_iff.symm) hj2 hj3 hn2 hn3 (fun cur h=>by cases h) (fun cur h=>by cases h;rfl)
     have hc:=hv.cell
     obtain ⟨oa,oc,rfl⟩:∃ oa oc,v=.slice oa (offTo sp wd false Ns j++pre).length oc:=by
      rcases hrow.2 with ⟨h,hk⟩|⟨g,cap,cur,h,_⟩
      ·exact ⟨none,0,by rw [h,hk]⟩
      ·exact ⟨_,_,h⟩
     have hne:¬ (((offTo sp wd false Ns j++pre).length:Int)=4096):=by omega
     have hvs:numVs (offTo sp wd false Ns j++(pre++[x]))=numVs (offTo sp wd false Ns j++pre)++[.string (numS x)]:=by simp [numVs]
     have hvl:(offTo sp wd false Ns j++(pre++[x])).length=(offTo sp wd false Ns j++pre).length+1:=by simp;omega
     have HVS:=Lib.hid hvs
     have HVL:=Lib.hid hvl
     have HNIL:=Lib.hid hnil
     clear hvs hvl hnil
     generalize offTo sp wd false Ns j++pre=M at *
     have hnb:M.length+1≤maxLen:=by unfold maxLen;omega
     gi_wp2_with (gi_at_builtin;refine wpListIn_append_own _ rfl _ _ 60 rfl B' 36 i0 (.string ⟨#[]⟩) 1 16 Tryz.underlying60 hi0 hz0 hz1 hz2 rfl (by decide) _ _ _ rfl (hrow'.alloc _) ⟨W.heap.size,0,none⟩ 1 1 [.string (numS x)] rfl rfl (cell_one_new _ _ _) (by simp [Value.oneCell']) hnb (by omega) (by simp;omega) ?_;intro v' w1 hown0 hgrow _;have hown':=ownsRow_base hown0 hB1;obtain ⟨g',cap',rfl⟩:=ownsRow_succ hown';obtain ⟨hv1,hv2,hr2,hk2,hb2⟩:=hv.appended (by decide) hrow hB.size (Nat.le_refl _) hown' hgrow;have hc1:=hv1.cell;have hf1:=hv1.frozen)
     have hgW:W.grownBy w1 (Value.slice oa M.length oc).ownBlock:=⟨hgrow.os,hgrow.tape,hgrow.output,by have:=hgrow.size;simp at this;omega,fun k hk hne=>(hgrow.block k (by simp;omega) hne).trans (Below.heap_alloc W _ k hk)⟩
     obtain ⟨p2,p3⟩:=hpick _ _ _ hown0 hgW
     have hwb:w3.heap.size < wr.heap.size:=hv0.lt
     have x2:(w1.setCell ⟨w3.heap.size,0,none⟩ (.slice (some ⟨g',0,none⟩) (M.length+1) cap')).heap[wr.heap.size+2]?=W.heap[wr.heap.size+2]?:=(Below.heap_setCell _ _ _ _ (by show wr.heap.size+2≠w3.heap.size;omega)).trans (hgW.block _ (Array.getElem?_eq_some_iff.1 hj2).1 (fun e=>hn2 e.symm))
     have x3:(w1.setCell ⟨w3.heap.size,0,none⟩ (.slice (some ⟨g',0,none⟩) (M.length+1) cap')).heap[wr.heap.size+3]?=W.heap[wr.heap.size+3]?:=(Below.heap_setCell _ _ _ _ (by show wr.heap.size+3≠w3.heap.size;omega)).trans (hgW.block _ (Array.getElem?_eq_some_iff.1 hj3).1 (fun e=>hn3 e.symm))
     refine ⟨hk2.from _,⟨hb2,x2,x3⟩,⟨⟨⟨_,hv2,?_,?_,p2,p3⟩,hB.trans hb2⟩,fun D hD=>⟨(hM D hD).1,hk2.same D _ (hM D hD).2 rfl⟩⟩,x2.trans hj2,x3.trans hj3⟩
     ·rw [HVL.out,HVS.out];exact hr2
     ·simp
    case done =>
     rintro D ys W hD rfl ⟨⟨⟨⟨v,hv,hrow,hnil,_,_⟩,hB⟩,hM⟩,_,_⟩ hKd
     gi_wp2
     refine Handed.intro (sp.length - (j+1)) (by omega) ?_
     first|gi_step|go_step
     refine ⟨D::Ds,_,_,_,_,_,_,_,_,_,_,_,_,_,_,_,_,_,_,_,_,_,_,_,_,_,_,_,_,_,_,_,?_,rfl⟩
     refine ⟨j+1,by omega,rfl,by go_num,⟨⟨v,hv,?_,?_⟩,hB,?_,?_⟩⟩
     ·rw [offTo_succ _ _ _ _ hj1];exact hrow
     ·rw [offTo_succ _ _ _ _ hj1];exact hnil
     ·refine List.nodup_cons.2 ⟨fun hDD=>?_,hI.nodup⟩
      have:=(Array.getElem?_eq_some_iff.1 (hIs.marks D hDD).2).1
      omega
     ·intro E hE
      rcases List.mem_cons.1 hE with rfl|hE
      ·exact ⟨Nat.le_trans hIs.below.size hD,hKd⟩
      ·exact hM E hE
   ·have hbr:Below w.heap.size w wr:=hb3.trans (hI.below.mono hb3.size)
    gi_wp2
    refine ⟨trivial,?_⟩
    refine (callsIn_wide.2 (Sub_small _ _ _ (HG.out.below qbl) (numS_list _) (HGC.out.right.1 j hj1).1 (numS_list _) (small_half h1 h2))).mono ?_
    rintro e w5 ⟨r,hr,rfl,hB5⟩
    have he:=numS_of hr
    subst he
    have s0:w5.cell? ⟨wr.heap.size,0,none⟩=some (.string (numS sp[j].1)):=keep hB5 (by simp [go_sem])
    have s1:w5.cell? ⟨wr.heap.size,1,none⟩=some (.string (numS sp[j].2)):=keep hB5 (by simp [go_sem])
    have zs:=lt_of_cell s0
    have hb5:Below wr.heap.size wr w5:=qbl
    have hI5:=hI.below' hb5
    clear hr hB5
    gi_wp2
    refine ⟨trivial,?_⟩
    refine (callsIn_wide.2 (beginnings_any _ _ _ _ _)).mono ?_
    rintro e w6 ⟨rfl,rfl⟩
    gi_wp2
    have hIs:OffInv sp wd _ Ns j w3 w3.heap.size Ds (((w5.alloc (.cells #[.string (numS (sp[j].1 - (wd:Rat) / 2))] 36)).alloc (.cells #[.string (numS sp[j].1),.string (numS sp[j].2)] 54)).alloc (.cells #[.string (numS wd)] 36)):=hI5.below' qbl
    have hsz:(((w5.alloc (.cells #[.string (numS (sp[j].1 - (wd:Rat) / 2))] 36)).alloc (.cells #[.string (numS sp[j].1),.string (numS sp[j].2)] 54)).alloc (.cells #[.string (numS wd)] 36)).heap.size=w5.heap.size+2+1:=by simp
    have k1:(((w5.alloc (.cells #[.string (numS (sp[j].1 - (wd:Rat) / 2))] 36)).alloc (.cells #[.string (numS sp[j].1),.string (numS sp[j].2)] 54)).alloc (.cells #[.string (numS wd)] 36)).cell? ⟨w5.heap.size,0,none⟩=some (.string (numS (sp[j].1 - (wd:Rat) / 2))):=by simp [go_sem]
    have k2:(((w5.alloc (.cells #[.string (numS (sp[j].1 - (wd:Rat) / 2))] 36)).alloc (.cells #[.string (numS sp[j].1),.string (numS sp[j].2)] 54)).alloc (.cells #[.string (numS wd)] 36)).cell? ⟨w5.heap.size+1,1,none⟩=some (.string (numS sp[j].2)):=by simp [go_sem]
    have k3:(((w5.alloc (.cells #[.string (numS (sp[j].1 - (wd:Rat) / 2))] 36)).alloc (.cells #[.string (numS sp[j].1),.string (numS sp[j].2)] 54)).alloc (.cells #[.string (numS wd)] 36)).cell? ⟨w5.heap.size+2,0,none⟩=some (.string (numS wd)):=by simp [go_sem]
    have j2:(((w5.alloc (.cells #[.string (numS (sp[j].1 - (wd:Rat) / 2))] 36)).alloc (.cells #[.string (numS sp[j].1),.string (numS sp[j].2)] 54)).alloc (.cells #[.string (numS wd)] 36)).heap[w5.heap.size+1]?=some (.cells #[.string (numS sp[j].1),.string (numS sp[j].2)] 54 (0,0)):=by have h:=World.alloc_heap_new (w5.alloc (.cells #[.string (numS (sp[j].1 - (wd:Rat) / 2))] 36)) (.cells #[.string (numS sp[j].1),.string (numS sp[j].2)] 54);simp only [World.size_alloc] at h;exact (Below.heap_alloc _ _ _ (by simp)).trans h
    have j3:(((w5.alloc (.cells #[.string (numS (sp[j].1 - (wd:Rat) / 2))] 36)).alloc (.cells #[.string (numS sp[j].1),.string (numS sp[j].2)] 54)).alloc (.cells #[.string (numS wd)] 36)).heap[w5.heap.size+2]?=some (.cells #[.string (numS wd)] 36 (0,0)):=by have h:=World.alloc_heap_new ((w5.alloc (.cells #[.string (numS (sp[j].1 - (wd:Rat) / 2))] 36)).alloc (.cells #[.string (numS sp[j].1),.string (numS sp[j].2)] 54)) (.cells #[.string (numS wd)] 36);simp only [World.size_alloc] at h;exact h
    have hBs:Below wr.heap.size wr (((w5.alloc (.cells #[.string (numS (sp[j].1 - (wd:Rat) / 2))] 36)).alloc (.cells #[.string (numS sp[j].1),.string (numS sp[j].2)] 54)).alloc (.cells #[.string (numS wd)] 36)):=qbl
    have hwl:wr.heap.size≤w5.heap.size:=hb5.size
    generalize (((w5.alloc (.cells #[.string (numS (sp[j].1 - (wd:Rat) / 2))] 36)).alloc (.cells #[.string (numS sp[j].1),.string (numS sp[j].2)] 54)).alloc (.cells #[.string (numS wd)] 36))=Ws at *
    obtain ⟨v,hv0,hrow0,hnil⟩:=hI.out
    have hcs:∀ (k:Nat) (o:Obj),wr.heap[k]?=some o→Ws.heap[k]?=some o:=fun k o hk=>(hBs.block _ (Array.getElem?_eq_some_iff.1 hk).1).trans hk
    have hv:Boxed Ws w3.heap.size 60 v:=hcs _ _ hv0
    have hrow:=ownsRow_keeps hrow0 (fun k o hk _=>hcs k o hk)
    have hv3:∀ b,wr.heap.size≤b→v.ownBlock≠some b:=fun b hb e=>by
     rcases hrow0.2 with ⟨rfl,_⟩|⟨g,cap',cur,rfl,_,hg,_⟩
     ·cases e
     ·have:=(Array.getElem?_eq_some_iff.1 hg).1
      simp [Value.ownBlock] at e
      omega
    refine wpIn_rangeFunc_ownG (a₁:=?a2) rfl (by omega) (gf:=83) (lb:=#[.pointer (some ⟨w5.heap.size,0,none⟩),.pointer (some ⟨w5.heap.size+1,0,none⟩),.pointer (some ⟨w5.heap.size+2,0,none⟩)]) rfl trivial (enters_of Tryz.func83 (by kernel_rfl) rfl)
     (begin_stops _ (by omega) (w5.heap.size) (w5.heap.size+1) (w5.heap.size+2) w3.heap.size (HST.out j hj1) w3 _ (HG.out.below hb3) hIs.below (Nat.le_refl _) k1 k2 k3) KpB.t (KpB.b hIs.below.size (by omega) (by omega)) (bw0 _ _) (fun _=>rfl)
     (fun pre W=>(((∃ v,Boxed W w3.heap.size 60 v∧W.ownsRow w3.heap.size 36 1 v (offTo sp wd _ Ns j++pre).length (numVs (offTo sp wd _ Ns j++pre))∧((v=.slice none 0 0↔offTo sp wd _ Ns j++pre=[])∧v.ownBlock≠some (w5.heap.size+1)∧v.ownBlock≠some (w5.heap.size+2)))∧Below w3.heap.size w3 W)∧(∀ D ∈ Ds,w3.heap.size≤D∧W.heap[D]?=some (.deferred (some []))))∧(W.heap[w5.heap.size+1]?=some (.cells #[.string (numS sp[j].1),.string (numS sp[j].2)] 54 (0,0))∧W.heap[w5.heap.size+2]?=some (.cells #[.string (numS wd)] 36 (0,0))))
     (fun _ _ _=>False)
     (OwnFrom.and (OwnFrom.and (OwnFrom.and (Own.from (holdsRow_own w3.heap.size w3.heap.size 60 36 1 (fun pre=>(offTo sp wd _ Ns j++pre).length) (fun pre=>numVs (offTo sp wd _ Ns j++pre)) (fun pre v=>(v=.slice none 0 0↔offTo sp wd _ Ns j++pre=[])∧v.ownBlock≠some (w5.heap.size+1)∧v.ownBlock≠some (w5.heap.size+2))) _) (ownFrom_below (Nat.le_refl _) hIs.below.size)) (marks_own (m:=Ws.heap.size) (fun D hD=>(Array.getElem?_eq_some_iff.1 (hIs.marks D hD).2).1))) (OwnFrom.and (block_own (m:=Ws.heap.size) (b:=w5.heap.size+1) (by omega)) (block_own (m:=Ws.heap.size) (b:=w5.heap.size+2) (by omega))))
     (fun _ _ _ _ _ hs _ _=>hs)
     ⟨⟨⟨⟨v,hv,by simpa using hrow,by simpa using hnil,hv3 (w5.heap.size+1) (by omega),hv3 (w5.heap.size+2) (by omega)⟩,hIs.below⟩,hIs.marks⟩,j2,j3⟩ ?assign2 ?body2 ?done2 ?stop2
    case assign2 =>
     intro l x W K hK
     gi_wp2
     exact hK
    case stop2 =>
     rintro D c pre W _ _ h _
     exact h.elim
    case body2 =>
     rintro l pre x W ⟨⟨⟨⟨v,hv,hrow,hnil,hn2,hn3⟩,hB⟩,hM⟩,hj2,hj3⟩ hlt
     have hln:(offTo sp wd true Ns j++pre).length < 4000:=by
      have:=HMX.out (j+1) (by omega)
      rw [offTo_succ _ _ _ _ hj1,List.length_append,ats_length] at this
      rw [List.length_append];omega
     obtain ⟨B',hB1,hB2,hrow',hpick⟩:=base_pick hrow hB.size (by rw [hnil];exact List.length_eq_zero_iff.symm) hj2 hj3 hn2 hn3 (fun cur h=>by cases h) (fun cur h=>by cases h;rfl)
     have hc:=hv.cell
     obtain ⟨oa,oc,rfl⟩:∃ oa oc,v=.slice oa (offTo sp wd true Ns j++pre).length oc:=by
      rcases hrow.2 with ⟨h,hk⟩|⟨g,cap,cur,h,_⟩
      ·exact ⟨none,0,by rw [h,hk]⟩
      ·exact ⟨_,_,h⟩
     have hne:¬ (((offTo sp wd true Ns j++pre).length:Int)=4096):=by omega
     have hvs:numVs (offTo sp wd true Ns j++(pre++[x]))=numVs (offTo sp wd true Ns j++pre)++[.string (numS x)]:=by simp [numVs]
     have hvl:(offTo sp wd true Ns j++(pre++[x])).length=(offTo sp wd true Ns j++pre).length+1:=by simp;omega
     have HVS:=Lib.hid hvs
     have HVL:=Lib.hid hvl
     have HNIL:=Lib.hid hnil
     clear hvs hvl hnil
     generalize offTo sp wd true Ns j++pre=M at *
     have hnb:M.length+1≤maxLen:=by unfold maxLen;omega
     gi_wp2_with (gi_at_builtin;refine wpListIn_append_own _ rfl _ _ 60 rfl B' 36 i0 (.string ⟨#[]⟩) 1 16 Tryz.underlying60 hi0 hz0 hz1 hz2 rfl (by decide) _ _ _ rfl (hrow'.alloc _) ⟨W.heap.size,0,none⟩ 1 1 [.string (numS x)] rfl rfl (cell_one_new _ _ _) (by simp [Value.oneCell']) hnb (by omega) (by simp;omega) ?_;intro v' w1 hown0 hgrow _;have hown':=ownsRow_base hown0 hB1;obtain ⟨g',cap',rfl⟩:=ownsRow_succ hown';obtain ⟨hv1,hv2,hr2,hk2,hb2⟩:=hv.appended (by decide) hrow hB.size (Nat.le_refl _) hown' hgrow;have hc1:=hv1.cell;have hf1:=hv1.frozen)
     have hgW:W.grownBy w1 (Value.slice oa M.length oc).ownBlock:=⟨hgrow.os,hgrow.tape,hgrow.output,by have:=hgrow.size;simp at this;omega,fun k hk hne=>(hgrow.block k (by simp;omega) hne).trans (Below.heap_alloc W _ k hk)⟩
     obtain ⟨p2,p3⟩:=hpick _ _ _ hown0 hgW
     have hwb:w3.heap.size < wr.heap.size:=hv0.lt
     have x2:(w1.setCell ⟨w3.heap.size,0,none⟩ (.slice (some ⟨g',0,none⟩) (M.length+1) cap')).heap[w5.heap.size+1]?=W.heap[w5.heap.size+1]?:=(Below.heap_setCell _ _ _ _ (by show w5.heap.size+1≠w3.heap.size;omega)).trans (hgW.block _ (Array.getElem?_eq_some_iff.1 hj2).1 (fun e=>hn2 e.symm))
     have x3:(w1.setCell ⟨w3.heap.size,0,none⟩ (.slice (some ⟨g',0,none⟩) (M.length+1) cap')).heap[w5.heap.size+2]?=W.heap[w5.heap.size+2]?:=(Below.heap_setCell _ _ _ _ (by show w5.heap.size+2≠w3.heap.size;omega)).trans (hgW.block _ (Array.getElem?_eq_some_iff.1 hj3).1 (fun e=>hn3 e.symm))
     refine ⟨hk2.from _,⟨hb2,x2,x3⟩,⟨⟨⟨_,hv2,?_,?_,p2,p3⟩,hB.trans hb2⟩,fun D hD=>⟨(hM D hD).1,hk2.same D _ (hM D hD).2 rfl⟩⟩,x2.trans hj2,x3.trans hj3⟩
     ·rw [HVL.out,HVS.out];exact hr2
     ·simp
    case done2 =>
     rintro D ys W hD rfl ⟨⟨⟨⟨v,hv,hrow,hnil,_,_⟩,hB⟩,hM⟩,_,_⟩ hKd
     gi_wp2
     refine Handed.intro (sp.length - (j+1)) (by omega) ?_
     first|gi_step|go_step
     refine ⟨D::Ds,_,_,_,_,_,_,_,_,_,_,_,_,_,_,_,_,_,_,_,_,_,_,_,_,_,_,_,_,_,_,_,?_,rfl⟩
     refine ⟨j+1,by omega,rfl,by go_num,⟨⟨v,hv,?_,?_⟩,hB,?_,?_⟩⟩
     ·rw [offTo_succ _ _ _ _ hj1];exact hrow
     ·rw [offTo_succ _ _ _ _ hj1];exact hnil
     ·refine List.nodup_cons.2 ⟨fun hDD=>?_,hI.nodup⟩
      have:=(Array.getElem?_eq_some_iff.1 (hIs.marks D hDD).2).1
      omega
     ·intro E hE
      rcases List.mem_cons.1 hE with rfl|hE
      ·exact ⟨Nat.le_trans hIs.below.size hD,hKd⟩
      ·exact hM E hE
end Go.Proofs.YthihcjgmlbnapaaGreatDoor
