/- Joined texts: WRight, WArea, WTile1, WTile2, WTile3. -/
import Derived.Test.YteepphiomcedfaaGreatDoorJ04
import Derived.Test.YteepphiomcedfaaGreatDoorJ07
import Derived.BigQuiet
set_option maxRecDepth 100000
set_option linter.unusedVariables false
set_option linter.unusedSimpArgs false
set_option maxHeartbeats 6400000
namespace Go.Proofs.YteepphiomcedfaaGreatDoor
open Go.RowKit
attribute [local go_sem ↓] Go.wp_at_zero Go.wp_at_succ
def IsSpans (w:World) (v:Value) (sp:List (Rat × Rat)):Prop:=∃ (a:Option Addr) (cap:Nat),v=.slice a sp.length cap∧sp.length≤cap ∧
 (sp≠[]→∃ b off,a=some ⟨b,off,none⟩∧b < w.heap.size∧∀ k (h:k < sp.length),∃ s t:ByteArray,w.cell? ⟨b,off+k * 2,none⟩=some (.string s)∧w.cell? ⟨b,off+k * 2+1,none⟩=some (.string t)∧s.data.toList=ratText sp[k].1∧t.data.toList=ratText sp[k].2)
theorem IsSpans.below {w w':World} {v:Value} {sp:List (Rat × Rat)} (h:IsSpans w v sp) (hB:Below w.heap.size w w'):IsSpans w' v sp:=by
 obtain ⟨a,cap,h1,h2,h3⟩:=h
 refine ⟨a,cap,h1,h2,fun hn=>?_⟩
 obtain ⟨b,off,e,hb,hc⟩:=h3 hn
 refine ⟨b,off,e,Nat.lt_of_lt_of_le hb hB.size,fun k hk=>?_⟩
 obtain ⟨s,t,c1,c2,c3,c4⟩:=hc k hk
 exact ⟨s,t,(hB.cell (p:=⟨b,_,none⟩) hb).trans c1,(hB.cell (p:=⟨b,_,none⟩) hb).trans c2,c3,c4⟩
def RightSpans (sp:List (Rat × Rat)):Prop:=(∀ k (h:k < sp.length),Small sp[k].1∧Small sp[k].2∧sp[k].1 < sp[k].2)∧(∀ k (h:k+1 < sp.length),sp[k].2 < sp[k+1].1)
theorem ordQ_lt {p q:Rat} (h:p < q):ordQ p q=-1:=if_pos h
theorem order_lt {p q:Rat} (s t:ByteArray) (w:World) (hs:s.data.toList=ratText p) (hp:Small p) (ht:t.data.toList=ratText q) (hq:Small q) (h:ordQ p q=-1) :
  Calls Tryz.prog 257 #[.string s,.string t] w (RetB (.int .i64 (-1)) w):=by
 rw [← h]
 exact order_small s t w hs hp ht hq
theorem right_one {lo hi:Rat} {sp:List (Rat × Rat)} (b0 o0 cap0:Nat) (s t:ByteArray) (v:Value) (w:World) (hG:Glo w)
  (c0:w.cell? ⟨b0,o0,none⟩=some (.string s)) (c1:w.cell? ⟨b0,o0+1,none⟩=some (.string t)) (c2:w.cell? ⟨b0,o0+2,none⟩=some v)
  (hs:s.data.toList=ratText lo) (ht:t.data.toList=ratText hi) (hlo:Small lo) (hhi:Small hi) (hlt:lo < hi)
  (hv:IsSpans w v sp) (hr:RightSpans sp) (hn:sp.length≤64) :
  Calls Tryz.prog 217 #[.slice (some ⟨b0,o0,none⟩) 1 cap0] w (RetB (.bool true) w):=by
 obtain ⟨a,cap,rfl,hcap,hcells⟩:=hv
 have HS:=Lib.hid hs
 have HT:=Lib.hid ht
 have HG:=Lib.hid hG
 have HC:=Lib.hid hcells
 have HR:=Lib.hid hr
 have ho1:=ordQ_lt hlt
 clear hs ht hG hcells hr
 go_enter Tryz.func217,Tryz.ntmps217
 go_wp2_with fail
 go_loopw [12] (fun i wr=>∃ k:Nat,k≤1∧i=.int .i64 k∧Below w.heap.size w wr) (fun i _=>1 - (intOf i).toNat)
 case atStart=>exact ⟨0,by omega,rfl,bw0 _ _⟩
 case round =>
  obtain ⟨k,hk,rfl,hB0⟩:=hrel
  by_cases hk1:k=1
  ·subst hk1
   go_wp2_with fail
   go_ret
   exact ⟨rfl,hB0⟩
  ·obtain rfl:k=0:=by omega
   clear hk hk1
   have d0:=keep hB0 c0
   have d1:=keep hB0 c1
   have d2:=keep hB0 c2
   clear c0 c1 c2
   go_wp2_with fail
   refine (short_small s _ (HG.out.below qbl) HS.out hlo).mono ?_
   rintro e w2 ⟨rfl,hB2⟩
   obtain ⟨hc2,hf2⟩:=bcell hB2
   have z2:=hB2.size
   simp only [World.size_alloc] at z2
   have f0:w2.cell? ⟨wr.heap.size,0,none⟩=some (.string s):=by rw [hc2 _ _ (by simp)];simp [go_sem]
   have f1:w2.cell? ⟨wr.heap.size,1,none⟩=some (.string t):=by rw [hc2 _ _ (by simp)];simp [go_sem]
   have f2:w2.cell? ⟨wr.heap.size,2,none⟩=some (.slice a sp.length cap):=by rw [hc2 _ _ (by simp)];simp [go_sem]
   have hB2':Below w.heap.size w w2:=qbl
   clear hc2 hf2 hB2 d0 d1 d2
   go_wp2_with fail
   refine (short_small t _ (HG.out.below hB2') HT.out hhi).mono ?_
   rintro e w3 ⟨rfl,hB3⟩
   have z3:=hB3.size
   have g0:=keep hB3 f0
   have g1:=keep hB3 f1
   have g2:=keep hB3 f2
   have hB3':Below w.heap.size w w3:=below_trans' hB2' hB3
   clear hB3 f0 f1 f2 hB2'
   go_wp2_with fail
   refine (order_small s t _ HS.out hlo HT.out hhi).mono ?_
   rintro e w4 ⟨rfl,hB4⟩
   have z4:=hB4.size
   have k0:=keep hB4 g0
   have k1:=keep hB4 g1
   have k2:=keep hB4 g2
   have hB4':Below w.heap.size w w4:=below_trans' hB3' hB4
   have zr:wr.heap.size < w4.heap.size:=by omega
   rw [ho1]
   clear hB4 g0 g1 g2 hB3' ho1
   go_wp2_with fail
   obtain ⟨wo,rfl⟩:∃ wo:World,wo=wr:=⟨_,rfl⟩
   go_loopw [43] (fun i wq=>∃ j:Nat,j≤sp.length∧i=.int .i64 j∧Below w.heap.size w wq∧wq.cell? ⟨wo.heap.size,2,none⟩=some (.slice a sp.length cap)) (fun i _=>sp.length - (intOf i).toNat)
   case atStart=>exact ⟨0,by omega,rfl,hB4',k2⟩
   case round =>
    obtain ⟨j,hj,rfl,hBj,kj⟩:=hrel
    clear k0 k1 k2 hB4' hB0 zr z4 z3 z2
    by_cases hjn:j=sp.length
    ·subst hjn
     go_wp2_with fail
     go_roundw
     case rel=>exact ⟨1,by omega,rfl,hBj⟩
     case measure=>simp [intOf]
    ·have hj1:j < sp.length:=by omega
     obtain ⟨b,off,rfl,hbb,hcc⟩:=HC.out (fun h=>by rw [h] at hj1;simp at hj1)
     obtain ⟨u,v,e0,e1,hu,hv⟩:=hcc j hj1
     have q0:=keep hBj e0
     have q1:=keep hBj e1
     have HU:=Lib.hid hu
     have HV:=Lib.hid hv
     have hji:(j:Int) < (sp.length:Int):=by omega
     clear hu hv e0 e1 hjn hcc
     go_wp2_with fail
     have hRj:=HR.out.1 j hj1
     obtain ⟨hR1,hR2,hR3⟩:=hRj
     have ho:=ordQ_lt hR3
     have HO:=Lib.hid ho
     clear ho hR3
     by_cases hj0:j=0
     ·as_aux_lemma =>
      subst hj0
      have x0:(wr.alloc (.cells #[.string u,.string v] 77)).cell? ⟨wr.heap.size,0,none⟩=some (.string u):=by simp [go_sem]
      have x1:(wr.alloc (.cells #[.string u,.string v] 77)).cell? ⟨wr.heap.size,1,none⟩=some (.string v):=by simp [go_sem]
      have hBk:Below w.heap.size w (wr.alloc (.cells #[.string u,.string v] 77)):=(by repeat (first|(with_reducible first|exact bw0 _ _|exact hB|refine bw1 ?_ ?_ _|refine bw2 ?_ _|refine bw3 ?_|refine bw4 ?_ _|refine bw5 (by assumption) ?_)|exact Nat.le_refl _|(focus (simp;done))|(focus (simp;omega))|omega))
      have kj':(wr.alloc (.cells #[.string u,.string v] 77)).cell? ⟨wo.heap.size,2,none⟩=some (.slice (some ⟨b,off,none⟩) sp.length cap):=keep (bw4 (bw0 _ _) _) kj
      have hS:(wr.alloc (.cells #[.string u,.string v] 77)).drew.cell? ⟨wr.heap.size,0,none⟩=some (.string u)∧(wr.alloc (.cells #[.string u,.string v] 77)).drew.cell? ⟨wr.heap.size,1,none⟩=some (.string v)∧(wr.alloc (.cells #[.string u,.string v] 77)).drew.cell? ⟨wo.heap.size,2,none⟩=some (.slice (some ⟨b,off,none⟩) sp.length cap)∧Below w.heap.size w (wr.alloc (.cells #[.string u,.string v] 77)).drew:=⟨x0,x1,kj',hBk.drew⟩
      generalize wr.alloc (.cells #[.string u,.string v] 77)=W at *
      clear x0 x1 kj' hBk
      refine region_held_abs (S:=(fun w'=>w'.cell? ⟨wr.heap.size,0,none⟩=some (.string u)∧w'.cell? ⟨wr.heap.size,1,none⟩=some (.string v)∧w'.cell? ⟨wo.heap.size,2,none⟩=some (.slice (some ⟨b,off,none⟩) sp.length cap)∧Below w.heap.size w w')) 35 #[false,false,false,false,false,false,false,false,false,false,false,false,false,false,false,false,false,false,false,false,false,false,false,false,false,false,false,false,false,false,false,false,false,false,false] (by kernel_rfl) (by kernel_rfl) (by kernel_rfl) (fun _ _ _ _ _ h=>h) hS (fun Q' hQ' hN hHeld=>?_)
      refine tT 48 0 ?_
      refine tT 49 1 ?_
      refine wpAnyH_ready (rs:=[2]) (by kernel_rfl) (by simp) ?_
      refine consW (i:=2) rfl (by kernel_rfl) (fun K hK=>?_)
      go_simp
      refine (short_small u _ (glo3 HG.out hHeld) HU.out hR1).mono ?_
      rintro e w' ⟨rfl,hBx⟩
      go_simp
      refine hK.out _ _ ?_ (fun hHeld=>?_)
      ·exact keep3 hHeld hBx
      clear hK K
      (try simp only [Act.put,bw7,bw8,bw9])
      refine tT 51 3 ?_
      refine tT 52 4 ?_
      refine tT 53 5 ?_
      refine tT 54 6 ?_
      refine wpAnyH_ready (rs:=[7]) (by kernel_rfl) (by simp) ?_
      refine consW (i:=7) rfl (by kernel_rfl) (fun K hK=>?_)
      go_simp
      refine (short_small v _ (glo3 HG.out hHeld) HV.out hR2).mono ?_
      rintro e w' ⟨rfl,hBx⟩
      go_simp
      refine hK.out _ _ ?_ (fun hHeld=>?_)
      ·exact keep3 hHeld hBx
      clear hK K
      (try simp only [Act.put,bw7,bw8,bw9])
      refine tT 56 8 ?_
      refine tT 57 9 ?_
      refine tT 58 10 ?_
      refine tT 59 11 ?_
      refine tT 60 12 ?_
      refine tT 61 13 ?_
      refine tT 62 14 ?_
      refine wpAnyH_ready (rs:=[15]) (by kernel_rfl) (by simp) ?_
      refine consW (i:=15) rfl (by kernel_rfl) (fun K hK=>?_)
      go_simp
      refine (order_lt u v _ HU.out hR1 HV.out hR2 HO.out).mono ?_
      rintro e w' ⟨rfl,hBx⟩
      go_simp
      refine hK.out _ _ ?_ (fun hHeld=>?_)
      ·exact keep3 hHeld hBx
      clear hK K
      (try simp only [Act.put,bw7,bw8,bw9])
      refine tT 64 16 ?_
      refine tT 65 17 ?_
      refine tT 66 18 ?_
      refine tT 67 19 ?_
      refine tT 68 20 ?_
      refine tT 69 21 ?_
      refine tF 70 22 ?_
      refine tF 71 23 ?_
      refine tF 72 24 ?_
      refine tF 73 25 ?_
      refine tF 74 26 ?_
      refine tF 75 27 ?_
      refine tF 76 28 ?_
      refine tF 77 29 ?_
      refine tF 78 30 ?_
      refine tF 79 31 ?_
      refine tF 80 32 ?_
      refine tT 81 33 ?_
      refine tT 82 34 ?_
      refine wpAnyH_done (by kernel_rfl) ?_ _
      refine hN.out _ _ ?_
      go_wp2_with fail
      go_roundw
      case rel=>exact ⟨1,by omega,by go_num,hHeld.2.2.2,hHeld.2.2.1⟩
      case measure=>simp [intOf];omega
     ·as_aux_lemma =>
      have hi1:j - 1 < sp.length:=by omega
      obtain ⟨b',off',hbo,hbb',hcc'⟩:=HC.out (fun h=>by rw [h] at hj1;simp at hj1)
      simp only [Option.some.injEq,Addr.mk.injEq] at hbo
      obtain ⟨rfl,rfl,_⟩:=hbo
      obtain ⟨_,z,_,e1',_,hz⟩:=hcc' (j - 1) hi1
      have q2:=keep hBj e1'
      have hR0:=(HR.out.1 (j - 1) hi1).2.1
      have hj2:j - 1+1 < sp.length:=by omega
      have hlt2:=HR.out.2 (j - 1) hj2
      have hjj:sp[j - 1+1]=sp[j]:=by congr 1;omega
      rw [hjj] at hlt2
      have ho2:=ordQ_lt hlt2
      have HO2:=Lib.hid ho2
      have HZ:=Lib.hid hz
      have hjz:(0:Int) < (j:Int):=by omega
      have hjN:0 < j:=by omega
      have hii:(j:Int) - 1 < (sp.length:Int):=by omega
      have hii0:(0:Int)≤(j:Int) - 1:=by omega
      have hii1:(1:Int)≤(j:Int):=by omega
      have hii2:(j:Int) < (sp.length:Int)+1:=by omega
      have hii3:(j:Int)≤(sp.length:Int):=by omega
      have hwj:IntKind.i64.wrap ((j:Int) - 1)=(j:Int) - 1:=IntWalk.i64_in _ (by omega)
      have hcap':(sp.length:Int)≤64:=by omega
      have x0:(wr.alloc (.cells #[.string u,.string v] 77)).cell? ⟨wr.heap.size,0,none⟩=some (.string u):=by simp [go_sem]
      have x1:(wr.alloc (.cells #[.string u,.string v] 77)).cell? ⟨wr.heap.size,1,none⟩=some (.string v):=by simp [go_sem]
      have hBk:Below w.heap.size w (wr.alloc (.cells #[.string u,.string v] 77)):=(by repeat (first|(with_reducible first|exact bw0 _ _|exact hB|refine bw1 ?_ ?_ _|refine bw2 ?_ _|refine bw3 ?_|refine bw4 ?_ _|refine bw5 (by assumption) ?_)|exact Nat.le_refl _|(focus (simp;done))|(focus (simp;omega))|omega))
      have kj':(wr.alloc (.cells #[.string u,.string v] 77)).cell? ⟨wo.heap.size,2,none⟩=some (.slice (some ⟨b,off,none⟩) sp.length cap):=keep (bw4 (bw0 _ _) _) kj
      have q2':(wr.alloc (.cells #[.string u,.string v] 77)).cell? ⟨b,off+(j - 1) * 2+1,none⟩=some (.string z):=keep (bw4 (bw0 _ _) _) q2
      have hS:(wr.alloc (.cells #[.string u,.string v] 77)).drew.cell? ⟨wr.heap.size,0,none⟩=some (.string u)∧(wr.alloc (.cells #[.string u,.string v] 77)).drew.cell? ⟨wr.heap.size,1,none⟩=some (.string v)∧(wr.alloc (.cells #[.string u,.string v] 77)).drew.cell? ⟨wo.heap.size,2,none⟩=some (.slice (some ⟨b,off,none⟩) sp.length cap)∧(wr.alloc (.cells #[.string u,.string v] 77)).drew.cell? ⟨b,off+(j - 1) * 2+1,none⟩=some (.string z)∧Below w.heap.size w (wr.alloc (.cells #[.string u,.string v] 77)).drew:=⟨x0,x1,kj',q2',hBk.drew⟩
      generalize wr.alloc (.cells #[.string u,.string v] 77)=W at *
      clear x0 x1 kj' hBk q0 q1 q2 q2' hcc' e1' ho2 hz hj0 hlt2 hjj
      refine region_held_abs (S:=(fun w'=>w'.cell? ⟨wr.heap.size,0,none⟩=some (.string u)∧w'.cell? ⟨wr.heap.size,1,none⟩=some (.string v)∧w'.cell? ⟨wo.heap.size,2,none⟩=some (.slice (some ⟨b,off,none⟩) sp.length cap)∧w'.cell? ⟨b,off+(j - 1) * 2+1,none⟩=some (.string z)∧Below w.heap.size w w')) 35 #[false,false,false,false,false,false,false,false,false,false,false,false,false,false,false,false,false,false,false,false,false,false,false,false,false,false,false,false,false,false,false,false,false,false,false] (by kernel_rfl) (by kernel_rfl) (by kernel_rfl) (fun _ _ _ _ _ h=>h) hS (fun Q' hQ' hN hHeld=>?_)
      refine tT 48 0 ?_
      refine tT 49 1 ?_
      refine wpAnyH_ready (rs:=[2]) (by kernel_rfl) (by simp) ?_
      refine consW (i:=2) rfl (by kernel_rfl) (fun K hK=>?_)
      go_simp
      refine (short_small u _ (glo4 HG.out hHeld) HU.out hR1).mono ?_
      rintro e w' ⟨rfl,hBx⟩
      go_simp
      refine hK.out _ _ ?_ (fun hHeld=>?_)
      ·exact keep4 hHeld hBx
      clear hK K
      (try simp only [Act.put,bw7,bw8,bw9])
      refine tT 51 3 ?_
      refine tT 52 4 ?_
      refine tT 53 5 ?_
      refine tT 54 6 ?_
      refine wpAnyH_ready (rs:=[7]) (by kernel_rfl) (by simp) ?_
      refine consW (i:=7) rfl (by kernel_rfl) (fun K hK=>?_)
      go_simp
      refine (short_small v _ (glo4 HG.out hHeld) HV.out hR2).mono ?_
      rintro e w' ⟨rfl,hBx⟩
      go_simp
      refine hK.out _ _ ?_ (fun hHeld=>?_)
      ·exact keep4 hHeld hBx
      clear hK K
      (try simp only [Act.put,bw7,bw8,bw9])
      refine tT 56 8 ?_
      refine tT 57 9 ?_
      refine tT 58 10 ?_
      refine tT 59 11 ?_
      refine tT 60 12 ?_
      refine tT 61 13 ?_
      refine tT 62 14 ?_
      refine wpAnyH_ready (rs:=[15]) (by kernel_rfl) (by simp) ?_
      refine consW (i:=15) rfl (by kernel_rfl) (fun K hK=>?_)
      go_simp
      refine (order_lt u v _ HU.out hR1 HV.out hR2 HO.out).mono ?_
      rintro e w' ⟨rfl,hBx⟩
      go_simp
      refine hK.out _ _ ?_ (fun hHeld=>?_)
      ·exact keep4 hHeld hBx
      clear hK K
      (try simp only [Act.put,bw7,bw8,bw9])
      refine tT 64 16 ?_
      refine tT 65 17 ?_
      refine tT 66 18 ?_
      refine tT 67 19 ?_
      refine tT 68 20 ?_
      refine tT 69 21 ?_
      refine tT 70 22 ?_
      refine tT 71 23 ?_
      refine tT 72 24 ?_
      refine tT 73 25 ?_
      refine tT 74 26 ?_
      refine tT 75 27 ?_
      refine tT 76 28 ?_
      refine tT 77 29 ?_
      refine tT 78 30 ?_
      refine wpAnyH_ready (rs:=[31]) (by kernel_rfl) (by simp) ?_
      refine consW (i:=31) rfl (by kernel_rfl) (fun K hK=>?_)
      go_simp
      refine (order_lt z u _ HZ.out hR0 HU.out hR1 HO2.out).mono ?_
      rintro e w' ⟨rfl,hBx⟩
      go_simp
      refine hK.out _ _ ?_ (fun hHeld=>?_)
      ·exact keep4 hHeld hBx
      clear hK K
      (try simp only [Act.put,bw7,bw8,bw9])
      refine tT 80 32 ?_
      refine tT 81 33 ?_
      refine tT 82 34 ?_
      refine wpAnyH_done (by kernel_rfl) ?_ _
      refine hN.out _ _ ?_
      go_wp2_with fail
      go_roundw
      case rel=>exact ⟨j+1,by omega,by go_num,hHeld.2.2.2.2,hHeld.2.2.1⟩
      case measure=>simp [intOf];omega
end Go.Proofs.YteepphiomcedfaaGreatDoor
namespace Go.Proofs.YteepphiomcedfaaGreatDoor
open Go.RowKit
def lenTo (sp:List (Rat × Rat)) (k:Nat):Rat:=(sp.take k).foldl (fun a p=>a+(p.2 - p.1)) 0
theorem lenTo_zero (sp:List (Rat × Rat)):lenTo sp 0=0:=rfl
theorem lenTo_succ (sp:List (Rat × Rat)) (k:Nat) (h:k < sp.length):lenTo sp (k+1)=lenTo sp k+(sp[k].2 - sp[k].1):=by
 unfold lenTo
 rw [List.take_succ_eq_append_getElem h,List.foldl_append];rfl
theorem zero_text:ratText 0=[48]:=by
 have:=ratText_int 0
 rw [show ((0:Int):Rat)=0 from rfl] at this
 rw [this];exact itoa_zero
theorem small_zero:Small 0:=by unfold Small;exact ⟨by decide,by decide⟩
theorem area1_small {lo hi l:Rat} (s t r:ByteArray) (v:Value) (w:World) (hG:Glo w) (hs:s.data.toList=ratText lo) (ht:t.data.toList=ratText hi) (hr:r.data.toList=ratText l)
  (hlo:Small lo) (hhi:Small hi) (hl:Small l) (hd:Small (hi - lo)) (hone:v.oneCell'=true) :
  Calls Tryz.prog 165 #[.agg #[.string s,.string t,v],.string r] w (RetN ((hi - lo) * l) w):=by
 have HS:=Lib.hid hs
 have HT:=Lib.hid ht
 have HR:=Lib.hid hr
 have HG:=Lib.hid hG
 clear hs ht hr hG
 go_enter Tryz.func165,Tryz.ntmps165
 go_wp2_with fail
 refine (Sub_small t s _ (HG.out.below qbl) HT.out hhi HS.out hlo).mono ?_
 rintro e w1 ⟨d,hdd,rfl,hB1⟩
 have HD:=Lib.hid hdd
 clear hdd
 go_wp2_with fail
 refine (Mul_small d r _ (HG.out.below qbl) HD.out hd HR.out hl).mono ?_
 rintro e w2 ⟨m,hm,rfl,hB2⟩
 have HM:=Lib.hid hm
 clear hm
 go_wp2_with fail
 go_ret2
 exact ⟨m,HM.out,rfl,qbl⟩
theorem sum_area_one {lo hi:Rat} {sp:List (Rat × Rat)} (b0 o0 cap0:Nat) (s t:ByteArray) (v:Value) (w:World) (hG:Glo w)
  (c0:w.cell? ⟨b0,o0,none⟩=some (.string s)) (c1:w.cell? ⟨b0,o0+1,none⟩=some (.string t)) (c2:w.cell? ⟨b0,o0+2,none⟩=some v)
  (hs:s.data.toList=ratText lo) (ht:t.data.toList=ratText hi) (hlo:Small lo) (hhi:Small hi) (hlt:lo < hi)
  (hv:IsSpans w v sp) (hr:RightSpans sp) (hn:sp.length≤64)
  (hsum:∀ k,k≤sp.length→Small (lenTo sp k)) (hdif:∀ k (h:k < sp.length),Small (sp[k].2 - sp[k].1)) (hd:Small (hi - lo)) (hp:Small ((hi - lo) * lenTo sp sp.length)) :
  Calls Tryz.prog 164 #[.slice (some ⟨b0,o0,none⟩) 1 cap0,.func (.func 165) #[] #[]] w (RetN ((hi - lo) * lenTo sp sp.length) w):=by
 have hright:=right_one b0 o0 cap0 s t v w hG c0 c1 c2 hs ht hlo hhi hlt hv hr hn
 have HRI:=Lib.hid hright
 have HV:=Lib.hid hv
 obtain ⟨a,cap,rfl,hcap,hcells⟩:=hv
 have HS:=Lib.hid hs
 have HT:=Lib.hid ht
 have HG:=Lib.hid hG
 have HC:=Lib.hid hcells
 have HSU:=Lib.hid hsum
 have HDI:=Lib.hid hdif
 have HRS:=Lib.hid hr
 clear hs ht hG hcells hright hsum hdif hr
 go_enter Tryz.func164,Tryz.ntmps164
 go_wp2_with fail
 refine (HRI.out).mono ?_
 rintro e w1 ⟨rfl,hB1⟩
 go_wp2_with fail
 go_loopw [6,21] (fun tot i wr=>∃ k:Nat,(k=0∧i=.int .i64 0∨k=1∧i=.int .i64 1)∧Below w.heap.size w wr∧∃ r:ByteArray,tot=.string r∧Hid (r.data.toList=ratText (if k=0 then 0 else (hi - lo) * lenTo sp sp.length))) (fun _ i _=>1 - (intOf i).toNat)
 case atStart=>exact ⟨0,Or.inl ⟨rfl,rfl⟩,hB1,_,rfl,Lib.hid (by rw [if_pos rfl,zero_text])⟩
 case round =>
  obtain ⟨k,hk,hB0,r,rfl,hrt⟩:=hrel
  rcases hk.symm with ⟨rfl,rfl⟩|⟨rfl,rfl⟩
  ·clear hk
   go_wp2_with fail
   go_ret2
   exact ⟨r,by rw [hrt.out,if_neg (by omega)],rfl,hB0⟩
  ·have hr0:Hid (r.data.toList=ratText 0):=Lib.hid (by rw [hrt.out,if_pos rfl])
   clear hk hrt
   have d0:=keep hB0 c0
   have d1:=keep hB0 c1
   have d2:=keep hB0 c2
   clear c0 c1 c2
   go_wp2_with fail
   obtain ⟨wo,rfl⟩:∃ wo:World,wo=wr:=⟨_,rfl⟩
   have k0:(wo.alloc (.cells #[.string s,.string t,.slice a sp.length cap] 25)).cell? ⟨wo.heap.size,0,none⟩=some (.string s):=by simp [go_sem]
   have k1:(wo.alloc (.cells #[.string s,.string t,.slice a sp.length cap] 25)).cell? ⟨wo.heap.size,1,none⟩=some (.string t):=by simp [go_sem]
   have k2:(wo.alloc (.cells #[.string s,.string t,.slice a sp.length cap] 25)).cell? ⟨wo.heap.size,2,none⟩=some (.slice a sp.length cap):=by simp [go_sem]
   have hBk:Below w.heap.size w (wo.alloc (.cells #[.string s,.string t,.slice a sp.length cap] 25)):=bw4 hB0 _
   go_loopw [9,28] (fun len i wq=>∃ j:Nat,j≤sp.length∧i=.int .i64 j∧(∃ q:ByteArray,len=.string q∧Hid (q.data.toList=ratText (lenTo sp j)))∧wq.cell? ⟨wo.heap.size,0,none⟩=some (.string s)∧wq.cell? ⟨wo.heap.size,1,none⟩=some (.string t)∧wq.cell? ⟨wo.heap.size,2,none⟩=some (.slice a sp.length cap)∧Below w.heap.size w wq) (fun _ i _=>sp.length - (intOf i).toNat)
   case atStart=>exact ⟨0,by omega,rfl,⟨_,rfl,Lib.hid (by rw [lenTo_zero,zero_text])⟩,k0,k1,k2,hBk⟩
   case round =>
    obtain ⟨j,hj,rfl,⟨q,rfl,hq⟩,e0,e1,e2,hBj⟩:=hrel
    clear k0 k1 k2 hBk hB0 d0 d1 d2
    by_cases hjn:j=sp.length
    ·subst hjn
     go_wp2_with fail
     refine (area1_small s t q (.slice a sp.length cap) _ (HG.out.below hBj) HS.out HT.out hq.out hlo hhi (HSU.out _ (Nat.le_refl _)) hd rfl).mono ?_
     rintro e w2 ⟨m,hm,rfl,hB2⟩
     have HM:=Lib.hid hm
     have hB2':=below_trans' hBj hB2
     clear hm
     go_wp2_with fail
     refine (Add_small r m _ (HG.out.below hB2') hr0.out small_zero HM.out hp).mono ?_
     rintro e w3 ⟨m',hm',rfl,hB3⟩
     have HM':=Lib.hid hm'
     have hB3':=below_trans' hB2' hB3
     clear hm'
     go_wp2_with fail
     go_roundw
     case rel=>exact ⟨1,Or.inr ⟨rfl,rfl⟩,hB3',m',rfl,Lib.hid (by rw [HM'.out,if_neg (by omega),Rat.zero_add])⟩
     case measure=>simp [intOf]
    ·have hj1:j < sp.length:=by omega
     obtain ⟨b,off,rfl,hbb,hcc⟩:=HC.out (fun h=>by rw [h] at hj1;simp at hj1)
     obtain ⟨u,v,f0,f1,hu,hv⟩:=hcc j hj1
     have q0:=keep hBj f0
     have q1:=keep hBj f1
     have HU:=Lib.hid hu
     have HV:=Lib.hid hv
     have hji:(j:Int) < (sp.length:Int):=by omega
     obtain ⟨hR1,hR2,hR3⟩:=HRS.out.1 j hj1
     have hdj:=HDI.out j hj1
     have hlj:=HSU.out j hj
     clear hu hv f0 f1 hjn hcc hR3
     go_wp2_with fail
     refine (Sub_small v u _ (HG.out.below qbl) HV.out hR2 HU.out hR1).mono ?_
     rintro e w2 ⟨m,hm,rfl,hB2⟩
     have HM:=Lib.hid hm
     have hB2':Below w.heap.size w w2:=qbl
     have e0':=keep hB2 (keep (bw4 (bw0 _ _) _) e0)
     have e1':=keep hB2 (keep (bw4 (bw0 _ _) _) e1)
     have e2':=keep hB2 (keep (bw4 (bw0 _ _) _) e2)
     clear hm e0 e1 e2 hB2 q0 q1
     go_wp2_with fail
     refine (Add_small q m _ (HG.out.below hB2') hq.out hlj HM.out hdj).mono ?_
     rintro e w3 ⟨m',hm',rfl,hB3⟩
     have HM':=Lib.hid hm'
     have hB3':=below_trans' hB2' hB3
     have e0:=keep hB3 e0'
     have e1:=keep hB3 e1'
     have e2:=keep hB3 e2'
     clear hm' e0' e1' e2' hB3
     go_wp2_with fail
     go_roundw
     case rel=>exact ⟨j+1,by omega,by go_num,⟨m',rfl,Lib.hid (by rw [HM'.out,lenTo_succ _ _ hj1])⟩,e0,e1,e2,hB3'⟩
     case measure=>simp [intOf];omega
theorem area_one {lo hi:Rat} {sp:List (Rat × Rat)} (b0 o0 cap0:Nat) (s t:ByteArray) (v:Value) (w:World) (hG:Glo w)
  (c0:w.cell? ⟨b0,o0,none⟩=some (.string s)) (c1:w.cell? ⟨b0,o0+1,none⟩=some (.string t)) (c2:w.cell? ⟨b0,o0+2,none⟩=some v)
  (hs:s.data.toList=ratText lo) (ht:t.data.toList=ratText hi) (hlo:Small lo) (hhi:Small hi) (hlt:lo < hi)
  (hv:IsSpans w v sp) (hr:RightSpans sp) (hn:sp.length≤64)
  (hsum:∀ k,k≤sp.length→Small (lenTo sp k)) (hdif:∀ k (h:k < sp.length),Small (sp[k].2 - sp[k].1)) (hd:Small (hi - lo)) (hp:Small ((hi - lo) * lenTo sp sp.length)) :
  Calls Tryz.prog 98 #[.slice (some ⟨b0,o0,none⟩) 1 cap0] w (RetN ((hi - lo) * lenTo sp sp.length) w):=by
 have H:=Lib.hid (sum_area_one b0 o0 cap0 s t v w hG c0 c1 c2 hs ht hlo hhi hlt hv hr hn hsum hdif hd hp)
 clear hG c0 c1 c2 hs ht hv hr hsum hdif
 go_enter Tryz.func98,Tryz.ntmps98
 go_wp2_with fail
 refine H.out.mono ?_
 rintro e w1 ⟨r,hr,rfl,hB⟩
 have HR:=Lib.hid hr
 clear hr
 go_wp2_with fail
 go_ret2
 exact ⟨r,HR.out,rfl,hB⟩
end Go.Proofs.YteepphiomcedfaaGreatDoor
namespace Go.Proofs.YteepphiomcedfaaGreatDoor
open Go.RowKit
structure GoodCourse (lo hi:Rat) (sp:List (Rat × Rat)):Prop where
 slo:Small lo
 shi:Small hi
 lt:lo < hi
 right:RightSpans sp
 len:sp.length≤64
 sum:∀ k,k≤sp.length→Small (lenTo sp k)
 dif:∀ k (h:k < sp.length),Small (sp[k].2 - sp[k].1)
 d:Small (hi - lo)
 p:Small ((hi - lo) * lenTo sp sp.length)
def IsCourse (w:World) (c:Value) (lo hi:Rat) (sp:List (Rat × Rat)):Prop:=∃ (s t:ByteArray) (v:Value),c=.agg #[.string s,.string t,v]∧s.data.toList=ratText lo∧t.data.toList=ratText hi∧IsSpans w v sp
theorem IsCourse.below {w w':World} {c:Value} {lo hi:Rat} {sp:List (Rat × Rat)} (h:IsCourse w c lo hi sp) (hB:Below w.heap.size w w'):IsCourse w' c lo hi sp:=by
 obtain ⟨s,t,v,h1,h2,h3,h4⟩:=h
 exact ⟨s,t,v,h1,h2,h3,h4.below hB⟩
theorem tright_ok {lo hi:Rat} {sp:List (Rat × Rat)} (c:Value) (wd:Int) (w:World) (hG:Glo w) (hc:IsCourse w c lo hi sp) (hg:GoodCourse lo hi sp) (h1:1≤wd) (h2:wd≤2000) :
  Calls Tryz.prog 41 #[c,.int .i64 wd] w (RetB (.int .i64 0) w):=by
 obtain ⟨s,t,v,rfl,hs,ht,hv⟩:=hc
 obtain ⟨a,cap,rfl,hv'⟩:=id hv
 have HS:=Lib.hid hs
 have HT:=Lib.hid ht
 have HV:=Lib.hid hv
 have HG:=Lib.hid hG
 have hg':=Lib.hid hg
 clear hs ht hv hv' hG hg
 go_enter Tryz.func41,Tryz.ntmps41
 go_wp2_with fail
 refine (area_one (w.heap.size+1) 0 1 s t (.slice a sp.length cap) _ (HG.out.below qbl) (by simp [go_sem]) (by simp [go_sem]) (by simp [go_sem]) HS.out HT.out hg'.out.slo hg'.out.shi hg'.out.lt (HV.out.below qbl) hg'.out.right hg'.out.len hg'.out.sum hg'.out.dif hg'.out.d hg'.out.p).mono ?_
 rintro e w1 ⟨r,hr,rfl,hB⟩
 have hB':Below w.heap.size w w1:=qbl
 clear hr hB
 go_wp2_with fail
 go_ret
 exact ⟨rfl,hB'⟩
theorem twhole_any (n:Int) (w:World) (hG:Glo w) (h0 : -9223372036854775808≤n) (h1:n≤9223372036854775807) :
  Calls Tryz.prog 45 #[.int .i64 n] w fun e w'=>∃ r:ByteArray,Hid (r.data.toList=ratText n)∧e=.returned (.string r)∧Below w.heap.size w w':=by
 have HG:=Lib.hid hG
 clear hG
 go_enter Tryz.func45,Tryz.ntmps45
 go_wp2_with fail
 refine (Of_one n _ HG.out h0 h1).mono ?_
 rintro e w1 ⟨r,hr,rfl,hB⟩
 have HR:=Lib.hid hr
 clear hr
 go_wp2_with fail
 go_ret
 exact ⟨r,HR,rfl,hB⟩
end Go.Proofs.YteepphiomcedfaaGreatDoor
namespace Go.Proofs.YteepphiomcedfaaGreatDoor
open Go.RowKit
def RetCount (bf bc:Nat) (vf vc:Int) (w:World) (e:Ending) (w':World):Prop:=e=.returned (.bool true)∧Below bf w w'∧w'.cell? ⟨bf,0,none⟩=some (.int .i64 vf)∧w'.frozen? ⟨bf,0,none⟩=false∧w'.cell? ⟨bc,0,none⟩=some (.int .i64 vc)∧w'.frozen? ⟨bc,0,none⟩=false
theorem cmp_most {p:Rat} (hp:Small p):Lib.compareInt p.num (1073741824 * (p.den:Int))=-1:=by
 have h1:=hp.1
 have h2:=p.den_pos
 rw [Lib.compareInt,if_pos (by omega)]
theorem count_ok {lo hi:Rat} (s t:ByteArray) (wd vf vc:Int) (bw bf bc:Nat) (w:World) (hG:Glo w) (hs:s.data.toList=ratText lo) (ht:t.data.toList=ratText hi) (hlo:Small lo) (hhi:Small hi) (hd:Small (hi - lo)) (h1:1≤wd) (h2:wd≤2000) (hq:Small ((hi - lo) / wd)) (hfl:Small (((hi - lo) / wd).floor:Int))
  (cw:w.cell? ⟨bw,0,none⟩=some (.int .i64 wd)) (cf:w.cell? ⟨bf,0,none⟩=some (.int .i64 vf)) (cc:w.cell? ⟨bc,0,none⟩=some (.int .i64 vc)) (ff:w.frozen? ⟨bf,0,none⟩=false) (fc:w.frozen? ⟨bc,0,none⟩=false) (hbc:bf < bc) (hvf:0≤vf) (hvf2:vf≤1000000000000) (hvc:0≤vc) (hvc2:vc≤1000000000000) :
  Calls Tryz.prog 42 #[.agg #[.string s,.string t],.pointer (some ⟨bw,0,none⟩),.pointer (some ⟨bf,0,none⟩),.pointer (some ⟨bc,0,none⟩)] w (RetCount bf bc (vf+((hi - lo) / wd).floor) (if ((hi - lo) / wd).den=1 then vc else vc+1) w):=by
 have HS:=Lib.hid hs
 have HT:=Lib.hid ht
 have HG:=Lib.hid hG
 have hws:Small (wd:Rat):=⟨by show wd.natAbs < 100000000;omega,by show 1 < 100000000;omega⟩
 have hw0:(wd:Rat)≠0:=by
  intro h
  have:wd=0:=by exact_mod_cast h
  omega
 have hfl1 : -100000000 < ((hi - lo) / wd).floor∧((hi - lo) / wd).floor < 100000000:=by
  have h3:=hfl.1
  have h4:(((hi - lo) / (wd:Rat)).floor:Rat).num=((hi - lo) / (wd:Rat)).floor:=rfl
  rw [h4] at h3
  omega
 have hcm:=cmp_most hq
 generalize hQ:(hi - lo) / (wd:Rat)=Q at *
 have hden:Q.den=1↔(Q.floor:Rat)=Q:=by
  constructor
  ·intro h
   rw [Rat.floor_def,h]
   refine Rat.ext ?_ h.symm
   show Q.num / ((1:Nat):Int)=Q.num
   exact Int.ediv_one _
  ·intro h
   rw [← h];rfl
 have hQ':=Lib.hid hQ
 have HDEN:=Lib.hid hden
 obtain ⟨hfa,hfb⟩:=hfl1
 generalize hV:(if Q.den=1 then vc else vc+1)=V
 have hV1:Q.den=1→V=vc:=fun h=>by rw [← hV,if_pos h]
 have hV2:¬ Q.den=1→V=vc+1:=fun h=>by rw [← hV,if_neg h]
 have HV1:=Lib.hid hV1
 have HV2:=Lib.hid hV2
 clear hs ht hG hden hQ hV hV1 hV2
 go_enter Tryz.func42,Tryz.ntmps42
 go_wp2_with fail
 refine (Sub_small t s _ (HG.out.below qbl) HT.out hhi HS.out hlo).mono ?_
 rintro e w1 ⟨r1,hr1,rfl,hB1⟩
 have hb1:Below w.heap.size w w1:=qbl
 have HR1:=Lib.hid hr1
 have cw1:=keep hb1 cw
 clear hr1 hB1
 go_wp2_with fail
 refine (twhole_any wd _ (HG.out.below qbl) (by omega) (by omega)).mono ?_
 rintro e w2 ⟨r2,hr2,rfl,hB2⟩
 have hb2:Below w.heap.size w w2:=qbl
 clear hB2
 go_wp2_with fail
 refine (Div_small r1 r2 _ (HG.out.below qbl) HR1.out hd hr2.out hws hw0).mono ?_
 rintro e w3 ⟨r3,hr3,rfl,hB3⟩
 have hb3:Below w.heap.size w w3:=qbl
 rw [hQ'.out] at hr3
 have HR3:=Lib.hid hr3
 clear hr3 hB3
 go_wp2_with fail
 refine (twhole_any 1073741824 _ (HG.out.below qbl) (by omega) (by omega)).mono ?_
 rintro e w4 ⟨r4,hr4,rfl,hB4⟩
 have hb4:Below w.heap.size w w4:=qbl
 have HR4:Hid (r4.data.toList=Lib.itoa 1073741824):=Lib.hid (by rw [hr4.out,ratText_int])
 clear hr4 hB4
 go_wp2_with fail
 refine (Compare_mid r3 r4 _ (HG.out.below qbl) HR3.out hq HR4.out mid_most (by omega)).mono ?_
 rintro e w5 ⟨rfl,hB5⟩
 have hb5:Below w.heap.size w w5:=qbl
 rw [hcm]
 clear hB5
 go_wp2_with fail
 refine (Floor_small r3 _ (HG.out.below qbl) HR3.out hq).mono ?_
 rintro e w6 ⟨r6,hr6,rfl,hB6⟩
 have hb6:Below w.heap.size w w6:=qbl
 have HR6:=Lib.hid hr6
 clear hr6 hB6
 go_wp2_with fail
 refine (Int_small Q.floor r6 _ (HG.out.below qbl) HR6.out hfl).mono ?_
 rintro e w7 ⟨rfl,hB7⟩
 have hb7:Below w.heap.size w w7:=qbl
 have cf7:=keep hb7 cf
 have cc7:=keep hb7 cc
 have ff7:=keepf hb7 cf ff
 have fc7:=keepf hb7 cc fc
 have z1:=lt_of_cell cf7
 have z2:=lt_of_cell cc7
 have hzf:=lt_of_cell cf
 have hw1:IntKind.i64.wrap (vf+Q.floor)=vf+Q.floor:=IntWalk.i64_in _ (by omega)
 have hw2:IntKind.i64.wrap (vc+1)=vc+1:=IntWalk.i64_in _ (by omega)
 have hbf7:Below bf w w7:=hb7.mono (by omega)
 clear hB7
 by_cases hde:Q.den=1
 ·have hE:(r6.toList == r3.toList)=true:=by
   have h3:=HDEN.out.1 hde
   have h4:r6.data.toList=r3.data.toList:=by rw [HR6.out,HR3.out,h3]
   rw [Lib.toList_data,Lib.toList_data,h4];simp
  have hVe:=HV1.out hde
  clear HV1 HV2
  subst hVe
  go_wp2_with fail
  go_ret
  refine ⟨rfl,(hbf7).setCell (Nat.le_refl _) _,?_,?_,?_,?_⟩
  all_goals simp [go_sem, *,World.cell?_setCell_far,Nat.ne_of_gt,Nat.ne_of_lt]
 ·have hE:(r6.toList == r3.toList)=false:=by
   have h4:r6.data.toList≠r3.data.toList:=by
    intro h
    rw [HR6.out,HR3.out] at h
    exact hde (HDEN.out.2 (ratText_inj hfl hq h))
   rw [Lib.toList_data,Lib.toList_data];simpa using h4
  have hVe:=HV2.out hde
  clear HV1 HV2
  subst hVe
  go_wp2_with fail
  go_ret
  refine ⟨rfl,((hbf7).setCell (Nat.le_refl _) _).setCell (Nat.le_of_lt hbc) _,?_,?_,?_,?_⟩
  all_goals simp [go_sem, *,World.cell?_setCell_far,Nat.ne_of_gt,Nat.ne_of_lt]
end Go.Proofs.YteepphiomcedfaaGreatDoor
namespace Go.Proofs.YteepphiomcedfaaGreatDoor
open Go.RowKit
def fullTo (sp:List (Rat × Rat)) (wd:Int) (k:Nat):Int:=((sp.take k).map (fun s=>((s.2 - s.1) / (wd:Rat)).floor)).sum
def cutTo (sp:List (Rat × Rat)) (wd:Int) (k:Nat):Int:=((sp.take k).map (fun s=>if ((s.2 - s.1) / (wd:Rat)).den=1 then (0:Int) else 1)).sum
theorem fullTo_zero (sp:List (Rat × Rat)) (wd:Int):fullTo sp wd 0=0:=by simp [fullTo]
theorem cutTo_zero (sp:List (Rat × Rat)) (wd:Int):cutTo sp wd 0=0:=by simp [cutTo]
theorem fullTo_succ (sp:List (Rat × Rat)) (wd:Int) {k:Nat} (h:k < sp.length):fullTo sp wd (k+1)=fullTo sp wd k+((sp[k].2 - sp[k].1) / (wd:Rat)).floor:=by
 unfold fullTo
 rw [List.take_succ_eq_append_getElem h,List.map_append,List.sum_append];simp
theorem cutTo_succ (sp:List (Rat × Rat)) (wd:Int) {k:Nat} (h:k < sp.length):cutTo sp wd (k+1)=if ((sp[k].2 - sp[k].1) / (wd:Rat)).den=1 then cutTo sp wd k else cutTo sp wd k+1:=by
 unfold cutTo
 rw [List.take_succ_eq_append_getElem h,List.map_append,List.sum_append]
 simp only [List.map_cons,List.map_nil,List.sum_cons,List.sum_nil,Int.add_zero]
 split<;>simp
def GoodSteps (sp:List (Rat × Rat)) (wd:Int):Prop:=∀ k (h:k < sp.length),0 < sp[k].2 - sp[k].1∧Small ((sp[k].2 - sp[k].1) / wd)
theorem floor_small' {q:Rat} (h:Small q) (h0:0≤q):0≤q.floor∧q.floor < 100000000:=by
 rw [Rat.floor_def]
 have h1:=h.1
 have h2:=q.den_pos
 have h3:0≤q.num:=Rat.num_nonneg.2 h0
 refine ⟨Int.ediv_nonneg h3 (by omega),?_⟩
 have:=Int.ediv_le_self (a:=q.num) q.den h3
 omega
theorem fullTo_bds {sp:List (Rat × Rat)} {wd:Int} (h1:1≤wd) (hg:GoodSteps sp wd):∀ k,k≤sp.length→0≤fullTo sp wd k∧fullTo sp wd k≤100000000 * k∧0≤cutTo sp wd k∧cutTo sp wd k≤k:=by
 intro k
 induction k with
 | zero=>intro _;simp [fullTo_zero,cutTo_zero]
 | succ k ih =>
  intro hk
  obtain ⟨i1,i2,i3,i4⟩:=ih (by omega)
  obtain ⟨g1,g2⟩:=hg k (by omega)
  have hw:(0:Rat) < wd:=by exact_mod_cast h1
  have:=floor_small' g2 (Rat.le_of_lt (by rw [Rat.div_def];exact Rat.mul_pos g1 (Rat.inv_pos.2 hw)))
  rw [fullTo_succ _ _ (by omega),cutTo_succ _ _ (by omega)]
  split<;>omega
theorem Course_ok {lo hi:Rat} {sp:List (Rat × Rat)} (c:Value) (wd:Int) (w:World) (hG:Glo w) (hc:IsCourse w c lo hi sp) (hg:GoodCourse lo hi sp) (hst:GoodSteps sp wd) (h1:1≤wd) (h2:wd≤2000) :
  Calls Tryz.prog 10 #[c,.int .i64 wd] w (RetB (.tuple #[.int .i64 (fullTo sp wd sp.length),.int .i64 (cutTo sp wd sp.length),.int .i64 0]) w):=by
 have hri:=fun (w':World) (hB:Below w.heap.size w w')=>tright_ok c wd w' (hG.below hB) (hc.below hB) hg h1 h2
 obtain ⟨s,t,v,rfl,hs,ht,hv⟩:=hc
 obtain ⟨a,cap,rfl,hcap,hcells⟩:=id hv
 have HRI:=Lib.hid hri
 have HG:=Lib.hid hG
 have HC:=Lib.hid hcells
 have HGC:=Lib.hid hg
 have HST:=Lib.hid hst
 have HBD:=Lib.hid (fullTo_bds h1 hst)
 have hl64:=hg.len
 clear hs ht hv hG hcells hg hst hri
 go_enter Tryz.func10,Tryz.ntmps10
 go_wp2_with fail
 refine (HRI.out _ qbl).mono ?_
 rintro e w1 ⟨rfl,hB1⟩
 have hb1:Below w.heap.size w w1:=qbl
 have c0:w1.cell? ⟨w.heap.size,0,none⟩=some (.string s):=keep hB1 (by simp [go_sem])
 have c1:w1.cell? ⟨w.heap.size,1,none⟩=some (.string t):=keep hB1 (by simp [go_sem])
 have c2:w1.cell? ⟨w.heap.size,2,none⟩=some (.slice a sp.length cap):=keep hB1 (by simp [go_sem])
 have c3:w1.cell? ⟨w.heap.size+1,0,none⟩=some (.int .i64 wd):=keep hB1 (by simp [go_sem])
 have z1:=lt_of_cell c2
 have z2:=lt_of_cell c3
 go_wp2_with fail
 go_loopw [23] (fun i wr=>∃ k:Nat,k≤sp.length∧i=.int .i64 k∧Below w.heap.size w wr∧wr.cell? ⟨w.heap.size+1,0,none⟩=some (.int .i64 wd)∧wr.cell? ⟨w1.heap.size,0,none⟩=some (.int .i64 (fullTo sp wd k))∧wr.frozen? ⟨w1.heap.size,0,none⟩=false∧wr.cell? ⟨w1.heap.size+1,0,none⟩=some (.int .i64 (cutTo sp wd k))∧wr.frozen? ⟨w1.heap.size+1,0,none⟩=false) (fun i _=>sp.length - (intOf i).toNat)
 case atStart =>
  refine ⟨0,by omega,rfl,qbl,?_,?_,?_,?_,?_⟩
  all_goals simp [go_sem,fullTo_zero,cutTo_zero, *,World.cell?_setCell_far]
 case round =>
  obtain ⟨j,hj,rfl,hBj,kw,kf,kff,kc,kcf⟩:=hrel
  obtain ⟨bd1,bd2,bd3,bd4⟩:=HBD.out j hj
  by_cases hjn:j=sp.length
  ·subst hjn
   go_wp2_with fail
   go_quiet (fail)
   go_wp2_with fail
   go_ret3
   exact ⟨rfl,qbl⟩
  ·have hj1:j < sp.length:=by omega
   obtain ⟨b,off,rfl,hbb,hcc⟩:=HC.out (fun h=>by rw [h] at hj1;simp at hj1)
   obtain ⟨u,v,e0,e1,hu,hv⟩:=hcc j hj1
   have q0:=keep hBj e0
   have q1:=keep hBj e1
   have HU:=Lib.hid hu
   have HV:=Lib.hid hv
   have hji:(j:Int) < (sp.length:Int):=by omega
   clear hu hv e0 e1 hjn hcc
   go_wp2_with fail
   refine (count_ok u v wd (fullTo sp wd j) (cutTo sp wd j) (w.heap.size+1) w1.heap.size (w1.heap.size+1) _ (HG.out.below qbl) HU.out HV.out (HGC.out.right.1 j hj1).1 (HGC.out.right.1 j hj1).2.1 (HGC.out.dif j hj1) h1 h2 (HST.out j hj1).2 ?_ (keep (bw4 (bw0 _ _) _) kw) (keep (bw4 (bw0 _ _) _) kf) (keep (bw4 (bw0 _ _) _) kc) (keepf (bw4 (bw0 _ _) _) kf kff) (keepf (bw4 (bw0 _ _) _) kc kcf) (by omega) (by omega) (by omega) (by omega) (by omega)).mono ?_
   ·obtain ⟨g1,g2⟩:=HST.out j hj1
    have hw:(0:Rat) < wd:=by exact_mod_cast h1
    have:=floor_small' g2 (Rat.le_of_lt (by rw [Rat.div_def];exact Rat.mul_pos g1 (Rat.inv_pos.2 hw)))
    refine ⟨?_,by show 1 < 100000000;omega⟩
    show (((sp[j].2 - sp[j].1) / (wd:Rat)).floor).natAbs < 100000000
    omega
   rintro e w2 ⟨rfl,hB2,kf',kff',kc',kcf'⟩
   have hB2':Below w.heap.size w w2:=(bw4 hBj _).trans (hB2.mono (by omega))
   have kw':w2.cell? ⟨w.heap.size+1,0,none⟩=some (.int .i64 wd):=(hB2.cell (p:=⟨w.heap.size+1,0,none⟩) z2).trans (keep (bw4 (bw0 _ _) _) kw)
   rw [← fullTo_succ _ _ hj1] at kf'
   rw [← cutTo_succ _ _ hj1] at kc'
   clear hB2 kw kf kff kc kcf
   go_wp2_with fail
   go_roundw
   case rel=>exact ⟨j+1,by omega,by go_num,hB2',kw',kf',kff',kc',kcf'⟩
   case measure=>simp [intOf];omega
end Go.Proofs.YteepphiomcedfaaGreatDoor
