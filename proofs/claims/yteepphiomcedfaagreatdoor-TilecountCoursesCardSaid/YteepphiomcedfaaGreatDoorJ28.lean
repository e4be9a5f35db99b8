/- Joined texts: WRightAny, WAreaAny. -/
import Derived.Test.YteepphiomcedfaaGreatDoorJ27
import Derived.Test.YteepphiomcedfaaGreatDoorJ09
set_option maxRecDepth 100000
set_option linter.unusedVariables false
set_option linter.unusedSimpArgs false
set_option maxHeartbeats 6400000
namespace Go.Proofs.YteepphiomcedfaaGreatDoor
open Go.RowKit
attribute [local go_sem ↓] Go.wp_at_zero Go.wp_at_succ
abbrev Texts:=List (ByteArray × ByteArray)
def tx (S:Texts) (k:Nat):ByteArray × ByteArray:=S.getD k (⟨#[]⟩,⟨#[]⟩)
def SpansAt (w:World) (v:Value) (S:Texts):Prop:=∃ (a:Option Addr) (cap:Nat),v=.slice a S.length cap∧S.length≤maxLen ∧
 (S≠[]→∃ b off,a=some ⟨b,off,none⟩∧b < w.heap.size∧∀ k,k < S.length→w.cell? ⟨b,off+k * 2,none⟩=some (.string (tx S k).1)∧w.cell? ⟨b,off+k * 2+1,none⟩=some (.string (tx S k).2))
theorem SpansAt.below {w w':World} {v:Value} {S:Texts} (h:SpansAt w v S) (hB:Below w.heap.size w w'):SpansAt w' v S:=by
 obtain ⟨a,cap,h1,h2,h3⟩:=h
 refine ⟨a,cap,h1,h2,fun hn=>?_⟩
 obtain ⟨b,off,e,hb,hc⟩:=h3 hn
 refine ⟨b,off,e,Nat.lt_of_lt_of_le hb hB.size,fun k hk=>?_⟩
 obtain ⟨c1,c2⟩:=hc k hk
 exact ⟨keep hB c1,keep hB c2⟩
def Brief (S:Texts):Prop:=∀ k,k < S.length→(tx S k).1.size≤1000∧(tx S k).2.size≤1000
noncomputable def spanB (S:Texts) (k:Nat):Bool:=isShort (tx S k).1 && isShort (tx S k).2 && decide (qOf (tx S k).1 < qOf (tx S k).2) && (decide (k=0) || decide (qOf (tx S (k - 1)).2 < qOf (tx S k).1))
noncomputable def headB (lo hi:ByteArray) (S:Texts):Bool:=decide (S.length≤64) && isShort lo && isShort hi && decide (qOf lo < qOf hi)
noncomputable def rightB (lo hi:ByteArray) (S:Texts):Bool:=headB lo hi S && (List.range S.length).all (spanB S)
theorem rightB_head {lo hi:ByteArray} {S:Texts} (h:headB lo hi S=false):rightB lo hi S=false:=by unfold rightB;rw [h];rfl
theorem rightB_span {lo hi:ByteArray} {S:Texts} {k:Nat} (hk:k < S.length) (h:spanB S k=false):rightB lo hi S=false:=by
 unfold rightB
 rw [Bool.and_eq_false_iff]
 refine .inr (Bool.eq_false_iff.2 fun h'=>?_)
 rw [List.all_eq_true] at h'
 have:=h' k (List.mem_range.2 hk)
 rw [h] at this;cases this
theorem rightB_true {lo hi:ByteArray} {S:Texts} (h:headB lo hi S=true) (hs:∀ k,k < S.length→spanB S k=true):rightB lo hi S=true:=by
 unfold rightB
 rw [h,Bool.true_and,List.all_eq_true]
 exact fun k hk=>hs k (List.mem_range.1 hk)
theorem ordQ_ge {p q:Rat} (h:¬ p < q):decide (0≤ordQ p q)=true:=by
 unfold ordQ
 rw [if_neg h]
 split<;>decide
theorem order_ge {k m:Nat} {p q:Rat} (s t:ByteArray) (w:World) (hG:Glo w) (hs:s.data.toList=ratText p) (hp:Sz k p) (ht:t.data.toList=ratText q) (hq:Sz m q) (hkm:k+m≤300) (o:Int) (ho:ordQ p q=o) :
  Calls Tryz.prog 257 #[.string s,.string t] w (RetB (.int .i64 o) w):=by
 rw [← ho]
 exact order_q s t w hG hs hp ht hq hkm
theorem short_is {b:Bool} (s:ByteArray) (w:World) (hG:Glo w) (hsz:s.size≤1000) (h:isShort s=b):Calls Tryz.prog 256 #[.string s] w (RetB (.bool b) w):=by
 rw [← h];exact short_any s w hG hsz
theorem right_any (b0 o0 cap0:Nat) (lo hi:ByteArray) (S:Texts) (v0:Value) (w:World) (hG:Glo w)
  (c0:w.cell? ⟨b0,o0,none⟩=some (.string lo)) (c1:w.cell? ⟨b0,o0+1,none⟩=some (.string hi)) (c2:w.cell? ⟨b0,o0+2,none⟩=some v0)
  (hv:SpansAt w v0 S) (hlo:lo.size≤1000) (hhi:hi.size≤1000) (hbr:Brief S) :
  Calls Tryz.prog 217 #[.slice (some ⟨b0,o0,none⟩) 1 cap0] w (RetB (.bool (rightB lo hi S)) w):=by
 obtain ⟨a,cap,rfl,hmx,hcells⟩:=hv
 have hmx':S.length≤9223372036854775807:=hmx
 have HG:=Lib.hid hG
 have HC:=Lib.hid hcells
 have HBR:=Lib.hid hbr
 clear hG hcells hbr hmx
 go_enter Tryz.func217,Tryz.ntmps217
 go_wp2_with fail
 go_loopw [12] (fun i wr=>∃ k:Nat,k≤1∧i=.int .i64 k∧Hid (k=1→rightB lo hi S=true)∧Below w.heap.size w wr) (fun i _=>1 - (intOf i).toNat)
 case atStart=>exact ⟨0,by omega,rfl,Lib.hid (fun h=>by omega),bw0 _ _⟩
 case round =>
  obtain ⟨k,hk,rfl,hdone,hB0⟩:=hrel
  by_cases hk1:k=1
  ·subst hk1
   have HRB:=Lib.hid (hdone.out rfl)
   clear hdone
   go_wp2_with fail
   go_ret
   exact ⟨by rw [HRB.out];first|done|rfl,hB0⟩
  ·obtain rfl:k=0:=by omega
   clear hk hk1 hdone
   have d0:=keep hB0 c0
   have d1:=keep hB0 c1
   have d2:=keep hB0 c2
   clear c0 c1 c2
   by_cases hn:S.length≤64
   rotate_left
   ·have hF:=Lib.hid (rightB_head (lo:=lo) (hi:=hi) (S:=S) (by unfold headB;rw [show decide (S.length≤64)=false by simpa using hn];rfl))
    have hn':(64:Int) < (S.length:Int):=by omega
    clear hn
    go_wp2_with fail
    go_ret
    exact ⟨by rw [hF.out];first|done|rfl,qbl⟩
   obtain ⟨bl,hbl⟩:∃ b,isShort lo=b:=⟨_,rfl⟩
   have HL:=Lib.hid hbl
   clear hbl
   go_wp2_with fail
   refine (short_is lo _ (HG.out.below qbl) hlo HL.out).mono ?_
   rintro e w2 ⟨rfl,hB2⟩
   obtain ⟨hc2,hf2⟩:=bcell hB2
   have z2:=hB2.size
   simp only [World.size_alloc] at z2
   have f0:w2.cell? ⟨wr.heap.size,0,none⟩=some (.string lo):=by rw [hc2 _ _ (by simp)];simp [go_sem]
   have f1:w2.cell? ⟨wr.heap.size,1,none⟩=some (.string hi):=by rw [hc2 _ _ (by simp)];simp [go_sem]
   have f2:w2.cell? ⟨wr.heap.size,2,none⟩=some (.slice a S.length cap):=by rw [hc2 _ _ (by simp)];simp [go_sem]
   have hB2':Below w.heap.size w w2:=qbl
   clear hc2 hf2 hB2 d0 d1 d2
   cases bl
   ·have hF:=Lib.hid (rightB_head (lo:=lo) (hi:=hi) (S:=S) (by unfold headB;rw [HL.out];simp))
    clear HL
    go_wp2_with fail
    go_ret
    exact ⟨by rw [hF.out];first|done|rfl,hB2'⟩
   obtain ⟨bh,hbh⟩:∃ b,isShort hi=b:=⟨_,rfl⟩
   have HH:=Lib.hid hbh
   clear hbh
   go_wp2_with fail
   refine (short_is hi _ (HG.out.below hB2') hhi HH.out).mono ?_
   rintro e w3 ⟨rfl,hB3⟩
   have z3:=hB3.size
   have g0:=keep hB3 f0
   have g1:=keep hB3 f1
   have g2:=keep hB3 f2
   have hB3':Below w.heap.size w w3:=below_trans' hB2' hB3
   clear hB3 f0 f1 f2 hB2'
   cases bh
   ·have hF:=Lib.hid (rightB_head (lo:=lo) (hi:=hi) (S:=S) (by unfold headB;rw [HH.out];simp))
    clear HH
    go_wp2_with fail
    go_ret
    exact ⟨by rw [hF.out];first|done|rfl,hB3'⟩
   obtain ⟨o,hoo⟩:∃ o,ordQ (qOf lo) (qOf hi)=o:=⟨_,rfl⟩
   have HO:=Lib.hid hoo
   clear hoo
   go_wp2_with fail
   refine (order_ge lo hi _ (HG.out.below hB3') (isShort_spec HL.out).1 (isShort_spec HL.out).2 (isShort_spec HH.out).1 (isShort_spec HH.out).2 (by decide) _ HO.out).mono ?_
   rintro e w4 ⟨rfl,hB4⟩
   have z4:=hB4.size
   have k0:=keep hB4 g0
   have k1:=keep hB4 g1
   have k2:=keep hB4 g2
   have hB4':Below w.heap.size w w4:=below_trans' hB3' hB4
   have zr:wr.heap.size < w4.heap.size:=by omega
   clear hB4 g0 g1 g2 hB3'
   by_cases hlt:qOf lo < qOf hi
   rotate_left
   ·have hge:=ordQ_ge hlt
    rw [HO.out] at hge
    have hge':0≤o:=by simpa using hge
    have hF:=Lib.hid (rightB_head (lo:=lo) (hi:=hi) (S:=S) (by unfold headB;rw [show decide (qOf lo < qOf hi)=false by simpa using hlt];simp))
    clear HO HL HH hlt
    go_wp2_with fail
    go_ret
    exact ⟨by rw [hF.out];first|done|rfl,hB4'⟩
   have hm1:o=-1:=by rw [← HO.out,ordQ_lt hlt]
   have HHD:=Lib.hid (show headB lo hi S=true by unfold headB;rw [HL.out,HH.out,show decide (S.length≤64)=true by simpa using hn,show decide (qOf lo < qOf hi)=true by simpa using hlt];rfl)
   subst hm1
   clear HO HL HH hlt
   go_wp2_with fail
   obtain ⟨wo,rfl⟩:∃ wo:World,wo=wr:=⟨_,rfl⟩
   go_loopw [43] (fun i wq=>∃ j:Nat,j≤S.length∧i=.int .i64 j∧Hid (∀ k,k < j→spanB S k=true)∧Below w.heap.size w wq∧wq.cell? ⟨wo.heap.size,2,none⟩=some (.slice a S.length cap)) (fun i _=>S.length - (intOf i).toNat)
   case atStart=>exact ⟨0,by omega,rfl,Lib.hid (fun k hk=>by omega),hB4',k2⟩
   case round =>
    obtain ⟨j,hj,rfl,HSP,hBj,kj⟩:=hrel
    clear k0 k1 k2 hB4' hB0 zr z4 z3 z2
    by_cases hjn:j=S.length
    ·subst hjn
     have HRT:=Lib.hid (rightB_true HHD.out HSP.out)
     clear HSP
     go_wp2_with fail
     go_roundw
     case rel=>exact ⟨1,by omega,rfl,Lib.hid (fun _=>HRT.out),hBj⟩
     case measure=>simp [intOf]
    ·have hj1:j < S.length:=by omega
     obtain ⟨b,off,rfl,hbb,hcc⟩:=HC.out (fun h=>by rw [h] at hj1;simp at hj1)
     obtain ⟨e0,e1⟩:=hcc j hj1
     have q0:=keep hBj e0
     have q1:=keep hBj e1
     have hji:(j:Int) < (S.length:Int):=by omega
     obtain ⟨hus,hvs⟩:=HBR.out j hj1
     have hSB:spanB S j=(isShort (tx S j).1 && isShort (tx S j).2 && decide (qOf (tx S j).1 < qOf (tx S j).2) && (decide (j=0) || decide (qOf (tx S (j - 1)).2 < qOf (tx S j).1))):=rfl
     have HSB0:=Lib.hid hSB
     obtain ⟨u,hu⟩:∃ u,(tx S j).1=u:=⟨_,rfl⟩
     obtain ⟨v,hv⟩:∃ v,(tx S j).2=v:=⟨_,rfl⟩
     rw [hu,hv] at HSB0
     rw [hu] at q0 hus
     rw [hv] at q1 hvs
     have HCC:=Lib.hid hcc
     clear hu hv e0 e1 hjn hcc hSB
     go_wp2_with fail
     obtain ⟨bu,hbu⟩:∃ b,isShort u=b:=⟨_,rfl⟩
     obtain ⟨bv,hbv⟩:∃ b,isShort v=b:=⟨_,rfl⟩
     obtain ⟨o,hoo⟩:∃ o,ordQ (qOf u) (qOf v)=o:=⟨_,rfl⟩
     have HU:=Lib.hid hbu
     have HV:=Lib.hid hbv
     have HO:=Lib.hid hoo
     clear hbu hbv hoo
     have x0:(wr.alloc (.cells #[.string u,.string v] 77)).cell? ⟨wr.heap.size,0,none⟩=some (.string u):=by simp [go_sem]
     have x1:(wr.alloc (.cells #[.string u,.string v] 77)).cell? ⟨wr.heap.size,1,none⟩=some (.string v):=by simp [go_sem]
     have hBk:Below w.heap.size w (wr.alloc (.cells #[.string u,.string v] 77)):=(by repeat (first|(with_reducible first|exact bw0 _ _|exact hB|refine bw1 ?_ ?_ _|refine bw2 ?_ _|refine bw3 ?_|refine bw4 ?_ _|refine bw5 (by assumption) ?_)|exact Nat.le_refl _|(focus (simp;done))|(focus (simp;omega))|omega))
     have kj':(wr.alloc (.cells #[.string u,.string v] 77)).cell? ⟨wo.heap.size,2,none⟩=some (.slice (some ⟨b,off,none⟩) S.length cap):=keep (bw4 (bw0 _ _) _) kj
     have hBw:Below wr.heap.size wr (wr.alloc (.cells #[.string u,.string v] 77)):=bw4 (bw0 _ _) _
     have hS:(wr.alloc (.cells #[.string u,.string v] 77)).drew.cell? ⟨wr.heap.size,0,none⟩=some (.string u)∧(wr.alloc (.cells #[.string u,.string v] 77)).drew.cell? ⟨wr.heap.size,1,none⟩=some (.string v)∧(wr.alloc (.cells #[.string u,.string v] 77)).drew.cell? ⟨wo.heap.size,2,none⟩=some (.slice (some ⟨b,off,none⟩) S.length cap)∧Below w.heap.size w (wr.alloc (.cells #[.string u,.string v] 77)).drew:=⟨by simp,by simp,by simpa using kj',bw3 hBk⟩
     generalize wr.alloc (.cells #[.string u,.string v] 77)=W at *
     clear x0 x1 kj' hBk q0 q1
     cases bu
     ·as_aux_lemma =>
      have HSB:=Lib.hid (show spanB S j=false by rw [HSB0.out,HU.out];simp)
      clear HSB0
      refine region_held_abs (S:=(fun w'=>w'.cell? ⟨wr.heap.size,0,none⟩=some (.string u)∧w'.cell? ⟨wr.heap.size,1,none⟩=some (.string v)∧w'.cell? ⟨wo.heap.size,2,none⟩=some (.slice (some ⟨b,off,none⟩) S.length cap)∧Below w.heap.size w w')) 35 #[false,false,false,false,false,false,false,false,false,false,false,false,false,false,false,false,false,false,false,false,false,false,false,false,false,false,false,false,false,false,false,false,false,false,false] (by kernel_rfl) (by kernel_rfl) (by kernel_rfl) (fun _ _ _ _ _ h=>h) hS (fun Q' hQ' hN hHeld=>?_)
      refine tT 48 0 ?_
      refine tT 49 1 ?_
      refine wpAnyH_ready (rs:=[2]) (by kernel_rfl) (by simp) ?_
      refine consW (i:=2) rfl (by kernel_rfl) (fun K hK=>?_)
      go_simp
      refine (short_is u _ (glo3 HG.out hHeld) hus HU.out).mono ?_
      rintro e w' ⟨rfl,hBx⟩
      go_simp
      refine hK.out _ _ ?_ (fun hHeld=>?_)
      ·exact keep3 hHeld hBx
      clear hK K
      (try simp only [Act.put,bw7,bw8,bw9])
      refine tT 51 3 ?_
      refine tT 52 4 ?_
      refine tF 53 5 ?_
      refine tF 54 6 ?_
      refine tF 55 7 ?_
      refine tF 56 8 ?_
      refine tT 57 9 ?_
      refine tT 58 10 ?_
      refine tF 59 11 ?_
      refine tF 60 12 ?_
      refine tF 61 13 ?_
      refine tF 62 14 ?_
      refine tF 63 15 ?_
      refine tF 64 16 ?_
      refine tT 65 17 ?_
      refine tT 66 18 ?_
      refine tF 67 19 ?_
      refine tF 68 20 ?_
      refine tF 69 21 ?_
      refine tF 70 22 ?_
      refine tF 71 23 ?_
      refine tF 72 24 ?_
      refine tF 73 25 ?_
      refine tF 74 26 ?_
      refine tF 75 27 ?_
      refine tF 76 28 ?_
      refine tF 77 29 ?_
      refine tF 78 30 ?_
      refine tF 79 31 ?_
      refine tF 80 32 ?_
      refine tF 81 33 ?_
      refine tT 82 34 ?_
      refine wpAnyH_done (by kernel_rfl) ?_ _
      refine hN.out _ _ ?_
      go_wp2_with fail
      go_ret
      exact ⟨by rw [rightB_span hj1 HSB.out];first|done|rfl,hHeld.2.2.2⟩
     cases bv
     ·as_aux_lemma =>
      have HSB:=Lib.hid (show spanB S j=false by rw [HSB0.out,HV.out];simp)
      clear HSB0
      refine region_held_abs (S:=(fun w'=>w'.cell? ⟨wr.heap.size,0,none⟩=some (.string u)∧w'.cell? ⟨wr.heap.size,1,none⟩=some (.string v)∧w'.cell? ⟨wo.heap.size,2,none⟩=some (.slice (some ⟨b,off,none⟩) S.length cap)∧Below w.heap.size w w')) 35 #[false,false,false,false,false,false,false,false,false,false,false,false,false,false,false,false,false,false,false,false,false,false,false,false,false,false,false,false,false,false,false,false,false,false,false] (by kernel_rfl) (by kernel_rfl) (by kernel_rfl) (fun _ _ _ _ _ h=>h) hS (fun Q' hQ' hN hHeld=>?_)
      refine tT 48 0 ?_
      refine tT 49 1 ?_
      refine wpAnyH_ready (rs:=[2]) (by kernel_rfl) (by simp) ?_
      refine consW (i:=2) rfl (by kernel_rfl) (fun K hK=>?_)
      go_simp
      refine (short_is u _ (glo3 HG.out hHeld) hus HU.out).mono ?_
      rintro e w' ⟨rfl,hBx⟩
      go_simp
      refine hK.out _ _ ?_ (fun hHeld=>?_)
      ·exact keep3 hHeld hBx
      clear hK K
      (try simp only [Act.put,bw7,bw8,bw9])
      refine tT 51 3 ?_
      refine tT 52 4 ?_
      refine tT 53 5 ?_
      refine tT 54 6 ?_
      refine wpAnyH_ready (rs:=[7]) (by kernel_rfl) (by simp) ?_
      refine consW (i:=7) rfl (by kernel_rfl) (fun K hK=>?_)
      go_simp
      refine (short_is v _ (glo3 HG.out hHeld) hvs HV.out).mono ?_
      rintro e w' ⟨rfl,hBx⟩
      go_simp
      refine hK.out _ _ ?_ (fun hHeld=>?_)
      ·exact keep3 hHeld hBx
      clear hK K
      (try simp only [Act.put,bw7,bw8,bw9])
      refine tT 56 8 ?_
      refine tT 57 9 ?_
      refine tT 58 10 ?_
      refine tF 59 11 ?_
      refine tF 60 12 ?_
      refine tF 61 13 ?_
      refine tF 62 14 ?_
      refine tF 63 15 ?_
      refine tF 64 16 ?_
      refine tT 65 17 ?_
      refine tT 66 18 ?_
      refine tF 67 19 ?_
      refine tF 68 20 ?_
      refine tF 69 21 ?_
      refine tF 70 22 ?_
      refine tF 71 23 ?_
      refine tF 72 24 ?_
      refine tF 73 25 ?_
      refine tF 74 26 ?_
      refine tF 75 27 ?_
      refine tF 76 28 ?_
      refine tF 77 29 ?_
      refine tF 78 30 ?_
      refine tF 79 31 ?_
      refine tF 80 32 ?_
      refine tF 81 33 ?_
      refine tT 82 34 ?_
      refine wpAnyH_done (by kernel_rfl) ?_ _
      refine hN.out _ _ ?_
      go_wp2_with fail
      go_ret
      exact ⟨by rw [rightB_span hj1 HSB.out];first|done|rfl,hHeld.2.2.2⟩
     by_cases hlt:qOf u < qOf v
     rotate_left
     ·as_aux_lemma =>
      have hge:=Lib.hid (ordQ_ge hlt)
      rw [HO.out] at hge
      have HSB:=Lib.hid (show spanB S j=false by rw [HSB0.out,show decide (qOf u < qOf v)=false by simpa using hlt];simp)
      clear HSB0 hlt
      refine region_held_abs (S:=(fun w'=>w'.cell? ⟨wr.heap.size,0,none⟩=some (.string u)∧w'.cell? ⟨wr.heap.size,1,none⟩=some (.string v)∧w'.cell? ⟨wo.heap.size,2,none⟩=some (.slice (some ⟨b,off,none⟩) S.length cap)∧Below w.heap.size w w')) 35 #[false,false,false,false,false,false,false,false,false,false,false,false,false,false,false,false,false,false,false,false,false,false,false,false,false,false,false,false,false,false,false,false,false,false,false] (by kernel_rfl) (by kernel_rfl) (by kernel_rfl) (fun _ _ _ _ _ h=>h) hS (fun Q' hQ' hN hHeld=>?_)
      refine tT 48 0 ?_
      refine tT 49 1 ?_
      refine wpAnyH_ready (rs:=[2]) (by kernel_rfl) (by simp) ?_
      refine consW (i:=2) rfl (by kernel_rfl) (fun K hK=>?_)
      go_simp
      refine (short_is u _ (glo3 HG.out hHeld) hus HU.out).mono ?_
      rintro e w' ⟨rfl,hBx⟩
      go_simp
      refine hK.out _ _ ?_ (fun hHeld=>?_)
      ·exact keep3 hHeld hBx
      clear hK K
      (try simp only [Act.put,bw7,bw8,bw9])
      refine tT 51 3 ?_
      refine tT 52 4 ?_
      refine tT 53 5 ?_
      refine tT 54 6 ?_
      refine wpAnyH_ready (rs:=[7]) (by kernel_rfl) (by simp) ?_
      refine consW (i:=7) rfl (by kernel_rfl) (fun K hK=>?_)
      go_simp
      refine (short_is v _ (glo3 HG.out hHeld) hvs HV.out).mono ?_
      rintro e w' ⟨rfl,hBx⟩
      go_simp
      refine hK.out _ _ ?_ (fun hHeld=>?_)
      ·exact keep3 hHeld hBx
      clear hK K
      (try simp only [Act.put,bw7,bw8,bw9])
      refine tT 56 8 ?_
      refine tT 57 9 ?_
      refine tT 58 10 ?_
      refine tT 59 11 ?_
      refine tT 60 12 ?_
      refine tT 61 13 ?_
      refine tT 62 14 ?_
      refine wpAnyH_ready (rs:=[15]) (by kernel_rfl) (by simp) ?_
      refine consW (i:=15) rfl (by kernel_rfl) (fun K hK=>?_)
      go_simp
      refine (order_ge u v _ (glo3 HG.out hHeld) (isShort_spec HU.out).1 (isShort_spec HU.out).2 (isShort_spec HV.out).1 (isShort_spec HV.out).2 (by decide) _ HO.out).mono ?_
      rintro e w' ⟨rfl,hBx⟩
      go_simp
      refine hK.out _ _ ?_ (fun hHeld=>?_)
      ·exact keep3 hHeld hBx
      clear hK K
      (try simp only [Act.put,bw7,bw8,bw9])
      refine tT 64 16 (v:=.bool true) (hy:=(by intro w hSw;(try dsimp only at hSw);go_simp;have hx:=hge.out;simp at hx;first|exact hx|omega)) ?_
      refine tT 65 17 ?_
      refine tT 66 18 ?_
      refine tF 67 19 ?_
      refine tF 68 20 ?_
      refine tF 69 21 ?_
      refine tF 70 22 ?_
      refine tF 71 23 ?_
      refine tF 72 24 ?_
      refine tF 73 25 ?_
      refine tF 74 26 ?_
      refine tF 75 27 ?_
      refine tF 76 28 ?_
      refine tF 77 29 ?_
      refine tF 78 30 ?_
      refine tF 79 31 ?_
      refine tF 80 32 ?_
      refine tF 81 33 ?_
      refine tT 82 34 ?_
      refine wpAnyH_done (by kernel_rfl) ?_ _
      refine hN.out _ _ ?_
      go_wp2_with fail
      go_ret
      exact ⟨by rw [rightB_span hj1 HSB.out];first|done|rfl,hHeld.2.2.2⟩
     have hm1:o=-1:=by rw [← HO.out,ordQ_lt hlt]
     subst hm1
     by_cases hj0:j=0
     ·as_aux_lemma =>
      subst hj0
      have HSB:=Lib.hid (show spanB S 0=true by rw [HSB0.out,HU.out,HV.out,show decide (qOf u < qOf v)=true by simpa using hlt];rfl)
      clear HSB0 hlt
      refine region_held_abs (S:=(fun w'=>w'.cell? ⟨wr.heap.size,0,none⟩=some (.string u)∧w'.cell? ⟨wr.heap.size,1,none⟩=some (.string v)∧w'.cell? ⟨wo.heap.size,2,none⟩=some (.slice (some ⟨b,off,none⟩) S.length cap)∧Below w.heap.size w w')) 35 #[false,false,false,false,false,false,false,false,false,false,false,false,false,false,false,false,false,false,false,false,false,false,false,false,false,false,false,false,false,false,false,false,false,false,false] (by kernel_rfl) (by kernel_rfl) (by kernel_rfl) (fun _ _ _ _ _ h=>h) hS (fun Q' hQ' hN hHeld=>?_)
      refine tT 48 0 ?_
      refine tT 49 1 ?_
      refine wpAnyH_ready (rs:=[2]) (by kernel_rfl) (by simp) ?_
      refine consW (i:=2) rfl (by kernel_rfl) (fun K hK=>?_)
      go_simp
      refine (short_is u _ (glo3 HG.out hHeld) hus HU.out).mono ?_
      rintro e w' ⟨rfl,hBx⟩
      go_simp
      refine hK.out _ _ ?_ (fun hHeld=>?_)
      ·exact keep3 hHeld hBx
      clear hK K
      (try simp only [Act.put,bw7,bw8,bw9])
      refine tT 51 3 ?_
      refine tT 52 4 ?_
      refine tT 53 5 ?_
      refine tT 54 6 ?_
      refine wpAnyH_ready (rs:=[7]) (by kernel_rfl) (by simp) ?_
      refine consW (i:=7) rfl (by kernel_rfl) (fun K hK=>?_)
      go_simp
      refine (short_is v _ (glo3 HG.out hHeld) hvs HV.out).mono ?_
      rintro e w' ⟨rfl,hBx⟩
      go_simp
      refine hK.out _ _ ?_ (fun hHeld=>?_)
      ·exact keep3 hHeld hBx
      clear hK K
      (try simp only [Act.put,bw7,bw8,bw9])
      refine tT 56 8 ?_
      refine tT 57 9 ?_
      refine tT 58 10 ?_
      refine tT 59 11 ?_
      refine tT 60 12 ?_
      refine tT 61 13 ?_
      refine tT 62 14 ?_
      refine wpAnyH_ready (rs:=[15]) (by kernel_rfl) (by simp) ?_
      refine consW (i:=15) rfl (by kernel_rfl) (fun K hK=>?_)
      go_simp
      refine (order_ge u v _ (glo3 HG.out hHeld) (isShort_spec HU.out).1 (isShort_spec HU.out).2 (isShort_spec HV.out).1 (isShort_spec HV.out).2 (by decide) _ HO.out).mono ?_
      rintro e w' ⟨rfl,hBx⟩
      go_simp
      refine hK.out _ _ ?_ (fun hHeld=>?_)
      ·exact keep3 hHeld hBx
      clear hK K
      (try simp only [Act.put,bw7,bw8,bw9])
      refine tT 64 16 ?_
      refine tT 65 17 ?_
      refine tT 66 18 ?_
      refine tT 67 19 ?_
      refine tT 68 20 ?_
      refine tT 69 21 ?_
      refine tF 70 22 ?_
      refine tF 71 23 ?_
      refine tF 72 24 ?_
      refine tF 73 25 ?_
      refine tF 74 26 ?_
      refine tF 75 27 ?_
      refine tF 76 28 ?_
      refine tF 77 29 ?_
      refine tF 78 30 ?_
      refine tF 79 31 ?_
      refine tF 80 32 ?_
      refine tT 81 33 ?_
      refine tT 82 34 ?_
      refine wpAnyH_done (by kernel_rfl) ?_ _
      refine hN.out _ _ ?_
      go_wp2_with fail
      go_roundw
      case rel=>exact ⟨1,by omega,by go_num,Lib.hid (fun k hk=>by
       rcases Nat.lt_or_eq_of_le (Nat.le_of_lt_succ hk) with h|h
       ·exact absurd h (by omega)
       ·rw [h];exact HSB.out),hHeld.2.2.2,hHeld.2.2.1⟩
      case measure=>simp [intOf];omega
     have hi1:j - 1 < S.length:=by omega
     obtain ⟨_,ez⟩:=HCC.out (j - 1) hi1
     have q2:=keep hBw (keep hBj ez)
     have HZS:=HSP.out (j - 1) (by omega)
     unfold spanB at HZS
     obtain ⟨z,hz⟩:∃ z,(tx S (j - 1)).2=z:=⟨_,rfl⟩
     rw [hz] at q2 HSB0
     have hzs:isShort z=true:=by
      rw [hz] at HZS
      simp only [Bool.and_eq_true] at HZS
      exact HZS.1.1.2
     have HZ:=Lib.hid hzs
     obtain ⟨o2,hoo2⟩:∃ o,ordQ (qOf z) (qOf u)=o:=⟨_,rfl⟩
     have HO2:=Lib.hid hoo2
     have hjz:(0:Int) < (j:Int):=by omega
     have hjN:0 < j:=by omega
     have hii:(j:Int) - 1 < (S.length:Int):=by omega
     have hii0:(0:Int)≤(j:Int) - 1:=by omega
     have hii1:(1:Int)≤(j:Int):=by omega
     have hii2:(j:Int) < (S.length:Int)+1:=by omega
     have hii3:(j:Int)≤(S.length:Int):=by omega
     have hwj:IntKind.i64.wrap ((j:Int) - 1)=(j:Int) - 1:=IntWalk.i64_in _ (by omega)
     have hcap':(S.length:Int)≤64:=by omega
     have hS2:W.drew.cell? ⟨wr.heap.size,0,none⟩=some (.string u)∧W.drew.cell? ⟨wr.heap.size,1,none⟩=some (.string v)∧W.drew.cell? ⟨wo.heap.size,2,none⟩=some (.slice (some ⟨b,off,none⟩) S.length cap)∧W.drew.cell? ⟨b,off+(j - 1) * 2+1,none⟩=some (.string z)∧Below w.heap.size w W.drew:=⟨hS.1,hS.2.1,hS.2.2.1,by simpa using q2,hS.2.2.2⟩
     clear hS q2 ez HZS hzs hoo2 hz
     have hS:=hS2
     clear hS2
     by_cases hlt2:qOf z < qOf u
     ·as_aux_lemma =>
      have hm2:o2=-1:=by rw [← HO2.out,ordQ_lt hlt2]
      subst hm2
      have HSB:=Lib.hid (show spanB S j=true by rw [HSB0.out,HU.out,HV.out,show decide (qOf u < qOf v)=true by simpa using hlt,show decide (qOf z < qOf u)=true by simpa using hlt2];simp)
      clear HSB0 hlt hlt2 hj0 HCC
      refine region_held_abs (S:=(fun w'=>w'.cell? ⟨wr.heap.size,0,none⟩=some (.string u)∧w'.cell? ⟨wr.heap.size,1,none⟩=some (.string v)∧w'.cell? ⟨wo.heap.size,2,none⟩=some (.slice (some ⟨b,off,none⟩) S.length cap)∧w'.cell? ⟨b,off+(j - 1) * 2+1,none⟩=some (.string z)∧Below w.heap.size w w')) 35 #[false,false,false,false,false,false,false,false,false,false,false,false,false,false,false,false,false,false,false,false,false,false,false,false,false,false,false,false,false,false,false,false,false,false,false] (by kernel_rfl) (by kernel_rfl) (by kernel_rfl) (fun _ _ _ _ _ h=>h) hS (fun Q' hQ' hN hHeld=>?_)
      refine tT 48 0 ?_
      refine tT 49 1 ?_
      refine wpAnyH_ready (rs:=[2]) (by kernel_rfl) (by simp) ?_
      refine consW (i:=2) rfl (by kernel_rfl) (fun K hK=>?_)
      go_simp
      refine (short_is u _ (glo4 HG.out hHeld) hus HU.out).mono ?_
      rintro e w' ⟨rfl,hBx⟩
      go_simp
      refine hK.out _ _ ?_ (fun hHeld=>?_)
      ·exact keep4 hHeld hBx
      clear hK K
      (try simp only [Act.put,bw7,bw8,bw9])
      refine tT 51 3 ?_
      refine tT 52 4 ?_
      refine tT 53 5 ?_
      refine tT 54 6 ?_
      refine wpAnyH_ready (rs:=[7]) (by kernel_rfl) (by simp) ?_
      refine consW (i:=7) rfl (by kernel_rfl) (fun K hK=>?_)
      go_simp
      refine (short_is v _ (glo4 HG.out hHeld) hvs HV.out).mono ?_
      rintro e w' ⟨rfl,hBx⟩
      go_simp
      refine hK.out _ _ ?_ (fun hHeld=>?_)
      ·exact keep4 hHeld hBx
      clear hK K
      (try simp only [Act.put,bw7,bw8,bw9])
      refine tT 56 8 ?_
      refine tT 57 9 ?_
      refine tT 58 10 ?_
      refine tT 59 11 ?_
      refine tT 60 12 ?_
      refine tT 61 13 ?_
      refine tT 62 14 ?_
      refine wpAnyH_ready (rs:=[15]) (by kernel_rfl) (by simp) ?_
      refine consW (i:=15) rfl (by kernel_rfl) (fun K hK=>?_)
      go_simp
      refine (order_ge u v _ (glo4 HG.out hHeld) (isShort_spec HU.out).1 (isShort_spec HU.out).2 (isShort_spec HV.out).1 (isShort_spec HV.out).2 (by decide) _ HO.out).mono ?_
      rintro e w' ⟨rfl,hBx⟩
      go_simp
      refine hK.out _ _ ?_ (fun hHeld=>?_)
      ·exact keep4 hHeld hBx
      clear hK K
      (try simp only [Act.put,bw7,bw8,bw9])
      refine tT 64 16 ?_
      refine tT 65 17 ?_
      refine tT 66 18 ?_
      refine tT 67 19 ?_
      refine tT 68 20 ?_
      refine tT 69 21 ?_
      refine tT 70 22 ?_
      refine tT 71 23 ?_
      refine tT 72 24 ?_
      refine tT 73 25 ?_
      refine tT 74 26 ?_
      refine tT 75 27 ?_
      refine tT 76 28 ?_
      refine tT 77 29 ?_
      refine tT 78 30 ?_
      refine wpAnyH_ready (rs:=[31]) (by kernel_rfl) (by simp) ?_
      refine consW (i:=31) rfl (by kernel_rfl) (fun K hK=>?_)
      go_simp
      refine (order_ge z u _ (glo4 HG.out hHeld) (isShort_spec HZ.out).1 (isShort_spec HZ.out).2 (isShort_spec HU.out).1 (isShort_spec HU.out).2 (by decide) _ HO2.out).mono ?_
      rintro e w' ⟨rfl,hBx⟩
      go_simp
      refine hK.out _ _ ?_ (fun hHeld=>?_)
      ·exact keep4 hHeld hBx
      clear hK K
      (try simp only [Act.put,bw7,bw8,bw9])
      refine tT 80 32 ?_
      refine tT 81 33 ?_
      refine tT 82 34 ?_
      refine wpAnyH_done (by kernel_rfl) ?_ _
      refine hN.out _ _ ?_
      go_wp2_with fail
      go_roundw
      case rel=>exact ⟨j+1,by omega,by go_num,Lib.hid (fun k hk=>by
       rcases Nat.lt_or_eq_of_le (Nat.le_of_lt_succ hk) with h|h
       ·exact HSP.out k h
       ·rw [h];exact HSB.out),hHeld.2.2.2.2,hHeld.2.2.1⟩
      case measure=>simp [intOf];omega
     ·as_aux_lemma =>
      have hge:=Lib.hid (ordQ_ge hlt2)
      rw [HO2.out] at hge
      have HSB:=Lib.hid (show spanB S j=false by rw [HSB0.out,show decide (qOf z < qOf u)=false by simpa using hlt2,show decide (j=0)=false by simpa using hj0];simp)
      clear HSB0 hlt hlt2 hj0 HCC
      refine region_held_abs (S:=(fun w'=>w'.cell? ⟨wr.heap.size,0,none⟩=some (.string u)∧w'.cell? ⟨wr.heap.size,1,none⟩=some (.string v)∧w'.cell? ⟨wo.heap.size,2,none⟩=some (.slice (some ⟨b,off,none⟩) S.length cap)∧w'.cell? ⟨b,off+(j - 1) * 2+1,none⟩=some (.string z)∧Below w.heap.size w w')) 35 #[false,false,false,false,false,false,false,false,false,false,false,false,false,false,false,false,false,false,false,false,false,false,false,false,false,false,false,false,false,false,false,false,false,false,false] (by kernel_rfl) (by kernel_rfl) (by kernel_rfl) (fun _ _ _ _ _ h=>h) hS (fun Q' hQ' hN hHeld=>?_)
      refine tT 48 0 ?_
      refine tT 49 1 ?_
      refine wpAnyH_ready (rs:=[2]) (by kernel_rfl) (by simp) ?_
      refine consW (i:=2) rfl (by kernel_rfl) (fun K hK=>?_)
      go_simp
      refine (short_is u _ (glo4 HG.out hHeld) hus HU.out).mono ?_
      rintro e w' ⟨rfl,hBx⟩
      go_simp
      refine hK.out _ _ ?_ (fun hHeld=>?_)
      ·exact keep4 hHeld hBx
      clear hK K
      (try simp only [Act.put,bw7,bw8,bw9])
      refine tT 51 3 ?_
      refine tT 52 4 ?_
      refine tT 53 5 ?_
      refine tT 54 6 ?_
      refine wpAnyH_ready (rs:=[7]) (by kernel_rfl) (by simp) ?_
      refine consW (i:=7) rfl (by kernel_rfl) (fun K hK=>?_)
      go_simp
      refine (short_is v _ (glo4 HG.out hHeld) hvs HV.out).mono ?_
      rintro e w' ⟨rfl,hBx⟩
      go_simp
      refine hK.out _ _ ?_ (fun hHeld=>?_)
      ·exact keep4 hHeld hBx
      clear hK K
      (try simp only [Act.put,bw7,bw8,bw9])
      refine tT 56 8 ?_
      refine tT 57 9 ?_
      refine tT 58 10 ?_
      refine tT 59 11 ?_
      refine tT 60 12 ?_
      refine tT 61 13 ?_
      refine tT 62 14 ?_
      refine wpAnyH_ready (rs:=[15]) (by kernel_rfl) (by simp) ?_
      refine consW (i:=15) rfl (by kernel_rfl) (fun K hK=>?_)
      go_simp
      refine (order_ge u v _ (glo4 HG.out hHeld) (isShort_spec HU.out).1 (isShort_spec HU.out).2 (isShort_spec HV.out).1 (isShort_spec HV.out).2 (by decide) _ HO.out).mono ?_
      rintro e w' ⟨rfl,hBx⟩
      go_simp
      refine hK.out _ _ ?_ (fun hHeld=>?_)
      ·exact keep4 hHeld hBx
      clear hK K
      (try simp only [Act.put,bw7,bw8,bw9])
      refine tT 64 16 ?_
      refine tT 65 17 ?_
      refine tT 66 18 ?_
      refine tT 67 19 ?_
      refine tT 68 20 ?_
      refine tT 69 21 ?_
      refine tT 70 22 ?_
      refine tT 71 23 ?_
      refine tT 72 24 ?_
      refine tT 73 25 ?_
      refine tT 74 26 ?_
      refine tT 75 27 ?_
      refine tT 76 28 ?_
      refine tT 77 29 ?_
      refine tT 78 30 ?_
      refine wpAnyH_ready (rs:=[31]) (by kernel_rfl) (by simp) ?_
      refine consW (i:=31) rfl (by kernel_rfl) (fun K hK=>?_)
      go_simp
      refine (order_ge z u _ (glo4 HG.out hHeld) (isShort_spec HZ.out).1 (isShort_spec HZ.out).2 (isShort_spec HU.out).1 (isShort_spec HU.out).2 (by decide) _ HO2.out).mono ?_
      rintro e w' ⟨rfl,hBx⟩
      go_simp
      refine hK.out _ _ ?_ (fun hHeld=>?_)
      ·exact keep4 hHeld hBx
      clear hK K
      (try simp only [Act.put,bw7,bw8,bw9])
      refine tT 80 32 (v:=.bool true) (hy:=(by intro w hSw;(try dsimp only at hSw);go_simp;have hx:=hge.out;simp at hx;first|exact hx|omega)) ?_
      refine tT 81 33 ?_
      refine tT 82 34 ?_
      refine wpAnyH_done (by kernel_rfl) ?_ _
      refine hN.out _ _ ?_
      go_wp2_with fail
      go_ret
      exact ⟨by rw [rightB_span hj1 HSB.out];first|done|rfl,hHeld.2.2.2.2⟩
end Go.Proofs.YteepphiomcedfaaGreatDoor
namespace Go.Proofs.YteepphiomcedfaaGreatDoor
open Go.RowKit
def SomeN (v:ByteArray) (c:Int):Prop:=(c=0∧∃ q:Rat,v.data.toList=ratText q∧Sz 300 q)∨(v=⟨#[]⟩∧c=4)
theorem NumL.some {q:Rat} {v:ByteArray} {c:Int} (h:NumL q v c):SomeN v c:=by
 rcases h with ⟨h1,h2,h3⟩|h
 ·exact .inl ⟨h1,q,h2,h3⟩
 ·exact .inr h
theorem rightB_short {lo hi:ByteArray} {S:Texts} (h:rightB lo hi S=true):isShort lo=true∧isShort hi=true∧S.length≤64∧∀ k,k < S.length→isShort (tx S k).1=true∧isShort (tx S k).2=true:=by
 unfold rightB at h
 rw [Bool.and_eq_true,List.all_eq_true] at h
 obtain ⟨hH,hS⟩:=h
 unfold headB at hH
 simp only [Bool.and_eq_true,decide_eq_true_eq] at hH
 refine ⟨hH.1.1.2,hH.1.2,hH.1.1.1,fun k hk=>?_⟩
 have:=hS k (List.mem_range.2 hk)
 unfold spanB at this
 simp only [Bool.and_eq_true] at this
 exact ⟨this.1.1.1,this.1.1.2⟩
theorem sz_zero {k:Nat} (hk:1≤k):Sz k 0:=⟨by show 0 < _;exact Nat.pow_pos (by decide),by show 1 < _;exact Nat.one_lt_pow (by omega) (by decide)⟩
theorem sz300_zero:Sz 300 0:=sz_zero (by decide)
theorem area1_any (s t r:ByteArray) (v:Value) (l:Rat) (w:World) (hG:Glo w) (hs:isShort s=true) (ht:isShort t=true) (hr:r.data.toList=ratText l) (hl:Sz 300 l) (hone:v.oneCell'=true) :
  Calls Tryz.prog 165 #[.agg #[.string s,.string t,v],.string r] w (RetT SomeN w):=by
 have HS:=Lib.hid (isShort_spec hs)
 have HT:=Lib.hid (isShort_spec ht)
 have HR:=Lib.hid hr
 have HG:=Lib.hid hG
 clear hs ht hr hG
 go_enter Tryz.func165,Tryz.ntmps165
 go_wp2_with fail
 refine (RSubW_ok t s _ (HG.out.below qbl) HT.out.1 (sz36 HT.out.2) HS.out.1 (sz36 HS.out.2)).mono ?_
 rintro e w1 ⟨m,c,rfl,hm,hB1⟩
 have hb1:Below w.heap.size w w1:=qbl
 clear hB1
 rcases hm.out with ⟨rfl,hm1,hm2⟩|⟨rfl,rfl⟩
 ·have HM:=Lib.hid hm1
  clear hm hm1
  go_wp2_with fail
  refine (RMulW_ok m r _ (HG.out.below qbl) HM.out hm2 HR.out hl).mono ?_
  rintro e w2 ⟨m',c',rfl,hm',hB2⟩
  have hb2:Below w.heap.size w w2:=qbl
  have HM':=Lib.hid hm'.out.some
  clear hB2 hm'
  go_wp2_with fail
  go_ret2
  exact ⟨m',c',rfl,HM',hb2⟩
 ·go_wp2_with fail
  go_ret2
  exact ⟨_,4,rfl,Lib.hid (.inr ⟨rfl,rfl⟩),hb1⟩
def RetAr (b:Bool) (w:World) (e:Ending) (w':World):Prop:=∃ (v:ByteArray) (c:Int),e=.returned (.tuple #[.string v,.int .i64 c])∧(c=0∨c=1∨c=4)∧Hid (c=1↔b=false)∧Below w.heap.size w w'
theorem sum_area_any (b0 o0 cap0:Nat) (lo hi:ByteArray) (S:Texts) (v0:Value) (w:World) (hG:Glo w)
  (c0:w.cell? ⟨b0,o0,none⟩=some (.string lo)) (c1:w.cell? ⟨b0,o0+1,none⟩=some (.string hi)) (c2:w.cell? ⟨b0,o0+2,none⟩=some v0)
  (hv:SpansAt w v0 S) (hlo:lo.size≤1000) (hhi:hi.size≤1000) (hbr:Brief S) :
  Calls Tryz.prog 164 #[.slice (some ⟨b0,o0,none⟩) 1 cap0,.func (.func 165) #[] #[]] w (RetAr (rightB lo hi S) w):=by
 have hright:=right_any b0 o0 cap0 lo hi S v0 w hG c0 c1 c2 hv hlo hhi hbr
 obtain ⟨B,hB⟩:∃ B,rightB lo hi S=B:=⟨_,rfl⟩
 rw [hB] at hright ⊢
 have HRI:=Lib.hid hright
 obtain ⟨a,cap,rfl,hmx,hcells⟩:=hv
 have HG:=Lib.hid hG
 have HC:=Lib.hid hcells
 cases B
 ·clear hG hcells hright hB hbr
  go_enter Tryz.func164,Tryz.ntmps164
  go_wp2_with fail
  refine (HRI.out).mono ?_
  rintro e w1 ⟨rfl,hB1⟩
  go_wp2_with fail
  go_ret2
  exact ⟨_,1,rfl,.inr (.inl rfl),Lib.hid ⟨fun _=>rfl,fun _=>rfl⟩,hB1⟩
 ·obtain ⟨hl1,hl2,hn,hss⟩:=rightB_short hB
  have HLO:=Lib.hid hl1
  have HHI:=Lib.hid hl2
  have HSS:=Lib.hid hss
  clear hG hcells hright hB hbr hl1 hl2 hss
  go_enter Tryz.func164,Tryz.ntmps164
  go_wp2_with fail
  refine (HRI.out).mono ?_
  rintro e w1 ⟨rfl,hB1⟩
  go_wp2_with fail
  go_loopw [6,21] (fun tot i wr=>∃ k:Nat,(k=0∧i=.int .i64 0∨k=1∧i=.int .i64 1)∧Below w.heap.size w wr∧∃ r:ByteArray,tot=.string r∧Hid (∃ q:Rat,r.data.toList=ratText q∧Sz 300 q)) (fun _ i _=>1 - (intOf i).toNat)
  case atStart=>exact ⟨0,Or.inl ⟨rfl,rfl⟩,hB1,_,rfl,Lib.hid ⟨0,by rw [zero_text],sz300_zero⟩⟩
  case round =>
   obtain ⟨k,hk,hB0,r,rfl,hrt⟩:=hrel
   rcases hk.symm with ⟨rfl,rfl⟩|⟨rfl,rfl⟩
   ·clear hk
    go_wp2_with fail
    go_ret2
    exact ⟨r,0,rfl,.inl rfl,Lib.hid (by simp),hB0⟩
   ·clear hk
    have d0:=keep hB0 c0
    have d1:=keep hB0 c1
    have d2:=keep hB0 c2
    clear c0 c1 c2
    go_wp2_with fail
    obtain ⟨wo,rfl⟩:∃ wo:World,wo=wr:=⟨_,rfl⟩
    have k0:(wo.alloc (.cells #[.string lo,.string hi,.slice a S.length cap] 25)).cell? ⟨wo.heap.size,0,none⟩=some (.string lo):=by simp [go_sem]
    have k1:(wo.alloc (.cells #[.string lo,.string hi,.slice a S.length cap] 25)).cell? ⟨wo.heap.size,1,none⟩=some (.string hi):=by simp [go_sem]
    have k2:(wo.alloc (.cells #[.string lo,.string hi,.slice a S.length cap] 25)).cell? ⟨wo.heap.size,2,none⟩=some (.slice a S.length cap):=by simp [go_sem]
    have hBk:Below w.heap.size w (wo.alloc (.cells #[.string lo,.string hi,.slice a S.length cap] 25)):=bw4 hB0 _
    go_loopw [9,28] (fun len i wq=>∃ j:Nat,j≤S.length∧i=.int .i64 j∧(∃ q:ByteArray,len=.string q∧Hid (∃ x:Rat,q.data.toList=ratText x∧Sz 300 x))∧wq.cell? ⟨wo.heap.size,0,none⟩=some (.string lo)∧wq.cell? ⟨wo.heap.size,1,none⟩=some (.string hi)∧wq.cell? ⟨wo.heap.size,2,none⟩=some (.slice a S.length cap)∧Below w.heap.size w wq) (fun _ i _=>S.length - (intOf i).toNat)
    case atStart=>exact ⟨0,by omega,rfl,⟨_,rfl,Lib.hid ⟨0,by rw [zero_text],sz300_zero⟩⟩,k0,k1,k2,hBk⟩
    case round =>
     obtain ⟨j,hj,rfl,⟨q,rfl,hq⟩,e0,e1,e2,hBj⟩:=hrel
     obtain ⟨x,hx1,hx2⟩:=hq.out
     have HX:=Lib.hid hx1
     clear k0 k1 k2 hBk hB0 d0 d1 d2 hq hx1
     by_cases hjn:j=S.length
     ·subst hjn
      go_wp2_with fail
      refine (area1_any lo hi q (.slice a S.length cap) x _ (HG.out.below hBj) HLO.out HHI.out HX.out hx2 rfl).mono ?_
      rintro e w2 ⟨m,c,rfl,hm,hB2⟩
      have hB2':=below_trans' hBj hB2
      clear hB2
      rcases hm.out with ⟨rfl,y,hy1,hy2⟩|⟨rfl,rfl⟩
      rotate_left
      ·go_wp2_with fail
       go_ret2
       exact ⟨_,4,rfl,.inr (.inr rfl),Lib.hid (by simp),hB2'⟩
      have HY:=Lib.hid hy1
      obtain ⟨z,hz1,hz2⟩:=hrt.out
      have HZ:=Lib.hid hz1
      clear hm hy1 hz1 hrt
      go_wp2_with fail
      refine (RAddW_ok r m _ (HG.out.below hB2') HZ.out hz2 HY.out hy2).mono ?_
      rintro e w3 ⟨m',c',rfl,hm',hB3⟩
      have hB3':=below_trans' hB2' hB3
      have HM':=Lib.hid hm'.out.some
      clear hB3 hm'
      rcases HM'.out with ⟨rfl,y',hy1',hy2'⟩|⟨rfl,rfl⟩
      rotate_left
      ·clear HM'
       go_wp2_with fail
       go_ret2
       exact ⟨_,4,rfl,.inr (.inr rfl),Lib.hid (by simp),hB3'⟩
      have HY':=Lib.hid hy1'
      clear hy1' HM'
      go_wp2_with fail
      go_roundw
      case rel=>exact ⟨1,Or.inr ⟨rfl,rfl⟩,hB3',m',rfl,Lib.hid ⟨y',HY'.out,hy2'⟩⟩
      case measure=>simp [intOf]
     ·have hj1:j < S.length:=by omega
      obtain ⟨b,off,rfl,hbb,hcc⟩:=HC.out (fun h=>by rw [h] at hj1;simp at hj1)
      obtain ⟨f0,f1⟩:=hcc j hj1
      have q0:=keep hBj f0
      have q1:=keep hBj f1
      obtain ⟨hus,hvs⟩:=HSS.out j hj1
      obtain ⟨u,hu⟩:∃ u,(tx S j).1=u:=⟨_,rfl⟩
      obtain ⟨v,hv⟩:∃ v,(tx S j).2=v:=⟨_,rfl⟩
      rw [hu] at q0 hus
      rw [hv] at q1 hvs
      have HU:=Lib.hid (isShort_spec hus)
      have HV:=Lib.hid (isShort_spec hvs)
      have hji:(j:Int) < (S.length:Int):=by omega
      clear hu hv f0 f1 hjn hcc hus hvs
      go_wp2_with fail
      refine (RSubW_ok v u _ (HG.out.below qbl) HV.out.1 (sz36 HV.out.2) HU.out.1 (sz36 HU.out.2)).mono ?_
      rintro e w2 ⟨m,c,rfl,hm,hB2⟩
      have hB2':Below w.heap.size w w2:=qbl
      have e0':=keep hB2 (keep (bw4 (bw0 _ _) _) e0)
      have e1':=keep hB2 (keep (bw4 (bw0 _ _) _) e1)
      have e2':=keep hB2 (keep (bw4 (bw0 _ _) _) e2)
      clear e0 e1 e2 hB2 q0 q1
      rcases hm.out with ⟨rfl,hm1,hm2⟩|⟨rfl,rfl⟩
      rotate_left
      ·clear hm
       go_wp2_with fail
       go_ret2
       exact ⟨_,4,rfl,.inr (.inr rfl),Lib.hid (by simp),hB2'⟩
      have HM:=Lib.hid hm1
      clear hm hm1
      go_wp2_with fail
      refine (RAddW_ok q m _ (HG.out.below hB2') HX.out hx2 HM.out hm2).mono ?_
      rintro e w3 ⟨m',c',rfl,hm',hB3⟩
      have hB3':=below_trans' hB2' hB3
      have e0:=keep hB3 e0'
      have e1:=keep hB3 e1'
      have e2:=keep hB3 e2'
      have HM':=Lib.hid hm'.out.some
      clear hm' e0' e1' e2' hB3
      rcases HM'.out with ⟨rfl,y',hy1',hy2'⟩|⟨rfl,rfl⟩
      rotate_left
      ·clear HM'
       go_wp2_with fail
       go_ret2
       exact ⟨_,4,rfl,.inr (.inr rfl),Lib.hid (by simp),hB3'⟩
      have HY':=Lib.hid hy1'
      clear hy1' HM'
      go_wp2_with fail
      go_roundw
      case rel=>exact ⟨j+1,by omega,by go_num,⟨m',rfl,Lib.hid ⟨y',HY'.out,hy2'⟩⟩,e0,e1,e2,hB3'⟩
      case measure=>simp [intOf];omega
theorem area_any1 (b0 o0 cap0:Nat) (lo hi:ByteArray) (S:Texts) (v0:Value) (w:World) (hG:Glo w)
  (c0:w.cell? ⟨b0,o0,none⟩=some (.string lo)) (c1:w.cell? ⟨b0,o0+1,none⟩=some (.string hi)) (c2:w.cell? ⟨b0,o0+2,none⟩=some v0)
  (hv:SpansAt w v0 S) (hlo:lo.size≤1000) (hhi:hi.size≤1000) (hbr:Brief S) :
  Calls Tryz.prog 98 #[.slice (some ⟨b0,o0,none⟩) 1 cap0] w (RetAr (rightB lo hi S) w):=by
 have H:=Lib.hid (sum_area_any b0 o0 cap0 lo hi S v0 w hG c0 c1 c2 hv hlo hhi hbr)
 clear hG c0 c1 c2 hv hbr
 go_enter Tryz.func98,Tryz.ntmps98
 go_wp2_with fail
 refine H.out.mono ?_
 rintro e w1 ⟨r,c,rfl,hc,hr,hB⟩
 go_wp2_with fail
 go_ret2
 exact ⟨r,c,rfl,hc,hr,hB⟩
def CourseAt (w:World) (c:Value) (lo hi:ByteArray) (S:Texts):Prop:=∃ v,c=.agg #[.string lo,.string hi,v]∧SpansAt w v S∧lo.size≤1000∧hi.size≤1000∧Brief S
theorem CourseAt.below {w w':World} {c:Value} {lo hi:ByteArray} {S:Texts} (h:CourseAt w c lo hi S) (hB:Below w.heap.size w w'):CourseAt w' c lo hi S:=by
 obtain ⟨v,h1,h2,h3⟩:=h
 exact ⟨v,h1,h2.below hB,h3⟩
noncomputable def codeC (lo hi:ByteArray) (S:Texts) (wd:Int):Int:=if rightB lo hi S=true then (if 1≤wd∧wd≤2000 then 0 else 2) else 1
theorem tright_any (lo hi:ByteArray) (S:Texts) (c:Value) (wd:Int) (w:World) (hG:Glo w) (hc:CourseAt w c lo hi S) :
  Calls Tryz.prog 41 #[c,.int .i64 wd] w (RetB (.int .i64 (codeC lo hi S wd)) w):=by
 obtain ⟨v,rfl,hv,hlo,hhi,hbr⟩:=hc
 obtain ⟨a,cap,rfl,hv'⟩:=id hv
 have HV:=Lib.hid hv
 have HG:=Lib.hid hG
 have HBR:=Lib.hid hbr
 obtain ⟨B,hB⟩:∃ B,rightB lo hi S=B:=⟨_,rfl⟩
 have HA:=Lib.hid (fun b0 o0 cap0 W hG c0 c1 c2 hv=>area_any1 b0 o0 cap0 lo hi S (.slice a S.length cap) W hG c0 c1 c2 hv hlo hhi hbr)
 obtain ⟨K,hK⟩:∃ K,codeC lo hi S wd=K:=⟨_,rfl⟩
 rw [hK]
 rw [hB] at HA
 have HK0:=Lib.hid (show B=false→K=1 from fun h=>by rw [← hK];unfold codeC;rw [hB,h,if_neg (by simp)])
 have HK1:=Lib.hid (show B=true→1≤wd∧wd≤2000→K=0 from fun h h'=>by rw [← hK];unfold codeC;rw [hB,h,if_pos rfl,if_pos h'])
 have HK2:=Lib.hid (show B=true→¬ (1≤wd∧wd≤2000)→K=2 from fun h h'=>by rw [← hK];unfold codeC;rw [hB,h,if_pos rfl,if_neg h'])
 clear hv hv' hG hbr hB hK
 go_enter Tryz.func41,Tryz.ntmps41
 go_wp2_with fail
 refine (HA.out (w.heap.size+1) 0 1 _ (HG.out.below qbl) (by simp [go_sem]) (by simp [go_sem]) (by simp [go_sem]) (HV.out.below qbl)).mono ?_
 rintro e w1 ⟨r,c,rfl,hc,hr,hB⟩
 have hB':Below w.heap.size w w1:=qbl
 clear hB HA
 cases B
 ·obtain rfl:c=1:=hr.out.2 rfl
  obtain rfl:=HK0.out rfl
  clear hr hc
  go_wp2_with fail
  go_ret
  exact ⟨rfl,hB'⟩
 ·have h1:c≠1:=fun h=>by have:=hr.out.1 h;cases this
  have h1b:(c == 1)=false:=by simpa using h1
  clear hr hc h1
  by_cases hw:1≤wd∧wd≤2000
  ·obtain rfl:=HK1.out rfl hw
   obtain ⟨w1',w2'⟩:=hw
   go_wp2_with fail
   go_ret
   exact ⟨rfl,hB'⟩
  ·obtain rfl:=HK2.out rfl hw
   rcases Int.lt_or_le wd 1 with hw1|hw1
   ·clear hw
    go_wp2_with fail
    go_ret
    exact ⟨rfl,hB'⟩
   ·have hw2:2000 < wd:=by omega
    clear hw
    go_wp2_with fail
    go_ret
    exact ⟨rfl,hB'⟩
end Go.Proofs.YteepphiomcedfaaGreatDoor
