/- The walk of kingpostlaw50.GutterSizes. -/
import Derived.Test.YteepphiomcedfaaGreatDoorWSizes50
set_option maxRecDepth 100000
set_option linter.unusedVariables false
set_option linter.unusedSimpArgs false
namespace Go.Proofs.YteepphiomcedfaaGreatDoor
open Go.RowKit
theorem widths_mono {T:List (List Int)} (h:∀ j,j < T.length→rowCode T j=0) {i:Nat}:∀ j,i≤j→j < T.length→lim (rowT T i) 0≤lim (rowT T j) 0:=by
 intro j
 induction j with
 | zero=>intro hi _;obtain rfl:i=0:=(by omega);exact Int.le_refl _
 | succ j ih =>
  intro hi hj
  by_cases e:i=j+1
  ·subst e;omega
  ·have h1:=ih (by omega) (by omega)
   have h0:=h (j+1) hj
   have h2:=rowCode_len h0
   unfold rowCode at h0
   rw [if_neg (by omega)] at h0
   by_cases hr:lim (rowT T (j+1)) 0 < 1∨1000 < lim (rowT T (j+1)) 0∨lim (rowT T (j+1)) 1 < 1∨1048576 < lim (rowT T (j+1)) 1
   ·rw [if_pos hr] at h0;exact absurd h0 (by decide)
   ·rw [if_neg hr] at h0
    by_cases ho:0 < j+1∧(lim (rowT T (j+1)) 0≤lim (rowT T (j+1 - 1)) 0∨lim (rowT T (j+1)) 1≤lim (rowT T (j+1 - 1)) 1)
    ·rw [if_pos ho] at h0;exact absurd h0 (by decide)
    ·rw [Nat.add_sub_cancel] at ho
     omega
theorem takes_mono {q p:Rat} {T:List (List Int)} {k:Nat} (hp:0≤p) (h:takesT (q+p) T k=true):takesT q T k=true:=by
 unfold takesT at h ⊢
 rw [decide_eq_true_eq] at h ⊢
 have h1:q+0≤q+p:=Rat.add_le_add_left.2 hp
 rw [Rat.add_zero] at h1
 exact Rat.le_trans h1 h
theorem first_two {q p:Rat} {T:List (List Int)} {n m:Int} (hp:0≤p) (hT:∀ j,j < T.length→rowCode T j=0) (hn:FirstAt T.length (takesT q T) n) (hm:FirstAt T.length (takesT (q+p) T) m) :
  (n < 0∧m < 0)∨(0≤n∧m < 0)∨(0≤n∧0≤m∧lim (rowT T n.toNat) 0≤lim (rowT T m.toNat) 0):=by
 rcases hn with ⟨rfl,hn⟩|⟨i,rfl,hi,hgi,hji⟩<;>rcases hm with ⟨rfl,hm⟩|⟨j,rfl,hj,hgj,hjj⟩
 ·exact .inl ⟨by omega,by omega⟩
 ·have:=takes_mono hp hgj
  rw [hn j hj] at this;cases this
 ·exact .inr (.inl ⟨by omega,by omega⟩)
 ·refine .inr (.inr ⟨by omega,by omega,?_⟩)
  rw [Int.toNat_natCast,Int.toNat_natCast]
  refine widths_mono hT j ?_ hj
  refine Nat.le_of_not_lt fun hlt=>?_
  have:=takes_mono hp hgj
  rw [hji j hlt] at this;cases this
set_option maxHeartbeats 3200000 in
theorem sizesLaw (T:List (List Int)) (v:Value) (s t:ByteArray) (w:World) (hG:Glo w) (hv:IsTable w v T) :
  Calls Tryz.prog 6 #[v,.string s,.string t] w (RetB (.bool true) w):=by
 have HV:=Lib.hid hv
 have HG:=Lib.hid hG
 have HGT:=Lib.hid (fun W (hB:Below w.heap.size w W)=>greatTable_ok T v W (hv.below hB))
 have HAW:=Lib.hid (fun W (hB:Below w.heap.size w W)=>awake50_ok W (hG.below hB))
 obtain ⟨a,cap,rfl,-,-,hc⟩:=hv
 have HC:=Lib.hid hc
 clear hc hG
 have k0:(w.alloc (.cells #[.string s] 22)).cell? ⟨w.heap.size,0,none⟩=some (.string s):=by simp [go_sem]
 have hb0:Below w.heap.size w (w.alloc (.cells #[.string s] 22)):=(by repeat (first|(with_reducible first|exact bw0 _ _|refine bw1 ?_ ?_ _|refine bw2 ?_ _|refine bw3 ?_|refine bw4 ?_ _|refine bw5 (by assumption) ?_)|exact Nat.le_refl _|(focus (simp;done))|(focus (simp;omega))|omega))
 go_enter Tryz.func6,Tryz.ntmps6
 go_wp2_with fail
 refine (HGT.out _ hb0).mono ?_
 rintro e w1 ⟨b,rfl,HB12,rfl⟩
 cases b
 ·have h12:T.length≤12:=(HB12.out (by trivial)).1
  clear HB12 HGT
  go_wp2_with fail
  refine (refCheckT_ok T _ _ (HV.out.below hb0) h12).mono ?_
  rintro e w1 ⟨c,rfl,HCT,hB1⟩
  have k1:=keep hB1 k0
  have hb1:Below w.heap.size w w1:=below_trans' hb0 hB1
  clear hB1 k0 hb0
  by_cases hc0:c=0
  ·subst hc0
   go_wp2_with fail
   refine (short_ok 2 (fun k=>if k=0 then s else t) _ 0 2 _ (HG.out.below (by repeat (first|(with_reducible first|exact bw0 _ _|refine bw1 ?_ ?_ _|refine bw2 ?_ _|refine bw3 ?_|refine bw4 ?_ _|refine bw5 (by assumption) ?_)|exact Nat.le_refl _|(focus (simp;done))|(focus (simp;omega))|omega))) (fun k hk=>?_) (by omega)).mono ?_
   ·obtain rfl|rfl:k=0∨k=1:=by omega
    ·simp [go_sem]
    ·simp [go_sem]
   rintro e w2 ⟨b2,rfl,HSH,hB2⟩
   have k2:w2.cell? ⟨w.heap.size,0,none⟩=some (.string s):=keep hB2 (keep (bw4 (bw0 _ _) _) k1)
   have hb2:Below w.heap.size w w2:=(by repeat (first|(with_reducible first|exact bw0 _ _|refine bw1 ?_ ?_ _|refine bw2 ?_ _|refine bw3 ?_|refine bw4 ?_ _|refine bw5 (by assumption) ?_)|exact Nat.le_refl _|(focus (simp;done))|(focus (simp;omega))|omega))
   clear hB2 k1 hb1
   cases b2
   ·clear HSH
    go_wp2_with fail
    refine (HAW.out _ hb2).mono ?_
    rintro e w3 ⟨rfl,hB3⟩
    have hb3:Below w.heap.size w w3:=(by repeat (first|(with_reducible first|exact bw0 _ _|refine bw1 ?_ ?_ _|refine bw2 ?_ _|refine bw3 ?_|refine bw4 ?_ _|refine bw5 (by assumption) ?_)|exact Nat.le_refl _|(focus (simp;done))|(focus (simp;omega))|omega))
    clear hB3
    go_wp2_with fail
    go_ret
    exact ⟨rfl,hb3⟩
   ·have HS1:Short s:=HSH.out (by trivial) 0 (by omega)
    have HT1:Short t:=HSH.out (by trivial) 1 (by omega)
    clear HSH
    obtain ⟨-,q,hs,hq,hq0⟩:=HS1
    obtain ⟨-,p,ht,hp,hp0⟩:=HT1
    have hpq0:0≤(q+p).num:=Rat.num_nonneg.2 (Rat.add_nonneg (Rat.num_nonneg.1 hq0) (Rat.num_nonneg.1 hp0))
    have hva:=valid_rows HCT.out.zero
    have F1:=Lib.hid (fun W (hB:Below w.heap.size w W)=>gsize_ok T _ s W (HG.out.below hB) (HV.out.below hB) h12 HCT.out hs hq (by omega) hq0)
    have FA:=Lib.hid (fun W (hB:Below w.heap.size w W)=>RAdd_ok s t W (HG.out.below hB) hs hq ht hp (by omega))
    have F2:=Lib.hid (fun (r:ByteArray) W (hB:Below w.heap.size w W) hr=>gsize_ok (q:=q+p) T _ r W (HG.out.below hB) (HV.out.below hB) h12 HCT.out hr (hq.add hp) (by omega) hpq0)
    have F12:=Lib.hid (fun n m hn hm=>first_two (q:=q) (n:=n) (m:=m) (Rat.num_nonneg.1 hp0) HCT.out.zero hn hm)
    have FI:=Lib.hid (fun W (hB:Below w.heap.size w W) (bf:Nat) (hf:W.cell? ⟨bf,0,none⟩=some (.string s))=>indexRow_any 28 #[.pointer (some ⟨bf,0,none⟩)] T (takesT q T) _ W (HV.out.below hB) (by omega) (enters_of Tryz.func28 (by kernel_rfl) rfl)
     (fun j hj u W' hB' hu=>by
      obtain ⟨h2,_,_,y1,y2⟩:=hva j hj
      exact takes1_ok s (rowT T j) u bf W' ((HG.out.below hB).below hB') hu h2 y1 y2 hs hq (by omega) (keep hB' hf)))
    have H2:=Lib.hid (fun k hk=>(hva k hk).1)
    clear hs ht hq hp hq0 hp0 hpq0 hva HCT
    go_wp2_with fail
    refine (F1.out _ hb2).mono ?_
    rintro e w3 ⟨n,HFN,hcase,hB3⟩
    have k3:=keep hB3 k2
    have hb3:Below w.heap.size w w3:=(by repeat (first|(with_reducible first|exact bw0 _ _|refine bw1 ?_ ?_ _|refine bw2 ?_ _|refine bw3 ?_|refine bw4 ?_ _|refine bw5 (by assumption) ?_)|exact Nat.le_refl _|(focus (simp;done))|(focus (simp;omega))|omega))
    clear hB3 k2 hb2
    rcases hcase with ⟨hn,rfl⟩|⟨hn,rfl⟩
    ·go_wp2_with fail
     refine (FA.out _ hb3).mono ?_
     rintro e w4 ⟨all,hall,rfl,hB4⟩
     have HALL:=Lib.hid hall
     have k4:=keep hB4 k3
     have hb4:Below w.heap.size w w4:=(by repeat (first|(with_reducible first|exact bw0 _ _|refine bw1 ?_ ?_ _|refine bw2 ?_ _|refine bw3 ?_|refine bw4 ?_ _|refine bw5 (by assumption) ?_)|exact Nat.le_refl _|(focus (simp;done))|(focus (simp;omega))|omega))
     clear hB4 k3 hb3 hall
     go_wp2_with fail
     refine (F2.out _ _ hb4 HALL.out).mono ?_
     rintro e w5 ⟨m,HFM,hcase,hB5⟩
     have k5:=keep hB5 k4
     have hb5:Below w.heap.size w w5:=(by repeat (first|(with_reducible first|exact bw0 _ _|refine bw1 ?_ ?_ _|refine bw2 ?_ _|refine bw3 ?_|refine bw4 ?_ _|refine bw5 (by assumption) ?_)|exact Nat.le_refl _|(focus (simp;done))|(focus (simp;omega))|omega))
     clear hB5 k4 hb4
     have hm:m < 0:=by
      rcases F12.out n m HFN.out HFM.out with h|h|h<;>omega
     rcases hcase with ⟨-,rfl⟩|⟨hm',-⟩
     ·go_wp2_with fail
      refine (FI.out _ hb5 _ k5).mono ?_
      rintro e w6 ⟨i,rfl,HFI,hB6⟩
      have hb6:Below w.heap.size w w6:=(by repeat (first|(with_reducible first|exact bw0 _ _|refine bw1 ?_ ?_ _|refine bw2 ?_ _|refine bw3 ?_|refine bw4 ?_ _|refine bw5 (by assumption) ?_)|exact Nat.le_refl _|(focus (simp;done))|(focus (simp;omega))|omega))
      clear hB6 hb5
      have hi:i < 0:=by rw [HFI.out.uniq HFN.out];exact hn
      go_wp2_with fail
      refine (HAW.out _ hb6).mono ?_
      rintro e w7 ⟨rfl,hB7⟩
      have hb7:Below w.heap.size w w7:=(by repeat (first|(with_reducible first|exact bw0 _ _|refine bw1 ?_ ?_ _|refine bw2 ?_ _|refine bw3 ?_|refine bw4 ?_ _|refine bw5 (by assumption) ?_)|exact Nat.le_refl _|(focus (simp;done))|(focus (simp;omega))|omega))
      clear hB7
      go_wp2_with fail
      go_ret
      exact ⟨rfl,hb7⟩
     ·omega
    ·obtain ⟨k,rfl,hk,-,-⟩:∃ k:Nat,n=k∧k < T.length∧takesT q T k=true∧∀ j,j < k→takesT q T j=false:=by
      rcases HFN.out with ⟨h,_⟩|h
      ·omega
      ·exact h
     rw [Int.toNat_natCast]
     obtain ⟨x,hx⟩:∃ x,lim (rowT T k) 0=x:=⟨_,rfl⟩
     rw [hx]
     have HX:=Lib.hid hx
     have hkI:(k:Int) < (T.length:Int):=by omega
     have hk0:¬ (k:Int) < 0:=by omega
     clear hx hn
     go_wp2_with fail
     refine (FA.out _ hb3).mono ?_
     rintro e w4 ⟨all,hall,rfl,hB4⟩
     have HALL:=Lib.hid hall
     have k4:=keep hB4 k3
     have hb4:Below w.heap.size w w4:=(by repeat (first|(with_reducible first|exact bw0 _ _|refine bw1 ?_ ?_ _|refine bw2 ?_ _|refine bw3 ?_|refine bw4 ?_ _|refine bw5 (by assumption) ?_)|exact Nat.le_refl _|(focus (simp;done))|(focus (simp;omega))|omega))
     clear hB4 k3 hb3 hall
     go_wp2_with fail
     refine (F2.out _ _ hb4 HALL.out).mono ?_
     rintro e w5 ⟨m,HFM,hcase,hB5⟩
     have k5:=keep hB5 k4
     have hb5:Below w.heap.size w w5:=(by repeat (first|(with_reducible first|exact bw0 _ _|refine bw1 ?_ ?_ _|refine bw2 ?_ _|refine bw3 ?_|refine bw4 ?_ _|refine bw5 (by assumption) ?_)|exact Nat.le_refl _|(focus (simp;done))|(focus (simp;omega))|omega))
     clear hB5 k4 hb4
     have TAIL:=Lib.hid (fun W (hB:Below w.heap.size w W)=>(by
      obtain ⟨_,_,e,_,_,h4⟩:=HV.out.below hB
      obtain ⟨b2,off2,ha,hcc⟩:=h4 (fun h=>by rw [h] at hk;simp at hk)
      obtain ⟨u,hu,hi⟩:=hcc k hk
      obtain ⟨rb,ro,rc,rfl,d0,-⟩:=hi.two (H2.out k hk)
      rw [HX.out] at d0
      cases e
      exact ⟨b2,off2,rb,ro,rc,ha,hu,d0⟩:∃ b2 off2 rb ro rc,a=some ⟨b2,off2,none⟩∧W.cell? ⟨b2,off2+k,none⟩=some (.slice (some ⟨rb,ro,none⟩) 2 rc)∧W.cell? ⟨rb,ro,none⟩=some (.int .i64 x)))
     rcases hcase with ⟨hm,rfl⟩|⟨hm,rfl⟩
     ·go_wp2_with fail
      refine (FI.out _ hb5 _ k5).mono ?_
      rintro e w6 ⟨i,rfl,HFI,hB6⟩
      have hb6:Below w.heap.size w w6:=(by repeat (first|(with_reducible first|exact bw0 _ _|refine bw1 ?_ ?_ _|refine bw2 ?_ _|refine bw3 ?_|refine bw4 ?_ _|refine bw5 (by assumption) ?_)|exact Nat.le_refl _|(focus (simp;done))|(focus (simp;omega))|omega))
      clear hB6 hb5
      obtain rfl:i=(k:Int):=HFI.out.uniq HFN.out
      obtain ⟨b2,off2,rb,ro,rc,rfl,c1,c2⟩:=TAIL.out _ hb6
      go_wp2_with fail
      refine (HAW.out _ hb6).mono ?_
      rintro e w7 ⟨rfl,hB7⟩
      have hb7:Below w.heap.size w w7:=(by repeat (first|(with_reducible first|exact bw0 _ _|refine bw1 ?_ ?_ _|refine bw2 ?_ _|refine bw3 ?_|refine bw4 ?_ _|refine bw5 (by assumption) ?_)|exact Nat.le_refl _|(focus (simp;done))|(focus (simp;omega))|omega))
      clear hB7
      go_wp2_with fail
      go_ret
      exact ⟨rfl,hb7⟩
     ·have hle:x≤lim (rowT T m.toNat) 0:=by
       rcases F12.out k m HFN.out HFM.out with h|h|⟨_,_,h⟩
       ·omega
       ·omega
       ·rw [Int.toNat_natCast,HX.out] at h;exact h
      generalize lim (rowT T m.toNat) 0=y at *
      have hle':decide (y < x)=false:=by simp;omega
      go_wp2_with fail
      refine (FI.out _ hb5 _ k5).mono ?_
      rintro e w6 ⟨i,rfl,HFI,hB6⟩
      have hb6:Below w.heap.size w w6:=(by repeat (first|(with_reducible first|exact bw0 _ _|refine bw1 ?_ ?_ _|refine bw2 ?_ _|refine bw3 ?_|refine bw4 ?_ _|refine bw5 (by assumption) ?_)|exact Nat.le_refl _|(focus (simp;done))|(focus (simp;omega))|omega))
      clear hB6 hb5
      obtain rfl:i=(k:Int):=HFI.out.uniq HFN.out
      obtain ⟨b2,off2,rb,ro,rc,rfl,c1,c2⟩:=TAIL.out _ hb6
      go_wp2_with fail
      refine (HAW.out _ hb6).mono ?_
      rintro e w7 ⟨rfl,hB7⟩
      have hb7:Below w.heap.size w w7:=(by repeat (first|(with_reducible first|exact bw0 _ _|refine bw1 ?_ ?_ _|refine bw2 ?_ _|refine bw3 ?_|refine bw4 ?_ _|refine bw5 (by assumption) ?_)|exact Nat.le_refl _|(focus (simp;done))|(focus (simp;omega))|omega))
      clear hB7
      go_wp2_with fail
      go_ret
      exact ⟨rfl,hb7⟩
  ·have hne:(c != 0)=true:=by simpa using hc0
   go_wp2_with fail
   refine (HAW.out _ hb1).mono ?_
   rintro e w2 ⟨rfl,hB2⟩
   have hb2:Below w.heap.size w w2:=(by repeat (first|(with_reducible first|exact bw0 _ _|refine bw1 ?_ ?_ _|refine bw2 ?_ _|refine bw3 ?_|refine bw4 ?_ _|refine bw5 (by assumption) ?_)|exact Nat.le_refl _|(focus (simp;done))|(focus (simp;omega))|omega))
   clear hB2
   go_wp2_with fail
   go_ret
   exact ⟨rfl,hb2⟩
 ·clear HB12
  go_wp2_with fail
  refine (HAW.out _ hb0).mono ?_
  rintro e w2 ⟨rfl,hB2⟩
  have hb2:Below w.heap.size w w2:=(by repeat (first|(with_reducible first|exact bw0 _ _|refine bw1 ?_ ?_ _|refine bw2 ?_ _|refine bw3 ?_|refine bw4 ?_ _|refine bw5 (by assumption) ?_)|exact Nat.le_refl _|(focus (simp;done))|(focus (simp;omega))|omega))
  clear hB2
  go_wp2_with fail
  go_ret
  exact ⟨rfl,hb2⟩
end Go.Proofs.YteepphiomcedfaaGreatDoor
