/- Walks: gutter.Size at valid tables; kingpostlaw50.GutterSizes. -/
import Derived.Test.YteepphiomcedfaaGreatDoorWTable2
import Derived.Test.YteepphiomcedfaaGreatDoorWFlows50
import Derived.Test.YteepphiomcedfaaGreatDoorJ07
set_option maxRecDepth 100000
set_option linter.unusedVariables false
set_option linter.unusedSimpArgs false
set_option maxHeartbeats 6400000
namespace Go.Proofs.YteepphiomcedfaaGreatDoor
open Go.RowKit
theorem gnumber_S (n:Int) (w:World) (hG:Glo w) (h0 : -9223372036854775808≤n) (h1:n≤9223372036854775807) :
  Calls Tryz.prog 69 #[.int .i64 n] w (RetB (.string (numS (n:Rat))) w) :=
 (gnumber_any n w hG h0 h1).mono fun _ _ ⟨_,hr,he,hB⟩=>⟨by rw [he,numS_of hr],hB⟩
theorem sz_row {y:Int} (y1:1≤y) (y2:y≤1048576):Sz 8 (y:Rat):=sz_int (by omega) (by omega)
theorem cmp_le {p q:Rat}:decide (Lib.compareInt (p.num * q.den) (q.num * p.den)≤0)=decide (p≤q):=by
 by_cases h:p≤q
 ·rw [decide_eq_true h,decide_eq_true_eq]
  have:=Rat.le_iff _ _ |>.1 h
  unfold Lib.compareInt
  split
  ·decide
  ·rw [if_neg (by omega)];decide
 ·rw [decide_eq_false h,decide_eq_false_iff_not]
  have h1:¬ p.num * q.den≤q.num * p.den:=fun h'=>h (Rat.le_iff _ _ |>.2 h')
  unfold Lib.compareInt
  rw [if_neg (by omega),if_pos (by omega)]
  decide
theorem cmp_ge' {p q:Rat}:decide (0≤Lib.compareInt (q.num * p.den) (p.num * q.den))=decide (p≤q):=by
 by_cases h:p≤q
 ·rw [decide_eq_true h,decide_eq_true_eq]
  exact cmp_ge h
 ·rw [decide_eq_false h,decide_eq_false_iff_not,cmp_lt (Rat.not_le.1 h)]
  decide
def takesT (q:Rat) (T:List (List Int)) (k:Nat):Bool:=decide (q≤((lim (rowT T k) 1:Int):Rat))
theorem size1_ok {k:Nat} {q:Rat} (s:ByteArray) (l:List Int) (u:Value) (bf bo:Nat) (w:World) (hG:Glo w) (hu:IsInts w u l) (h2:l.length=2) (y1:1≤lim l 1) (y2:lim l 1≤1048576) (hs:s.data.toList=ratText q) (hq:Sz k q) (hk:k+8≤300) (hf:w.cell? ⟨bf,0,none⟩=some (.string s)) :
  Calls Tryz.prog 79 #[u,.pointer (some ⟨bf,0,none⟩),.pointer (some ⟨bo,0,none⟩)] w (RetB (.bool (decide (q≤((lim l 1:Int):Rat)))) w):=by
 obtain ⟨rb,ro,rc,rfl,-,d1⟩:=hu.two h2
 have HN:=Lib.hid (fun W (hB:Below w.heap.size w W)=>gnumber_S (lim l 1) W (hG.below hB) (by omega) (by omega))
 have HC:=Lib.hid (fun W (hB:Below w.heap.size w W)=>RCompare_ok s (numS ((lim l 1:Int):Rat)) W (hG.below hB) hs hq (numS_list _) (sz_row y1 y2) hk)
 have HD:=Lib.hid (cmp_le (p:=q) (q:=((lim l 1:Int):Rat)))
 generalize lim l 1=y at *
 generalize numS (y:Rat)=ys at *
 generalize decide (q≤(y:Rat))=bb at *
 generalize Lib.compareInt (q.num * (y:Rat).den) ((y:Rat).num * q.den)=c at *
 have hR:w.drew.cell? ⟨rb,ro+1,none⟩=some (.int .i64 y)∧w.drew.cell? ⟨bf,0,none⟩=some (.string s)∧Below w.heap.size w w.drew:=⟨d1,hf,(bw0 _ _).drew⟩
 clear hs hq hG d1 hf
 go_enter Tryz.func79,Tryz.ntmps79
 go_wp2_with fail
 refine region_S (F:=[]) (R:=(fun w'=>w'.cell? ⟨rb,ro+1,none⟩=some (.int .i64 y)∧w'.cell? ⟨bf,0,none⟩=some (.string s)∧Below w.heap.size w w')) 11 #[false,false,false,false,false,false,false,false,false,false,false] (by kernel_rfl) (by kernel_rfl) (by kernel_rfl) (fun _ _ _ _ _ h=>h) (fun Q' hQ' hN=>?_)
 generalize w.drew=wd at *
 refine tkS 8 (i:=0) (v:=?_) (fw:=3) hQ' hR rfl ?_ ?_;rotate_left;(focus (intro wq hRq;obtain ⟨c0,c1,_⟩:=hRq;go_simp;(try with_reducible rfl)));(try simp only [Act.put,bw7,bw8,bw9])
 refine tkS 9 (i:=1) (v:=?_) (fw:=3) hQ' hR rfl ?_ ?_;rotate_left;(focus (intro wq hRq;obtain ⟨c0,c1,_⟩:=hRq;go_simp;(try with_reducible rfl)));(try simp only [Act.put,bw7,bw8,bw9])
 refine tkS 10 (i:=2) (v:=?_) (fw:=3) hQ' hR rfl ?_ ?_;rotate_left;(focus (intro wq hRq;obtain ⟨c0,c1,_⟩:=hRq;go_simp;(try with_reducible rfl)));(try simp only [Act.put,bw7,bw8,bw9])
 refine tkS 11 (i:=3) (v:=?_) (fw:=3) hQ' hR rfl ?_ ?_;rotate_left;(focus (intro wq hRq;obtain ⟨c0,c1,_⟩:=hRq;go_simp;(try with_reducible rfl)));(try simp only [Act.put,bw7,bw8,bw9])
 refine wpAnyS_ready (rs:=[4]) (by kernel_rfl) (by simp) ?_
 refine stepR (i:=4) rfl (by kernel_rfl) (fun K hK=>?_) (AllReadyS.nil)
 go_simp
 refine (HN.out _ hR.2.2).mono ?_
 rintro e wn ⟨rfl,hB'⟩
 have hR:wn.cell? ⟨rb,ro+1,none⟩=some (.int .i64 y)∧wn.cell? ⟨bf,0,none⟩=some (.string s)∧Below w.heap.size w wn:=⟨keep hB' hR.1,keep hB' hR.2.1,below_trans' hR.2.2 hB'⟩
 refine hK.out _ _ hR ?_
 clear hK K
 (try simp only [Act.put,bw7,bw8,bw9])
 refine wpAnyS_ready (rs:=[5]) (by kernel_rfl) (by simp) ?_
 refine stepR (i:=5) rfl (by kernel_rfl) (fun K hK=>?_) (AllReadyS.nil)
 go_simp
 refine (HC.out _ hR.2.2).mono ?_
 rintro e wn ⟨rfl,hB'⟩
 have hR:wn.cell? ⟨rb,ro+1,none⟩=some (.int .i64 y)∧wn.cell? ⟨bf,0,none⟩=some (.string s)∧Below w.heap.size w wn:=⟨keep hB' hR.1,keep hB' hR.2.1,below_trans' hR.2.2 hB'⟩
 refine hK.out _ _ hR ?_
 clear hK K
 (try simp only [Act.put,bw7,bw8,bw9])
 refine tkS 7 (i:=6) (v:=?_) (fw:=3) hQ' hR rfl ?_ ?_;rotate_left;(focus (intro wq hRq;obtain ⟨c0,c1,_⟩:=hRq;go_simp;(try with_reducible rfl)));(try simp only [Act.put,bw7,bw8,bw9])
 refine tkS 14 (i:=7) (v:=?_) (fw:=3) hQ' hR rfl ?_ ?_;rotate_left;(focus (intro wq hRq;obtain ⟨c0,c1,_⟩:=hRq;go_simp;(try with_reducible rfl)));(try simp only [Act.put,bw7,bw8,bw9])
 refine tkS 15 (i:=8) (v:=?_) (fw:=3) hQ' hR rfl ?_ ?_;rotate_left;(focus (intro wq hRq;obtain ⟨c0,c1,_⟩:=hRq;go_simp;(try with_reducible rfl)));(try simp only [Act.put,bw7,bw8,bw9])
 refine tkS 5 (i:=9) (v:=?_) (fw:=3) hQ' hR rfl ?_ ?_;rotate_left;(focus (intro wq hRq;obtain ⟨c0,c1,_⟩:=hRq;go_simp;(try with_reducible rfl)));(try simp only [Act.put,bw7,bw8,bw9])
 refine tkS 6 (i:=10) (v:=?_) (fw:=3) hQ' hR rfl ?_ ?_;rotate_left;(focus (intro wq hRq;obtain ⟨c0,c1,_⟩:=hRq;go_simp;(try with_reducible rfl)));(try simp only [Act.put,bw7,bw8,bw9])
 refine wpAnyS_done (by kernel_rfl) ?_ _
 refine hN.out _ _ ?_
 have hb:=hR.2.2
 clear hR
 go_wp2_with fail
 go_ret
 exact ⟨by rw [HD.out];rfl,hb⟩
def FirstAt (m:Nat) (g:Nat→Bool) (n:Int):Prop:=(n=-1∧∀ j,j < m→g j=false)∨∃ k:Nat,n=k∧k < m∧g k=true∧∀ j,j < k→g j=false
theorem FirstAt.uniq {m:Nat} {g:Nat→Bool} {a b:Int} (ha:FirstAt m g a) (hb:FirstAt m g b):a=b:=by
 rcases ha with ⟨rfl,h⟩|⟨k,rfl,hk,hg,hj⟩<;>rcases hb with ⟨rfl,h'⟩|⟨k',rfl,hk',hg',hj'⟩
 ·rfl
 ·rw [h k' hk'] at hg';cases hg'
 ·rw [h' k hk] at hg;cases hg
 ·rcases Nat.lt_trichotomy k k' with hlt|rfl|hlt
  ·rw [hj' k hlt] at hg;cases hg
  ·rfl
  ·rw [hj k' hlt] at hg';cases hg'
def RetFirst (m:Nat) (g:Nat→Bool) (w:World) (e:Ending) (w':World):Prop:=∃ n:Int,e=.returned (.int .i64 n)∧Hid (FirstAt m g n)∧Below w.heap.size w w'
theorem indexRow_any (F:Nat) (cap0:Array Value) (T:List (List Int)) (g:Nat→Bool) (v:Value) (w:World) (hv:IsTable w v T) (hl:T.length≤4096)
  (hE:∀ args w,(callFunc F args).run Tryz.prog w=.ok (.enter F args) w)
  (hF:∀ k,k < T.length→∀ u W,Below w.heap.size w W→IsInts W u (rowT T k)→Calls Tryz.prog F (#[u]++cap0) W (RetB (.bool (g k)) W)) :
  Calls Tryz.prog 30 #[v,.func (.func F) #[] cap0] w (RetFirst T.length g w):=by
 have HV:=Lib.hid hv
 have HF:=Lib.hid hF
 obtain ⟨a,cap,rfl,-,-,hc⟩:=hv
 have HC:=Lib.hid hc
 clear hc hF
 go_enter Tryz.func30,Tryz.ntmps30
 go_wp2_with fail
 go_loopw [8] (fun i wr=>∃ k:Nat,k≤T.length∧i=.int .i64 k∧Below w.heap.size w wr∧Hid (∀ j,j < k→g j=false)) (fun i _=>T.length - (intOf i).toNat)
 case atStart=>exact ⟨0,by omega,rfl,bw0 _ _,Lib.hid (by intro j h;omega)⟩
 case round =>
  obtain ⟨k,hk,rfl,hB,hno⟩:=hrel
  by_cases hlt:k < T.length
  ·obtain ⟨b,off,rfl,-⟩:=HC.out (fun h=>by rw [h] at hlt;simp at hlt)
   obtain ⟨_,_,e,_,_,h4⟩:=HV.out.below hB
   obtain ⟨b2,off2,rfl,hcc⟩:=h4 (fun h=>by rw [h] at hlt;simp at hlt)
   cases e
   obtain ⟨u,hu,hi⟩:=hcc k hlt
   have hf:=Lib.hid (HF.out k hlt u wr hB hi)
   obtain ⟨ra,rc,rfl,-,-⟩:=hi
   have HFK:Hid (g k=true→FirstAt T.length g k):=Lib.hid (fun h=>.inr ⟨k,rfl,hlt,h,hno.out⟩)
   obtain ⟨bb,hbb⟩:∃ bb,g k=bb:=⟨_,rfl⟩
   rw [hbb] at hf HFK
   have HBB:=Lib.hid hbb
   clear hcc hbb
   go_wp2_with fail
   refine hf.out.mono ?_
   rintro e w1 ⟨rfl,hB1⟩
   have hB2:Below w.heap.size w w1:=below_trans' hB hB1
   clear hB1 hu
   cases bb
   ·have hno':Hid (∀ j,j < k+1→g j=false):=Lib.hid (fun j hj=>by
     by_cases h:j < k
     ·exact hno.out j h
     ·obtain rfl:j=k:=by omega
      exact HBB.out)
    go_wp2_with fail
    go_roundw
    case rel=>exact ⟨k+1,hlt,by go_num,hB2,hno'⟩
    case measure=>simp [intOf];omega
   ·go_wp2_with fail
    go_ret
    exact ⟨k,rfl,Lib.hid (HFK.out (by trivial)),hB2⟩
  ·have e:k=T.length:=by omega
   have HFN:Hid (FirstAt T.length g (-1)):=Lib.hid (.inl ⟨rfl,fun j hj=>hno.out j (by omega)⟩)
   subst e
   go_wp2_with fail
   go_ret
   exact ⟨-1,rfl,HFN,hB⟩
def RetWidth (T:List (List Int)) (g:Nat→Bool) (w:World) (e:Ending) (w':World):Prop:=∃ n:Int,Hid (FirstAt T.length g n)∧((n < 0∧e=.returned (.tuple #[.int .i64 0,.int .i64 6]))∨(0≤n∧e=.returned (.tuple #[.int .i64 (lim (rowT T n.toNat) 0),.int .i64 0])))∧Below w.heap.size w w'
theorem gfirst_ok (F:Nat) (cap0:Array Value) (T:List (List Int)) (g:Nat→Bool) (v:Value) (w:World) (hv:IsTable w v T) (hl:T.length≤4096) (h2:∀ k,k < T.length→(rowT T k).length=2)
  (hE:∀ args w,(callFunc F args).run Tryz.prog w=.ok (.enter F args) w)
  (hF:∀ k,k < T.length→∀ u W,Below w.heap.size w W→IsInts W u (rowT T k)→Calls Tryz.prog F (#[u]++cap0) W (RetB (.bool (g k)) W)) :
  Calls Tryz.prog 78 #[v,.func (.func F) #[] cap0] w (RetWidth T g w):=by
 have HI:=Lib.hid (indexRow_any F cap0 T g v w hv hl hE hF)
 have HV:=Lib.hid hv
 have H2:=Lib.hid h2
 obtain ⟨a,cap,rfl,-,-,hc⟩:=hv
 have HC:=Lib.hid hc
 clear hc hF h2
 go_enter Tryz.func78,Tryz.ntmps78
 go_wp2_with fail
 refine HI.out.mono ?_
 rintro e w1 ⟨n,rfl,HFA,hB⟩
 by_cases hn:n < 0
 ·go_wp2_with fail
  go_ret2
  exact ⟨n,HFA,.inl ⟨hn,rfl⟩,hB⟩
 ·rcases HFA.out with ⟨h,_⟩|⟨k,rfl,hk,_,_⟩
  ·omega
  ·obtain ⟨b,off,rfl,-⟩:=HC.out (fun h=>by rw [h] at hk;simp at hk)
   obtain ⟨_,_,e,_,_,h4⟩:=HV.out.below hB
   obtain ⟨b2,off2,rfl,hcc⟩:=h4 (fun h=>by rw [h] at hk;simp at hk)
   cases e
   obtain ⟨u,hu,hi⟩:=hcc k hk
   obtain ⟨rb,ro,rc,rfl,d0,-⟩:=hi.two (H2.out k hk)
   have hkI:(k:Int) < (T.length:Int):=by omega
   obtain ⟨x,hx⟩:∃ x,lim (rowT T k) 0=x:=⟨_,rfl⟩
   have HX:=Lib.hid hx
   rw [hx] at d0
   clear hcc hi hx
   go_wp2_with fail
   go_ret2
   exact ⟨k,HFA,.inr ⟨by omega,by rw [Int.toNat_natCast,HX.out];rfl⟩,hB⟩
theorem valid_rows {T:List (List Int)} (h:∀ j,j < T.length→rowCode T j=0):∀ k,k < T.length→(rowT T k).length=2∧1≤lim (rowT T k) 0∧lim (rowT T k) 0≤1000∧1≤lim (rowT T k) 1∧lim (rowT T k) 1≤1048576:=fun k hk=>by
 have h0:=h k hk
 have h2:=rowCode_len h0
 unfold rowCode at h0
 rw [if_neg (by omega)] at h0
 by_cases hr:lim (rowT T k) 0 < 1∨1000 < lim (rowT T k) 0∨lim (rowT T k) 1 < 1∨1048576 < lim (rowT T k) 1
 ·rw [if_pos hr] at h0;exact absurd h0 (by decide)
 ·exact ⟨h2,by omega,by omega,by omega,by omega⟩
theorem CodeT.zero {T:List (List Int)} (h:CodeT T 0):∀ j,j < T.length→rowCode T j=0:=by
 rcases h with ⟨_,h⟩|⟨_,h,_⟩|⟨_,_,h⟩
 ·exact absurd h (by decide)
 ·exact absurd rfl h
 ·exact h
theorem gsize_ok {k:Nat} {q:Rat} (T:List (List Int)) (v:Value) (s:ByteArray) (w:World) (hG:Glo w) (hv:IsTable w v T) (h12:T.length≤12) (hT:CodeT T 0) (hs:s.data.toList=ratText q) (hq:Sz k q) (hk:k+8≤300) (h0:0≤q.num) :
  Calls Tryz.prog 24 #[v,.string s] w (RetWidth T (takesT q T) w):=by
 have hva:=valid_rows hT.zero
 have HCK:=Lib.hid (fun W (hB:Below w.heap.size w W)=>gutCheckT_ok T v W (hv.below hB) h12)
 have HCR:=Lib.hid (fun W (hB:Below w.heap.size w W)=>RCheck_ok s W (hG.below hB) hs hq (by omega))
 have HNG:=Lib.hid (fun W=>negative_no s W hs h0)
 have HT:=Lib.hid hT
 have HFI:=Lib.hid (fun W (hB:Below w.heap.size w W) (bf bo:Nat) (hf:W.cell? ⟨bf,0,none⟩=some (.string s))=>gfirst_ok 79 #[.pointer (some ⟨bf,0,none⟩),.pointer (some ⟨bo,0,none⟩)] T (takesT q T) v W (hv.below hB) (by omega) (fun k hk=>(hva k hk).1) (enters_of Tryz.func79 (by kernel_rfl) rfl)
  (fun j hj u W' hB' hu=>by
   obtain ⟨h2,_,_,y1,y2⟩:=hva j hj
   exact size1_ok s (rowT T j) u bf bo W' ((hG.below hB).below hB') hu h2 y1 y2 hs hq hk (keep hB' hf)))
 obtain ⟨a,cap,rfl,-,-,-⟩:=hv
 clear hs hq hG hT hva
 go_enter Tryz.func24,Tryz.ntmps24
 go_wp2_with fail
 refine (HCK.out _ qbl).mono ?_
 rintro e w1 ⟨c,rfl,HCT,hB1⟩
 have hc0:c=0:=HCT.out.uniq HT.out
 subst hc0
 have k1:w1.cell? ⟨w.heap.size,0,none⟩=some (.string s):=keep hB1 (by simp [go_sem])
 have hb1:Below w.heap.size w w1:=qbl
 clear hB1 HCT
 go_wp2_with fail
 refine (HCR.out _ hb1).mono ?_
 rintro e w2 ⟨rfl,hB2⟩
 have k2:=keep hB2 k1
 have hb2:Below w.heap.size w w2:=qbl
 clear hB2 k1 hb1
 go_wp2_with fail
 refine (HNG.out _).mono ?_
 rintro e w3 ⟨rfl,rfl⟩
 have hz3:=lt_of_cell k2
 go_wp2_with fail
 refine (HFI.out _ qbl w.heap.size w3.heap.size ?_).mono ?_
 ·exact keep (bw4 (bw0 _ _) _) k2
 rintro e w4 ⟨n,HFA,hcase,hB4⟩
 have hb4:Below w.heap.size w w4:=qbl
 have k4:w4.cell? ⟨w3.heap.size,0,none⟩=some (.int .i64 0):=keep hB4 (by simp [go_sem])
 clear hB4 k2 hb2
 rcases hcase with ⟨hn,rfl⟩|⟨hn,rfl⟩
 ·go_wp2_with fail
  go_ret2
  exact ⟨n,HFA,.inl ⟨hn,rfl⟩,hb4⟩
 ·go_wp2_with fail
  go_ret2
  exact ⟨n,HFA,.inr ⟨hn,rfl⟩,hb4⟩
end Go.Proofs.YteepphiomcedfaaGreatDoor
