/- Joined texts: WReadL, WRes, WBigOps, WGcdL, WRoot, WDivX, WBigOps2, WFlow, RatPlain. -/
import Derived.Test.YthihcjgmlbnapaaGreatDoorJ07
import Derived.Test.YthihcjgmlbnapaaGreatDoorJ02
import Derived.Test.YthihcjgmlbnapaaGreatDoorJ05
import Derived.Deep.LoopGhost
import Derived.Test.YthihcjgmlbnapaaGreatDoorJ01
set_option maxRecDepth 100000
set_option linter.unusedVariables false
set_option linter.unusedSimpArgs false
set_option maxHeartbeats 12800000
namespace Go.Proofs.YthihcjgmlbnapaaGreatDoor
open Go.RowKit Go.Shelf
attribute [local go_sem] Oper.semAt_some
theorem BoxN.f {W:World} {b:Nat} {x y:Value} (h:BoxN W b x y) (k:Nat):W.frozen? ⟨b,k,none⟩=false:=by simp [World.frozen?,show W.heap[b]?=_ from h]
theorem BoxN.set0 {W:World} {b:Nat} {x y:Value} (h:BoxN W b x y) (x':Value):BoxN (W.setCell ⟨b,0,none⟩ x') b x' y:=heap_setCell_at h
theorem BoxN.set1 {W:World} {b:Nat} {x y:Value} (h:BoxN W b x y) (y':Value):BoxN (W.setCell ⟨b,1,none⟩ y') b x y':=heap_setCell_at h
theorem BoxN.but' {W W':World} {b c:Nat} {x y:Value} (h:BoxN W b x y) (hs:SameBut c W W') (hne:b≠c):BoxN W' b x y:=(hs.block b hne).trans h
structure ReadSt (s:List UInt8) (n:Nat) (pre:List (Fin n)) (l:List Int) (u:Int):Prop where
 len:l.length=(n+8) / 9
 at':∀ k,k≤n→pre=fst n k→ReadAt s k l∧(k % 9≠0→u=((10 ^ (k % 9):Nat):Int))
theorem ReadSt.start (s:List UInt8) (n:Nat):ReadSt s n [] (zerosL ((n+8) / 9)) 1:=⟨zerosL_len _,fun k hk e=>by
 have h0:k=0:=by have:=congrArg List.length e;rw [fst_length hk] at this;simpa using this.symm
 subst h0
 exact ⟨ReadAt.start _ _,fun h=>absurd rfl h⟩⟩
theorem ReadSt.step {s:List UInt8} {n:Nat} {pre:List (Fin n)} {l:List Int} {u u1:Int} (h:ReadSt s n pre l u) (hn:n=s.length) (hd:∀ c ∈ s,isDig c=true) (x:Fin n) (hu:u1=if x.1 % 9=0 then 1 else u) :
  ReadSt s n (pre++[x]) (l.set (x.1 / 9) (IntKind.i64.wrap (lim l (x.1 / 9)+IntKind.i64.wrap (dgAt s x.1 * u1)))) (IntKind.i64.wrap (u1 * 10)):=by
 refine ⟨by rw [List.length_set];exact h.len,fun k hk e=>?_⟩
 obtain ⟨m,rfl,hp,hx⟩:=fst_snoc hk e
 obtain ⟨h1,h2⟩:=h.at' m (by omega) hp
 obtain ⟨⟨d0,d1⟩,⟨l0,l1⟩,h3⟩:=h1.step hd (by omega) (by rw [h.len,hn])
 have hu1:u1=((10 ^ (m % 9):Nat):Int):=by
  rw [hu,hx]
  split
  ·rename_i h0;rw [h0];rfl
  ·rename_i h0;exact h2 h0
 have hP:(10:Nat) ^ (m % 9)≤10 ^ 8:=Nat.pow_le_pow_right (by omega) (by omega)
 have hP0:0 < (10:Nat) ^ (m % 9):=Nat.pow_pos (by omega)
 rw [hx,hu1]
 rw [show m+1=m+1 from rfl]
 have hsucc:(m+1) % 9≠0→(10:Nat) ^ ((m+1) % 9)=10 ^ (m % 9) * 10:=fun h0=>by rw [← Nat.pow_succ];congr 1;omega
 generalize (10:Nat) ^ (m % 9)=P at *
 have m0:0≤dgAt s m * (P:Int):=Int.mul_nonneg d0 (by omega)
 have m1:dgAt s m * (P:Int)≤9 * (P:Int):=Int.mul_le_mul_of_nonneg_right d1 (by omega)
 have e1:IntKind.i64.wrap (dgAt s m * (P:Int))=dgAt s m * (P:Int):=IntWalk.i64_in _ (by omega)
 have e2:IntKind.i64.wrap (lim l (m / 9)+dgAt s m * (P:Int))=lim l (m / 9)+dgAt s m * (P:Int):=IntWalk.i64_in _ (by omega)
 have e3:IntKind.i64.wrap ((P:Int) * 10)=(P:Int) * 10:=IntWalk.i64_in _ (by omega)
 rw [e1,e2,e3]
 refine ⟨h3,fun h0=>?_⟩
 rw [hsucc h0]
 omega
theorem iread_ok (x:Int) (s:ByteArray) (w:World) (hs:s.data.toList=Lib.itoa x) (hl:s.size≤400) :
  Calls Tryz.prog 128 #[.string s] w (RetBig x ((s.size+8) / 9) w):=by
 have hcp:=(trim_itoa x).1
 rw [← hs] at hcp
 obtain ⟨m,hm⟩:∃ m,Lib.hasPrefix s.data.toList [45]=m:=⟨_,rfl⟩
 have HM:=Lib.hid (show sgnV m x.natAbs=x by
  rw [← hm,hs]
  rcases itoa_cases x with ⟨h0,e⟩|⟨h0,e⟩
  ·rw [e]
   have:Lib.hasPrefix (45::Lib.decDigits x.natAbs) [45]=true:=by simp [Lib.hasPrefix,List.isPrefixOf]
   rw [this];show -((x.natAbs:Int))=x;omega
  ·rw [e]
   have hne:=decDigits_no45 x.natAbs []
   rw [List.append_nil] at hne
   have:Lib.hasPrefix (Lib.decDigits x.natAbs) [45]=false:=by
    cases hdd:Lib.decDigits x.natAbs with
    | nil=>rfl
    | cons c t =>
     rw [hdd] at hne
     have hc:c≠45:=by intro hc;subst hc;simp at hne
     simp [Lib.hasPrefix,List.isPrefixOf,Ne.symm hc]
   rw [this];show (x.natAbs:Int)=x;omega)
 have HCP:=Lib.hid (fun W=>cutPrefix_any s ⟨#[45]⟩ W hcp hm)
 have HS:=Lib.hid hs
 refine (callsIn_wide (n:=5)).1 ?_
 refine callsIn_of_wp_marks Tryz.func128 rfl trivial ?_ rfl
 simp only [Tryz.ntmps128,List.size_toArray,List.length_cons,List.length_nil,Nat.reduceAdd,Nat.reduceSub,Array.replicate_succ,Array.replicate_zero,List.push_toArray,List.append_toArray,List.nil_append,List.cons_append]
 clear hcp hs hm
 gi_wp2
 refine ⟨trivial,?_⟩
 refine (callsIn_wide.2 (HCP.out _)).mono ?_
 rintro e w1 ⟨r,hr,rfl,rfl⟩
 have hr:=hr.out
 have hrs:r.size≤s.size:=by
  have e1:r.size=(Lib.decDigits x.natAbs).length:=by rw [← hr];rfl
  have e2:s.size=(Lib.itoa x).length:=by rw [← HS.out];rfl
  rw [e1,e2];exact trim_len x
 have hdg:∀ c ∈ r.data.toList,isDig c=true:=by rw [hr];exact decDigits_isDig _
 have HDV:=Lib.hid (show dval r.data.toList=x.natAbs by rw [hr];exact dval_decDigits _)
 have HDG:=Lib.hid hdg
 obtain ⟨nl,hnl⟩:∃ nl:Nat,(r.size+8) / 9=nl:=⟨_,rfl⟩
 have hw1:IntKind.i64.wrap ((r.size:Int)+9)=(r.size:Int)+9:=IntWalk.i64_in _ (by omega)
 have hw2:IntKind.i64.wrap ((r.size:Int)+9 - 1)=(r.size:Int)+9 - 1:=IntWalk.i64_in _ (by omega)
 have ht:((r.size:Int)+9 - 1).tdiv 9=(nl:Int):=by rw [Int.tdiv_eq_ediv_of_nonneg (by omega)];omega
 have hw3:IntKind.i64.wrap (nl:Int)=(nl:Int):=IntWalk.i64_in _ (by omega)
 have hmk:=fun (W:World)=>run_makeI W nl (by omega) (nl:Int) rfl
 clear hr hdg
 gi_wp2
 refine ⟨trivial,?_⟩
 refine (callsIn_wide.2 (digitsI_any _ _)).mono ?_
 rintro e w1 ⟨rfl,rfl⟩
 gi_wp2
 have hb0:Below w.heap.size w (((((w.alloc (.cells #[.bool false,.slice none 0 0] 207)).alloc (.cells (intVs (zerosL nl)).toArray 3)).alloc (.cells #[.bool m,.slice (some ⟨w.heap.size+1,0,none⟩) nl nl] 207)).alloc (.cells #[.int .i64 1] 3)).alloc (.cells #[.string r] 9)):=qbl
 have x0:BoxN (((((w.alloc (.cells #[.bool false,.slice none 0 0] 207)).alloc (.cells (intVs (zerosL nl)).toArray 3)).alloc (.cells #[.bool m,.slice (some ⟨w.heap.size+1,0,none⟩) nl nl] 207)).alloc (.cells #[.int .i64 1] 3)).alloc (.cells #[.string r] 9)) w.heap.size (.bool false) (.slice none 0 0):=((((BoxN.new rfl).below (bw4 (bw0 _ _) _)).below (bw4 (bw0 _ _) _)).below (bw4 (bw0 _ _) _)).below (bw4 (bw0 _ _) _)
 have x1:BlkI (((((w.alloc (.cells #[.bool false,.slice none 0 0] 207)).alloc (.cells (intVs (zerosL nl)).toArray 3)).alloc (.cells #[.bool m,.slice (some ⟨w.heap.size+1,0,none⟩) nl nl] 207)).alloc (.cells #[.int .i64 1] 3)).alloc (.cells #[.string r] 9)) (w.heap.size+1) (zerosL nl):=(((BlkI.new (by simp)).below (bw4 (bw0 _ _) _)).below (bw4 (bw0 _ _) _)).below (bw4 (bw0 _ _) _)
 have x2:BoxN (((((w.alloc (.cells #[.bool false,.slice none 0 0] 207)).alloc (.cells (intVs (zerosL nl)).toArray 3)).alloc (.cells #[.bool m,.slice (some ⟨w.heap.size+1,0,none⟩) nl nl] 207)).alloc (.cells #[.int .i64 1] 3)).alloc (.cells #[.string r] 9)) (w.heap.size+2) (.bool m) (.slice (some ⟨w.heap.size+1,0,none⟩) nl nl):=((BoxN.new (by simp)).below (bw4 (bw0 _ _) _)).below (bw4 (bw0 _ _) _)
 have x3:Boxed (((((w.alloc (.cells #[.bool false,.slice none 0 0] 207)).alloc (.cells (intVs (zerosL nl)).toArray 3)).alloc (.cells #[.bool m,.slice (some ⟨w.heap.size+1,0,none⟩) nl nl] 207)).alloc (.cells #[.int .i64 1] 3)).alloc (.cells #[.string r] 9)) (w.heap.size+3) 3 (.int .i64 1):=(boxed_new' (by simp)).alloc _
 have x4:Boxed (((((w.alloc (.cells #[.bool false,.slice none 0 0] 207)).alloc (.cells (intVs (zerosL nl)).toArray 3)).alloc (.cells #[.bool m,.slice (some ⟨w.heap.size+1,0,none⟩) nl nl] 207)).alloc (.cells #[.int .i64 1] 3)).alloc (.cells #[.string r] 9)) (w.heap.size+4) 9 (.string r):=boxed_new' (by simp)
 have hsz:(((((w.alloc (.cells #[.bool false,.slice none 0 0] 207)).alloc (.cells (intVs (zerosL nl)).toArray 3)).alloc (.cells #[.bool m,.slice (some ⟨w.heap.size+1,0,none⟩) nl nl] 207)).alloc (.cells #[.int .i64 1] 3)).alloc (.cells #[.string r] 9)).heap.size=w.heap.size+5:=by simp
 generalize (((((w.alloc (.cells #[.bool false,.slice none 0 0] 207)).alloc (.cells (intVs (zerosL nl)).toArray 3)).alloc (.cells #[.bool m,.slice (some ⟨w.heap.size+1,0,none⟩) nl nl] 207)).alloc (.cells #[.int .i64 1] 3)).alloc (.cells #[.string r] 9))=W0 at *
 refine wpIn_rangeFunc_ownH rfl (by omega) (gf:=198) (lb:=#[.pointer (some ⟨w.heap.size+4,0,none⟩)]) rfl trivial (enters_of Tryz.func198 (by kernel_rfl) rfl)
  (dig_stops r HDG.out _ (by omega) (w.heap.size+4) w.heap.size (by omega) W0 x4.cell) KpR.t (KpR.b hb0.size (by omega)) (bw0 _ _) (fun _=>rfl)
  (fun pre W=>((((BoxN W w.heap.size (.bool false) (.slice none 0 0)∧BoxN W (w.heap.size+2) (.bool m) (.slice (some ⟨w.heap.size+1,0,none⟩) nl nl))∧Boxed W (w.heap.size+4) 9 (.string r))∧(Below w.heap.size w W∧w.heap.size+5≤W.heap.size))∧(∃ l u,(BlkI W (w.heap.size+1) l∧Boxed W (w.heap.size+3) 3 (.int .i64 u))∧ReadSt r.data.toList r.size pre l u)))
  (fun _ _ _=>False)
  (OwnFrom.and (OwnFrom.and (OwnFrom.and (OwnFrom.and (cells_own rfl) (cells_own rfl)) (Own.from (boxed_own _ _ _) _)) (OwnFrom.and (ownFrom_below (Nat.le_refl _) (by omega)) (fun s A B row hs hg hr=>Nat.le_trans hs hg.size))) (fun s X Y row hs hg hr=>by obtain ⟨l,u,⟨h1,h2⟩,h3⟩:=hs;exact ⟨l,u,⟨blkI_own () X Y row h1 hg hr,(Own.from (boxed_own (w.heap.size+3) 3 (fun _:Unit=>.int .i64 u)) _) () X Y row h2 hg hr⟩,h3⟩))
  (fun _ _ _ _ _ hs _ _=>hs)
  ⟨⟨⟨⟨x0,x2⟩,x4⟩,hb0,by omega⟩,_,_,⟨x1,x3⟩,by rw [← hnl];exact ReadSt.start _ _⟩
  (fun x a' W=>a'={ tmps:=#[.string s,undef,.pointer (some ⟨w.heap.size,0,none⟩),.string r,.bool m,.pointer (some ⟨w.heap.size+2,0,none⟩),.pointer (some ⟨w.heap.size+3,0,none⟩),.int .i64 x.1,.int .i64 (dgAt r.data.toList x.1),.tuple #[.string r,.bool m],.string s,.tuple #[.string r,.bool m],.string r,.bool m,.bool m,.string r,.int .i64 r.size,.int .i64 ((r.size:Int)+9),.int .i64 ((r.size:Int)+9 - 1),.int .i64 nl,.slice (some ⟨w.heap.size+1,0,none⟩) nl nl,.agg #[.bool m,.slice (some ⟨w.heap.size+1,0,none⟩) nl nl],.string r,.func (.func 198) #[] #[.pointer (some ⟨w.heap.size+4,0,none⟩)],.int .i64 x.1,.int .i64 (dgAt r.data.toList x.1),undef,undef,undef,undef,undef,undef,undef,undef,undef,undef,undef,undef,undef,undef,undef,undef,undef,undef,undef,undef,undef],defers:=[] })
  (fun x a' _ X Y row hs hg hr=>hs)
  ?assign ?body ?done ?stop
 case assign =>
  rintro l1 pre x W K ⟨⟨⟨⟨b0,b2⟩,b4⟩,hB,hz⟩,hS⟩ hK
  unfold encD
  gi_wp2
  exact hK _ _ (KeepsFrom.refl _ _) ⟨(bw0 _ _).mono hB.size,rfl⟩ ⟨⟨⟨⟨b0,b2⟩,b4⟩,hB,hz⟩,hS⟩ rfl
 case body =>
  rintro l1 pre x a' W hl1 ⟨rr,hr⟩ ⟨⟨⟨⟨b0,b2⟩,b4⟩,hB,hz⟩,l,u,⟨b1,b3⟩,hSt⟩ rfl hlt
  have hxl:=x.2
  obtain ⟨j,hj⟩:∃ j,x.1 / 9=j:=⟨_,rfl⟩
  obtain ⟨t,htt⟩:∃ t,x.1 % 9=t:=⟨_,rfl⟩
  have hq:((x.1:Nat):Int).tdiv 9=(j:Int):=by rw [Int.tdiv_eq_ediv_of_nonneg (by omega)];omega
  have hm9:((x.1:Nat):Int).tmod 9=(t:Int):=by rw [Int.tmod_eq_emod_of_nonneg (by omega)];omega
  have hwj:IntKind.i64.wrap (j:Int)=(j:Int):=IntWalk.i64_in _ (by omega)
  have hwt:IntKind.i64.wrap (t:Int)=(t:Int):=IntWalk.i64_in _ (by omega)
  have hj0:(0:Int)≤(j:Int):=by omega
  have hj1:(j:Int) < (nl:Int):=by omega
  have hjt:((j:Int)).toNat=j:=by omega
  have hjl:j < l.length:=by rw [hSt.len];omega
  have HST:=Lib.hid (fun u1 hu=>hSt.step (u1:=u1) rfl HDG.out x hu)
  rw [hj,htt] at HST
  have hdd:dgAt r.data.toList x.1=dgAt r.data.toList x.1:=rfl
  generalize dgAt r.data.toList x.1=d at *
  clear hdd hSt hj
  by_cases h9:t=0
  ·have h9b:((t:Int) == 0)=true:=by rw [h9];rfl
   have c3:=b3.cell
   have f3:=b3.frozen
   have z3:=b3.lt
   have HST:=Lib.hid (by have h:=HST.out 1 (by rw [if_pos h9]);rwa [Int.mul_one,show IntKind.i64.wrap ((1:Int) * 10)=10 from by rw [show (1:Int) * 10=10 from rfl];exact IntWalk.i64_in _ (by omega)] at h)
   have hSu:=sameBut_setCell W (w.heap.size+3) 0 (.int .i64 1)
   have b3':=b3.set (.int .i64 1)
   clear h9 htt
   gi_wp2
   clear c3 f3 z3
   generalize W.setCell ⟨w.heap.size+3,0,none⟩ (.int .i64 1)=Wu at *
   have hBu:Below w.heap.size w Wu:=hSu.below hB (by omega)
   have b0u:=b0.but' hSu (by omega)
   have b2u:=b2.but' hSu (by omega)
   have b4u:=Boxed.but b4 hSu (by omega)
   have b1u:=b1.but hSu (by omega)
   have hzu:w.heap.size+5≤Wu.heap.size:=by rw [hSu.size];exact hz
   have hKu:KeepsFrom W0.heap.size W Wu:=keepsFrom_but hSu (by omega)
   have hPu:KpR w.heap.size (w.heap.size+4) W Wu:=⟨hSu.below (bw0 _ _) (by omega),hSu.block _ (by omega)⟩
   have hR:BoxN Wu.drew (w.heap.size+2) (.bool m) (.slice (some ⟨w.heap.size+1,0,none⟩) nl nl)∧Boxed Wu.drew (w.heap.size+3) 3 (.int .i64 1)∧BlkI Wu.drew (w.heap.size+1) l:=⟨b2u.below (bw0 _ _).drew,boxed_below b3' (bw0 _ _).drew,b1u.below (bw0 _ _).drew⟩
   refine region_I (L:=[11]) (R:=(fun w'=>BoxN w' (w.heap.size+2) (.bool m) (.slice (some ⟨w.heap.size+1,0,none⟩) nl nl)∧Boxed w' (w.heap.size+3) 3 (.int .i64 1)∧BlkI w' (w.heap.size+1) l)) 12 #[false,false,false,false,false,false,false,false,false,false,false,false] (by kernel_rfl) (by kernel_rfl) (by kernel_rfl) (fun _ _ _ _ _ h=>h) (fun Q' hQ' hN hLO=>?_)
   have hBd:=(bw0 Wu.heap.size Wu).drew
   generalize Wu.drew=wd at *
   refine tI 29 0 (hy:=by intro wq hRq;have e0:=hRq.1.c1;have e1:=hRq.2.1.cell;have e2:=hRq.2.2.cell hjl;go_simp;(try with_reducible rfl)) ?_
   refine tI 30 1 (hy:=by intro wq hRq;have e0:=hRq.1.c1;have e1:=hRq.2.1.cell;have e2:=hRq.2.2.cell hjl;go_simp;(try with_reducible rfl)) ?_
   refine tI 31 2 (hy:=by intro wq hRq;have e0:=hRq.1.c1;have e1:=hRq.2.1.cell;have e2:=hRq.2.2.cell hjl;go_simp;(try with_reducible rfl)) ?_
   refine tI 32 3 (hy:=by intro wq hRq;have e0:=hRq.1.c1;have e1:=hRq.2.1.cell;have e2:=hRq.2.2.cell hjl;go_simp;(try with_reducible rfl)) ?_
   refine tI 33 4 (hy:=by intro wq hRq;have e0:=hRq.1.c1;have e1:=hRq.2.1.cell;have e2:=hRq.2.2.cell hjl;go_simp;(try with_reducible rfl)) ?_
   refine tI 34 5 (hy:=by intro wq hRq;have e0:=hRq.1.c1;have e1:=hRq.2.1.cell;have e2:=hRq.2.2.cell hjl;go_simp;(try with_reducible rfl)) ?_
   refine tI 35 6 (hy:=by intro wq hRq;have e0:=hRq.1.c1;have e1:=hRq.2.1.cell;have e2:=hRq.2.2.cell hjl;go_simp;(try with_reducible rfl)) ?_
   refine tI 36 7 (hy:=by intro wq hRq;have e0:=hRq.1.c1;have e1:=hRq.2.1.cell;have e2:=hRq.2.2.cell hjl;go_simp;(try with_reducible rfl)) ?_
   refine tI 37 8 (hy:=by intro wq hRq;have e0:=hRq.1.c1;have e1:=hRq.2.1.cell;have e2:=hRq.2.2.cell hjl;go_simp;(try with_reducible rfl)) ?_
   refine tI 38 9 (hy:=by intro wq hRq;have e0:=hRq.1.c1;have e1:=hRq.2.1.cell;have e2:=hRq.2.2.cell hjl;go_simp;(try with_reducible rfl)) ?_
   refine tI 39 10 (hy:=by intro wq hRq;have e0:=hRq.1.c1;have e1:=hRq.2.1.cell;have e2:=hRq.2.2.cell hjl;go_simp;(try with_reducible rfl)) ?_
   refine wpAnyI_ready (rs:=[11]) (by kernel_rfl) (by simp) ?_
   refine stepFI (i:=11) rfl (by kernel_rfl) (by kernel_rfl) (fun K hK=>?_) (AllReadyI.nil)
   have f1:=hR.2.2.cell hjl
   have g1:=hR.2.2.frozen j
   go_simp
   refine after_setI hR.2.2 (fun W2 hS2 hb2=>?_)
   clear f1 g1
   refine hK.out _ _ ?_
   clear hK K
   (try simp only [Act.put,bw7,bw8,bw9])
   refine wpAnyI_done (by kernel_rfl) ?_ _
   refine hN.out _ _ ?_
   have e3:=Boxed.but hR.2.1 hS2 (by omega)
   have c3:=e3.cell
   have f3:=e3.frozen
   have z3:=e3.lt
   have b3f:=e3.set (.int .i64 10)
   have hSf:=sameBut_setCell W2 (w.heap.size+3) 0 (.int .i64 10)
   gi_wp2
   clear c3 f3 z3
   generalize W2.setCell ⟨w.heap.size+3,0,none⟩ (.int .i64 10)=Wf at *
   have hKp:KpR w.heap.size (w.heap.size+4) Wu Wf:=⟨hSf.below (hS2.below (hBd.mono hBu.size) (by omega)) (by omega),(hSf.block _ (by omega)).trans ((hS2.block _ (by omega)).trans (hBd.block _ b4u.lt))⟩
   exact ⟨hKu.trans ((keepsFrom_below hBd).trans ((keepsFrom_but hS2 (by omega)).trans (keepsFrom_but hSf (by omega)))),hPu.t hKp,⟨⟨⟨⟨((b0u.below hBd).but' hS2 (by omega)).but' hSf (by omega),(hR.1.but' hS2 (by omega)).but' hSf (by omega)⟩,Boxed.but (Boxed.but (boxed_below b4u hBd) hS2 (by omega)) hSf (by omega)⟩,hSf.below (hS2.below (hBu.trans (hBd.mono hBu.size)) (by omega)) (by omega),by rw [hSf.size,hS2.size];exact Nat.le_trans hzu hBd.size⟩,_,_,⟨hb2.but hSf (by omega),b3f⟩,HST.out⟩⟩
  ·have h9b:((t:Int) == 0)=false:=by rw [beq_eq_false_iff_ne];omega
   have HST:=HST.out u (by rw [if_neg h9])
   obtain ⟨u2,hu2⟩:∃ u2,IntKind.i64.wrap (u * 10)=u2:=⟨_,rfl⟩
   rw [hu2] at HST
   have HST:=Lib.hid HST
   clear h9 htt
   gi_wp2
   have hR:BoxN W.drew (w.heap.size+2) (.bool m) (.slice (some ⟨w.heap.size+1,0,none⟩) nl nl)∧Boxed W.drew (w.heap.size+3) 3 (.int .i64 u)∧BlkI W.drew (w.heap.size+1) l:=⟨b2.below (bw0 _ _).drew,boxed_below b3 (bw0 _ _).drew,b1.below (bw0 _ _).drew⟩
   refine region_I (L:=[11]) (R:=(fun w'=>BoxN w' (w.heap.size+2) (.bool m) (.slice (some ⟨w.heap.size+1,0,none⟩) nl nl)∧Boxed w' (w.heap.size+3) 3 (.int .i64 u)∧BlkI w' (w.heap.size+1) l)) 12 #[false,false,false,false,false,false,false,false,false,false,false,false] (by kernel_rfl) (by kernel_rfl) (by kernel_rfl) (fun _ _ _ _ _ h=>h) (fun Q' hQ' hN hLO=>?_)
   have hBd:=(bw0 W.heap.size W).drew
   generalize W.drew=wd at *
   refine tI 29 0 (hy:=by intro wq hRq;have e0:=hRq.1.c1;have e1:=hRq.2.1.cell;have e2:=hRq.2.2.cell hjl;go_simp;(try with_reducible rfl)) ?_
   refine tI 30 1 (hy:=by intro wq hRq;have e0:=hRq.1.c1;have e1:=hRq.2.1.cell;have e2:=hRq.2.2.cell hjl;go_simp;(try with_reducible rfl)) ?_
   refine tI 31 2 (hy:=by intro wq hRq;have e0:=hRq.1.c1;have e1:=hRq.2.1.cell;have e2:=hRq.2.2.cell hjl;go_simp;(try with_reducible rfl)) ?_
   refine tI 32 3 (hy:=by intro wq hRq;have e0:=hRq.1.c1;have e1:=hRq.2.1.cell;have e2:=hRq.2.2.cell hjl;go_simp;(try with_reducible rfl)) ?_
   refine tI 33 4 (hy:=by intro wq hRq;have e0:=hRq.1.c1;have e1:=hRq.2.1.cell;have e2:=hRq.2.2.cell hjl;go_simp;(try with_reducible rfl)) ?_
   refine tI 34 5 (hy:=by intro wq hRq;have e0:=hRq.1.c1;have e1:=hRq.2.1.cell;have e2:=hRq.2.2.cell hjl;go_simp;(try with_reducible rfl)) ?_
   refine tI 35 6 (hy:=by intro wq hRq;have e0:=hRq.1.c1;have e1:=hRq.2.1.cell;have e2:=hRq.2.2.cell hjl;go_simp;(try with_reducible rfl)) ?_
   refine tI 36 7 (hy:=by intro wq hRq;have e0:=hRq.1.c1;have e1:=hRq.2.1.cell;have e2:=hRq.2.2.cell hjl;go_simp;(try with_reducible rfl)) ?_
   refine tI 37 8 (hy:=by intro wq hRq;have e0:=hRq.1.c1;have e1:=hRq.2.1.cell;have e2:=hRq.2.2.cell hjl;go_simp;(try with_reducible rfl)) ?_
   refine tI 38 9 (hy:=by intro wq hRq;have e0:=hRq.1.c1;have e1:=hRq.2.1.cell;have e2:=hRq.2.2.cell hjl;go_simp;(try with_reducible rfl)) ?_
   refine tI 39 10 (hy:=by intro wq hRq;have e0:=hRq.1.c1;have e1:=hRq.2.1.cell;have e2:=hRq.2.2.cell hjl;go_simp;(try with_reducible rfl)) ?_
   refine wpAnyI_ready (rs:=[11]) (by kernel_rfl) (by simp) ?_
   refine stepFI (i:=11) rfl (by kernel_rfl) (by kernel_rfl) (fun K hK=>?_) (AllReadyI.nil)
   have f1:=hR.2.2.cell hjl
   have g1:=hR.2.2.frozen j
   go_simp
   refine after_setI hR.2.2 (fun W2 hS2 hb2=>?_)
   clear f1 g1
   refine hK.out _ _ ?_
   clear hK K
   (try simp only [Act.put,bw7,bw8,bw9])
   refine wpAnyI_done (by kernel_rfl) ?_ _
   refine hN.out _ _ ?_
   have e3:=Boxed.but hR.2.1 hS2 (by omega)
   have c3:=e3.cell
   have f3:=e3.frozen
   have z3:=e3.lt
   have b3f:=e3.set (.int .i64 u2)
   have hSf:=sameBut_setCell W2 (w.heap.size+3) 0 (.int .i64 u2)
   gi_wp2
   clear c3 f3 z3
   generalize W2.setCell ⟨w.heap.size+3,0,none⟩ (.int .i64 u2)=Wf at *
   exact ⟨(keepsFrom_below hBd).trans ((keepsFrom_but hS2 (by omega)).trans (keepsFrom_but hSf (by omega))),⟨hSf.below (hS2.below (hBd.mono hB.size) (by omega)) (by omega),(hSf.block _ (by omega)).trans ((hS2.block _ (by omega)).trans (hBd.block _ b4.lt))⟩,⟨⟨⟨⟨((b0.below hBd).but' hS2 (by omega)).but' hSf (by omega),(hR.1.but' hS2 (by omega)).but' hSf (by omega)⟩,Boxed.but (Boxed.but (boxed_below b4 hBd) hS2 (by omega)) hSf (by omega)⟩,hSf.below (hS2.below (hB.trans (hBd.mono hB.size)) (by omega)) (by omega),by rw [hSf.size,hS2.size];exact Nat.le_trans hz hBd.size⟩,_,_,⟨hb2.but hSf (by omega),b3f⟩,HST.out⟩⟩
 case done =>
  rintro D ys W hD rfl ⟨⟨⟨⟨b0,b2⟩,b4⟩,hB,hz⟩,l,u,⟨b1,b3⟩,hSt⟩ hK
  have hll:=hSt.len
  rw [hnl] at hll
  obtain ⟨hRA,_⟩:=hSt.at' r.size (Nat.le_refl _) (fst_all _).symm
  have HRA:=Lib.hid hRA
  have HTR:=Lib.hid (fun (W':World) (h:BlkI W' (w.heap.size+1) l)=>trim_ok l (some ⟨w.heap.size+1,0,none⟩) nl nl W' (by have:=h.is;rwa [hll] at this) (by omega))
  have HB1:=Lib.hid b1
  have c1:=b2.c1
  have f1:W.frozen? ⟨w.heap.size+2,1,none⟩=false:=by simp [World.frozen?,show W.heap[w.heap.size+2]?=_ from b2]
  have z2:=b2.lt
  clear hSt hRA b1 b3 b4
  gi_wp2
  refine ⟨trivial,?_⟩
  refine (callsIn_wide.2 (HTR.out _ HB1.out)).mono ?_
  rintro e wt ⟨m1,hm1,rfl,ht1,hl1,rfl⟩
  have HQ:=Lib.hid (And.intro hm1 (And.intro ht1 hl1))
  have hS5:=sameBut_setCell wt (w.heap.size+2) 1 (.slice (some ⟨w.heap.size+1,0,none⟩) m1 nl)
  have x5:=BoxN.set1 b2 (.slice (some ⟨w.heap.size+1,0,none⟩) m1 nl)
  have x0':=b0.but' hS5 (by omega)
  have e0:=x5.c0
  have e1:=x5.c1
  have r0:=x0'.c0
  have r1:=x0'.c1
  have g0:=x0'.f 0
  have g1:=x0'.f 1
  have l0:=x0'.lt
  clear hm1 ht1 hl1
  gi_wp2
  have x6:=x0'.set0 (.bool m)
  have hS6:=sameBut_setCell (wt.setCell ⟨w.heap.size+2,1,none⟩ (.slice (some ⟨w.heap.size+1,0,none⟩) m1 nl)) w.heap.size 0 (.bool m)
  have x7:=x6.set1 (.slice (some ⟨w.heap.size+1,0,none⟩) m1 nl)
  have hS7:=sameBut_setCell ((wt.setCell ⟨w.heap.size+2,1,none⟩ (.slice (some ⟨w.heap.size+1,0,none⟩) m1 nl)).setCell ⟨w.heap.size,0,none⟩ (.bool m)) w.heap.size 1 (.slice (some ⟨w.heap.size+1,0,none⟩) m1 nl)
  have xl:=((HB1.out.but hS5 (by omega)).but hS6 (by omega)).but hS7 (by omega)
  have hBB:=hS7.below (hS6.below (hS5.below hB (by omega)) (Nat.le_refl _)) (Nat.le_refl _)
  refine leaves_marks w.heap.size [D] _ (by simp) (fun E hE=>?_) (fun W' hB' hcc=>?_)
  ·obtain rfl:E=D:=by simpa using hE
   exact ⟨by omega,(hS7.block _ (by omega)).trans ((hS6.block _ (by omega)).trans ((hS5.block _ (by omega)).trans hK))⟩
  ·have q0:=cell_keeps x7.c0 hcc
   have q1:=cell_keeps x7.c1 hcc
   have ld:(loadVar 207 ⟨w.heap.size,0,none⟩).run Tryz.prog W'=.ok (.agg #[.bool m,.slice (some ⟨w.heap.size+1,0,none⟩) m1 nl]) W':=by simp [go_sem,q0,q1]
   have hbl:BlkI W' (w.heap.size+1) l:=hcc _ _ xl rfl
   obtain ⟨hm1,ht1,hl1⟩:=HQ.out
   have hval:val l=(x.natAbs:Int):=by
    have h1:=HRA.out.fin
    rw [HDV.out] at h1
    exact h1
   refine ⟨_,results_cell1 Tryz.results128 rfl ld,_,rfl,⟨m,_,l.take m1,x.natAbs,rfl,hbl.isTake hm1 hll,⟨fun i=>by rw [hl1];exact HRA.out.digs i,ht1,(val_of_lim hl1).trans hval⟩,HM.out.symm,?_⟩,hBB.trans hB'⟩
   rw [List.length_take,hll]
   omega
 case stop =>
  rintro D c pre W _ _ h _
  exact h.elim
end Go.Proofs.YthihcjgmlbnapaaGreatDoor
namespace Go.Proofs.YthihcjgmlbnapaaGreatDoor
open Go.RowKit Go.Shelf
theorem itoa_sgn {m:Bool} {n:Int} (h:0 < n):Lib.itoa (sgnV m n)=(if m then [45] else [])++Lib.decDigits n.natAbs:=by
 cases m
 ·rcases itoa_cases n with ⟨h0,_⟩|⟨_,e⟩
  ·omega
  ·exact e
 ·show Lib.itoa (-n)=[45]++_
  rcases itoa_cases (-n) with ⟨_,e⟩|⟨h0,_⟩
  ·rw [e,Int.natAbs_neg];rfl
  ·omega
theorem write_none (m:Bool) (a:Option Addr) (cap:Nat) (w:World) :
  Calls Tryz.prog 172 #[.agg #[.bool m,.slice a 0 cap]] w (RetS [48] w):=by
 go_enter Tryz.func172,Tryz.ntmps172
 go_wp2_with fail
 go_ret
 exact ⟨⟨#[48]⟩,rfl,rfl,qbl⟩
theorem writeL_ok {z:Int} {k:Nat} (v:Value) (w:World) (hG:Glo w) (h:IsBig w v z k) (hk:k≤900):Calls Tryz.prog 172 #[v] w (RetS (Lib.itoa z) w):=by
 obtain ⟨m,u,l,n,rfl,hi,hn,rfl,hl⟩:=h
 by_cases h0:l.length=0
 ·obtain ⟨a,cap,rfl⟩:=hi.slice
  have hz:n=0:=hn.zero.1 h0
  rw [h0]
  have e:Lib.itoa (sgnV m n)=[48]:=by rw [hz];cases m<;>exact itoa_zero
  rw [e]
  exact write_none m a cap w
 ·have hp:0 < n:=by
   have h1:=hn.low h0
   have h2:=pw_pos (l.length - 1)
   omega
  rw [itoa_sgn hp]
  cases m
  ·exact write_plus u w hG hi hn (by omega) h0
  ·exact write_minus u w hG hi hn (by omega) h0
def Fit (n:Int):Prop:=(Lib.decDigits n.natAbs).length≤300
def RetX (z:Int) (w:World) (e:Ending) (w':World):Prop:=(Fit z→RetI z w e w')∧(¬ Fit z→e=.returned (.tuple #[.string ⟨#[]⟩,.int .i64 4])∧Below w.heap.size w w')
theorem result_ok {z:Int} {k:Nat} (v:Value) (w:World) (hG:Glo w) (h:IsBig w v z k) (hk:k≤900):Calls Tryz.prog 132 #[v] w (RetX z w):=by
 have HW:=Lib.hid (fun W (hB:Below w.heap.size w W)=>writeL_ok v W (hG.below hB) (h.below hB) hk)
 have HT:=Lib.hid (fun (s:ByteArray) (W:World) (hs:s.data.toList=Lib.itoa z)=>trimPrefix_any s ⟨#[45]⟩ W (a:=Lib.decDigits z.natAbs) (by rw [hs];exact (trim_itoa z).1))
 obtain ⟨m,u,l,n,rfl,hi,hn,hz,hl⟩:=h
 obtain ⟨a,cap,rfl⟩:=hi.slice
 clear hi hn hz hG
 go_enter Tryz.func132,Tryz.ntmps132
 go_wp2_with fail
 refine (HW.out _ qbl).mono ?_
 rintro e w1 ⟨s,hs,rfl,hB1⟩
 have HS:=Lib.hid hs
 have hb1:Below w.heap.size w w1:=qbl
 clear hs hB1
 go_wp2_with fail
 refine (HT.out s _ HS.out).mono ?_
 rintro e w2 ⟨o,ho,rfl,rfl⟩
 have hol:o.size=(Lib.decDigits z.natAbs).length:=by rw [← ho.out];rfl
 by_cases hf:Fit z
 ·have hle:¬ (300:Int) < (o.size:Int):=by unfold Fit at hf;omega
  clear ho hol
  go_wp2_with fail
  go_ret2
  exact ⟨fun _=>⟨s,HS.out,rfl,hb1⟩,fun h=>absurd hf h⟩
 ·have hle:(300:Int) < (o.size:Int):=by unfold Fit at hf;omega
  clear ho hol
  go_wp2_with fail
  go_ret2
  exact ⟨fun h=>absurd h hf,fun _=>⟨rfl,hb1⟩⟩
theorem small_long (s t:ByteArray) (w:World) (h:18 < s.size∨18 < t.size) :
  Calls Tryz.prog 127 #[.string s,.string t,.int .i64 18] w (RetB (.tuple #[.int .i64 0,.int .i64 0,.bool false]) w):=by
 by_cases h1:18 < s.size
 ·have h2:(18:Int) < (s.size:Int):=by omega
  go_enter Tryz.func127,Tryz.ntmps127
  go_wp2_with fail
  go_ret3
  exact ⟨rfl,qbl⟩
 ·have h2:¬ (18:Int) < (s.size:Int):=by omega
  have h3:(18:Int) < (t.size:Int):=by omega
  go_enter Tryz.func127,Tryz.ntmps127
  go_wp2_with fail
  go_ret3
  exact ⟨rfl,qbl⟩
end Go.Proofs.YthihcjgmlbnapaaGreatDoor
namespace Go.Proofs.YthihcjgmlbnapaaGreatDoor
open Go.RowKit Go.Shelf
theorem fit_of_lt {n:Int} (h:n.natAbs < 10 ^ 300):Fit n:=by
 unfold Fit
 rw [Lib.decDigits_length]
 exact nDigits_le_of_lt h (by omega)
theorem pow10_le {a b:Nat} (h:a≤b):10 ^ a≤10 ^ b:=Nat.pow_le_pow_right (by omega) h
theorem fit_iff (n:Int):Fit n↔n.natAbs < 10 ^ 300:=⟨fun h=>pow_le_of_lt (k:=300) h,fit_of_lt⟩
theorem RetI.x {z:Int} {w w':World} {e:Ending} (h:RetI z w e w') (hf:Fit z):RetX z w e w':=⟨fun _=>h,fun hn=>absurd hf hn⟩
theorem fit_size {x:Int} {s:ByteArray} (hs:s.data.toList=Lib.itoa x) (hx:Fit x):s.size≤301:=by
 have e:s.size=(Lib.itoa x).length:=by rw [← hs];rfl
 have h:=itoa_len_le (n:=x) (k:=300) ((fit_iff x).1 hx) (by omega)
 omega
theorem lt18 {x:Int} {s:ByteArray} (hs:s.data.toList=Lib.itoa x) (h:s.size≤18):x.natAbs < 10 ^ 18:=itoa_lt (by rw [← hs];exact h)
theorem fit18 {x:Int} (h:x.natAbs < 10 ^ 40):Fit x:=fit_of_lt (Nat.lt_of_lt_of_le h (pow10_le (a:=40) (b:=300) (by decide)))
theorem IsBig.parts {w:World} {v:Value} {z:Int} {k:Nat} (h:IsBig w v z k):∃ m a l c n,v=.agg #[.bool m,.slice a l.length c]∧IsInts w (.slice a l.length c) l∧Num l n∧z=sgnV m n∧l.length≤k:=by
 obtain ⟨m,u,l,n,rfl,hi,hn,hz,hl⟩:=h
 obtain ⟨a,c,rfl⟩:=hi.slice
 exact ⟨m,a,l,c,n,rfl,hi,hn,hz,hl⟩
theorem retX_val {z:Int} {w w':World} {e:Ending} (h:RetX z w e w'):∃ (r:ByteArray) (c:Int),e=.returned (.tuple #[.string r,.int .i64 c])∧RetX z w (.returned (.tuple #[.string r,.int .i64 c])) w'∧Below w.heap.size w w':=by
 by_cases hf:Fit z
 ·obtain ⟨r,hr,rfl,hB⟩:=h.1 hf
  exact ⟨r,0,rfl,h,hB⟩
 ·obtain ⟨rfl,hB⟩:=h.2 hf
  exact ⟨⟨#[]⟩,4,rfl,h,hB⟩
theorem RetX.trans {z:Int} {w W w':World} {e:Ending} (h:RetX z W e w') (hB:Below w.heap.size w W):RetX z w e w' :=
 ⟨fun hf=>by obtain ⟨r,hr,h1,h2⟩:=h.1 hf;exact ⟨r,hr,h1,below_trans' hB h2⟩,fun hf=>⟨(h.2 hf).1,below_trans' hB (h.2 hf).2⟩⟩
theorem Iadd_ok (x y:Int) (s t:ByteArray) (w:World) (hG:Glo w) (hs:s.data.toList=Lib.itoa x) (hx:Fit x) (ht:t.data.toList=Lib.itoa y) (hy:Fit y) :
  Calls Tryz.prog 71 #[.string s,.string t] w (RetX (x+y) w):=by
 have hsz:=fit_size hs hx
 have htz:=fit_size ht hy
 have HS:=Lib.hid hs
 have HT:=Lib.hid ht
 have HG:=Lib.hid hG
 have HX:=Lib.hid hx
 have HY:=Lib.hid hy
 by_cases hb:s.size≤18∧t.size≤18
 ·obtain ⟨hb1,hb2⟩:=hb
  have h1:=lt18 hs hb1
  have h2:=lt18 ht hb2
  clear hs ht hG hx hy
  go_enter Tryz.func71,Tryz.ntmps71
  go_wp2_with fail
  refine (Iboth_ok x y s t _ HS.out HX.out HT.out HY.out).mono ?_
  rintro e w1 ⟨rfl,hB1⟩
  go_wp2_with fail
  refine (Ismall_ok x y s t _ HS.out hb1 HT.out hb2).mono ?_
  rintro e w2 ⟨rfl,hB2⟩
  go_wp2_with fail
  refine (itoa_any (x+y) (by omega) (by omega) _ (HG.out.below qbl)).mono ?_
  rintro e w3 ⟨r,hr,rfl,hB3⟩
  have HR:=Lib.hid hr
  clear hr
  go_wp2_with fail
  go_ret2
  exact RetI.x ⟨r,HR.out,rfl,qbl⟩ (fit18 (by omega))
 ·clear hs ht hG hx hy
  go_enter Tryz.func71,Tryz.ntmps71
  go_wp2_with fail
  refine (Iboth_ok x y s t _ HS.out HX.out HT.out HY.out).mono ?_
  rintro e w1 ⟨rfl,hB1⟩
  go_wp2_with fail
  refine (small_long s t _ (by omega)).mono ?_
  rintro e w2 ⟨rfl,hB2⟩
  have hb2:Below w.heap.size w w2:=qbl
  clear hB1 hB2
  go_wp2_with fail
  refine (iread_ok x s _ HS.out (by omega)).mono ?_
  rintro e w3 ⟨v1,rfl,hv1,hB3⟩
  have hb3:Below w.heap.size w w3:=below_trans' hb2 hB3
  have HV1:=Lib.hid hv1
  obtain ⟨m1,a1,l1,c1,n1,rfl,_⟩:=hv1.parts
  clear hv1 hB3
  go_wp2_with fail
  refine (iread_ok y t _ HT.out (by omega)).mono ?_
  rintro e w4 ⟨v2,rfl,hv2,hB4⟩
  have hb4:Below w.heap.size w w4:=below_trans' hb3 hB4
  have HV1':=Lib.hid (HV1.out.below hB4)
  have HV2:=Lib.hid hv2
  obtain ⟨m2,a2,l2,c2,n2,rfl,_⟩:=hv2.parts
  clear hv2 hB4
  go_wp2_with fail
  refine (addL_ok _ _ _ HV1'.out HV2.out (by omega) (by omega)).mono ?_
  rintro e w5 ⟨v3,rfl,hv3,hB5⟩
  have hb5:Below w.heap.size w w5:=below_trans' hb4 hB5
  have HV3:=Lib.hid hv3
  obtain ⟨m3,a3,l3,c3,n3,rfl,_⟩:=hv3.parts
  clear hv3 hB5
  go_wp2_with fail
  refine (result_ok _ _ (HG.out.below hb5) HV3.out (by omega)).mono ?_
  intro e w6 hr
  obtain ⟨r,c,rfl,hr,hB6⟩:=retX_val hr
  have HR:=Lib.hid (hr.trans hb5)
  clear hr hB6
  go_wp2_with fail
  go_ret2
  exact HR.out
theorem Imul_ok (x y:Int) (s t:ByteArray) (w:World) (hG:Glo w) (hs:s.data.toList=Lib.itoa x) (hx:Fit x) (ht:t.data.toList=Lib.itoa y) (hy:Fit y) :
  Calls Tryz.prog 111 #[.string s,.string t] w (RetX (x * y) w):=by
 have hsz:=fit_size hs hx
 have htz:=fit_size ht hy
 by_cases hb:s.size+t.size≤18
 ·refine (Imul_small x y s t w hG hs ht hb).mono fun e w' h=>h.x (fit18 ?_)
  have h1:=lt18 hs (by omega)
  have h2:=lt18 ht (by omega)
  rw [Int.natAbs_mul]
  calc x.natAbs * y.natAbs < 10 ^ 18 * 10 ^ 18:=Nat.mul_lt_mul'' h1 h2
   _≤10 ^ 40:=by decide
 ·have HS:=Lib.hid hs
  have HT:=Lib.hid ht
  have HG:=Lib.hid hG
  have HX:=Lib.hid hx
  have HY:=Lib.hid hy
  have hlz:¬ ((s.size:Int)+(t.size:Int))≤18:=by omega
  have hlw:IntKind.i64.wrap ((s.size:Int)+(t.size:Int))=(s.size:Int)+(t.size:Int):=IntWalk.i64_in _ (by omega)
  clear hs ht hG hx hy
  go_enter Tryz.func111,Tryz.ntmps111
  go_wp2_with fail
  refine (Iboth_ok x y s t _ HS.out HX.out HT.out HY.out).mono ?_
  rintro e w1 ⟨rfl,hB1⟩
  have hb2:Below w.heap.size w w1:=qbl
  clear hB1
  go_wp2_with fail
  refine (iread_ok x s _ HS.out (by omega)).mono ?_
  rintro e w3 ⟨v1,rfl,hv1,hB3⟩
  have hb3:Below w.heap.size w w3:=below_trans' hb2 hB3
  have HV1:=Lib.hid hv1
  obtain ⟨m1,a1,l1,c1,n1,rfl,i1,d1,z1,q1⟩:=hv1.parts
  clear hv1 hB3
  go_wp2_with fail
  refine (iread_ok y t _ HT.out (by omega)).mono ?_
  rintro e w4 ⟨v2,rfl,hv2,hB4⟩
  have hb4:Below w.heap.size w w4:=below_trans' hb3 hB4
  have HV1':=Lib.hid (HV1.out.below hB4)
  have HV2:=Lib.hid hv2
  obtain ⟨m2,a2,l2,c2,n2,rfl,i2,d2,z2,q2⟩:=hv2.parts
  obtain ⟨i1,d1,z1,q1⟩:IsInts w4 (.slice a1 l1.length c1) l1∧Num l1 n1∧x=sgnV m1 n1∧l1.length≤(s.size+8) / 9:=⟨i1.below hB4,d1,z1,q1⟩
  clear hv2 hB4
  go_wp2_with fail
  have hb5:Below w.heap.size w ((w4.alloc (.cells #[.bool m1,.slice a1 l1.length c1] 207)).alloc (.cells #[.bool m2,.slice a2 l2.length c2] 207)):=qbl
  have x0:BoxN ((w4.alloc (.cells #[.bool m1,.slice a1 l1.length c1] 207)).alloc (.cells #[.bool m2,.slice a2 l2.length c2] 207)) w4.heap.size (.bool m1) (.slice a1 l1.length c1):=(BoxN.new rfl).below (bw4 (bw0 _ _) _)
  have x1:BoxN ((w4.alloc (.cells #[.bool m1,.slice a1 l1.length c1] 207)).alloc (.cells #[.bool m2,.slice a2 l2.length c2] 207)) (w4.heap.size+1) (.bool m2) (.slice a2 l2.length c2):=BoxN.new (by simp)
  have hBy:Below w4.heap.size w4 ((w4.alloc (.cells #[.bool m1,.slice a1 l1.length c1] 207)).alloc (.cells #[.bool m2,.slice a2 l2.length c2] 207)):=bw4 (bw4 (bw0 _ _) _) _
  generalize ((w4.alloc (.cells #[.bool m1,.slice a1 l1.length c1] 207)).alloc (.cells #[.bool m2,.slice a2 l2.length c2] 207))=W0 at *
  have HTM:=Lib.hid (fun (W:World) (hB:Below W0.heap.size W0 W)=>timesL_ok _ _ W ((i1.below hBy).below hB) ((i2.below hBy).below hB) d1 d2 (by omega) (by omega))
  have HSG:=Lib.hid (show x * y=sgnV (m1 != m2) (n1 * n2) by
   rw [z1,z2]
   cases m1<;>cases m2<;>simp [sgnV,Int.neg_mul,Int.mul_neg])
  have HRS:=Lib.hid (fun (W:World) (v:Value) (hB:Below W0.heap.size W0 W) (hv:IsBig W v (x * y) 200)=>result_ok v W (HG.out.below (below_trans' hb5 hB)) hv (by omega))
  have hR:Below W0.heap.size W0 W0.drew:=(bw0 _ _).drew
  clear i1 i2 d1 d2 z1 z2 hBy
  refine region_S (F:=[]) (R:=(fun w'=>Below W0.heap.size W0 w')) 16 #[false,false,false,false,false,false,false,false,false,false,false,false,false,false,false,false] (by kernel_rfl) (by kernel_rfl) (by kernel_rfl) (fun _ _ _ _ _ h=>h) (fun Q' hQ' hN=>?_)
  generalize W0.drew=wd at *
  refine tS 40 0 (hy:=by intro wq hRq;have e0:=(x0.below hRq).c0;have e1:=(x0.below hRq).c1;have e2:=(x1.below hRq).c0;have e3:=(x1.below hRq).c1;go_simp;(try with_reducible rfl)) ?_
  refine tS 41 1 (hy:=by intro wq hRq;have e0:=(x0.below hRq).c0;have e1:=(x0.below hRq).c1;have e2:=(x1.below hRq).c0;have e3:=(x1.below hRq).c1;go_simp;(try with_reducible rfl)) ?_
  refine tS 42 2 (hy:=by intro wq hRq;have e0:=(x0.below hRq).c0;have e1:=(x0.below hRq).c1;have e2:=(x1.below hRq).c0;have e3:=(x1.below hRq).c1;go_simp;(try with_reducible rfl)) ?_
  refine tS 43 3 (hy:=by intro wq hRq;have e0:=(x0.below hRq).c0;have e1:=(x0.below hRq).c1;have e2:=(x1.below hRq).c0;have e3:=(x1.below hRq).c1;go_simp;(try with_reducible rfl)) ?_
  refine tS 44 4 (hy:=by intro wq hRq;have e0:=(x0.below hRq).c0;have e1:=(x0.below hRq).c1;have e2:=(x1.below hRq).c0;have e3:=(x1.below hRq).c1;go_simp;(try with_reducible rfl)) ?_
  refine tS 45 5 (hy:=by intro wq hRq;have e0:=(x0.below hRq).c0;have e1:=(x0.below hRq).c1;have e2:=(x1.below hRq).c0;have e3:=(x1.below hRq).c1;go_simp;(try with_reducible rfl)) ?_
  refine tS 46 6 (hy:=by intro wq hRq;have e0:=(x0.below hRq).c0;have e1:=(x0.below hRq).c1;have e2:=(x1.below hRq).c0;have e3:=(x1.below hRq).c1;go_simp;(try with_reducible rfl)) ?_
  refine tS 47 7 (hy:=by intro wq hRq;have e0:=(x0.below hRq).c0;have e1:=(x0.below hRq).c1;have e2:=(x1.below hRq).c0;have e3:=(x1.below hRq).c1;go_simp;(try with_reducible rfl)) ?_
  refine tS 48 8 (hy:=by intro wq hRq;have e0:=(x0.below hRq).c0;have e1:=(x0.below hRq).c1;have e2:=(x1.below hRq).c0;have e3:=(x1.below hRq).c1;go_simp;(try with_reducible rfl)) ?_
  refine wpAnyS_ready (rs:=[9]) (by kernel_rfl) (by simp) ?_
  refine stepR (i:=9) rfl (by kernel_rfl) (fun K hK=>?_) (AllReadyS.nil)
  have hq:=HTM.out _ hR
  go_simp
  refine hq.mono ?_
  rintro e wn ⟨mt,lt,rfl,hbt,hlt,hmt,hnt,_,hBt⟩
  have HVT:Hid (IsBig wn (.agg #[.bool (m1 != m2),.slice (some ⟨wd.heap.size,0,none⟩) mt (l1.length+l2.length+1)]) (x * y) 200):=Lib.hid ⟨m1 != m2,_,lt.take mt,n1 * n2,rfl,hbt.isTake hmt hlt,hnt,HSG.out,by rw [List.length_take];omega⟩
  replace hR:Below W0.heap.size W0 wn:=below_trans' hR hBt
  clear hbt hlt hmt hnt hBt hq
  refine hK.out _ _ hR ?_
  clear hK K
  (try simp only [Act.put,bw7,bw8,bw9])
  refine tS 50 10 (hy:=by intro wq hRq;have e0:=(x0.below hRq).c0;have e1:=(x0.below hRq).c1;have e2:=(x1.below hRq).c0;have e3:=(x1.below hRq).c1;go_simp;(try with_reducible rfl)) ?_
  refine wpAnyS_ready (rs:=[11]) (by kernel_rfl) (by simp) ?_
  refine stepR (i:=11) rfl (by kernel_rfl) (fun K hK=>?_) (AllReadyS.nil)
  have hq:=HRS.out _ _ hR HVT.out
  go_simp
  refine hq.mono ?_
  intro e wm hr
  obtain ⟨r,c,rfl,hr,hBm⟩:=retX_val hr
  have HR:=Lib.hid (hr.trans (below_trans' hb5 hR))
  replace hR:Below W0.heap.size W0 wm:=below_trans' hR hBm
  clear hr hBm hq
  refine hK.out _ _ hR ?_
  clear hK K
  (try simp only [Act.put,bw7,bw8,bw9])
  refine tS 52 12 (hy:=by intro wq hRq;have e0:=(x0.below hRq).c0;have e1:=(x0.below hRq).c1;have e2:=(x1.below hRq).c0;have e3:=(x1.below hRq).c1;go_simp;(try with_reducible rfl)) ?_
  refine tS 53 13 (hy:=by intro wq hRq;have e0:=(x0.below hRq).c0;have e1:=(x0.below hRq).c1;have e2:=(x1.below hRq).c0;have e3:=(x1.below hRq).c1;go_simp;(try with_reducible rfl)) ?_
  refine tS 4 14 (hy:=by intro wq hRq;have e0:=(x0.below hRq).c0;have e1:=(x0.below hRq).c1;have e2:=(x1.below hRq).c0;have e3:=(x1.below hRq).c1;go_simp;(try with_reducible rfl)) ?_
  refine tS 5 15 (hy:=by intro wq hRq;have e0:=(x0.below hRq).c0;have e1:=(x0.below hRq).c1;have e2:=(x1.below hRq).c0;have e3:=(x1.below hRq).c1;go_simp;(try with_reducible rfl)) ?_
  refine wpAnyS_done (by kernel_rfl) ?_ _
  refine hN.out _ _ ?_
  go_wp2_with fail
  go_ret2
  exact HR.out
end Go.Proofs.YthihcjgmlbnapaaGreatDoor
namespace Go.Proofs.YthihcjgmlbnapaaGreatDoor
open Go.RowKit Go.Shelf
theorem divideL_ok {a b:List Int} {x y:Int} (va vb:Value) (w:World) (hva:IsInts w va a) (hvb:IsInts w vb b) (ha:Num a x) (hb:Num b y) (hal:a.length≤800) (hbl:b.length≤800) (hy:0 < y) :
  Calls Tryz.prog 139 #[va,vb] w (RetDiv (x / y) (x % y) (max a.length 1) w):=by
 by_cases hlt:x < y
 ·exact divide_less va vb w hva hvb ha hb (by omega) (by omega) hlt
 ·have hb0:b.length≠0:=fun h=>by have:=hb.zero.1 h;omega
  by_cases h1:b.length=1
  ·exact divide_one va vb w hva hvb ha hb (by omega) h1 (by omega)
  ·exact divide_long va vb w hva hvb ha hb hal hbl (by omega) (by omega)
theorem gcd_step {p q:Int} (hp:0≤p) (hq:0≤q):Int.gcd q (p % q)=Int.gcd p q:=by
 obtain ⟨P,rfl⟩:∃ P:Nat,p=P:=⟨p.toNat,by omega⟩
 obtain ⟨Q,rfl⟩:∃ Q:Nat,q=Q:=⟨q.toNat,by omega⟩
 have e:((P:Int) % (Q:Int))=((P % Q:Nat):Int):=by simp
 rw [e,Int.gcd_natCast_natCast,Int.gcd_natCast_natCast,Nat.gcd_comm Q,Nat.gcd_comm P]
 exact (Nat.gcd_rec Q P).symm
theorem run_fieldN (x:Value) (a:Option Addr) (n c:Nat) (w:World):(Instr.field 207 (.agg #[x,.slice a n c]) 1).run Tryz.prog w=.ok (.slice a n c) w:=by kernel_rfl
theorem IGcd_ok (x y:Int) (s t:ByteArray) (w:World) (hG:Glo w) (hs:s.data.toList=Lib.itoa x) (hx:Fit x) (ht:t.data.toList=Lib.itoa y) (hy:Fit y) :
  Calls Tryz.prog 100 #[.string s,.string t] w (RetX (Int.gcd x y:Nat) w):=by
 have hsz:=fit_size hs hx
 have htz:=fit_size ht hy
 by_cases hb:s.size≤18∧t.size≤18
 ·refine (Gcd_small x y s t w hG hs hb.1 ht hb.2).mono fun e w' h=>h.x ?_
  by_cases h0:x=0
  ·rw [h0,Int.gcd_zero_left]
   exact fit18 (by have:=lt18 ht hb.2;omega)
  ·have h1:=Nat.gcd_le_left y.natAbs (show 0 < x.natAbs by omega)
   exact fit18 (by have:=lt18 hs hb.1;unfold Int.gcd;omega)
 ·have HS:=Lib.hid hs
  have HT:=Lib.hid ht
  have HX:=Lib.hid hx
  have HY:=Lib.hid hy
  have HG:=Lib.hid hG
  have hfd:=run_fieldN
  clear hs ht hx hy hG
  go_enter Tryz.func100,Tryz.ntmps100
  go_wp2_with fail
  refine (Iboth_ok x y s t _ HS.out HX.out HT.out HY.out).mono ?_
  rintro e w1 ⟨rfl,hB1⟩
  go_wp2_with fail
  refine (small_long s t _ (by omega)).mono ?_
  rintro e w2 ⟨rfl,hB2⟩
  have hb2:Below w.heap.size w w2:=qbl
  clear hB1 hB2
  go_wp2_with fail
  refine (iread_ok x s _ HS.out (by omega)).mono ?_
  rintro e w3 ⟨v1,rfl,hv1,hB3⟩
  have hb3:Below w.heap.size w w3:=below_trans' hb2 hB3
  obtain ⟨m1,a1,l1,c1,n1,rfl,i1,d1,z1,q1⟩:=hv1.parts
  have HI1:=Lib.hid i1
  have Z1:=Lib.hid z1
  clear hv1 hB3 i1 z1
  go_wp2_with fail
  refine (iread_ok y t _ HT.out (by omega)).mono ?_
  rintro e w4 ⟨v2,rfl,hv2,hB4⟩
  have hb4:Below w.heap.size w w4:=below_trans' hb3 hB4
  obtain ⟨m2,a2,l2,c2,n2,rfl,i2,d2,z2,q2⟩:=hv2.parts
  have HI1':=Lib.hid (HI1.out.below hB4)
  have HI2:=Lib.hid i2
  have HD1:=Lib.hid d1
  have HD2:=Lib.hid d2
  have HG0:Hid (Int.gcd n1 n2=Int.gcd x y):=Lib.hid (by rw [Z1.out,z2];cases m1<;>cases m2<;>simp [sgnV])
  have hq1:l1.length≤40:=by omega
  have hq2:l2.length≤40:=by omega
  clear hv2 hB4 i2 d1 d2 z2 HI1
  go_wp2_with fail
  go_loopg [10,11] (n2.toNat) (fun g a b wr=>∃ (la lb:List Int) (pa pb:Option Addr) (ca cb:Nat) (p q:Int),g=q.toNat∧a=.slice pa la.length ca∧b=.slice pb lb.length cb∧Hid (IsInts wr (.slice pa la.length ca) la)∧Hid (IsInts wr (.slice pb lb.length cb) lb)∧Hid (Num la p)∧Hid (Num lb q)∧la.length≤40∧lb.length≤40∧Hid (Int.gcd p q=Int.gcd x y)∧Below w.heap.size w wr)
  case atStart=>exact ⟨l1,l2,a1,a2,c1,c2,n1,n2,rfl,rfl,rfl,HI1',HI2,HD1,HD2,hq1,hq2,HG0,hb4⟩
  case round =>
   clear hq1 hq2 HG0 HI1' HI2 HD1 HD2
   obtain ⟨la,lb,pa,pb,ca,cb,p,q,rfl,rfl,rfl,HIA,HIB,HDA,HDB,hla,hlb,HGG,hBr⟩:=hrel
   by_cases h0:lb.length=0
   ·have hn0:¬ (0:Int) < (lb.length:Int):=by omega
    have hq0:q=0:=HDB.out.zero.1 h0
    have hp0:=HDA.out.high.1
    have HZ:Hid (IsBig wr (.agg #[.bool false,.slice pa la.length ca]) (Int.gcd x y:Nat) 40):=Lib.hid ⟨false,_,la,p,rfl,HIA.out,HDA.out,by rw [← HGG.out,hq0,Int.gcd_zero_right];show ((p.natAbs:Nat):Int)=p;omega,hla⟩
    clear hq0
    go_wp2_with fail
    refine (result_ok _ _ (HG.out.below hBr) HZ.out (by omega)).mono ?_
    intro e w6 hr
    obtain ⟨r,c,rfl,hr,hB6⟩:=retX_val hr
    have HR:=Lib.hid (hr.trans hBr)
    clear hr hB6
    go_wp2_with fail
    go_ret2
    exact HR.out
   ·have hn0:(0:Int) < (lb.length:Int):=by omega
    have hq0:0 < q:=by
     have h1:=HDB.out.low h0
     have h2:=pw_pos (lb.length - 1)
     omega
    have HDV:=Lib.hid (divideL_ok _ _ wr HIA.out HIB.out HDA.out HDB.out (by omega) (by omega) hq0)
    go_wp2_with fail
    refine HDV.out.mono ?_
    rintro e wd ⟨lq,vq,lr,vr,rfl,iq,ir,nq,nr,kq,kr,hBd⟩
    obtain ⟨qa,qc,rfl⟩:=iq.slice
    obtain ⟨ra,rc,rfl⟩:=ir.slice
    have HIR:=Lib.hid ir
    have HNR:=Lib.hid nr
    have HIB':=Lib.hid (HIB.out.below hBd)
    have hBw:=hBr.trans (hBd.mono hBr.size)
    have hlr:lr.length≤40:=by omega
    have hr1:p % q < q:=Int.emod_lt_of_pos _ hq0
    have hr0:0≤p % q:=Int.emod_nonneg _ (by omega)
    have HG2:Hid (Int.gcd q (p % q)=Int.gcd x y):=Lib.hid (by rw [← HGG.out];exact gcd_step HDA.out.high.1 (by omega))
    clear iq ir nq nr kq kr hBd
    go_wp2_with fail
    go_roundg ((p % q).toNat)
    case rel=>exact ⟨lb,lr,pb,ra,cb,rc,q,p % q,rfl,rfl,rfl,HIB',HIR,HDB,HNR,hlb,hlr,HG2,hBw⟩
    case measure=>omega
end Go.Proofs.YthihcjgmlbnapaaGreatDoor
namespace Go.Proofs.YthihcjgmlbnapaaGreatDoor
open Go.RowKit Go.Shelf
theorem quo_nat (n x:Nat):((n:Int)).tdiv (x:Int)=((n / x:Nat):Int):=by rw [Int.tdiv_eq_ediv_of_nonneg (by omega)];simp
theorem smallRoot_ok (n:Nat) (s:ByteArray) (w:World) (hG:Glo w) (hs:s.data.toList=Lib.decDigits n) (h1:1≤n) (hl:s.size≤18) :
  Calls Tryz.prog 178 #[.string s] w (RetI (rootN n:Nat) w):=by
 have hn:n < 10 ^ 18:=pow_le_of_lt (by rw [← hs];exact hl)
 have hat:Lib.atoiAll s.data.toList=.ok (n:Int):=by rw [hs,← itoa_natCast];exact atoi_itoa (by omega) (by omega)
 have hn':n < 1000000000000000000:=hn
 have HAT:=Lib.hid hat
 have HG:=Lib.hid hG
 have hsz:s.size≤1000:=by omega
 clear hs hat hG hn
 go_enter Tryz.func178,Tryz.ntmps178
 go_wp2_with fail
 refine (atoi_any s _ (by omega) HAT.out).mono ?_
 rintro e w1 ⟨rfl,hB1⟩
 have hb1:Below w.heap.size w w1:=qbl
 clear hB1 HAT
 go_wp2_with fail
 go_loopw [6] (fun x wr=>∃ X:Nat,x=.int .i64 X∧1≤X∧X≤2000000000∧Below w.heap.size w wr) (fun x _=>2000000001 - (intOf x).toNat)
 case atStart=>exact ⟨1,rfl,by omega,by omega,hb1⟩
 case round =>
  obtain ⟨X,rfl,x1,x2,hB⟩:=hrel
  have hq:=quo_nat n X
  have hx0:¬ ((X:Int)=0):=by omega
  have hQ0:n / X≤n:=Nat.div_le_self _ _
  by_cases hlt:X < n / X
  ·have hX:X≤1000000000:=by
    refine Nat.le_of_not_lt fun hc=>?_
    have h3:n / X < X:=Nat.div_lt_of_lt_mul (Nat.lt_of_lt_of_le hn' (Nat.mul_le_mul (show 1000000000≤X by omega) (show 1000000000≤X by omega)))
    omega
   generalize n / X=Q at *
   have hltI:(X:Int) < (Q:Int):=by omega
   have hw:IntKind.i64.wrap ((X:Int) * 2)=(X:Int) * 2:=IntWalk.i64_in _ (by omega)
   have hwq:IntKind.i64.wrap (Q:Int)=(Q:Int):=IntWalk.i64_in _ (by omega)
   clear hlt hQ0
   go_wp2_with fail
   go_roundw
   case rel=>exact ⟨X * 2,by go_num,by omega,by omega,hB⟩
   case measure=>simp [intOf];omega
  ·have HLE:=Lib.hid (rootN_half x1 (Nat.not_lt.1 hlt))
   generalize n / X=Q at *
   have hltI:¬ (X:Int) < (Q:Int):=by omega
   have hwq:IntKind.i64.wrap (Q:Int)=(Q:Int):=IntWalk.i64_in _ (by omega)
   clear hlt hQ0
   go_wp2_with fail
   go_loopw [6] (fun x wr=>∃ Y:Nat,x=.int .i64 Y∧1≤Y∧Y≤2000000000∧Hid (rootN n≤Y)∧Below w.heap.size w wr) (fun x _=>(intOf x).toNat)
   case atStart=>exact ⟨X,rfl,x1,x2,HLE,hB⟩
   case round =>
    clear hB hq hltI hx0 hwq
    obtain ⟨Y,rfl,y1,y2,HY,hB⟩:=hrel
    have hq:=quo_nat n Y
    have hy0:¬ ((Y:Int)=0):=by omega
    have hQ2:n / Y≤1000000000000000000:=Nat.le_trans (Nat.div_le_self _ _) (by omega)
    obtain ⟨Z,hZ⟩:∃ Z,(Y+n / Y) / 2=Z:=⟨_,rfl⟩
    have HN1:=Lib.hid (newton_ge n y1)
    have HN2:=Lib.hid (fun h=>newton_eq (n:=n) HY.out h)
    rw [hZ] at HN1 HN2
    obtain ⟨Q,hQ⟩:∃ Q,n / Y=Q:=⟨_,rfl⟩
    rw [hQ] at hq hQ2 hZ
    have hw1:IntKind.i64.wrap ((Y:Int)+(Q:Int))=(Y:Int)+(Q:Int):=IntWalk.i64_in _ (by omega)
    have hq2:((Y:Int)+(Q:Int)).tdiv 2=(Z:Int):=by rw [Int.tdiv_eq_ediv_of_nonneg (by omega)];omega
    have hwz:IntKind.i64.wrap (Z:Int)=(Z:Int):=IntWalk.i64_in _ (by omega)
    have hwq:IntKind.i64.wrap (Q:Int)=(Q:Int):=IntWalk.i64_in _ (by omega)
    clear hQ hQ2
    by_cases hge:Y≤Z
    ·have HR:=Lib.hid (HN2.out hge)
     have hgeI:(Y:Int)≤(Z:Int):=by omega
     clear hge HN1 HN2
     go_wp2_with fail
     refine (itoa_any (Y:Int) (by omega) (by omega) _ (HG.out.below hB)).mono ?_
     rintro e w2 ⟨r,hr,rfl,hB2⟩
     have HX:=Lib.hid hr
     have hb2:=below_trans' hB hB2
     clear hr hB2
     go_wp2_with fail
     go_ret2
     exact ⟨r,by rw [HR.out];exact HX.out,rfl,hb2⟩
    ·have hgeI:¬ (Y:Int)≤(Z:Int):=by omega
     have hz1:1≤Z:=Nat.le_trans (le_rootN (by omega)) HN1.out
     clear HN2
     go_wp2_with fail
     go_roundw
     case rel=>exact ⟨Z,rfl,hz1,by omega,HN1,hB⟩
     case measure=>simp [intOf];omega
theorem num_len {l:List Int} {x:Int} {k:Nat} (h:Num l x) (hx:x < pw k):l.length≤k:=by
 refine Nat.le_of_not_lt fun hc=>?_
 have h0:l.length≠0:=by omega
 have h1:=h.low h0
 have h2:=pw_mono (show k≤l.length - 1 by omega)
 omega
theorem dec_pow10 (k:Nat):Lib.decDigits (10 ^ k)=49::List.replicate k 48:=by
 have h:=decDigits_cat (N:=1) (x:=0) (m:=k) (by decide) (Nat.pow_pos (by decide))
 rw [Nat.one_mul,Nat.add_zero] at h
 rw [h,show Lib.decDigits 1=[49] by decide +kernel]
 cases k with
 | zero=>rfl
 | succ k =>
  rw [pad_eq (Nat.pow_pos (by decide)),show Lib.decDigits 0=[48] by decide +kernel]
  simp [List.replicate_succ']
theorem repeat0_any (K:Nat) (w:World) (hK:K≤1000):Calls Tryz.prog 133 #[.string ⟨#[48]⟩,.int .i64 K] w fun e w'=>∃ r:ByteArray,r.data.toList=List.replicate K 48∧e=.returned (.string r)∧Below w.heap.size w w' :=
 (Tryz.strings_Repeat ⟨#[48]⟩ K w (by omega) (by show 1 * K≤_;omega)).mono fun _ _ ⟨he,hB⟩=>⟨⟨(Lib.repeatL [48] K).toArray⟩,by show (Lib.repeatL [48] K).toArray.toList=_;rw [List.toList_toArray,repeat_zero],he,hB⟩
theorem dec_len_mono {n m K:Nat} (h:n≤m) (hK:1≤K) (hm:(Lib.decDigits m).length≤K):(Lib.decDigits n).length≤K:=by
 have h1:=pow_le_of_lt hm
 rw [Lib.decDigits_length]
 exact nDigits_le_of_lt (Nat.lt_of_le_of_lt h h1) hK
theorem fit_lt {n m:Nat} (h:n≤m) (hm:Fit (m:Int)):Fit (n:Int):=by
 unfold Fit at *
 rw [Int.natAbs_natCast] at *
 exact dec_len_mono h (by decide) hm
theorem fit_root {n:Nat} {s:ByteArray} (hs:s.data.toList=Lib.decDigits n) (hl:s.size≤300):Fit ((rootN n:Nat):Int) :=
 fit_lt (Nat.le_trans (Nat.le_mul_self _) (rootN_spec n).1) (by unfold Fit;rw [Int.natAbs_natCast,← hs];exact hl)
theorem num_two:Num [2] 2:=num_one (by omega) (by omega)
theorem Root_ok (n:Nat) (s:ByteArray) (w:World) (hG:Glo w) (hs:s.data.toList=Lib.decDigits n) (hl:s.size≤300) :
  Calls Tryz.prog 134 #[.string s] w (RetI (rootN n:Nat) w):=by
 have hsi:s.data.toList=Lib.itoa (n:Int):=by rw [hs,itoa_natCast]
 have hF:Fit (n:Int):=by unfold Fit;rw [Int.natAbs_natCast,← hs];exact hl
 have HS:=Lib.hid hsi
 have HG:=Lib.hid hG
 have h0:0 < s.size:=by
  have:=decDigits_ne n
  rw [← hs] at this
  exact Nat.pos_of_ne_zero fun h=>this (List.length_eq_zero_iff.1 h)
 have h45:((s[0].toNat:Int) == 45)=false:=by
  refine Bool.eq_false_iff.2 fun h'=>?_
  have h2:=headq45 h0 h'
  rw [hs] at h2
  exact decDigits_no45 n [] (by rw [List.append_nil];exact h2)
 have HC:=Lib.hid (fun W=>ICheck_ok (n:Int) s W hsi hF)
 by_cases hn0:n=0
 ·subst hn0
  have e:s.toList=[48]:=by rw [Lib.toList_data,hs];decide +kernel
  have HR:Hid (s.data.toList=Lib.itoa ((rootN 0:Nat):Int)):=Lib.hid (by rw [hsi];rfl)
  have hE:(s.toList == [48])=true:=by rw [e];rfl
  clear hs hsi hF hG
  go_enter Tryz.func134,Tryz.ntmps134
  go_wp2_with fail
  refine (HC.out _).mono ?_
  rintro e w1 ⟨rfl,hB1⟩
  go_wp2_with fail
  go_ret2
  exact ⟨s,HR.out,rfl,qbl⟩
 ·have hE:(s.toList == [48])=false:=by
   rw [Lib.toList_data,hs]
   have:=dec_ne_zero (n:=n) (by omega)
   simpa using this
  by_cases h18:s.size≤18
  ·have HSR:=Lib.hid (fun W hG=>smallRoot_ok n s W hG hs (by omega) h18)
   have HRD:=Lib.hid (fun W=>iread_ok (n:Int) s W hsi (by omega))
   have h18':(s.size:Int)≤18:=by omega
   have hfd:=run_fieldN
   clear hs hsi hF hG
   go_enter Tryz.func134,Tryz.ntmps134
   go_wp2_with fail
   refine (HC.out _).mono ?_
   rintro e w1 ⟨rfl,hB1⟩
   have hb1:Below w.heap.size w w1:=qbl
   clear hB1
   go_wp2_with fail
   refine (HRD.out _).mono ?_
   rintro e w2 ⟨v1,rfl,hv1,hB2⟩
   have hb2:=below_trans' hb1 hB2
   obtain ⟨m1,a1,l1,c1,n1,rfl,i1,d1,z1,q1⟩:=hv1.parts
   clear hv1 hB2 i1 d1 z1 q1
   go_wp2_with fail
   refine (HSR.out _ (HG.out.below hb2)).mono ?_
   rintro e w3 ⟨r,hr,rfl,hB3⟩
   have hb3:=below_trans' hb2 hB3
   have HR:=Lib.hid hr
   clear hr hB3
   go_wp2_with fail
   go_ret2
   exact ⟨r,HR.out,rfl,hb3⟩
  ·have h18':decide ((s.size:Int)≤18)=false:=by simp;omega
   obtain ⟨K,hK⟩:∃ K,(s.size+1) / 2=K:=⟨_,rfl⟩
   have hK1:K≤150:=by omega
   have hn2:n < 10 ^ (2 * K):=Nat.lt_of_lt_of_le (pow_le_of_lt (k:=s.size) (by rw [← hs];exact Nat.le_refl _)) (Nat.pow_le_pow_right (by decide) (by omega))
   have hX0:=rootN_pow hn2
   have HRD:=Lib.hid (fun W=>iread_ok (n:Int) s W hsi (by omega))
   have HRP:=Lib.hid (fun W=>repeat0_any K W (by omega))
   have HTX:=Lib.hid (fun (r:ByteArray) (hr:r.data.toList=List.replicate K 48)=>(by
    rw [itoa_natCast,dec_pow10,← hr];simp:((⟨#[49]⟩:ByteArray)++r).data.toList=Lib.itoa ((10 ^ K:Nat):Int)))
   have hB10:((10 ^ K:Nat):Int) < pw 17:=by
    rw [pw_ten]
    exact_mod_cast Nat.lt_of_le_of_lt (Nat.pow_le_pow_right (by decide) hK1) (Nat.pow_lt_pow_right (by decide) (show 150 < 9 * 17 by decide))
   have hdk:(((s.size:Int)+1)).tdiv 2=(K:Int):=by rw [Int.tdiv_eq_ediv_of_nonneg (by omega)];omega
   have hwk:IntKind.i64.wrap ((s.size:Int)+1)=(s.size:Int)+1:=IntWalk.i64_in _ (by omega)
   have hwk2:IntKind.i64.wrap (K:Int)=(K:Int):=IntWalk.i64_in _ (by omega)
   have hX1:1≤10 ^ K:=Nat.pow_pos (by decide)
   have hlen34:s.size≤306:=by omega
   have HN0:=Lib.hid hn0
   have HFT:=Lib.hid (fit_root hs hl)
   obtain ⟨X0,hX00⟩:∃ X,10 ^ K=X:=⟨_,rfl⟩
   rw [hX00] at hX0 HTX hB10 hX1
   have HRX0:=Lib.hid hX0
   have HB10:=Lib.hid hB10
   have HX1:=Lib.hid hX1
   clear hs hsi hF hG hn2 hK hX00 hX0 hB10 hX1
   go_enter Tryz.func134,Tryz.ntmps134
   go_wp2_with fail
   refine (HC.out _).mono ?_
   rintro e w1 ⟨rfl,hB1⟩
   have hb1:Below w.heap.size w w1:=qbl
   clear hB1
   go_wp2_with fail
   refine (HRD.out _).mono ?_
   rintro e w2 ⟨v1,rfl,hv1,hB2⟩
   have hb2:=below_trans' hb1 hB2
   obtain ⟨m1,a1,l1,c1,n1,rfl,i1,d1,z1,q1⟩:=hv1.parts
   have HI1:=Lib.hid i1
   have HD1:=Lib.hid d1
   have hnn:=d1.high.1
   have HN1:Hid (n1=(n:Int)):=Lib.hid (by cases m1<;>simp [sgnV] at z1<;>omega)
   have hl1:l1.length≤34:=by omega
   clear hv1 hB2 i1 d1 z1 q1 hb1 hnn HRD
   have hfd:=run_fieldN (.bool m1) a1 l1.length c1 w2
   go_wp2_with fail
   refine (HRP.out _).mono ?_
   rintro e w3 ⟨r3,hr3,rfl,hB3⟩
   have hb3:Below w.heap.size w w3:=below_trans' hb2 hB3
   have HT3:=Lib.hid (HTX.out r3 hr3)
   have HS3:Hid (((⟨#[49]⟩:ByteArray)++r3).size≤151):=Lib.hid (by
    have h1:((⟨#[49]⟩:ByteArray)++r3).size=((⟨#[49]⟩:ByteArray)++r3).data.toList.length:=rfl
    rw [h1];simp [hr3];omega)
   have hz3:r3.size≤150:=by
    have h1:r3.size=r3.data.toList.length:=rfl
    rw [h1,hr3];simp;omega
   clear hr3
   have HI1:=Lib.hid (HI1.out.below hB3)
   clear hB3 HRP hfd
   go_wp2_with fail
   generalize ((⟨#[49]⟩:ByteArray)++r3)=TX at *
   refine (iread_ok (X0:Int) TX _ HT3.out (by have:=HS3.out;omega)).mono ?_
   rintro e w4 ⟨v2,rfl,hv2,hB4⟩
   have hb4:Below w.heap.size w w4:=below_trans' hb3 hB4
   obtain ⟨m2,a2,l2,c2,n2,rfl,i2,d2,z2,q2⟩:=hv2.parts
   have HI1:=Lib.hid (HI1.out.below hB4)
   have HI2:=Lib.hid i2
   have hnn:=d2.high.1
   have hn2:n2=(X0:Int):=by cases m2<;>simp [sgnV] at z2<;>omega
   have HD2:Hid (Num l2 (X0:Int)):=Lib.hid (by rw [← hn2];exact d2)
   have hl2:l2.length≤17:=num_len HD2.out HB10.out
   have hfd:=run_fieldN (.bool m2) a2 l2.length c2 w4
   have HD1':Hid (Num l1 (n:Int)):=Lib.hid (by rw [← HN1.out];exact HD1.out)
   clear hv2 hB4 i2 d2 z2 q2 hnn hn2 HT3 HS3 hb3 hb2 HD1
   go_wp2_with fail
   clear hfd
   go_loopg [6] X0 (fun g x wr=>∃ (X:Nat) (l:List Int) (p:Option Addr) (c:Nat),X=g∧x=.slice p l.length c∧Hid (IsInts wr (.slice p l.length c) l)∧Hid (Num l (X:Int))∧l.length≤17∧Hid (rootN n≤X)∧Hid ((X:Int) < pw 17)∧Below w4.heap.size w4 wr)
   case atStart=>exact ⟨X0,l2,a2,c2,rfl,rfl,HI2,HD2,hl2,HRX0,HB10,bw0 _ _⟩
   case round =>
    clear HI2 HD2 hl2 HRX0 HB10
    obtain ⟨X,l,p,c,hgX,rfl,HI,HD,hl,HR,HB,hBr⟩:=hrel
    subst hgX
    have hX1:1≤X:=Nat.le_trans (le_rootN (by have:=HN0.out;omega)) HR.out
    have HXP:=Lib.hid hX1
    have hbr:=hb4.trans (hBr.mono hb4.size)
    have HDV:=Lib.hid (divideL_ok _ _ wr (HI1.out.below hBr) HI.out HD1'.out HD.out (by omega) (by omega) (by omega))
    obtain ⟨Z,hZ⟩:∃ Z,(X+n / X) / 2=Z:=⟨_,rfl⟩
    have HNG:=Lib.hid (newton_ge n hX1)
    have HNE:=Lib.hid (fun h=>newton_eq (n:=n) HR.out h)
    rw [hZ] at HNG HNE
    have HZ:=Lib.hid hZ
    clear hZ hX1
    go_wp2_with fail
    refine HDV.out.mono ?_
    rintro e wd ⟨lq,vq,lr,vr,rfl,iq,ir,nq,nr,kq,kr,hBd⟩
    obtain ⟨qa,qc,rfl⟩:=iq.slice
    obtain ⟨ra,rc,rfl⟩:=ir.slice
    have HIX:=Lib.hid (HI.out.below hBd)
    have HPL:=Lib.hid (plusL_ok _ _ wd HIX.out iq HD.out nq (by omega) (by omega))
    have hBd2:=below_trans' hBr hBd
    clear iq ir nq nr kr hBd HDV hBr hbr
    go_wp2_with fail
    refine HPL.out.mono ?_
    rintro e ws ⟨ls,vs,rfl,os,ns,ks,hBs⟩
    obtain ⟨sa,sc,rfl⟩:=os.is.slice
    have HIX:=Lib.hid (HIX.out.below hBs)
    have hBs2:=below_trans' hBd2 hBs
    have HIS:=Lib.hid (os.is.below (bw4 (bw0 _ _) (.cells #[.int .i64 2] 3)))
    have HNS:=Lib.hid ns
    have hks:ls.length≤40:=by omega
    clear os ns ks hBs HPL hBd2
    go_wp2_with fail
    have h2i:IsInts (ws.alloc (.cells #[.int .i64 2] 3)) (.slice (some ⟨ws.heap.size,0,none⟩) 1 1) [2]:=⟨some ⟨ws.heap.size,0,none⟩,1,rfl,by decide,fun _=>⟨ws.heap.size,0,rfl,fun k hk=>by
     obtain rfl:k=0:=by simp at hk;omega
     simp [go_sem,lim]⟩⟩
    have HDV:=Lib.hid (divideL_ok _ _ _ HIS.out h2i HNS.out num_two (by omega) (by decide) (by decide))
    have HB3:Below w4.heap.size w4 (ws.alloc (.cells #[.int .i64 2] 3)):=bw4 hBs2 _
    have HIX:=Lib.hid (HIX.out.below (bw4 (bw0 _ _) (.cells #[.int .i64 2] 3)))
    clear h2i HIS HNS hBs2
    refine HDV.out.mono ?_
    rintro e we ⟨ln,vn,lm,vm,rfl,inn,imm,nn,nm,kn,km,hBe⟩
    obtain ⟨na,nc,rfl⟩:=inn.slice
    obtain ⟨ma,mc,rfl⟩:=imm.slice
    have eZ:(((X:Int)+(n:Int) / (X:Int)) / 2)=(Z:Int):=by
     rw [← HZ.out];push_cast;rfl
    rw [eZ] at nn
    have HNZ:=Lib.hid nn
    have HIN:=Lib.hid inn
    have HIX:=Lib.hid (HIX.out.below hBe)
    have HBe:=below_trans' HB3 hBe
    have hln:ln.length≤41:=by omega
    have HCM:=Lib.hid (compareL_ok _ _ we inn HIX.out nn HD.out (by omega) (by omega))
    clear inn imm nn nm kn km hBe HB3 HDV eZ
    go_wp2_with fail
    refine HCM.out.mono ?_
    rintro e wf ⟨r,rfl,hr1,hr2,hBf⟩
    have HBf:=below_trans' HBe hBf
    by_cases hge:0≤r
    ·have HRX:Hid (rootN n=X):=Lib.hid (HNE.out (by
      refine Nat.le_of_not_lt fun hc=>?_
      have:=hr1.2 (by omega)
      omega))
     have hgb:decide (0≤r)=true:=by simpa using hge
     have HBG:Hid (IsBig wf (.agg #[.bool false,.slice p l.length c]) (X:Int) 17):=Lib.hid ⟨false,_,l,X,rfl,HIX.out.below hBf,HD.out,rfl,hl⟩
     clear hr1 hr2 hBf HCM hge
     go_wp2_with fail
     refine (result_ok _ _ (HG.out.below (hb4.trans (HBf.mono hb4.size))) HBG.out (by omega)).mono ?_
     intro e wg hrr
     obtain ⟨rr,hr9,rfl,hBg⟩:=hrr.1 (by rw [← HRX.out];exact HFT.out)
     have HRR:=Lib.hid hr9
     clear hr9 hrr
     go_wp2_with fail
     go_ret2
     exact ⟨rr,by rw [HRX.out];exact HRR.out,rfl,below_trans' (hb4.trans (HBf.mono hb4.size)) hBg⟩
    ·have hgb:decide (0≤r)=false:=by simpa using hge
     have hlt:Z < X:=by
      have:=hr1.1 (by omega)
      omega
     have hZB:Hid ((Z:Int) < pw 17):=Lib.hid (by have:=HB.out;omega)
     have hl17:ln.length≤17:=num_len HNZ.out hZB.out
     have HIN:=Lib.hid (HIN.out.below hBf)
     clear hr1 hr2 hBf HCM hge
     go_wp2_with fail
     go_roundg Z
     case rel=>exact ⟨Z,ln,na,nc,rfl,rfl,HIN,HNZ,hl17,HNG,hZB,HBf⟩
     case measure=>omega
end Go.Proofs.YthihcjgmlbnapaaGreatDoor
namespace Go.Proofs.YthihcjgmlbnapaaGreatDoor
open Go.RowKit Go.Shelf
def RetQR (q r:Int) (w:World) (e:Ending) (w':World):Prop:=∃ a b:ByteArray,a.data.toList=Lib.itoa q∧b.data.toList=Lib.itoa r∧e=.returned (.tuple #[.string a,.string b,.int .i64 0])∧Below w.heap.size w w'
theorem sgn_div {m:Bool} {n y:Int} (hy:0 < y) (hc:n % y=0∨m=false):sgnV m n / y=sgnV m (n / y)∧sgnV m n % y=n % y:=by
 cases m
 ·exact ⟨rfl,rfl⟩
 ·have h0:n % y=0:=hc.resolve_right (by simp)
  have hd:y ∣ n:=Int.dvd_of_emod_eq_zero h0
  refine ⟨?_,?_⟩
  ·show -n / y=-(n / y)
   exact Int.neg_ediv_of_dvd hd
  ·show -n % y=n % y
   rw [h0]
   exact Int.emod_eq_zero_of_dvd (Int.dvd_neg.2 hd)
theorem fit_le {a b:Int} (h:a.natAbs≤b.natAbs) (hb:Fit b):Fit a:=fit_of_lt (Nat.lt_of_le_of_lt h ((fit_iff b).1 hb))
theorem IDivide_ok (x y:Int) (s t:ByteArray) (w:World) (hG:Glo w) (hs:s.data.toList=Lib.itoa x) (hx:Fit x) (ht:t.data.toList=Lib.itoa y) (hy:Fit y) (hy0:0 < y) (hc:x % y=0∨0≤x) :
  Calls Tryz.prog 81 #[.string s,.string t] w (RetQR (x / y) (x % y) w):=by
 have hsz:=fit_size hs hx
 have htz:=fit_size ht hy
 by_cases hb:s.size≤18∧t.size≤18
 ·exact Divide_small x y s t w hG hs hb.1 ht hb.2 hy0
 ·have hne:(t.toList == [48])=false:=ne_of_list ht (itoa_ne0 (by omega))
  have hfq:Fit (x / y):=fit_le (by
   rcases hc with h|h
   ·have e:x=x / y * y:=by have:=Int.mul_ediv_add_emod x y;rw [h] at this;rw [Int.mul_comm];omega
    rw [e,Int.mul_ediv_cancel _ (by omega),Int.natAbs_mul]
    exact Nat.le_mul_of_pos_right _ (by omega)
   ·have h1:=Int.ediv_nonneg h (show 0≤y by omega)
    have h2:=Int.ediv_le_self y h
    omega) hx
  have hfr:Fit (x % y):=fit_le (by
   have h1:=Int.emod_nonneg x (show y≠0 by omega)
   have h2:=Int.emod_lt_of_pos x hy0
   omega) hy
  have HS:=Lib.hid hs
  have HT:=Lib.hid ht
  have HX:=Lib.hid hx
  have HY:=Lib.hid hy
  have HG:=Lib.hid hG
  have HFQ:=Lib.hid hfq
  have HFR:=Lib.hid hfr
  clear hs ht hx hy hG hfq hfr
  go_enter Tryz.func81,Tryz.ntmps81
  go_wp2_with fail
  refine (Iboth_ok x y s t _ HS.out HX.out HT.out HY.out).mono ?_
  rintro e w1 ⟨rfl,hB1⟩
  go_wp2_with fail
  refine (small_long s t _ (by omega)).mono ?_
  rintro e w2 ⟨rfl,hB2⟩
  have hb2:Below w.heap.size w w2:=qbl
  clear hB1 hB2
  go_wp2_with fail
  refine (iread_ok x s _ HS.out (by omega)).mono ?_
  rintro e w3 ⟨v1,rfl,hv1,hB3⟩
  have hb3:Below w.heap.size w w3:=below_trans' hb2 hB3
  obtain ⟨m1,a1,l1,c1,n1,rfl,i1,d1,z1,q1⟩:=hv1.parts
  have HI1:=Lib.hid i1
  have Z1:=Lib.hid z1
  clear hv1 hB3 i1 z1
  go_wp2_with fail
  refine (iread_ok y t _ HT.out (by omega)).mono ?_
  rintro e w4 ⟨v2,rfl,hv2,hB4⟩
  have hb4:Below w.heap.size w w4:=below_trans' hb3 hB4
  obtain ⟨m2,a2,l2,c2,n2,rfl,i2,d2,z2,q2⟩:=hv2.parts
  have hn2:=d2.high.1
  obtain rfl:m2=false:=by
   cases m2
   ·rfl
   ·exfalso;simp [sgnV] at z2;omega
  obtain rfl:n2=y:=z2.symm
  have hn1:=d1.high.1
  have hcc:n1 % n2=0∨m1=false:=by
   rcases hc with h|h
   ·cases m1
    ·exact .inr rfl
    ·left
     rw [Z1.out] at h
     have hd:n2 ∣ -n1:=Int.dvd_of_emod_eq_zero h
     exact Int.emod_eq_zero_of_dvd (Int.dvd_neg.1 hd)
   ·cases m1
    ·exact .inr rfl
    ·left
     rw [Z1.out] at h
     have:n1=0:=by simp [sgnV] at h;omega
     rw [this];rfl
  obtain ⟨e1,e2⟩:=sgn_div hy0 hcc
  have E1:=Lib.hid e1
  have E2:=Lib.hid e2
  have HCC:=Lib.hid hcc
  have HB0:=Lib.hid (And.intro (HI1.out.below hB4) (And.intro i2 (And.intro d1 d2)))
  have hq1:l1.length≤40:=by omega
  have hq2:l2.length≤40:=by omega
  clear hv2 hB4 i2 d1 d2 z2 HI1 hcc e1 e2 hc
  have HDV:=Lib.hid (fun (W:World) (hB:Below w4.heap.size w4 W)=>divideL_ok _ _ W (HB0.out.1.below hB) (HB0.out.2.1.below hB) HB0.out.2.2.1 HB0.out.2.2.2 (by omega) (by omega) hy0)
  have hBy:Below w4.heap.size w4 ((w4.alloc (.cells #[.bool m1,.slice a1 l1.length c1] 207)).alloc (.cells #[.bool false,.slice a2 l2.length c2] 207)):=bw4 (bw4 (bw0 _ _) _) _
  go_wp2_with fail
  refine (HDV.out _ hBy).mono ?_
  rintro e w5 ⟨lq,vq,lr,vr,rfl,iq,ir,nq,nr,kq,kr,hB5⟩
  obtain ⟨qa,qc,rfl⟩:=iq.slice
  obtain ⟨ra,rc,rfl⟩:=ir.slice
  have hb5:Below w.heap.size w w5:=below_trans' (below_trans' hb4 hBy) hB5
  have x0:BoxN w5 w4.heap.size (.bool m1) (.slice a1 l1.length c1):=((BoxN.new rfl).below (bw4 (bw0 _ _) _)).below hB5
  have x1:BoxN w5 (w4.heap.size+1) (.bool false) (.slice a2 l2.length c2):=(BoxN.new (by simp)).below hB5
  have HQ:Hid (IsBig w5 (.agg #[.bool m1,.slice qa lq.length qc]) (x / n2) 40):=Lib.hid ⟨m1,_,lq,_,rfl,iq,nq,by rw [Z1.out];exact E1.out,by omega⟩
  have HR:Hid (IsBig w5 (.agg #[.bool false,.slice ra lr.length rc]) (x % n2) 40):=Lib.hid ⟨false,_,lr,_,rfl,ir,nr,by rw [Z1.out];exact E2.out,by omega⟩
  have hlr:m1=true→lr.length=0:=fun hm=>nr.zero.2 (HCC.out.resolve_right (by rw [hm];simp))
  have p0:=x0.c0
  have p1:=x0.c1
  have p2:=x1.c0
  have p3:=x1.c1
  clear iq ir nq nr kq kr hB5 hBy HDV HB0 x0 x1
  cases m1
  ·go_wp2_with fail
   refine (result_ok _ _ (HG.out.below hb5) HQ.out (by omega)).mono ?_
   intro e w6 hr
   obtain ⟨rq,hrq,rfl,hB6⟩:=hr.1 HFQ.out
   have HRQ:=Lib.hid hrq
   have p4:=keep hB6 p2
   have hb6:=below_trans' hb5 hB6
   have HR':=Lib.hid (HR.out.below hB6)
   clear hr hrq
   go_wp2_with fail
   refine (result_ok _ _ (HG.out.below hb6) HR'.out (by omega)).mono ?_
   intro e w7 hr
   obtain ⟨rr,hrr,rfl,hB7⟩:=hr.1 HFR.out
   have HRR:=Lib.hid hrr
   have hb7:=below_trans' hb6 hB7
   clear hr hrr
   go_wp2_with fail
   go_ret3
   exact ⟨rq,rr,HRQ.out,HRR.out,rfl,hb7⟩
  ·have hl0:=hlr rfl
   have hl1:¬ (0:Int) < (lr.length:Int):=by omega
   clear hl0 hlr
   go_wp2_with fail
   refine (result_ok _ _ (HG.out.below hb5) HQ.out (by omega)).mono ?_
   intro e w6 hr
   obtain ⟨rq,hrq,rfl,hB6⟩:=hr.1 HFQ.out
   have HRQ:=Lib.hid hrq
   have p4:=keep hB6 p2
   have hb6:=below_trans' hb5 hB6
   have HR':=Lib.hid (HR.out.below hB6)
   clear hr hrq
   go_wp2_with fail
   refine (result_ok _ _ (HG.out.below hb6) HR'.out (by omega)).mono ?_
   intro e w7 hr
   obtain ⟨rr,hrr,rfl,hB7⟩:=hr.1 HFR.out
   have HRR:=Lib.hid hrr
   have hb7:=below_trans' hb6 hB7
   clear hr hrr
   go_wp2_with fail
   go_ret3
   exact ⟨rq,rr,HRQ.out,HRR.out,rfl,hb7⟩
end Go.Proofs.YthihcjgmlbnapaaGreatDoor
namespace Go.Proofs.YthihcjgmlbnapaaGreatDoor
open Go.RowKit Go.Shelf
theorem sgnV_not (m:Bool) (n:Int):sgnV (!m) n=- sgnV m n:=by cases m<;>simp [sgnV]
theorem compareInt_of {x y:Int} {c:Int} (h0:c=0↔x=y) (h1:c=-1↔x < y) (h2:c=0∨c=-1∨c=1):Lib.compareInt x y=c:=by
 unfold Lib.compareInt
 split<;>(try split)<;>omega
theorem ICompare_ok (x y:Int) (s t:ByteArray) (w:World) (hs:s.data.toList=Lib.itoa x) (hx:Fit x) (ht:t.data.toList=Lib.itoa y) (hy:Fit y) :
  Calls Tryz.prog 67 #[.string s,.string t] w (RetB (.tuple #[.int .i64 (Lib.compareInt x y),.int .i64 0]) w):=by
 have hsz:=fit_size hs hx
 have htz:=fit_size ht hy
 by_cases hb:s.size≤18∧t.size≤18
 ·exact ICompare_small x y s t w hs hb.1 ht hb.2
 ·have HS:=Lib.hid hs
  have HT:=Lib.hid ht
  have HX:=Lib.hid hx
  have HY:=Lib.hid hy
  clear hs ht hx hy
  go_enter Tryz.func67,Tryz.ntmps67
  go_wp2_with fail
  refine (Iboth_ok x y s t _ HS.out HX.out HT.out HY.out).mono ?_
  rintro e w1 ⟨rfl,hB1⟩
  go_wp2_with fail
  refine (small_long s t _ (by omega)).mono ?_
  rintro e w2 ⟨rfl,hB2⟩
  have hb2:Below w.heap.size w w2:=qbl
  clear hB1 hB2
  go_wp2_with fail
  refine (iread_ok x s _ HS.out (by omega)).mono ?_
  rintro e w3 ⟨v1,rfl,hv1,hB3⟩
  have hb3:Below w.heap.size w w3:=below_trans' hb2 hB3
  have HV1:=Lib.hid hv1
  obtain ⟨m1,a1,l1,c1,n1,rfl,_⟩:=hv1.parts
  clear hv1 hB3
  go_wp2_with fail
  refine (iread_ok y t _ HT.out (by omega)).mono ?_
  rintro e w4 ⟨v2,rfl,hv2,hB4⟩
  have hb4:Below w.heap.size w w4:=below_trans' hb3 hB4
  have HV1':=Lib.hid (HV1.out.below hB4)
  obtain ⟨m2,a2,l2,c2,n2,rfl,i2,d2,z2,q2⟩:=hv2.parts
  have HV2:Hid (IsBig w4 (.agg #[.bool (!m2),.slice a2 l2.length c2]) (-y) ((t.size+8) / 9)):=Lib.hid ⟨!m2,_,l2,n2,rfl,i2,d2,by rw [sgnV_not,z2],q2⟩
  clear hv2 hB4 i2 d2 z2 q2
  go_wp2_with fail
  refine (addL_ok _ _ _ (HV1'.out.below qbl) (HV2.out.below qbl) (by omega) (by omega)).mono ?_
  rintro e w5 ⟨v3,rfl,hv3,hB5⟩
  have hb5:Below w.heap.size w w5:=qbl
  obtain ⟨m3,a3,l3,c3,n3,rfl,i3,d3,z3,_⟩:=hv3.parts
  have hz:=d3.zero
  have hnn:=d3.high.1
  clear hv3 hB5 i3 d3 HV1 HV1' HV2
  by_cases h0:l3.length=0
  ·have h0b:((l3.length:Int) == 0)=true:=by rw [h0];rfl
   have hc:Lib.compareInt x y=0:=compareInt_of (by have:=hz.1 h0;rw [this] at z3;cases m3<;>simp [sgnV] at z3<;>omega) (by have:=hz.1 h0;rw [this] at z3;cases m3<;>simp [sgnV] at z3<;>omega) (by omega)
   have HC:=Lib.hid hc
   clear hz z3 hc h0
   go_wp2_with fail
   go_ret2
   exact ⟨by rw [HC.out];rfl,qbl⟩
  ·have h0b:((l3.length:Int) == 0)=false:=by rw [beq_eq_false_iff_ne];omega
   have hne:n3≠0:=fun h=>h0 (hz.2 h)
   cases m3
   ·have hc:Lib.compareInt x y=1:=compareInt_of (by simp [sgnV] at z3;omega) (by simp [sgnV] at z3;omega) (by omega)
    have HC:=Lib.hid hc
    clear hz z3 hc h0
    go_wp2_with fail
    go_ret2
    exact ⟨by rw [HC.out];rfl,qbl⟩
   ·have hc:Lib.compareInt x y=-1:=compareInt_of (by simp [sgnV] at z3;omega) (by simp [sgnV] at z3;omega) (by omega)
    have HC:=Lib.hid hc
    clear hz z3 hc h0
    go_wp2_with fail
    go_ret2
    exact ⟨by rw [HC.out];rfl,qbl⟩
end Go.Proofs.YthihcjgmlbnapaaGreatDoor
namespace Go.Proofs.YthihcjgmlbnapaaGreatDoor
open Go.RowKit
theorem quick_none (F:Nat) (s t:ByteArray) (w:World) (hs:s.size≤1000) (h:natOf s.data.toList=none) :
  Calls Tryz.prog 74 #[.string s,.string t,.func (.func F) #[] #[]] w (RetB (.tuple #[.string ⟨#[]⟩,.bool false]) w):=by
 have HN:=Lib.hid h
 clear h
 go_enter Tryz.func74,Tryz.ntmps74
 go_wp2_with fail
 refine (nativeOf_none s _ hs HN.out).mono ?_
 rintro e w1 ⟨rfl,hB1⟩
 go_wp2_with fail
 go_ret2
 exact ⟨rfl,qbl⟩
theorem both_gen {p q r:Rat} (F:Nat) (s t:ByteArray) (w:World) (hG:Glo w)
  (hs:∀ W,Glo W→Calls Tryz.prog 54 #[.string s] W (RetP p (.int .i64 0) W)) (ht:∀ W,Glo W→Calls Tryz.prog 54 #[.string t] W (RetP q (.int .i64 0) W))
  (hE:∀ args w,(callFunc F args).run Tryz.prog w=.ok (.enter F args) w)
  (hF:∀ (a b c d:ByteArray) W,Glo W→a.data.toList=Lib.itoa p.num→b.data.toList=Lib.decDigits p.den→c.data.toList=Lib.itoa q.num→d.data.toList=Lib.decDigits q.den→Calls Tryz.prog F #[.agg #[.string a,.string b],.agg #[.string c,.string d]] W (RetN r W)) :
  Calls Tryz.prog 76 #[.string s,.string t,.func (.func F) #[] #[]] w (RetN r w):=by
 have HS:=Lib.hid hs
 have HT:=Lib.hid ht
 have HG:=Lib.hid hG
 have HF:=Lib.hid hF
 clear hs ht hG hF
 go_enter Tryz.func76,Tryz.ntmps76
 go_wp2_with fail
 refine (HS.out _ (HG.out.below qbl)).mono ?_
 rintro e w1 ⟨a,b,ha,hb,rfl,hB1⟩
 have hb1:Below w.heap.size w w1:=qbl
 clear hB1
 go_wp2_with fail
 refine (HT.out _ (HG.out.below qbl)).mono ?_
 rintro e w2 ⟨c,d,hc,hd,rfl,hB2⟩
 have hb2:Below w.heap.size w w2:=qbl
 have c1:w2.cell? ⟨w1.heap.size,0,none⟩=some (.string a):=keep hB2 (by simp [go_sem])
 have c2:w2.cell? ⟨w1.heap.size,1,none⟩=some (.string b):=keep hB2 (by simp [go_sem])
 have z1:=lt_of_cell c1
 clear hB2
 go_wp2_with fail
 refine (HF.out a b c d _ (HG.out.below qbl) ha.out hb.out hc.out hd.out).mono ?_
 rintro e w3 ⟨v,hv,rfl,hB3⟩
 have HV:=Lib.hid hv
 have hb3:Below w.heap.size w w3:=qbl
 clear hv hB3
 go_wp2_with fail
 go_ret2
 exact ⟨v,HV.out,rfl,hb3⟩
end Go.Proofs.YthihcjgmlbnapaaGreatDoor
namespace Go.Proofs.YthihcjgmlbnapaaGreatDoor
theorem natInt_big {n:Nat} {r:List UInt8} (h:100000000≤n) (hr:r=[]∨∃ c t,r=c::t∧isDig c=false):natInt (Lib.decDigits n++r)=none:=by
 have e:=nDig_append (decDigits_isDig n) hr
 have l8:8 < (Lib.decDigits n).length:=by
  refine Decidable.byContradiction fun hc=>?_
  have:=pow_le_of_lt (n:=n) (k:=8) (by omega)
  omega
 unfold natInt
 rw [e,if_pos (Or.inr (Or.inl l8))]
theorem natOf_big {q:Rat} (h:¬ Small q):natOf (ratText q)=none:=by
 have hown:∀ r:List UInt8,Lib.decDigits q.num.natAbs++r=if (Lib.itoa q.num++r).head?=some 45 then (Lib.itoa q.num++r).tail else Lib.itoa q.num++r:=by
  intro r
  rcases itoa_cases q.num with ⟨h0,e⟩|⟨h0,e⟩
  ·rw [e];simp
  ·rw [e,if_neg (decDigits_no45 _ _)]
 have hh:∀ (n:Nat) (r:List UInt8),natOf (Lib.itoa q.num++r)=match natInt (Lib.decDigits q.num.natAbs++r) with
  | none=>none
  | some (n,rest) =>
   if (Lib.itoa q.num++r).head?=some 45∧n=0 then none else
   if rest=[] then some (if (Lib.itoa q.num++r).head?=some 45 then -(n:Int) else n,1) else
   if rest.head?≠some 47 then none else
   match natInt rest.tail with
   | none=>none
   | some (d,r')=>if r'≠[]∨d < 2∨Nat.gcd n d≠1 then none else some (if (Lib.itoa q.num++r).head?=some 45 then -(n:Int) else n,d):=fun _ r=>natOf_own (hown r)
 unfold ratText
 by_cases hn:q.num.natAbs < 100000000
 ·have hd:100000000≤q.den:=by
   refine Decidable.byContradiction fun hc=>h ⟨hn,by omega⟩
  rw [if_neg (by omega),hh 0,natInt_decDigits hn (Or.inr ⟨_,_,rfl,by decide⟩)]
  have hb:=natInt_big (r:=[]) hd (Or.inl rfl)
  rw [List.append_nil] at hb
  simp only [List.head?_cons,List.tail_cons,hb]
  rw [if_neg (by simp:¬ (47::Lib.decDigits q.den=[])),if_neg (by simp:¬ (some (47:UInt8)≠some 47))]
  split<;>rfl
 ·split
  ·have h2:=hh 0 []
   rw [List.append_nil,List.append_nil] at h2
   have hb:=natInt_big (n:=q.num.natAbs) (r:=[]) (by omega) (Or.inl rfl)
   rw [List.append_nil] at hb
   rw [h2,hb]
  ·rw [hh 0,natInt_big (by omega) (Or.inr ⟨_,_,rfl,by decide⟩)]
end Go.Proofs.YthihcjgmlbnapaaGreatDoor
