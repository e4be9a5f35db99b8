/- Joined texts: WSortK, WMakeG, WScaled, WConcatT, OpsGPlain, WOpsG. -/
import Derived.Test.YthihcjgmlbnapaaGreatDoorJ13
import Derived.Lib.AppendZeros
import Derived.Test.YthihcjgmlbnapaaGreatDoorJ11
set_option maxRecDepth 100000
set_option linter.unusedVariables false
set_option linter.unusedSimpArgs false
set_option maxHeartbeats 12800000
namespace Go.Proofs.YthihcjgmlbnapaaGreatDoor
open Go.RowKit Go.Shelf
attribute [local go_sem] Oper.semAt_some
theorem Tryz.infoTerm2:(Tryz.prog.info? 49).map (·.size)=some 2:=by kernel_rfl
theorem perm_swap:∀ {S:Terms} {p:Nat},p+1 < S.length→((S.set (p+1) (tq S p)).set p (tq S (p+1))).Perm S
 | [],p,h=>by simp at h
 | [a],p,h=>by simp at h
 | a::b::l,0,_=>.swap a b l
 | a::b::l,p+1,h=>by
  have e1:tq (a::b::l) (p+1)=tq (b::l) p:=by simp [tq]
  have e2:tq (a::b::l) (p+1+1)=tq (b::l) (p+1):=by simp [tq]
  rw [e1,e2,bw9,bw9]
  exact .cons a (perm_swap (by simpa using h))
theorem tq_set {S:Terms} {i j:Nat} {x:Rat × Nat} (h:j < S.length):tq (S.set i x) j=if i=j then x else tq S j:=by
 have h2:j < (S.set i x).length:=by rw [List.length_set];exact h
 rw [tq_at h2,List.getElem_set,tq_at h]
def SrtTo (S:Terms) (k:Nat):Prop:=∀ i j,i < j→j < k→(tq S i).2≤(tq S j).2
def InsAt (S:Terms) (m k:Nat):Prop:=(∀ i j,i < j→j≤k→i≠m→j≠m→(tq S i).2≤(tq S j).2)∧∀ j,m < j→j≤k→(tq S m).2≤(tq S j).2
theorem InsAt.start {S:Terms} {k:Nat} (h:SrtTo S k):InsAt S k k:=⟨fun i j h1 h2 _ h4=>h i j h1 (by omega),fun j h1 h2=>absurd h1 (by omega)⟩
theorem InsAt.zero {S:Terms} {k:Nat} (h:InsAt S 0 k):SrtTo S (k+1):=fun i j h1 h2=>by
 by_cases h0:i=0
 ·subst h0;exact h.2 j h1 (by omega)
 ·exact h.1 i j h1 (by omega) h0 (by omega)
theorem InsAt.stop {S:Terms} {q k:Nat} (h:InsAt S (q+1) k) (hq:(tq S q).2≤(tq S (q+1)).2):SrtTo S (k+1):=fun i j h1 h2=>by
 by_cases hi:i=q+1
 ·subst hi;exact h.2 j h1 (by omega)
 ·by_cases hj:j=q+1
  ·subst hj
   by_cases he:i=q
   ·subst he;exact hq
   ·exact Nat.le_trans (h.1 i q (by omega) (by omega) hi (by omega)) hq
  ·exact h.1 i j h1 (by omega) hi hj
theorem InsAt.swap {S:Terms} {q k:Nat} (h:InsAt S (q+1) k) (hm:q+1≤k) (hk:k < S.length) (hq:(tq S (q+1)).2 < (tq S q).2):InsAt ((S.set (q+1) (tq S q)).set q (tq S (q+1))) q k:=by
 have e:∀ j,j≤k→tq ((S.set (q+1) (tq S q)).set q (tq S (q+1))) j=if q=j then tq S (q+1) else if q+1=j then tq S q else tq S j:=fun j hj=>by
  rw [tq_set (by rw [List.length_set];omega),tq_set (by omega)]
 refine ⟨fun i j h1 h2 h3 h4=>?_,fun j h1 h2=>?_⟩
 ·rw [e i (by omega),e j h2,if_neg (show ¬ q=i from fun h=>h3 h.symm),if_neg (show ¬ q=j from fun h=>h4 h.symm)]
  by_cases hi:q+1=i
  ·rw [if_pos hi,if_neg (show ¬ q+1=j by omega)]
   exact h.1 q j (by omega) h2 (by omega) (by omega)
  ·rw [if_neg hi]
   by_cases hj:q+1=j
   ·rw [if_pos hj]
    exact h.1 i q (by omega) (by omega) (by omega) (by omega)
   ·rw [if_neg hj]
    exact h.1 i j h1 h2 (fun h=>hi h.symm) (fun h=>hj h.symm)
 ·rw [e q (by omega),e j h2,if_pos rfl,if_neg (show ¬ q=j by omega)]
  by_cases hj:q+1=j
  ·rw [if_pos hj];omega
  ·rw [if_neg hj];exact h.2 j (by omega) h2
theorem SrtTo.asc {S:Terms} {k:Nat} (h:SrtTo S k) (hk:S.length≤k):Asc S:=List.pairwise_iff_getElem.2 fun i j hi hj hij=>by
 have h1:=h i j hij (by omega)
 rwa [tq_at hi,tq_at hj] at h1
def RetLs (m n:Nat) (w:World) (e:Ending) (w':World):Prop:=∃ c:Int,e=.returned (.int .i64 c)∧Hid (c < 0↔m < n)∧Below w.heap.size w w'
theorem cmpN_lt (m n:Nat):Lib.compareInt ((((m:Int):Rat)).num * ((((n:Int):Rat)).den:Int)) ((((n:Int):Rat)).num * ((((m:Int):Rat)).den:Int)) < 0↔m < n:=by
 have e1:((((m:Int):Rat)).num * ((((n:Int):Rat)).den:Int))=(m:Int):=by show (m:Int) * ((1:Nat):Int)=_;omega
 have e2:((((n:Int):Rat)).num * ((((m:Int):Rat)).den:Int))=(n:Int):=by show (n:Int) * ((1:Nat):Int)=_;omega
 rw [e1,e2]
 unfold Lib.compareInt
 by_cases h:m < n
 ·rw [if_pos (by omega)];simp [h]
 ·rw [if_neg (by omega)];split<;>simp [h]
theorem cmpK_ok (x y:ByteArray) (m n:Nat) (w:World) (hG:Glo w) (hm:m < 10 ^ 90) (hn:n < 10 ^ 90) :
  Calls Tryz.prog 29 #[.agg #[.string x,.string (decS m)],.agg #[.string y,.string (decS n)]] w (RetLs m n w):=by
 have HCM:=Lib.hid (fun W hG=>RCompare_ok (k:=90) (m:=90) (p:=((m:Int):Rat)) (q:=((n:Int):Rat)) (decS m) (decS n) W hG (by rw [text_natR];exact decS_list m) (sz_natR hm (by decide)) (by rw [text_natR];exact decS_list n) (sz_natR hn (by decide)) (by decide))
 have HLT:=Lib.hid (cmpN_lt m n)
 generalize Lib.compareInt ((((m:Int):Rat)).num * ((((n:Int):Rat)).den:Int)) ((((n:Int):Rat)).num * ((((m:Int):Rat)).den:Int))=c at *
 have HG:=Lib.hid hG
 generalize decS m=a at *
 generalize decS n=b at *
 clear hG hm hn
 go_enter Tryz.func29,Tryz.ntmps29
 go_wp2_with fail
 have hb0:Below w.heap.size w ((w.alloc (.cells #[.string x,.string a] 49)).alloc (.cells #[.string y,.string b] 49)):=qbl
 refine (HCM.out _ (HG.out.below hb0)).mono ?_
 rintro e w1 ⟨rfl,hB1⟩
 have hb1:=below_trans' hb0 hB1
 clear hB1 hb0
 go_wp2_with fail
 go_ret
 exact ⟨_,rfl,HLT,hb1⟩
def RowT (w0 w:World) (g cap:Nat) (S:Terms):Prop:=w.ownsRow w0.heap.size 49 2 (.slice (some ⟨g,0,none⟩) (clsL S).length cap) (clsL S).length (termCells (clsL S))
theorem RowT.kept {w0 w w':World} {g cap:Nat} {S:Terms} (h:RowT w0 w g cap S) (hB:Below w.heap.size w w'):RowT w0 w' g cap S:=rowKp h fun k hk _=>hB.block k hk
theorem RowT.cells {w0 w:World} {g cap k:Nat} {S:Terms} (h:RowT w0 w g cap S) (hk:k < S.length):w.cell? ⟨g,k * 2,none⟩=some (.string (numS (tq S k).1))∧w.cell? ⟨g,k * 2+1,none⟩=some (.string (decS (tq S k).2)):=by
 obtain ⟨g',e,_,_,d0,d1⟩:=row_at h (by rw [clsL_length];exact hk)
 cases e
 rw [clsL_get hk] at d0 d1
 exact ⟨d0,d1⟩
theorem RowT.base {w0 w:World} {g cap:Nat} {S:Terms} (h:RowT w0 w g cap S):w0.heap.size≤g:=(row_block h).choose_spec.2.1
theorem RowT.set {w0 w:World} {g cap k:Nat} {S:Terms} {x:Rat × Nat} (h:RowT w0 w g cap S) (hk:k < S.length):RowT w0 (w.setCells g (k * 2) [.string (numS x.1),.string (decS x.2)]) g cap (S.set k x)∧SameBut g w (w.setCells g (k * 2) [.string (numS x.1),.string (decS x.2)]):=by
 obtain ⟨h1,h2⟩:=row_setK (x:=numS x.1) (y:=decS x.2) h (by rw [clsL_length];exact hk)
 refine ⟨?_,h2⟩
 unfold RowT
 have e:clsL (S.set k x)=(clsL S).set k (numS x.1,decS x.2):=clsL_set S k x.1 x.2
 rw [e,List.length_set]
 exact h1
def RetPe (w0:World) (g cap:Nat) (T:Terms) (e:Ending) (w':World):Prop:=e=.returned (.tuple #[])∧∃ S:Terms,S.Perm T∧Asc S∧RowT w0 w' g cap S∧Below w0.heap.size w0 w'
theorem insSortK_ok (n:Nat) (T:Terms) (g cap:Nat) (w0 w:World) (hG:Glo w0) (hn:T.length=n) (hrow:RowT w0 w g cap T) (hw:Below w0.heap.size w0 w) (hr:∀ x ∈ T,x.2 < 10 ^ 90) (h12:n≤12) :
  Calls Tryz.prog 113 #[.slice (some ⟨g,0,none⟩) n cap,.int .i64 0,.int .i64 (n:Int),.func (.func 29) #[] #[]] w (RetPe w0 g cap T):=by
 have HG:=Lib.hid hG
 have HROW0:=Lib.hid hrow
 have HRT:=Lib.hid hr
 have HN:=Lib.hid hn
 have HCM:=Lib.hid (fun (x y:Rat × Nat) W hG hx hy=>cmpK_ok (numS x.1) (numS y.1) x.2 y.2 W hG hx hy)
 have hE:=enters_of Tryz.func29 (by kernel_rfl) rfl
 clear hG hrow hr hn
 go_enter Tryz.func113,Tryz.ntmps113
 go_wp2_with fail
 go_loopw [8] (fun i wr=>∃ (k:Nat) (S:Terms),1≤k∧k≤n+1∧i=.int .i64 k∧Hid (S.Perm T∧SrtTo S k)∧Hid (RowT w0 wr g cap S)∧Below w0.heap.size w0 wr) (fun i _=>n+1 - (intOf i).toNat)
 case atStart=>exact ⟨1,T,by omega,by omega,rfl,Lib.hid ⟨.refl _,fun i j h1 h2=>absurd h1 (by omega)⟩,HROW0,hw⟩
 case round =>
  obtain ⟨k,S,hk0,hk,rfl,hpm,hrw,hB⟩:=hrel
  clear HROW0 hw
  by_cases hlt:k < n
  ·have hltI:(k:Int) < (n:Int):=by omega
   have hk1:IntKind.i64.wrap ((k:Int)+1)=((k+1:Nat):Int):=IntWalk.i64_in _ (by omega)
   have hk2:wrap64 ((k:Int)+1)=((k+1:Nat):Int):=IntWalk.wrap64_in _ (by omega)
   obtain ⟨wq,rfl⟩:∃ x:World,x=wr:=⟨_,rfl⟩
   go_wp2_with fail
   go_loopw [9] (fun j wr=>∃ (m:Nat) (S:Terms),m≤k∧j=.int .i64 m∧Hid (S.Perm T∧InsAt S m k)∧Hid (RowT w0 wr g cap S)∧Below w0.heap.size w0 wr) (fun j _=>(intOf j).toNat)
   case atStart=>exact ⟨k,S,Nat.le_refl _,rfl,Lib.hid ⟨hpm.out.1,InsAt.start hpm.out.2⟩,hrw,hB⟩
   case round =>
    obtain ⟨m,S2,hm,rfl,hpm2,hrw2,hB2⟩:=hrel
    clear hpm hrw hB
    have hR:Below wr.heap.size wr wr.drew:=(bw0 _ _).drew
    by_cases hm0:m=0
    ·subst hm0
     go_wp2_with fail
     refine region_S (F:=[]) (R:=(fun w'=>Below wr.heap.size wr w')) 17 #[false,false,false,false,false,false,false,false,false,false,false,false,false,false,false,false,false] (by kernel_rfl) (by kernel_rfl) (by kernel_rfl) (fun _ _ _ _ _ h=>h) (fun Q' hQ' hN=>?_)
     generalize wr.drew=wd at *
     refine tkS 18 (i:=0) (v:=?_) (fw:=8) hQ' hR rfl ?_ ?_;rotate_left;(focus (intro wq hRq;go_simp;(try with_reducible rfl)));(try simp only [Act.put,bw7,bw8,bw9])
     refine tkS 19 (i:=1) (v:=?_) (fw:=8) hQ' hR rfl ?_ ?_;rotate_left;(focus (intro wq hRq;go_simp;(try with_reducible rfl)));(try simp only [Act.put,bw7,bw8,bw9])
     refine tkS 20 (i:=2) (v:=?_) (fw:=8) hQ' hR rfl ?_ ?_;rotate_left;(focus (intro wq hRq;go_simp;(try with_reducible rfl)));(try simp only [Act.put,bw7,bw8,bw9])
     refine tkS 21 (i:=3) (v:=?_) (fw:=8) hQ' hR rfl ?_ ?_;rotate_left;(focus (intro wq hRq;go_simp;(try with_reducible rfl)));(try simp only [Act.put,bw7,bw8,bw9])
     refine skipS 22 (i:=4) (fw:=8) hQ' hR rfl (by kernel_rfl) (by kernel_rfl) (by kernel_rfl) (by kernel_rfl) (by kernel_rfl) (by kernel_rfl) ?_;(try simp only [Act.put,bw7,bw8,bw9])
     refine skipS 23 (i:=5) (fw:=8) hQ' hR rfl (by kernel_rfl) (by kernel_rfl) (by kernel_rfl) (by kernel_rfl) (by kernel_rfl) (by kernel_rfl) ?_;(try simp only [Act.put,bw7,bw8,bw9])
     refine skipS 24 (i:=6) (fw:=8) hQ' hR rfl (by kernel_rfl) (by kernel_rfl) (by kernel_rfl) (by kernel_rfl) (by kernel_rfl) (by kernel_rfl) ?_;(try simp only [Act.put,bw7,bw8,bw9])
     refine skipS 25 (i:=7) (fw:=8) hQ' hR rfl (by kernel_rfl) (by kernel_rfl) (by kernel_rfl) (by kernel_rfl) (by kernel_rfl) (by kernel_rfl) ?_;(try simp only [Act.put,bw7,bw8,bw9])
     refine skipS 26 (i:=8) (fw:=8) hQ' hR rfl (by kernel_rfl) (by kernel_rfl) (by kernel_rfl) (by kernel_rfl) (by kernel_rfl) (by kernel_rfl) ?_;(try simp only [Act.put,bw7,bw8,bw9])
     refine skipS 27 (i:=9) (fw:=8) hQ' hR rfl (by kernel_rfl) (by kernel_rfl) (by kernel_rfl) (by kernel_rfl) (by kernel_rfl) (by kernel_rfl) ?_;(try simp only [Act.put,bw7,bw8,bw9])
     refine skipS 28 (i:=10) (fw:=8) hQ' hR rfl (by kernel_rfl) (by kernel_rfl) (by kernel_rfl) (by kernel_rfl) (by kernel_rfl) (by kernel_rfl) ?_;(try simp only [Act.put,bw7,bw8,bw9])
     refine skipS 29 (i:=11) (fw:=8) hQ' hR rfl (by kernel_rfl) (by kernel_rfl) (by kernel_rfl) (by kernel_rfl) (by kernel_rfl) (by kernel_rfl) ?_;(try simp only [Act.put,bw7,bw8,bw9])
     refine skipS 30 (i:=12) (fw:=8) hQ' hR rfl (by kernel_rfl) (by kernel_rfl) (by kernel_rfl) (by kernel_rfl) (by kernel_rfl) (by kernel_rfl) ?_;(try simp only [Act.put,bw7,bw8,bw9])
     refine skipS 31 (i:=13) (fw:=8) hQ' hR rfl (by kernel_rfl) (by kernel_rfl) (by kernel_rfl) (by kernel_rfl) (by kernel_rfl) (by kernel_rfl) ?_;(try simp only [Act.put,bw7,bw8,bw9])
     refine skipS 32 (i:=14) (fw:=8) hQ' hR rfl (by kernel_rfl) (by kernel_rfl) (by kernel_rfl) (by kernel_rfl) (by kernel_rfl) (by kernel_rfl) ?_;(try simp only [Act.put,bw7,bw8,bw9])
     refine skipS 33 (i:=15) (fw:=8) hQ' hR rfl (by kernel_rfl) (by kernel_rfl) (by kernel_rfl) (by kernel_rfl) (by kernel_rfl) (by kernel_rfl) ?_;(try simp only [Act.put,bw7,bw8,bw9])
     refine tkS 34 (i:=16) (v:=?_) (fw:=8) hQ' hR rfl ?_ ?_;rotate_left;(focus (intro wq hRq;go_simp;(try with_reducible rfl)));(try simp only [Act.put,bw7,bw8,bw9])
     refine wpAnyS_done (by kernel_rfl) ?_ _
     refine hN.out _ _ ?_
     go_wp2_with fail
     go_roundw
     case rel=>exact ⟨k+1,S2,by omega,by omega,by go_num,Lib.hid ⟨hpm2.out.1,InsAt.zero hpm2.out.2⟩,Lib.hid (hrw2.out.kept hR),bw5 hR hB2⟩
     case measure=>simp [intOf];omega
    ·obtain ⟨q,hq⟩:∃ q:Nat,m=q+1:=⟨m - 1,by omega⟩
     have hqm:(m:Int) - 1=(q:Int):=by omega
     have hm0I:(0:Int) < (m:Int):=by omega
     have hm0D:decide (0 < m)=true:=decide_eq_true (by omega)
     have hqw:IntKind.i64.wrap (q:Int)=(q:Int):=IntWalk.i64_in _ (by omega)
     have hln:S2.length=n:=hpm2.out.1.length_eq.trans HN.out
     have hmn:m < S2.length:=by omega
     have hqn:q < S2.length:=by omega
     have hmI:(m:Int) < (n:Int):=by omega
     have hqI:(q:Int) < (n:Int):=by omega
     have hmz:=HRT.out _ (hpm2.out.1.mem_iff.1 (tq_mem hmn))
     have hqz:=HRT.out _ (hpm2.out.1.mem_iff.1 (tq_mem hqn))
     have HC2:=Lib.hid (fun W hG=>HCM.out (tq S2 m) (tq S2 q) W hG hmz hqz)
     have HSW:=Lib.hid (by have h:=perm_swap (S:=S2) (p:=q) (by omega);rw [← hq] at h;exact h.trans hpm2.out.1:((S2.set m (tq S2 q)).set q (tq S2 m)).Perm T)
     have HIS:=Lib.hid (fun (h:(tq S2 m).2 < (tq S2 q).2)=>(by subst hq;exact ⟨HSW.out,InsAt.swap hpm2.out.2 hm (by omega) h⟩:((S2.set m (tq S2 q)).set q (tq S2 m)).Perm T∧InsAt ((S2.set m (tq S2 q)).set q (tq S2 m)) q k))
     have HST:=Lib.hid (fun (h:¬ (tq S2 m).2 < (tq S2 q).2)=>(by subst hq;exact ⟨hpm2.out.1,InsAt.stop hpm2.out.2 (by omega)⟩:S2.Perm T∧SrtTo S2 (k+1)))
     clear HSW
     obtain ⟨ym,hym⟩:∃ y,tq S2 m=y:=⟨_,rfl⟩
     obtain ⟨yq,hyq⟩:∃ y,tq S2 q=y:=⟨_,rfl⟩
     rw [hym,hyq] at HC2 HIS HST
     have HCE:=Lib.hid (fun W (hW:Below wr.heap.size wr W)=>(by
      obtain ⟨c0,c1⟩:=(hrw2.out.kept hW).cells hmn
      obtain ⟨d0,d1⟩:=(hrw2.out.kept hW).cells hqn
      rw [hym] at c0 c1
      rw [hyq] at d0 d1
      exact ⟨c0,c1,d0,d1⟩:W.cell? ⟨g,m * 2,none⟩=some (.string (numS ym.1))∧W.cell? ⟨g,m * 2+1,none⟩=some (.string (decS ym.2))∧W.cell? ⟨g,q * 2,none⟩=some (.string (numS yq.1))∧W.cell? ⟨g,q * 2+1,none⟩=some (.string (decS yq.2))))
     clear hmz hqz hym hyq hm0 hq
     go_wp2_with fail
     refine region_S (F:=[]) (R:=(fun w'=>Below wr.heap.size wr w')) 17 #[false,false,false,false,false,false,false,false,false,false,false,false,false,false,false,false,false] (by kernel_rfl) (by kernel_rfl) (by kernel_rfl) (fun _ _ _ _ _ h=>h) (fun Q' hQ' hN=>?_)
     generalize wr.drew=wd at *
     refine tkS 18 (i:=0) (v:=?_) (fw:=8) hQ' hR rfl ?_ ?_;rotate_left;(focus (intro wq hRq;obtain ⟨e0,e1,e2,e3⟩:=HCE.out _ hRq;go_simp;(try with_reducible rfl)));(try simp only [Act.put,bw7,bw8,bw9])
     refine tkS 19 (i:=1) (v:=?_) (fw:=8) hQ' hR rfl ?_ ?_;rotate_left;(focus (intro wq hRq;obtain ⟨e0,e1,e2,e3⟩:=HCE.out _ hRq;go_simp;(try with_reducible rfl)));(try simp only [Act.put,bw7,bw8,bw9])
     refine tkS 20 (i:=2) (v:=?_) (fw:=8) hQ' hR rfl ?_ ?_;rotate_left;(focus (intro wq hRq;obtain ⟨e0,e1,e2,e3⟩:=HCE.out _ hRq;go_simp;(try with_reducible rfl)));(try simp only [Act.put,bw7,bw8,bw9])
     refine tkS 21 (i:=3) (v:=?_) (fw:=8) hQ' hR rfl ?_ ?_;rotate_left;(focus (intro wq hRq;obtain ⟨e0,e1,e2,e3⟩:=HCE.out _ hRq;go_simp;(try with_reducible rfl)));(try simp only [Act.put,bw7,bw8,bw9])
     refine tkS 22 (i:=4) (v:=?_) (fw:=8) hQ' hR rfl ?_ ?_;rotate_left;(focus (intro wq hRq;obtain ⟨e0,e1,e2,e3⟩:=HCE.out _ hRq;go_simp;(try with_reducible rfl)));(try simp only [Act.put,bw7,bw8,bw9])
     refine tkS 23 (i:=5) (v:=?_) (fw:=8) hQ' hR rfl ?_ ?_;rotate_left;(focus (intro wq hRq;obtain ⟨e0,e1,e2,e3⟩:=HCE.out _ hRq;go_simp;(try with_reducible rfl)));(try simp only [Act.put,bw7,bw8,bw9])
     refine tkS 24 (i:=6) (v:=?_) (fw:=8) hQ' hR rfl ?_ ?_;rotate_left;(focus (intro wq hRq;obtain ⟨e0,e1,e2,e3⟩:=HCE.out _ hRq;go_simp;(try with_reducible rfl)));(try simp only [Act.put,bw7,bw8,bw9])
     refine tkS 25 (i:=7) (v:=?_) (fw:=8) hQ' hR rfl ?_ ?_;rotate_left;(focus (intro wq hRq;obtain ⟨e0,e1,e2,e3⟩:=HCE.out _ hRq;go_simp;(try with_reducible rfl)));(try simp only [Act.put,bw7,bw8,bw9])
     refine tkS 26 (i:=8) (v:=?_) (fw:=8) hQ' hR rfl ?_ ?_;rotate_left;(focus (intro wq hRq;obtain ⟨e0,e1,e2,e3⟩:=HCE.out _ hRq;go_simp;(try with_reducible rfl)));(try simp only [Act.put,bw7,bw8,bw9])
     refine tkS 27 (i:=9) (v:=?_) (fw:=8) hQ' hR rfl ?_ ?_;rotate_left;(focus (intro wq hRq;obtain ⟨e0,e1,e2,e3⟩:=HCE.out _ hRq;go_simp;(try with_reducible rfl)));(try simp only [Act.put,bw7,bw8,bw9])
     refine tkS 28 (i:=10) (v:=?_) (fw:=8) hQ' hR rfl ?_ ?_;rotate_left;(focus (intro wq hRq;obtain ⟨e0,e1,e2,e3⟩:=HCE.out _ hRq;go_simp;(try with_reducible rfl)));(try simp only [Act.put,bw7,bw8,bw9])
     refine tkS 29 (i:=11) (v:=?_) (fw:=8) hQ' hR rfl ?_ ?_;rotate_left;(focus (intro wq hRq;obtain ⟨e0,e1,e2,e3⟩:=HCE.out _ hRq;go_simp;(try with_reducible rfl)));(try simp only [Act.put,bw7,bw8,bw9])
     refine tkS 30 (i:=12) (v:=?_) (fw:=8) hQ' hR rfl ?_ ?_;rotate_left;(focus (intro wq hRq;obtain ⟨e0,e1,e2,e3⟩:=HCE.out _ hRq;go_simp;(try with_reducible rfl)));(try simp only [Act.put,bw7,bw8,bw9])
     refine tkS 31 (i:=13) (v:=?_) (fw:=8) hQ' hR rfl ?_ ?_;rotate_left;(focus (intro wq hRq;obtain ⟨e0,e1,e2,e3⟩:=HCE.out _ hRq;go_simp;(try with_reducible rfl)));(try simp only [Act.put,bw7,bw8,bw9])
     refine wpAnyS_ready (rs:=[14]) (by kernel_rfl) (by simp) ?_
     refine stepR (i:=14) rfl (by kernel_rfl) (fun K hK=>?_) (AllReadyS.nil)
     go_simp
     refine (HC2.out _ (HG.out.below (bw5 hR hB2))).mono ?_
     rintro e wn ⟨c,rfl,hcc,hB'⟩
     replace hR:=below_trans' hR hB'
     clear hB'
     refine hK.out _ _ hR ?_
     clear hK K
     (try simp only [Act.put,bw7,bw8,bw9])
     refine tkS 33 (i:=15) (v:=?_) (fw:=8) hQ' hR rfl ?_ ?_;rotate_left;(focus (intro wq hRq;obtain ⟨e0,e1,e2,e3⟩:=HCE.out _ hRq;go_simp;(try with_reducible rfl)));(try simp only [Act.put,bw7,bw8,bw9])
     refine tkS 34 (i:=16) (v:=?_) (fw:=8) hQ' hR rfl ?_ ?_;rotate_left;(focus (intro wq hRq;obtain ⟨e0,e1,e2,e3⟩:=HCE.out _ hRq;go_simp;(try with_reducible rfl)));(try simp only [Act.put,bw7,bw8,bw9])
     refine wpAnyS_done (by kernel_rfl) ?_ _
     refine hN.out _ _ ?_
     have hrw3:=Lib.hid (hrw2.out.kept hR)
     have hB3:=bw5 hR hB2
     have HCE2:=Lib.hid (HCE.out _ hR)
     clear hrw2 HCE HC2
     by_cases hc:c < 0
     ·have HSW:=Lib.hid (HIS.out (hcc.out.1 hc))
      clear HIS HST hcc
      go_wp2_with fail
      obtain ⟨f0,f1,f2,f3⟩:=HCE2.out
      clear HCE2
      have hR:Below wn.heap.size wn wn.drew:=(bw0 _ _).drew
      refine region_S (F:=[15,17]) (R:=(fun w'=>Below wn.heap.size wn w')) 18 #[false,false,false,false,false,false,false,false,false,false,false,false,false,false,false,false,false,false] (by kernel_rfl) (by kernel_rfl) (by kernel_rfl) (fun _ _ _ _ _ h=>h) (fun Q' hQ' hN=>?_)
      generalize wn.drew=wd at *
      refine takeP 37 (i:=0) (v:=?_) hQ' (.inr hR) rfl (by kernel_rfl) (by kernel_rfl) (by kernel_rfl) (by kernel_rfl) (by kernel_rfl) (by kernel_rfl) ?_ ?_;rotate_left;(focus (intro wq;go_simp;(try with_reducible rfl)));(try simp only [Act.put,bw7,bw8,bw9])
      refine takeP 38 (i:=1) (v:=?_) hQ' (.inr hR) rfl (by kernel_rfl) (by kernel_rfl) (by kernel_rfl) (by kernel_rfl) (by kernel_rfl) (by kernel_rfl) ?_ ?_;rotate_left;(focus (intro wq;go_simp;(try with_reducible rfl)));(try simp only [Act.put,bw7,bw8,bw9])
      refine takeP 39 (i:=2) (v:=?_) hQ' (.inr hR) rfl (by kernel_rfl) (by kernel_rfl) (by kernel_rfl) (by kernel_rfl) (by kernel_rfl) (by kernel_rfl) ?_ ?_;rotate_left;(focus (intro wq;go_simp;(try with_reducible rfl)));(try simp only [Act.put,bw7,bw8,bw9])
      refine takeP 40 (i:=3) (v:=?_) hQ' (.inr hR) rfl (by kernel_rfl) (by kernel_rfl) (by kernel_rfl) (by kernel_rfl) (by kernel_rfl) (by kernel_rfl) ?_ ?_;rotate_left;(focus (intro wq;go_simp;(try with_reducible rfl)));(try simp only [Act.put,bw7,bw8,bw9])
      refine takeP 41 (i:=4) (v:=?_) hQ' (.inr hR) rfl (by kernel_rfl) (by kernel_rfl) (by kernel_rfl) (by kernel_rfl) (by kernel_rfl) (by kernel_rfl) ?_ ?_;rotate_left;(focus (intro wq;go_simp;(try with_reducible rfl)));(try simp only [Act.put,bw7,bw8,bw9])
      refine takeP 42 (i:=5) (v:=?_) hQ' (.inr hR) rfl (by kernel_rfl) (by kernel_rfl) (by kernel_rfl) (by kernel_rfl) (by kernel_rfl) (by kernel_rfl) ?_ ?_;rotate_left;(focus (intro wq;go_simp;(try with_reducible rfl)));(try simp only [Act.put,bw7,bw8,bw9])
      refine takeP 43 (i:=6) (v:=?_) hQ' (.inr hR) rfl (by kernel_rfl) (by kernel_rfl) (by kernel_rfl) (by kernel_rfl) (by kernel_rfl) (by kernel_rfl) ?_ ?_;rotate_left;(focus (intro wq;go_simp;(try with_reducible rfl)));(try simp only [Act.put,bw7,bw8,bw9])
      refine takeP 44 (i:=7) (v:=?_) hQ' (.inr hR) rfl (by kernel_rfl) (by kernel_rfl) (by kernel_rfl) (by kernel_rfl) (by kernel_rfl) (by kernel_rfl) ?_ ?_;rotate_left;(focus (intro wq;go_simp;(try with_reducible rfl)));(try simp only [Act.put,bw7,bw8,bw9])
      refine takeP 45 (i:=8) (v:=?_) hQ' (.inr hR) rfl (by kernel_rfl) (by kernel_rfl) (by kernel_rfl) (by kernel_rfl) (by kernel_rfl) (by kernel_rfl) ?_ ?_;rotate_left;(focus (intro wq;go_simp;(try with_reducible rfl)));(try simp only [Act.put,bw7,bw8,bw9])
      refine tkS 46 (i:=9) (v:=?_) (fw:=8) hQ' hR rfl ?_ ?_;rotate_left;(focus (intro wq hRq;have e0:=keep hRq f0;have e1:=keep hRq f1;have e2:=keep hRq f2;have e3:=keep hRq f3;go_simp;(try with_reducible rfl)));(try simp only [Act.put,bw7,bw8,bw9])
      refine takeP 47 (i:=10) (v:=?_) hQ' (.inr hR) rfl (by kernel_rfl) (by kernel_rfl) (by kernel_rfl) (by kernel_rfl) (by kernel_rfl) (by kernel_rfl) ?_ ?_;rotate_left;(focus (intro wq;go_simp;(try with_reducible rfl)));(try simp only [Act.put,bw7,bw8,bw9])
      refine takeP 48 (i:=11) (v:=?_) hQ' (.inr hR) rfl (by kernel_rfl) (by kernel_rfl) (by kernel_rfl) (by kernel_rfl) (by kernel_rfl) (by kernel_rfl) ?_ ?_;rotate_left;(focus (intro wq;go_simp;(try with_reducible rfl)));(try simp only [Act.put,bw7,bw8,bw9])
      refine takeP 49 (i:=12) (v:=?_) hQ' (.inr hR) rfl (by kernel_rfl) (by kernel_rfl) (by kernel_rfl) (by kernel_rfl) (by kernel_rfl) (by kernel_rfl) ?_ ?_;rotate_left;(focus (intro wq;go_simp;(try with_reducible rfl)));(try simp only [Act.put,bw7,bw8,bw9])
      refine tkS 50 (i:=13) (v:=?_) (fw:=8) hQ' hR rfl ?_ ?_;rotate_left;(focus (intro wq hRq;have e0:=keep hRq f0;have e1:=keep hRq f1;have e2:=keep hRq f2;have e3:=keep hRq f3;go_simp;(try with_reducible rfl)));(try simp only [Act.put,bw7,bw8,bw9])
      refine takeP 51 (i:=14) (v:=?_) hQ' (.inr hR) rfl (by kernel_rfl) (by kernel_rfl) (by kernel_rfl) (by kernel_rfl) (by kernel_rfl) (by kernel_rfl) ?_ ?_;rotate_left;(focus (intro wq;go_simp;(try with_reducible rfl)));(try simp only [Act.put,bw7,bw8,bw9])
      refine wpAnyS_ready (rs:=[15]) (by kernel_rfl) (by simp) ?_
      refine stepF (i:=15) rfl (by kernel_rfl) (by kernel_rfl) (fun K hK=>?_) (AllReadyS.nil)
      have rr:=hrw3.out.kept hR
      have hbd:=bw5 hR hB3
      refine wp_store_mid 49 _ _ rfl g (m * 2) #[.string (numS yq.1),.string (decS yq.2)] rfl rfl (row_thereK rr (by rw [clsL_length];exact hmn)) Tryz.infoTerm2 (by simp [Value.oneCell']) ?_
      obtain ⟨rr1,hS1⟩:=rr.set (x:=yq) hmn
      have hbd1:=hS1.below hbd rr.base
      clear hS1 rr hbd
      generalize World.setCells _ g (m * 2) _=wx at *
      refine hK.out _ _ ?_
      clear hK K
      (try simp only [Act.put,bw7,bw8,bw9])
      refine takeP 52 (i:=16) (v:=?_) hQ' (.inl ⟨15,by simp,by rfl⟩) rfl (by kernel_rfl) (by kernel_rfl) (by kernel_rfl) (by kernel_rfl) (by kernel_rfl) (by kernel_rfl) ?_ ?_;rotate_left;(focus (intro wq;go_simp;(try with_reducible rfl)));(try simp only [Act.put,bw7,bw8,bw9])
      refine wpAnyS_ready (rs:=[17]) (by kernel_rfl) (by simp) ?_
      refine stepF (i:=17) rfl (by kernel_rfl) (by kernel_rfl) (fun K hK=>?_) (AllReadyS.nil)
      have hqn2:q < (S2.set m yq).length:=by rw [List.length_set];exact hqn
      refine wp_store_mid 49 _ _ rfl g (q * 2) #[.string (numS ym.1),.string (decS ym.2)] rfl rfl (row_thereK rr1 (by rw [clsL_length];exact hqn2)) Tryz.infoTerm2 (by simp [Value.oneCell']) ?_
      obtain ⟨rr2,hS2⟩:=rr1.set (x:=ym) hqn2
      have hbd2:=hS2.below hbd1 rr1.base
      clear hS2 rr1 hbd1
      generalize World.setCells _ g (q * 2) _=wy at *
      refine hK.out _ _ ?_
      clear hK K
      (try simp only [Act.put,bw7,bw8,bw9])
      refine wpAnyS_done (by kernel_rfl) ?_ _
      refine hN.out _ _ ?_
      go_wp2_with fail
      go_roundw
      case rel=>exact ⟨q,_,by omega,by go_num,HSW,Lib.hid rr2,hbd2⟩
      case measure=>simp [intOf];omega
     ·have HSW:=Lib.hid (HST.out (fun h=>hc (hcc.out.2 h)))
      clear HIS HST hcc
      go_wp2_with fail
      go_roundw
      case rel=>exact ⟨k+1,S2,by omega,by omega,by go_num,HSW,hrw3,hB3⟩
      case measure=>simp [intOf];omega
  ·have e:(n:Int)≤(k:Int):=by omega
   go_wp2_with fail
   go_end0
   exact ⟨rfl,S,hpm.out.1,hpm.out.2.asc (by rw [hpm.out.1.length_eq,HN.out];omega),hrw.out,hB⟩
theorem pdqK_ok (n:Nat) (T:Terms) (g cap:Nat) (l:Int) (w0 w:World) (hG:Glo w0) (hn:T.length=n) (hrow:RowT w0 w g cap T) (hw:Below w0.heap.size w0 w) (hr:∀ x ∈ T,x.2 < 10 ^ 90) (h12:n≤12) :
  Calls Tryz.prog 62 #[.slice (some ⟨g,0,none⟩) n cap,.int .i64 0,.int .i64 (n:Int),.int .i64 l,.func (.func 29) #[] #[]] w (RetPe w0 g cap T):=by
 have h1:(n:Int)≤12:=by omega
 have h2:IntKind.i64.wrap (n:Int)=(n:Int):=IntWalk.i64_in _ (by omega)
 have HIN:=Lib.hid (insSortK_ok n T g cap w0 w hG hn hrow hw hr h12)
 clear hn hrow hw hr hG
 go_enter Tryz.func62,Tryz.ntmps62
 go_wp2_with fail
 go_loopw [1,2,3,10,11] (fun x y z u v wr=>x=.int .i64 0∧y=.int .i64 (n:Int)∧wr=w) (fun _ _ _ _ _ _=>0)
 case atStart=>exact ⟨rfl,rfl,rfl⟩
 case round =>
  obtain ⟨rfl,rfl,hwr⟩:=hrel
  subst wr
  go_wp2_with fail
  refine HIN.out.mono ?_
  rintro e w1 ⟨rfl,hB1⟩
  have HB1:=Lib.hid hB1
  clear hB1
  go_wp2_with fail
  go_end0
  exact ⟨rfl,HB1.out⟩
theorem sortK_ok (n:Nat) (T:Terms) (g cap:Nat) (w0 w:World) (hG:Glo w0) (hn:T.length=n) (hrow:RowT w0 w g cap T) (hw:Below w0.heap.size w0 w) (hr:∀ x ∈ T,x.2 < 10 ^ 90) (h12:n≤12) :
  Calls Tryz.prog 28 #[.slice (some ⟨g,0,none⟩) n cap,.func (.func 29) #[] #[]] w (RetPe w0 g cap T):=by
 have h1:(0:Int)≤(n:Int):=by omega
 have h2:(n:Int)≤18446744073709551615:=by omega
 have h3:IntKind.u64.wrap (n:Int)=(n:Int):=by unfold IntKind.wrap;simp [IntKind.signed,IntKind.bits];omega
 have HBL:=Lib.hid (fun W=>Tryz.bits_Len (n:Int) W h1 h2)
 have HPD:=Lib.hid (fun l=>pdqK_ok n T g cap l w0 w hG hn hrow hw hr h12)
 clear hn hrow hw hr hG
 go_enter Tryz.func28,Tryz.ntmps28
 go_wp2_with fail
 refine (HBL.out _).mono ?_
 rintro e w1 ⟨rfl,rfl⟩
 go_wp2_with fail
 refine (HPD.out _).mono ?_
 rintro e w1 ⟨rfl,hB1⟩
 have HB1:=Lib.hid hB1
 clear hB1
 go_wp2_with fail
 go_end0
 exact ⟨rfl,HB1.out⟩
end Go.Proofs.YthihcjgmlbnapaaGreatDoor
namespace Go.Proofs.YthihcjgmlbnapaaGreatDoor
open Go.RowKit Go.Shelf
def SOk (S:Terms):Prop:=∀ x ∈ S,x.1≠0∧longD x.1≤60∧1≤x.2∧(Lib.decDigits x.2).length≤40
theorem SOk.append {S:Terms} (h:SOk S) {y:Rat × Nat} (hy:y.1≠0∧longD y.1≤60∧1≤y.2∧(Lib.decDigits y.2).length≤40):SOk (S++[y]):=by
 intro x hx
 rcases List.mem_append.1 hx with h1|h1
 ·exact h x h1
 ·rw [List.mem_singleton.1 h1];exact hy
theorem SOk.perm {S T:Terms} (h:SOk S) (hp:T.Perm S):SOk T:=fun x hx=>h x (hp.mem_iff.1 hx)
theorem SOk.res {S:Terms} (h:SOk S) (hl:S.length≤12):ResT (clsL S) S:=by
 have hlt:∀ k,k < (clsL S).length→k < S.length:=fun k hk=>by rwa [clsL_length] at hk
 exact ⟨by rwa [clsL_length],(clsL_length S).symm,fun k hk=>by rw [clsL_get (hlt k hk)];exact numS_list _,fun k hk=>by rw [clsL_get (hlt k hk)];exact decS_list _,
  fun k hk=>(h _ (tq_mem (hlt k hk))).1,fun k hk=>(h _ (tq_mem (hlt k hk))).2.1,fun k hk=>(h _ (tq_mem (hlt k hk))).2.2.1,fun k hk=>(h _ (tq_mem (hlt k hk))).2.2.2⟩
theorem SOk.lt {S:Terms} (h:SOk S):∀ x ∈ S,x.2 < 10 ^ 90:=fun x hx=>Nat.lt_of_lt_of_le (lenSz (h x hx).2.2.2) (Nat.pow_le_pow_right (by decide) (by decide))
theorem longN_inv {n:Nat} (h:longD ((n:Int):Rat)≤40):(Lib.decDigits n).length≤40:=by
 unfold longD at h
 have e1:(((n:Int):Rat)).num=(n:Int):=rfl
 rw [e1,Int.natAbs_natCast] at h
 omega
def RetMG (Q:Raws) (w:World) (e:Ending) (w':World):Prop:=∃ (u:Value) (c:Int) (L':TTexts),e=.returned (.tuple #[u,.int .i64 c])∧IsTerms w' u L'∧Hid (c=0→L'.length≤Q.length∧∃ T,ResT L' T∧Near0 (fun P=>valT T P - valQ Q P))∧Hid ((c=0∨c=4)∧(c=0→SurdOk L'))∧Below w.heap.size w w'
def RetSo (w0:World) (sa:Option Addr) (sc:Nat) (S:Terms) (e:Ending) (w':World):Prop:=e=.returned (.tuple #[])∧Hid (∃ T:Terms,T.Perm S∧Asc T∧IsTerms w' (.slice sa S.length sc) (clsL T))∧Below w0.heap.size w0 w'
theorem sortG_ok (S:Terms) (sa:Option Addr) (sc:Nat) (w0 w:World) (hG:Glo w0) (hrow:w.ownsRow w0.heap.size 49 2 (.slice sa S.length sc) S.length (termCells (clsL S))) (hw:Below w0.heap.size w0 w) (hs:SOk S) (h12:S.length≤12) :
  Calls Tryz.prog 28 #[.slice sa S.length sc,.func (.func 29) #[] #[]] w (RetSo w0 sa sc S):=by
 rw [← clsL_length S] at hrow
 by_cases h0:S=[]
 ·refine (sort1_ok S.length sa sc w (by rw [h0];decide)).mono ?_
  rintro e w2 ⟨rfl,hB⟩
  refine ⟨rfl,Lib.hid ⟨S,List.Perm.refl _,by rw [h0];exact List.Pairwise.nil,?_⟩,below_trans' hw hB⟩
  have:=isTerms_row (rowKpB hrow hB)
  rwa [clsL_length] at this
 ·have hp:0 < S.length:=List.length_pos_iff.2 h0
  obtain ⟨g,hg,_,_,_,_⟩:=row_at hrow (k:=0) (by rw [clsL_length];exact hp)
  subst hg
  refine (sortK_ok S.length S g sc w0 w hG rfl hrow hw hs.lt h12).mono ?_
  rintro e w2 ⟨rfl,T,hp,ha,hr,hB⟩
  refine ⟨rfl,Lib.hid ⟨T,hp,ha,?_⟩,hB⟩
  have:=isTerms_row hr
  rwa [clsL_length,hp.length_eq] at this
theorem MakeG_ok (Q:Raws) (L:TTexts) (v:Value) (w:World) (hG:Glo w) (hP:Pri w) (h:RawOk Q) (hL:IsRaw L Q) (hv:IsTerms w v L) :
  Calls Tryz.prog 9 #[v] w (RetMG Q w):=by
 obtain ⟨i0,hi0,hz0,hz1,hz2⟩:=info_parts Tryz.infoTerm
 have HVI:=Lib.hid (fun b W hW hb hwb=>visitK_ok Q L b v w W hG hP h hL hv hW hb hwb)
 obtain ⟨hLl,hLt⟩:=hL
 have hlen:L.length≤256:=by have:=h.len;omega
 have hql:=h.len
 have HLL:=Lib.hid hLl
 have HO:=Lib.hid h
 have HG:=Lib.hid hG
 have HLT:=Lib.hid hLt
 have h12:=hG.2.2
 obtain ⟨a,cap,rfl,hcap,hc⟩:=hv
 have HC:=Lib.hid hc
 have hlenI:¬ (256:Int) < (L.length:Int):=by omega
 clear hG hP hLt hLl hc h
 go_enter Tryz.func9,Tryz.ntmps9
 go_wp2_with fail
 go_loopw [18] (fun i wr=>∃ k:Nat,k≤L.length∧i=.int .i64 k∧Below w.heap.size w wr) (fun i _=>L.length - (intOf i).toNat)
 case atStart=>exact ⟨0,by omega,rfl,bw0 _ _⟩
 case round =>
  obtain ⟨k,hk,rfl,hB⟩:=hrel
  by_cases hlt:k < L.length
  ·obtain ⟨bt,off,rfl,hcell⟩:=HC.out (fun h=>by rw [h] at hlt;simp at hlt)
   obtain ⟨d0,d1⟩:=(hcell k hlt).below (w':=wr) hB
   have hkq:k < Q.length:=by have:=HLL.out;omega
   obtain ⟨t0,t1⟩:=HLT.out k hkq
   have hsq:=HO.out.sq k hkq
   have hsp:=HO.out.sr k hkq
   have hp0:=HO.out.r0 k hkq
   obtain ⟨q,hq⟩:∃ q,(rq Q k).1=q:=⟨_,rfl⟩
   obtain ⟨p,hp⟩:∃ p,(rq Q k).2=p:=⟨_,rfl⟩
   rw [hq] at hsq t0
   rw [hp] at hsp hp0 t1
   obtain ⟨c,hcc⟩:∃ c,(tt L k).1=c:=⟨_,rfl⟩
   obtain ⟨r,hrr⟩:∃ r,(tt L k).2=r:=⟨_,rfl⟩
   rw [hcc] at t0 d0
   rw [hrr] at t1 d1
   have hltI:(k:Int) < (L.length:Int):=by omega
   have hk1:IntKind.i64.wrap ((k:Int)+1)=((k+1:Nat):Int):=IntWalk.i64_in _ (by omega)
   have HCC:=Lib.hid (fun W hG=>RCheck_ok c W hG t0 hsq (by decide))
   have HCR:=Lib.hid (fun W hG=>RCheck_ok r W hG t1 hsp (by decide))
   have HHP:=Lib.hid (fun W=>hasPrefix_any r ⟨#[45]⟩ W (hasMinus t1))
   rw [decide_eq_false (show ¬ p.num < 0 by omega)] at HHP
   have hb1:Below w.heap.size w (wr.alloc (.cells #[.string c,.string r] 49)):=bw4 hB _
   have y0:BoxT2 49 (wr.alloc (.cells #[.string c,.string r] 49)) wr.heap.size (.string c) (.string r):=BoxT2.new rfl
   clear hcell hcc hrr hq hp t0 t1 hsq hsp hp0
   go_wp2_with fail
   generalize wr.alloc (.cells #[.string c,.string r] 49)=W1 at *
   refine (HCC.out _ (HG.out.below hb1)).mono ?_
   rintro e w2 ⟨rfl,hB2⟩
   have hb2:=below_trans' hb1 hB2
   replace y0:=y0.below hB2
   have e1:=y0.c1
   clear hB2 hb1 HCC
   go_wp2_with fail
   refine (HCR.out _ (HG.out.below hb2)).mono ?_
   rintro e w3 ⟨rfl,hB3⟩
   have hb3:=below_trans' hb2 hB3
   replace y0:=y0.below hB3
   have e2:=y0.c1
   clear hB3 hb2 HCR e1
   go_wp2_with fail
   refine (HHP.out _).mono ?_
   rintro e w4 ⟨rfl,rfl⟩
   go_wp2_with fail
   go_roundw
   case rel=>exact ⟨k+1,by omega,by go_num,hb3⟩
   case measure=>simp [intOf];omega
  ·have e:k=L.length:=by omega
   subst e
   go_wp2_with fail
   have hb1:Below w.heap.size w (wr.alloc (.cells #[.slice none 0 0] 74)):=bw4 hB _
   have x0:GNone (wr.alloc (.cells #[.slice none 0 0] 74)) wr.heap.size:=BoxT1.new rfl
   have hwb:=hB.size
   generalize wr.alloc (.cells #[.slice none 0 0] 74)=W1 at *
   generalize wr.heap.size=b at *
   refine (HVI.out b W1 hb1 x0 hwb).mono ?_
   rintro e w2 ⟨cd,rfl,hc4,hst,hB2⟩
   replace hc4:=Lib.hid hc4
   have hb2:Below w.heap.size w w2:=hb1.trans (hB2.mono hwb)
   clear hB2 hb1 x0 HVI
   by_cases hcd:cd=0
   ·subst hcd
    obtain ⟨K,⟨gv,hx,hrow⟩,hko,hkl,hkv,hka⟩:=hst.out rfl
    have HKA:=Lib.hid hka
    clear hka hc4
    obtain ⟨ga,gc,rfl,_⟩:=rowT_shape hrow
    have c0:=BoxT1.c0 hx
    rw [clsL_length] at c0
    have HROW0:=Lib.hid hrow
    have HKO:=Lib.hid hko
    have HKV:=Lib.hid hkv
    have HKL:=Lib.hid hkl
    have hk12:K.length≤12:=by omega
    clear hst hx hrow hko hkv
    go_wp2_with fail
    go_loopw [10,47] (fun o i wr=>∃ (k:Nat) (S:Terms) (sa:Option Addr) (sc:Nat),k≤K.length∧i=.int .i64 k∧o=.slice sa S.length sc∧Hid (wr.ownsRow w2.heap.size 49 2 (.slice sa S.length sc) S.length (termCells (clsL S)))∧S.length≤k∧Hid (SOk S∧S.Sublist (K.take k))∧Hid (∀ P,valT S P=valT (K.take k) P)∧Below w2.heap.size w2 wr) (fun _ i _=>K.length - (intOf i).toNat)
    case atStart=>exact ⟨0,[],none,0,by omega,rfl,rfl,Lib.hid (World.ownsRow_nil _ _ _ _),Nat.le_refl _,Lib.hid ⟨(fun _ h=>nomatch h),List.nil_sublist _⟩,Lib.hid (fun P=>by rw [List.take_zero]),bw0 _ _⟩
    case round =>
     obtain ⟨k,S,sa,sc,hk,rfl,rfl,hrow,hsk,hso,hsv,hB3⟩:=hrel
     by_cases hlt:k < K.length
     ·obtain ⟨g,hga,_,_,d0,d1⟩:=row_at HROW0.out (k:=k) (by rw [clsL_length];exact hlt)
      subst hga
      rw [clsL_get hlt] at d0 d1
      replace d0:=keep hB3 d0
      replace d1:=keep hB3 d1
      have hkk:=HKO.out _ (tq_mem hlt)
      obtain ⟨x,hxx⟩:∃ x,(tq K k).1=x:=⟨_,rfl⟩
      obtain ⟨n,hnn⟩:∃ n,(tq K k).2=n:=⟨_,rfl⟩
      have hxn:tq K k=(x,n):=by rw [← hxx,← hnn]
      rw [hxx,hnn] at hkk
      rw [hxx] at d0
      rw [hnn] at d1
      obtain ⟨hsx,hn1,hn90⟩:=hkk
      have HVS:Hid (∀ P,valT (K.take (k+1)) P=valT (K.take k) P+(x * xr P n)):=Lib.hid (fun P=>by
       rw [termsTake hlt,hxn,valT_append]
       show _+(x * xr P n+0)=_
       grind)
      have HS0:=Lib.hid (by rw [termsTake hlt];exact hso.out.2.trans (List.sublist_append_left _ _):S.Sublist (K.take (k+1)))
      have HS1:=Lib.hid (by rw [termsTake hlt,hxn];exact hso.out.2.append (List.Sublist.refl _):(S++[(x,n)]).Sublist (K.take (k+1)))
      have HLS:=Lib.hid (fun W hG=>longest_ok (k:=300) (numS x) W hG (numS_list x) hsx (by decide))
      have HLN:=Lib.hid (fun W hG=>longest_ok (k:=90) (decS n) W hG (by rw [text_natR];exact decS_list n) (sz_natR hn90 (by decide)) (by decide))
      have HINV:=Lib.hid (fun h=>longN_inv (n:=n) h)
      have HXE:Hid (longD x=longD x):=Lib.hid rfl
      obtain ⟨D,hD⟩:∃ D,longD ((n:Int):Rat)=D:=⟨_,rfl⟩
      obtain ⟨E,hE⟩:∃ E,longD x=E:=⟨_,rfl⟩
      rw [hD] at HLN HINV
      rw [hE] at HLS
      have HEE:=Lib.hid hE
      have hz:((numS x).toList == [48])=decide (x=0):=by rw [Lib.toList_data,numS_list,text_eq0]
      have hltI:(k:Int) < (K.length:Int):=by omega
      have hk1:IntKind.i64.wrap ((k:Int)+1)=((k+1:Nat):Int):=IntWalk.i64_in _ (by omega)
      obtain ⟨sx,hsxx⟩:∃ s,numS x=s:=⟨_,rfl⟩
      obtain ⟨sn,hsnn⟩:∃ s,decS n=s:=⟨_,rfl⟩
      rw [hsxx] at d0 HLS hz
      rw [hsnn] at d1 HLN
      have hb3:=below_trans' hb2 hB3
      have hb4:Below w.heap.size w (wr.alloc (.cells #[.string sx,.string sn] 78)):=bw4 hb3 _
      have hB4:Below w2.heap.size w2 (wr.alloc (.cells #[.string sx,.string sn] 78)):=bw4 hB3 _
      have y0:BoxT2 78 (wr.alloc (.cells #[.string sx,.string sn] 78)) wr.heap.size (.string sx) (.string sn):=BoxT2.new rfl
      have HROW1:=Lib.hid (hrow.out.alloc (.cells #[.string sx,.string sn] 78))
      have HOB:=Lib.hid (fun j (hk:(Value.slice sa S.length sc).ownBlock=some j)=>(by obtain ⟨x,y,e,h⟩:=rowT_shape hrow.out;cases e;exact h j hk:w2.heap.size≤j))
      have M1:S.length+1≤maxLen:=by unfold maxLen;omega
      have HSC:Hid (termCells (clsL (S++[(x,n)]))=termCells (clsL S)++[.string sx,.string sn]):=Lib.hid (by rw [clsL_append,termCells_append,hsxx,hsnn];rfl)
      clear hxx hnn hxn hsx hn90 hD hE hsxx hsnn hrow
      by_cases hx0:x=0
      ·have HV2:Hid (∀ P,valT S P=valT (K.take (k+1)) P):=Lib.hid (fun P=>by rw [HVS.out P,hsv.out P,hx0];grind)
       rw [decide_eq_true hx0] at hz
       replace HS0:=Lib.hid (⟨hso.out.1,HS0.out⟩:SOk S∧_)
       clear hx0 HVS HSC HS1
       go_wp2_with fail
       go_roundw
       case rel=>exact ⟨k+1,S,sa,sc,by omega,by go_num,rfl,HROW1,by omega,HS0,HV2,hB4⟩
       case measure=>simp [intOf];omega
      ·have HV2:Hid (∀ P,valT (S++[(x,n)]) P=valT (K.take (k+1)) P):=Lib.hid (fun P=>by
        rw [HVS.out P,← hsv.out P,valT_append]
        show _+(x * xr P n+0)=_
        grind)
       rw [decide_eq_false hx0] at hz
       have HX0:=Lib.hid hx0
       have HN1:=Lib.hid hn1
       clear HVS hx0 hn1 HS0
       by_cases gE:(60:Int) < (E:Int)
       ·go_wp2_with fail
        generalize wr.alloc (.cells #[.string sx,.string sn] 78)=W3 at *
        refine (HLS.out _ (HG.out.below hb4)).mono ?_
        rintro e w5 ⟨rfl,hB5⟩
        have hb5:=below_trans' hb4 hB5
        clear hB5 hb4 HLS
        go_wp2_with fail
        refine bodyPost_ret (v:=.tuple #[.slice none 0 0,.int .i64 4]) (by simp [results,Tryz.results9,go_sem]) rfl ?_
        exact ⟨_,4,[],rfl,isTerms_nil,Lib.hid (fun h=>by simp at h),Lib.hid ⟨.inr rfl,fun h=>absurd h (by decide)⟩,hb5⟩
       ·by_cases gD:(40:Int) < (D:Int)
        ·go_wp2_with fail
         generalize wr.alloc (.cells #[.string sx,.string sn] 78)=W3 at *
         refine (HLS.out _ (HG.out.below hb4)).mono ?_
         rintro e w5 ⟨rfl,hB5⟩
         have hb5:=below_trans' hb4 hB5
         replace y0:=y0.below hB5
         have e1:=y0.c1
         clear hB5 hb4 HLS
         go_wp2_with fail
         refine (HLN.out _ (HG.out.below hb5)).mono ?_
         rintro e w6 ⟨rfl,hB6⟩
         have hb6:=below_trans' hb5 hB6
         clear hB6 hb5 HLN e1
         go_wp2_with fail
         refine bodyPost_ret (v:=.tuple #[.slice none 0 0,.int .i64 4]) (by simp [results,Tryz.results9,go_sem]) rfl ?_
         exact ⟨_,4,[],rfl,isTerms_nil,Lib.hid (fun h=>by simp at h),Lib.hid ⟨.inr rfl,fun h=>absurd h (by decide)⟩,hb6⟩
        ·have HSO:Hid (SOk (S++[(x,n)])∧_):=Lib.hid ⟨hso.out.1.append ⟨HX0.out,by rw [HEE.out];omega,HN1.out,HINV.out (by omega)⟩,HS1.out⟩
         clear HX0 HN1 HINV HEE HXE HS1
         go_wp2_with fail
         generalize wr.alloc (.cells #[.string sx,.string sn] 78)=W3 at *
         refine (HLS.out _ (HG.out.below hb4)).mono ?_
         rintro e w5 ⟨rfl,hB5⟩
         have hb5:=below_trans' hb4 hB5
         replace hB4:=below_trans' hB4 hB5
         replace y0:=y0.below hB5
         have HROW2:=Lib.hid (rowKpB HROW1.out hB5)
         have e1:=y0.c1
         clear hB5 hb4 HLS HROW1
         go_wp2_with fail
         refine (HLN.out _ (HG.out.below hb5)).mono ?_
         rintro e w6 ⟨rfl,hB6⟩
         have hb6:=below_trans' hb5 hB6
         replace hB4:=below_trans' hB4 hB6
         replace y0:=y0.below hB6
         have HROW3:=Lib.hid (rowKpB HROW2.out hB6)
         have f0:=y0.c0
         have f1:=y0.c1
         have hz6:=hB4.size
         clear hB6 hb5 HLN e1 HROW2
         go_wp2_with (at_builtin;refine wpList_append_own _ rfl _ _ 42 rfl w2.heap.size 49 i0 (.agg #[.string ⟨#[]⟩,.string ⟨#[]⟩]) 2 32 Tryz.underlying42 hi0 hz0 hz1 hz2 rfl (by decide) _ S.length _ rfl (HROW3.out.alloc _) ⟨w6.heap.size,0,none⟩ 1 1 [.string sx,.string sn] rfl rfl (cell_two_at w6 _ _ _ rfl) (by simp [Value.oneCell']) M1 (by omega) (by simp;omega) ?_;intro v' w7 hown' hgrow3 hnil3;have HROW4:=Lib.hid hown';have hB5:=Lib.hid (Below.grown (bw4 hB4 _) hgrow3 (by simp;omega) HOB.out);clear hown' hgrow3 hnil3;obtain ⟨sa2,sc2,rfl,_⟩:=rowT_shape HROW4.out)
         have HL1:(S++[(x,n)]).length=S.length+1:=List.length_append
         go_roundw
         case rel=>exact ⟨k+1,S++[(x,n)],sa2,sc2,by omega,by go_num,by rw [HL1],Lib.hid (by rw [HL1,HSC.out];exact HROW4.out),by omega,HSO,HV2,hB5.out⟩
         case measure=>simp [intOf];omega
     ·have e:k=K.length:=by omega
      subst e
      have HSV:Hid (∀ P,valT S P=valT K P):=Lib.hid (fun P=>by rw [hsv.out P,List.take_length])
      have hb3:=below_trans' hb2 hB3
      have hRI:¬ (16:Int) < (S.length:Int):=by omega
      have HRS:=Lib.hid (sortG_ok S sa sc w2 wr (HG.out.below hb2) hrow.out hB3 hso.out.1 (by omega))
      have hsz12:S.length≤12:=by omega
      have HSK:=Lib.hid hsk
      clear hrow hsv
      go_wp2_with fail
      refine HRS.out.mono ?_
      rintro e w3 ⟨rfl,hT,hB4⟩
      have hb4:Below w.heap.size w w3:=below_trans' hb2 hB4
      clear hB4
      go_wp2_with fail
      refine bodyPost_ret (v:=.tuple #[.slice sa S.length sc,.int .i64 0]) (by simp [results,Tryz.results9,go_sem]) rfl ?_
      obtain ⟨T,hp,hA,hT2⟩:=hT.out
      have hR:=(hso.out.1.perm hp).res (by rw [hp.length_eq];exact hsz12)
      have hKT:=(HKA.out.sub (by have h:=hso.out.2;rwa [List.take_length] at h)).perm hp
      refine ⟨_,0,clsL T,rfl,hT2,Lib.hid (fun _=>⟨by rw [clsL_length,hp.length_eq];exact Nat.le_trans HSK.out HKL.out,T,hR,HKV.out.add (Near0.zero (f:=fun _=>0) fun _=>rfl) fun P=>?_⟩),Lib.hid ⟨.inl rfl,fun _=>⟨T,hR.surd hA hKT⟩⟩,hb4⟩
      rw [valT_perm hp P,HSV.out P];grind
   ·clear hst
    go_wp2_with fail
    refine bodyPost_ret (v:=.tuple #[.slice none 0 0,.int .i64 cd]) (by simp [results,Tryz.results9,go_sem]) rfl ?_
    exact ⟨_,cd,[],rfl,isTerms_nil,Lib.hid (fun h=>absurd h hcd),Lib.hid ⟨hc4.out,fun h=>absurd h hcd⟩,hb2⟩
end Go.Proofs.YthihcjgmlbnapaaGreatDoor
namespace Go.Proofs.YthihcjgmlbnapaaGreatDoor
open Go.RowKit Go.Shelf
theorem scaled_ok (T:Terms) (c:Rat) (L:TTexts) (v:Value) (cs:ByteArray) (w:World) (hG:Glo w) (hv:IsTerms w v L) (hT:SurdIs L T) (hc:cs.data.toList=ratText c) (hsc:Sz 90 c) :
  Calls Tryz.prog 70 #[v,.string cs] w (RetSd (rawL (scaledQ T c)) w):=by
 obtain ⟨i0,hi0,hz0,hz1,hz2⟩:=info_parts Tryz.infoTerm
 have hlen:=hT.len
 have HTT:=Lib.hid hT
 have HTL:=Lib.hid hT.same
 obtain ⟨a,cap,rfl,hcap,h⟩:=hv
 have HC:=Lib.hid h
 have HG:=Lib.hid hG
 have HMU:=Lib.hid (fun (q:Rat) (x:ByteArray) (hx:x.data.toList=ratText q) (hs:Sz 60 q) W hG=>RMul_ok (a:=60) (b:=90) x cs W hG hx hs hc hsc (by decide))
 clear h hG hT hc hsc
 go_enter Tryz.func70,Tryz.ntmps70
 go_wp2_with fail
 go_loopw [6,13] (fun o i wr=>∃ (k:Nat) (sa:Option Addr) (sc:Nat),k≤L.length∧i=.int .i64 k∧o=.slice sa k sc∧wr.ownsRow w.heap.size 49 2 (.slice sa k sc) k (termCells (rawL (scaledQ (T.take k) c)))∧Below w.heap.size w wr) (fun _ i _=>L.length - (intOf i).toNat)
 case atStart=>exact ⟨0,none,0,by omega,rfl,rfl,World.ownsRow_nil _ _ _ _,bw0 _ _⟩
 case round =>
  obtain ⟨k,sa,sc,hk,rfl,rfl,hrow,hB⟩:=hrel
  by_cases hlt:k < L.length
  ·obtain ⟨b,off,rfl,hcell⟩:=HC.out (fun h=>by rw [h] at hlt;simp at hlt)
   obtain ⟨d0,d1⟩:=(hcell k hlt).below (w':=wr) hB
   have hok:=HTT.out.ok k hlt
   have hst:=scaledQ_snoc (T.take k) (tq T k) c
   rw [← termsTake (by rw [HTL.out];exact hlt)] at hst
   obtain ⟨x,hxx⟩:∃ c,(tt L k).1=c:=⟨_,rfl⟩
   obtain ⟨r,hrr⟩:∃ r,(tt L k).2=r:=⟨_,rfl⟩
   obtain ⟨q,hq⟩:∃ q,(tq T k).1=q:=⟨_,rfl⟩
   obtain ⟨m,hm⟩:∃ m,(tq T k).2=m:=⟨_,rfl⟩
   rw [hxx,hrr,hq,hm] at hok
   rw [hxx] at d0
   rw [hrr] at d1
   rw [hq,hm] at hst
   have HM:=Lib.hid (HMU.out q x hok.c hok.sz.1)
   have hrm:r=numS ((m:Int):Rat):=by rw [← decS_num];exact decS_of hok.r
   have HST:Hid (termCells (rawL (scaledQ (T.take (k+1)) c))=termCells (rawL (scaledQ (T.take k) c))++[.string (numS (q * c)),.string r]):=Lib.hid (by rw [hst,rawL_snoc,termCells_append,hrm];rfl)
   have hltI:(k:Int) < (L.length:Int):=by omega
   have hk1:IntKind.i64.wrap ((k:Int)+1)=((k+1:Nat):Int):=IntWalk.i64_in _ (by omega)
   have HROW:=Lib.hid hrow
   have HOB:=Lib.hid (fun j (hk:(Value.slice sa k sc).ownBlock=some j)=>(by obtain ⟨x,y,e,h⟩:=rowT_shape hrow;cases e;exact h j hk:w.heap.size≤j))
   have hb1:Below w.heap.size w (wr.alloc (.cells #[.string x,.string r] 49)):=bw4 hB _
   have y0:BoxT2 49 (wr.alloc (.cells #[.string x,.string r] 49)) wr.heap.size (.string x) (.string r):=BoxT2.new rfl
   have HROW1:=Lib.hid (HROW.out.alloc (.cells #[.string x,.string r] 49))
   have M1:k+1≤maxLen:=by unfold maxLen;omega
   clear hcell hok hst hxx hrr hq hm hrm hrow
   go_wp2_with fail
   generalize wr.alloc (.cells #[.string x,.string r] 49)=W1 at *
   refine (HM.out _ (HG.out.below hb1)).mono ?_
   rintro e w2 ⟨z,hz,rfl,hB2⟩
   obtain rfl:=numS_of hz
   have hb2:=below_trans' hb1 hB2
   replace y0:=y0.below hB2
   have HROW2:=Lib.hid (rowKpB HROW1.out hB2)
   have e1:=y0.c1
   have hz2':=hb2.size
   clear hB2 hb1 HM hz HROW1 HROW
   generalize numS (q * c)=z at *
   go_wp2_with (at_builtin;refine wpList_append_own _ rfl _ _ 41 rfl w.heap.size 49 i0 (.agg #[.string ⟨#[]⟩,.string ⟨#[]⟩]) 2 32 Tryz.underlying41 hi0 hz0 hz1 hz2 rfl (by decide) _ k _ rfl (HROW2.out.alloc _) ⟨w2.heap.size,0,none⟩ 1 1 [.string z,.string r] rfl rfl (cell_two_at w2 _ _ _ rfl) (by simp [Value.oneCell']) M1 (by omega) (by simp;omega) ?_;intro v' w3 hown' hgrow3 hnil3;have HROW3:=Lib.hid hown';have hB5:=Lib.hid (Below.grown (bw4 hb2 _) hgrow3 (by simp;omega) HOB.out);clear hown' hgrow3 hnil3;obtain ⟨sa2,sc2,rfl,_⟩:=rowT_shape HROW3.out)
   go_roundw
   case rel=>exact ⟨k+1,sa2,sc2,by omega,by go_num,rfl,by rw [HST.out];exact HROW3.out,hB5.out⟩
   case measure=>simp [intOf];omega
  ·have e:k=L.length:=by omega
   subst e
   have HRT:=Lib.hid (show IsTerms wr (.slice sa L.length sc) (rawL (scaledQ T c)) from isTerms_row (B:=w.heap.size) (t:=49) (by
    have h1:=hrow
    rw [List.take_of_length_le (by rw [HTL.out];exact Nat.le_refl _)] at h1
    have h2:(rawL (scaledQ T c)).length=L.length:=by simp [rawL,scaledQ,HTL.out]
    rw [h2];exact h1))
   clear hrow
   go_wp2_with fail
   refine bodyPost_ret (v:=.tuple #[.slice sa L.length sc,.int .i64 0]) (by simp [results,Tryz.results70,go_sem]) rfl ?_
   exact ⟨_,rfl,HRT.out,hB⟩
theorem SurdIs.sizes {L:TTexts} {T:Terms} (h:SurdIs L T):∀ k,k < L.length→(tt L k).1.size≤1000∧(tt L k).2.size≤1000:=by
 intro k hk
 have a:=h.ok k hk
 refine ⟨?_,?_⟩
 ·have e:(tt L k).1.size=(tt L k).1.data.toList.length:=rfl
  rw [e,a.c,ratText_parts]
  have h1:=a.cn
  have h2:=a.cd
  simp only [List.length_append]
  split<;>split<;>simp<;>omega
 ·have e:(tt L k).2.size=(tt L k).2.data.toList.length:=rfl
  rw [e,a.r]
  have:=a.rn
  omega
theorem sCheck_yes (L:TTexts) (T:Terms) (v:Value) (w:World) (hG:Glo w) (hP:Pri w) (hv:IsTerms w v L) (h:SurdIs L T) :
  Calls Tryz.prog 52 #[v] w (RetB (.int .i64 0) w):=by
 refine (sCheck_ok L v w hG hP hv h.sizes).mono ?_
 rintro e w' ⟨k,rfl,hk,hB⟩
 obtain rfl:k=0:=hk.out.2 ⟨T,h⟩
 exact ⟨rfl,hB⟩
theorem sboth_ok (L M:TTexts) (T S:Terms) (u v:Value) (w:World) (hG:Glo w) (hP:Pri w) (hu:IsTerms w u L) (hv:IsTerms w v M) (h:SurdIs L T) (k:SurdIs M S) :
  Calls Tryz.prog 21 #[u,v] w (RetB (.bool true) w):=by
 have H1:=Lib.hid (sCheck_yes L T u w hG hP hu h)
 have H2:=Lib.hid (fun W hB=>sCheck_yes M S v W (hG.below hB) (hP.below hB) (hv.below hB) k)
 clear hG hP hu hv h k
 go_enter Tryz.func21,Tryz.ntmps21
 go_wp2_with fail
 refine H1.out.mono ?_
 rintro e w1 ⟨rfl,hB1⟩
 go_wp2_with fail
 refine (H2.out _ hB1).mono ?_
 rintro e w2 ⟨rfl,hB2⟩
 have hb2:=below_trans' hB1 hB2
 clear hB1 hB2
 go_wp2_with fail
 go_ret
 exact ⟨rfl,hb2⟩
theorem Scale_ok (T:Terms) (c:Rat) (n:Nat) (L:TTexts) (v:Value) (cs:ByteArray) (w:World) (hG:Glo w) (hP:Pri w) (hv:IsTerms w v L) (hT:SurdIs L T) (hc:cs.data.toList=ratText c) (hsc:Sz 90 c) (h1:OneC (scaledQ T c) n) :
  Calls Tryz.prog 86 #[v,.string cs] w (RetSd (oneL (gsum (scaledQ T c)) n) w):=by
 have H1:=Lib.hid (sCheck_yes L T v w hG hP hv hT)
 have H2:=Lib.hid (fun W hG=>RCheck_ok cs W hG hc hsc (by decide))
 have H3:=Lib.hid (fun W hB=>scaled_ok T c L v cs W (hG.below hB) (hv.below hB) hT hc hsc)
 have H4:=Lib.hid (fun W u hG hP (hu:IsTerms W u (rawL (scaledQ T c)))=>Make_ok (scaledQ T c) n _ u W hG hP h1 (rawL_is _) hu)
 have HG:=Lib.hid hG
 have HP:=Lib.hid hP
 clear hG hP hv hT hc hsc h1
 go_enter Tryz.func86,Tryz.ntmps86
 go_wp2_with fail
 refine H1.out.mono ?_
 rintro e w1 ⟨rfl,hB1⟩
 go_wp2_with fail
 refine (H2.out _ (HG.out.below hB1)).mono ?_
 rintro e w2 ⟨rfl,hB2⟩
 have hb2:=below_trans' hB1 hB2
 clear hB1 hB2
 go_wp2_with fail
 refine (H3.out _ hb2).mono ?_
 rintro e w3 ⟨u,rfl,hu,hB3⟩
 have hb3:=below_trans' hb2 hB3
 have H5:=Lib.hid (H4.out w3 u (HG.out.below hb3) (HP.out.below hb3) hu)
 obtain ⟨ua,uc,rfl,_⟩:=hu
 clear hB3 hb2
 go_wp2_with fail
 refine H5.out.mono ?_
 rintro e w4 ⟨x,rfl,hx,hB4⟩
 have hb4:=below_trans' hb3 hB4
 have HX:=Lib.hid hx
 obtain ⟨xa,xc,rfl,_⟩:=hx
 clear hB4
 go_wp2_with fail
 refine bodyPost_ret (v:=.tuple #[.slice xa (oneL (gsum (scaledQ T c)) n).length xc,.int .i64 0]) (by simp [results,Tryz.results86,go_sem]) rfl ?_
 exact ⟨_,rfl,HX.out,hb4⟩
end Go.Proofs.YthihcjgmlbnapaaGreatDoor
namespace Go.Proofs.YthihcjgmlbnapaaGreatDoor
open Go.RowKit Go.Shelf
theorem run_append_none {P:Program} (w:World) (t ty e:TypeId) (i:TypeInfo) (ht:P.underlying t=some (.slice e)) (hi:P.info? e=some i) (b:Option Addr) (n c:Nat) (x:Option Addr) (c2:Nat) (hnc:n≤c) :
  (Builtin.append_ #[t,t] ty #[.slice b n c,.slice x 0 c2]).run P w=.ok (.slice b n c) w:=by
 have hf:∀ W,(Builtin.firstCells i.size 0 (.slice x 0 c2)).run P W=.ok #[] W:=by
  intro W
  cases x with
  | none=>exact run_firstCells_none ..
  | some a=>exact run_firstCells_some (P:=P) W i.size 0 a 0 c2 [] (by simp) (by simp)
 cases b with
 | none=>simp [Builtin.append_,run_underlying ht,sizeOf,typeInfo,hi,Builtin.lenOf,hnc,hf]
 | some a=>simp [Builtin.append_,run_underlying ht,sizeOf,typeInfo,hi,Builtin.lenOf,hnc,hf,storeCells]
theorem wpList_append_terms {P:Program} (w:World) {ops:Array Oper} {rest:List Oper} {o:Oper} {a:Act} {Q:Exit→Act→World→Prop} (hgd:o.guard=none) (s x:Operand) (t:TypeId)
  (ho:o.op=.call { callee:=.builtin .append,args:=#[s,x],argTypes:=#[t,t] })
  (base:Nat) (e:TypeId) (i:TypeInfo) (z:Value) (bytes:Nat) (ht:P.underlying t=some (.slice e)) (hi:P.info? e=some i) (hz:i.zero=some z) (hsize:i.size=2) (hby:i.bytes=bytes) (hzs:z.cells.size=2)
  (A L:TTexts) (sa:Option Addr) (sc:Nat) (hs:a.eval s=.slice sa A.length sc) (hown:w.ownsRow base e 2 (.slice sa A.length sc) A.length (termCells A))
  (ax:Option Addr) (cx:Nat) (hx:a.eval x=.slice ax L.length cx) (hL:IsTerms w (.slice ax L.length cx) L) (h63:A.length+L.length≤100000) (hbytes:bytes≤100) (hbase:base≤w.heap.size)
  (h:∀ sa' sc' w',w'.ownsRow base e 2 (.slice sa' (A.length+L.length) sc') (A.length+L.length) (termCells (A++L))→Below base w w'→wpList P ops Q rest (a.put o.dst (.slice sa' (A.length+L.length) sc')) w'):wpList P ops Q (o::rest) a w:=by
 obtain ⟨a2,c2,he,hc2,hcells⟩:=hL
 obtain ⟨rfl,_,rfl⟩:ax=a2∧True∧cx=c2:=by cases he;exact ⟨rfl,trivial,rfl⟩
 by_cases hL0:L=[]
 ·subst hL0
  have hnc:A.length≤sc:=by
   rcases hown.2 with ⟨h1,h2⟩|⟨g,cap,cur,h1,_,_,h2,_⟩
   ·injection h1 with _ e1 e2;omega
   ·injection h1 with _ e1 e2;omega
  refine Lib.wpList_append_run w hgd s x t t ho _ _ hs hx _ _ (run_append_none w t _ e i ht hi sa A.length sc ax cx hnc) ?_
  have h1:=h sa sc w (by rw [List.append_nil];exact hown) (bw0 _ _)
  exact h1
 ·obtain ⟨b,off,rfl,hk⟩:=hcells hL0
  refine wpList_append_own w hgd s x t ho base e i z 2 bytes ht hi hz hsize hby hzs (by decide) _ A.length _ hs hown ⟨b,off,none⟩ L.length cx (termCells L) hx (termCells_length L) (term_cell hk) termCells_one (by unfold maxLen;omega)
   (Nat.le_trans (Nat.mul_le_mul h63 hbytes) (by decide)) hbase fun v' w' h1 h2 _=>?_
  obtain ⟨sa',sc',rfl,_⟩:=rowT_shape h1
  refine h sa' sc' w' (by rw [termCells_append];exact h1) (Below.grown (bw0 _ _) h2 hbase fun k hk=>?_)
  obtain ⟨x,y,e',h3⟩:=rowT_shape hown
  cases e'
  exact h3 k hk
theorem growT_ok (n:Nat) (w:World) (h0:0 < n) (hn:n≤100000) :
  Calls Tryz.prog 53 #[.slice none 0 0,.int .i64 n] w fun e w'=>∃ cap,e=.returned (.slice (some ⟨w.heap.size,0,none⟩) 0 cap)∧w'.ownsRow w.heap.size 49 2 (.slice (some ⟨w.heap.size,0,none⟩) 0 cap) 0 []∧Below w.heap.size w w':=by
 obtain ⟨i0,hi0,hz0,hz1,hz2⟩:=info_parts Tryz.infoTerm
 have hr:∀ ty,(Builtin.append_ #[42,3] ty #[.slice none 0 0,.int .i64 n]).run Tryz.prog w=_:=fun ty=>Lib.run_append_nil_zeros w 42 3 ty 49 i0 (.agg #[.string ⟨#[]⟩,.string ⟨#[]⟩]) .i64 .i64 Tryz.underlying42 Tryz.underlying3 hi0 hz0 n h0 (by rw [hz1];omega) (by omega) (by rw [hz2];omega)
 have hG:=grownCap_ge w n 0 49
 have hG2:=grownCap_le_maxLen w n 0 49 (by unfold maxLen;omega)
 have hrow:(w.drew.alloc (.cells (Builtin.zeroCells (Value.agg #[.string ⟨#[]⟩,.string ⟨#[]⟩]).cells n++Builtin.zeroCells (Value.agg #[.string ⟨#[]⟩,.string ⟨#[]⟩]).cells (grownCap w n 0 49 - n)) 49)).ownsRow w.heap.size 49 2 (.slice (some ⟨w.heap.size,0,none⟩) 0 (grownCap w n 0 49)) 0 []:=by
  refine ⟨rfl,Or.inr ⟨w.heap.size,_,_,rfl,Nat.le_refl _,heap_alloc_last w.drew _,Nat.zero_le _,hG2,?_,rfl⟩⟩
  rw [Array.size_append,size_zeroCells,size_zeroCells,show (Value.agg #[.string ⟨#[]⟩,.string ⟨#[]⟩]).cells.size=2 from rfl]
  omega
 have hB:Below w.heap.size w (w.drew.alloc (.cells (Builtin.zeroCells (Value.agg #[.string ⟨#[]⟩,.string ⟨#[]⟩]).cells n++Builtin.zeroCells (Value.agg #[.string ⟨#[]⟩,.string ⟨#[]⟩]).cells (grownCap w n 0 49 - n)) 49)):=bw4 (bw0 _ _).drew _
 generalize hW:w.drew.alloc (.cells (Builtin.zeroCells (Value.agg #[.string ⟨#[]⟩,.string ⟨#[]⟩]).cells n++Builtin.zeroCells (Value.agg #[.string ⟨#[]⟩,.string ⟨#[]⟩]).cells (grownCap w n 0 49 - n)) 49)=W at *
 generalize grownCap w n 0 49=G at *
 have HRO:=Lib.hid hrow
 have HB:=Lib.hid hB
 clear hrow hB hW
 unfold maxLen at hG2
 go_enter Tryz.func53,Tryz.ntmps53
 go_wp2_with (at_builtin;refine Lib.wpList_append_run _ rfl _ _ _ _ rfl _ _ rfl rfl _ _ (hr _) ?_)
 go_ret
 exact ⟨G,rfl,HRO.out,HB.out⟩
theorem growT_zero (w:World) :
  Calls Tryz.prog 53 #[.slice none 0 0,.int .i64 0] w (RetB (.slice none 0 0) w):=by
 go_enter Tryz.func53,Tryz.ntmps53
 go_wp2_with fail
 go_ret
 exact ⟨rfl,qbl⟩
theorem growT_any (n:Nat) (w:World) (hn:n≤100000) :
  Calls Tryz.prog 53 #[.slice none 0 0,.int .i64 n] w fun e w'=>∃ sa cap,e=.returned (.slice sa 0 cap)∧w'.ownsRow w.heap.size 49 2 (.slice sa 0 cap) 0 []∧Below w.heap.size w w':=by
 rcases Nat.eq_zero_or_pos n with rfl|h
 ·refine (growT_zero w).mono ?_
  rintro e w' ⟨rfl,hB⟩
  exact ⟨none,0,rfl,World.ownsRow_nil _ _ _ _,hB⟩
 ·refine (growT_ok n w h hn).mono ?_
  rintro e w' ⟨cap,rfl,h1,h2⟩
  exact ⟨_,cap,rfl,h1,h2⟩
def RetTs (L:TTexts) (w:World) (e:Ending) (w':World):Prop:=∃ u,e=.returned u∧IsTerms w' u L∧Below w.heap.size w w'
theorem concat2_ok (L M:TTexts) (u v:Value) (b:Nat) (w:World) (hu:IsTerms w u L) (hv:IsTerms w v M) (h0:w.cell? ⟨b,0,none⟩=some u) (h1:w.cell? ⟨b,1,none⟩=some v) (hL:L.length≤100) (hM:M.length≤100) :
  Calls Tryz.prog 22 #[.slice (some ⟨b,0,none⟩) 2 2] w (RetTs (L++M) w):=by
 obtain ⟨i0,hi0,hz0,hz1,hz2⟩:=info_parts Tryz.infoTerm
 have HU:=Lib.hid hu
 have HV:=Lib.hid hv
 obtain ⟨a1,c1,rfl,_⟩:=hu
 obtain ⟨a2,c2,rfl,_⟩:=hv
 have HGR:=Lib.hid (fun W=>growT_any (L.length+M.length) W (by omega))
 have hw1:IntKind.i64.wrap ((L.length:Int)+(M.length:Int))=(L.length:Int)+(M.length:Int):=IntWalk.i64_in _ (by omega)
 have hw0:IntKind.i64.wrap (L.length:Int)=(L.length:Int):=IntWalk.i64_in _ (by omega)
 have hn1:¬ (L.length:Int)+(M.length:Int) < 0:=by omega
 go_enter Tryz.func22,Tryz.ntmps22
 go_wp2_with fail
 go_loopw [3,11] (fun s i wr=>wr=w∧((i=.int .i64 0∧s=.int .i64 0)∨(i=.int .i64 1∧s=.int .i64 (L.length:Int))∨(i=.int .i64 2∧s=.int .i64 ((L.length:Int)+(M.length:Int))))) (fun _ i _=>2 - (intOf i).toNat)
 case atStart=>exact ⟨rfl,.inl ⟨rfl,rfl⟩⟩
 case round =>
  obtain ⟨hwr,⟨rfl,rfl⟩|⟨rfl,rfl⟩|⟨rfl,rfl⟩⟩:=hrel
  ·subst wr
   go_wp2_with fail
   go_roundw
   case rel=>exact ⟨trivial,.inr (.inl ⟨rfl,by simp⟩)⟩
   case measure=>simp [intOf]
  ·subst wr
   go_wp2_with fail
   go_roundw
   case rel=>exact ⟨trivial,.inr (.inr ⟨rfl,rfl⟩)⟩
   case measure=>simp [intOf]
  ·subst wr
   go_wp2_with fail
   refine (HGR.out _).mono ?_
   rintro e w1 ⟨sa,cap,rfl,hrow,hB1⟩
   have k0:=keep hB1 h0
   have k1:=keep hB1 h1
   have hR0:=Lib.hid hrow
   have hz:=hB1.size
   clear hrow
   go_wp2_with fail
   go_loopw [6,27] (fun o i wr=>Below w.heap.size w wr∧((i=.int .i64 0∧o=.slice sa 0 cap∧wr=w1)∨(i=.int .i64 1∧∃ sb cb,o=.slice sb L.length cb∧Hid (wr.ownsRow w.heap.size 49 2 (.slice sb L.length cb) L.length (termCells L)))∨(i=.int .i64 2∧∃ sb cb,o=.slice sb (L.length+M.length) cb∧Hid (IsTerms wr (.slice sb (L.length+M.length) cb) (L++M))))) (fun _ i _=>2 - (intOf i).toNat)
   case atStart=>exact ⟨hB1,.inl ⟨rfl,rfl,rfl⟩⟩
   case round =>
    obtain ⟨hB,⟨rfl,rfl,hwr⟩|⟨rfl,sb,cb,rfl,hR⟩|⟨rfl,sb,cb,rfl,hT⟩⟩:=hrel
    ·subst wr
     have HU1:=Lib.hid (HU.out.below hB)
     go_wp2_with (at_builtin;refine wpList_append_terms _ rfl _ _ 42 rfl w.heap.size 49 i0 (.agg #[.string ⟨#[]⟩,.string ⟨#[]⟩]) 32 Tryz.underlying42 hi0 hz0 hz1 hz2 rfl [] L sa cap rfl hR0.out a1 c1 rfl HU1.out (by simp;omega) (by decide) hz ?_;intro sa' sc' w' h1' h2';have HR1:=Lib.hid h1';have hb2:=hB.trans h2';clear h1' h2')
     go_roundw
     case rel=>exact ⟨hb2,.inr (.inl ⟨rfl,sa',sc',by simp,Lib.hid (by have h2:=HR1.out;simpa using h2)⟩)⟩
     case measure=>simp [intOf]
    ·have HV1:=Lib.hid (HV.out.below hB)
     have hzz:=hB.size
     replace k0:=keep hB h0
     replace k1:=keep hB h1
     go_wp2_with (at_builtin;refine wpList_append_terms _ rfl _ _ 42 rfl w.heap.size 49 i0 (.agg #[.string ⟨#[]⟩,.string ⟨#[]⟩]) 32 Tryz.underlying42 hi0 hz0 hz1 hz2 rfl L M sb cb rfl hR.out a2 c2 rfl HV1.out (by omega) (by decide) hzz ?_;intro sa' sc' w' h1' h2';have HR1:=Lib.hid h1';have hb2:=hB.trans h2';clear h1' h2')
     go_roundw
     case rel=>exact ⟨hb2,.inr (.inr ⟨rfl,sa',sc',rfl,Lib.hid (isTerms_row (l:=L++M) (by rw [List.length_append];exact HR1.out))⟩)⟩
     case measure=>simp [intOf]
    ·have HLN:=Lib.hid (show (L++M).length=L.length+M.length from by simp)
     go_wp2_with fail
     go_ret
     exact ⟨_,rfl,hT.out,hB⟩
theorem minusOne:(⟨#[45,49]⟩:ByteArray).data.toList=ratText (-1):=by decide +kernel
theorem Sub_ok (T S:Terms) (n:Nat) (L M:TTexts) (u v:Value) (w:World) (hG:Glo w) (hP:Pri w) (hu:IsTerms w u L) (hv:IsTerms w v M) (hT:SurdIs L T) (hS:SurdIs M S) (h1:OneC (toQ T++scaledQ S (-1)) n) :
  Calls Tryz.prog 32 #[u,v] w (RetSd (oneL (gsum (toQ T++scaledQ S (-1))) n) w):=by
 obtain ⟨R,hR⟩:∃ R,rawL (scaledQ S (-1))=R:=⟨_,rfl⟩
 obtain ⟨N,hN⟩:∃ N,L++R=N:=⟨_,rfl⟩
 have hLM:N=rawL (toQ T++scaledQ S (-1)):=by rw [← hN,← hR,rawL_append,← hT.raw]
 have H1:=Lib.hid (sboth_ok L M T S u v w hG hP hu hv hT hS)
 have H2:=Lib.hid (fun W hB=>scaled_ok S (-1) M v ⟨#[45,49]⟩ W (hG.below hB) (hv.below hB) hS minusOne (by unfold Sz;decide +kernel))
 rw [hR] at H2
 have hml:R.length≤100:=by rw [← hR,rawL_length];unfold scaledQ;rw [List.length_map,hS.same];exact Nat.le_trans hS.len (by decide)
 have H3:=Lib.hid (fun (W:World) (b:Nat) (x:Value) (hB:Below w.heap.size w W) (hx:IsTerms W x R) h0 h1=>(by rw [← hN];exact concat2_ok L R u x b W (hu.below hB) hx h0 h1 (Nat.le_trans hT.len (by decide)) hml:Calls Tryz.prog 22 #[.slice (some ⟨b,0,none⟩) 2 2] W (RetTs N W)))
 have H4:=Lib.hid (fun W x hG hP (hx:IsTerms W x N)=>Make_ok (toQ T++scaledQ S (-1)) n N x W hG hP h1 (by rw [hLM];exact rawL_is _) hx)
 have HG:=Lib.hid hG
 have HP:=Lib.hid hP
 obtain ⟨a1,c1,rfl,_⟩:=hu
 obtain ⟨a2,c2,rfl,_⟩:=hv
 clear hG hP hT hS h1 hLM hml hN hR
 go_enter Tryz.func32,Tryz.ntmps32
 go_wp2_with fail
 refine H1.out.mono ?_
 rintro e w1 ⟨rfl,hB1⟩
 go_wp2_with fail
 refine (H2.out _ hB1).mono ?_
 rintro e w2 ⟨m,rfl,hm,hB2⟩
 have hb2:=below_trans' hB1 hB2
 have HM:=Lib.hid hm
 obtain ⟨ma,mc,rfl,_⟩:=hm
 clear hB2
 go_wp2_with fail
 have hB3:Below w2.heap.size w2 (w2.alloc (.cells #[.slice a1 L.length c1,.slice ma R.length mc] 42)):=bw4 (bw0 _ _) _
 have hb3:=below_trans' hb2 hB3
 refine (H3.out _ w2.heap.size _ hb3 (HM.out.below hB3) (by simp [go_sem]) (by simp [go_sem])).mono ?_
 rintro e w3 ⟨x,rfl,hx,hB4⟩
 have hb4:=below_trans' hb3 hB4
 have H5:=Lib.hid (H4.out w3 x (HG.out.below hb4) (HP.out.below hb4) hx)
 obtain ⟨xa,xc,rfl,_⟩:=hx
 clear hB3 hb2 hB4 hb3
 go_wp2_with fail
 refine H5.out.mono ?_
 rintro e w4 ⟨y,rfl,hy,hB5⟩
 have hb5:=below_trans' hb4 hB5
 have HY:=Lib.hid hy
 obtain ⟨ya,yc,rfl,_⟩:=hy
 clear hB5
 go_wp2_with fail
 refine bodyPost_ret (v:=.tuple #[.slice ya (oneL (gsum (toQ T++scaledQ S (-1))) n).length yc,.int .i64 0]) (by simp [results,Tryz.results32,go_sem]) rfl ?_
 exact ⟨_,rfl,HY.out,hb5⟩
end Go.Proofs.YthihcjgmlbnapaaGreatDoor
namespace Go.Proofs.YthihcjgmlbnapaaGreatDoor
open Go
theorem tq_get {T:Terms} {i:Nat} (h:i < T.length):tq T i=T[i]:=by simp [tq,h]
theorem longD_parts {q:Rat} {k:Nat} (h:longD q≤k):(Lib.decDigits q.num.natAbs).length≤k∧(Lib.decDigits q.den).length≤k:=by
 unfold longD at h;omega
theorem longD_sz {q:Rat} {k:Nat} (h:longD q≤k):Sz k q:=⟨lenSz (longD_parts h).1,lenSz (longD_parts h).2⟩
theorem ResT.sizes {L:TTexts} {T:Terms} (h:ResT L T):∀ k,k < L.length→(tt L k).1.size≤1000∧(tt L k).2.size≤1000:=by
 intro k hk
 refine ⟨?_,?_⟩
 ·have e:(tt L k).1.size=(tt L k).1.data.toList.length:=rfl
  rw [e,h.c k hk,ratText_parts]
  obtain ⟨h1,h2⟩:=longD_parts (h.cz k hk)
  simp only [List.length_append]
  split<;>split<;>simp<;>omega
 ·have e:(tt L k).2.size=(tt L k).2.data.toList.length:=rfl
  rw [e,h.r k hk]
  have:=h.rn k hk
  omega
theorem ResT.is {L:TTexts} {T:Terms} (h:ResT L T) (k:SurdOk L):SurdIs L T:=by
 obtain ⟨T',k⟩:=k
 have:T'=T:=by
  refine List.ext_getElem (k.same.trans h.same.symm) fun i h1 h2=>?_
  have hi:i < L.length:=by rw [← k.same];exact h1
  have a:=k.ok i hi
  have e1:=ratText_injP (a.c.symm.trans (h.c i hi))
  have e2:=dec_inj (a.r.symm.trans (h.r i hi))
  rw [tq_get h1,tq_get h2] at e1 e2
  exact Prod.ext e1 e2
 rw [← this];exact k
theorem SurdIs.res {L:TTexts} {T:Terms} (h:SurdIs L T) (hl:L.length≤12):ResT L T :=
 ⟨hl,h.same,fun k hk=>(h.ok k hk).c,fun k hk=>(h.ok k hk).r,fun k hk=>(h.ok k hk).q0,fun k hk=>by have:=(h.ok k hk).cn;have:=(h.ok k hk).cd;unfold longD;omega,fun k hk=>(h.ok k hk).m1,fun k hk=>(h.ok k hk).rn⟩
theorem normQ_int {m:Nat} (h1:1≤m) (h:m=1∨normalN m=(1,m)):normQ ((m:Int):Rat)=(1,m):=by
 have hn:normalN m=(1,m):=by
  rcases h with h|h
  ·rw [h];exact normalN_one
  ·exact h
 have e1:(((m:Int):Rat)).num=(m:Int):=rfl
 have e2:(((m:Int):Rat)).den=1:=rfl
 unfold normQ
 rw [e1,e2,if_neg (by omega),Int.toNat_natCast,Nat.mul_one,hn]
 show (Rat.divInt ((1:Nat):Int) ((1:Nat):Int),m)=(1,m)
 rw [show Rat.divInt ((1:Nat):Int) ((1:Nat):Int)=1 by decide +kernel]
theorem nt_int {c:Rat} {m:Nat} (h1:1≤m) (h:m=1∨normalN m=(1,m)):nt (c,((m:Int):Rat))=(c,m):=by
 unfold nt
 rw [normQ_int h1 h]
 exact Prod.ext (by show c * 1=c;grind) rfl
def Nrm (T:Terms):Prop:=∀ x ∈ T,1≤x.2∧(x.2=1∨normalN x.2=(1,x.2))
theorem SurdIs.nrm {L:TTexts} {T:Terms} (h:SurdIs L T):Nrm T:=by
 intro x hx
 obtain ⟨k,hk,rfl⟩:=List.getElem_of_mem hx
 have a:=h.ok k (by rw [← h.same];exact hk)
 rw [tq_get hk] at a
 exact ⟨a.m1,a.nm⟩
theorem valQ_scaled {T:Terms} (h:Nrm T) (c:Rat) (P:Nat):valQ (scaledQ T c) P=c * valT T P:=by
 induction T with
 | nil=>show (0:Rat)=c * 0;grind
 | cons x T ih =>
  have e:valQ (scaledQ (x::T) c) P=(nt (x.1 * c,((x.2:Int):Rat))).1 * xr P (nt (x.1 * c,((x.2:Int):Rat))).2+valQ (scaledQ T c) P:=rfl
  obtain ⟨a,b⟩:=h x (by simp)
  rw [e,nt_int a b,ih fun y hy=>h y (by simp [hy])]
  simp only [valT];grind
theorem toQ_scaled (T:Terms):toQ T=scaledQ T 1:=by
 unfold toQ scaledQ
 refine List.map_congr_left fun x _=>Prod.ext ?_ rfl
 show x.1=x.1 * 1;grind
theorem valQ_toQ {T:Terms} (h:Nrm T) (P:Nat):valQ (toQ T) P=valT T P:=by
 rw [toQ_scaled,valQ_scaled h];grind
theorem rq_get {Q:Raws} {i:Nat} (h:i < Q.length):rq Q i=Q[i]:=by simp [rq,h]
theorem rawOk_of {Q:Raws} (hl:Q.length≤12) (h:∀ x ∈ Q,Sz 90 x.1∧Sz 45 x.2∧0≤x.2.num):RawOk Q :=
 ⟨hl,fun k hk=>by rw [rq_get hk];exact (h _ (List.getElem_mem hk)).1,fun k hk=>by rw [rq_get hk];exact (h _ (List.getElem_mem hk)).2.1,fun k hk=>by rw [rq_get hk];exact (h _ (List.getElem_mem hk)).2.2⟩
theorem ResT.mem {L:TTexts} {T:Terms} (h:ResT L T):∀ x ∈ T,Sz 60 x.1∧Sz 40 ((x.2:Int):Rat):=by
 intro x hx
 obtain ⟨k,hk,rfl⟩:=List.getElem_of_mem hx
 have hk2:k < L.length:=by rw [← h.same];exact hk
 have h1:=h.cz k hk2
 have h2:=h.rn k hk2
 rw [tq_get hk] at h1 h2
 exact ⟨longD_sz h1,sz_natR (lenSz h2) (by decide)⟩
theorem scaled_mem {L:TTexts} {T:Terms} (h:ResT L T) {c:Rat} (hc:Sz 30 c):∀ x ∈ scaledQ T c,Sz 90 x.1∧Sz 45 x.2∧0≤x.2.num:=by
 intro x hx
 obtain ⟨y,hy,rfl⟩:=List.mem_map.1 hx
 obtain ⟨a,b⟩:=h.mem y hy
 exact ⟨(a.mul hc).mono (by decide),b.mono (by decide),Int.natCast_nonneg _⟩
theorem toQ_mem {L:TTexts} {T:Terms} (h:ResT L T):∀ x ∈ toQ T,Sz 90 x.1∧Sz 45 x.2∧0≤x.2.num:=by
 intro x hx
 obtain ⟨y,hy,rfl⟩:=List.mem_map.1 hx
 obtain ⟨a,b⟩:=h.mem y hy
 exact ⟨a.mono (by decide),b.mono (by decide),Int.natCast_nonneg _⟩
theorem mem_append {α:Type} {p:α→Prop} {l m:List α} (h:∀ x ∈ l,p x) (k:∀ x ∈ m,p x):∀ x ∈ l++m,p x:=fun x hx=>(List.mem_append.1 hx).elim (h x) (k x)
theorem scaledQ_length (T:Terms) (c:Rat):(scaledQ T c).length=T.length:=by simp [scaledQ]
theorem toQ_length (T:Terms):(toQ T).length=T.length:=by simp [toQ]
theorem tv_one (c:Rat):tv (c,1)=c:=by
 unfold tv nzB
 rw [normQ_one]
 by_cases h:c=0
 ·simp [h]
 ·simp [h]
theorem oneC_all1 {Q:Raws} (hl:Q.length≤2) (h1:∀ x ∈ Q,x.2=1) (hs:∀ x ∈ Q,Sz 44 x.1) (hf:longD (gsum Q)≤60):OneC Q 1:=by
 have hq:∀ k,k < Q.length→(rq Q k).2=1:=fun k hk=>by rw [rq_get hk];exact h1 _ (List.getElem_mem hk)
 have hq1:∀ k,k < Q.length→Sz 44 (rq Q k).1:=fun k hk=>by rw [rq_get hk];exact hs _ (List.getElem_mem hk)
 have z1:Sz 90 (1:Rat):=by unfold Sz;decide +kernel
 have htv:∀ x ∈ Q,tv x=x.1:=fun x hx=>by
  have:x=(x.1,1):=Prod.ext rfl (h1 x hx)
  rw [this,tv_one]
 refine ⟨by omega,fun k hk=>(hq1 k hk).mono (by decide),fun k hk=>by rw [hq k hk];exact z1,fun k hk=>by rw [hq k hk];decide,fun k hk _=>by rw [hq k hk,normQ_one],fun k _=>?_,by decide,by decide +kernel,.inl rfl,hf⟩
 match Q,hl,hs,htv with
 | [],_,_,_=>rw [List.take_nil];exact sz0 (by decide)
 | [x],_,hs,htv =>
  match k with
  | 0=>exact sz0 (by decide)
  | k+1 =>
   rw [List.take_of_length_le (by simp),gsum_one,htv x (by simp)]
   exact (hs x (by simp)).mono (by decide)
 | [x,y],_,hs,htv =>
  match k with
  | 0=>exact sz0 (by decide)
  | 1 =>
   show Sz 90 (gsum [x])
   rw [gsum_one,htv x (by simp)]
   exact (hs x (by simp)).mono (by decide)
  | k+2 =>
   rw [List.take_of_length_le (by simp)]
   have e:gsum [x,y]=tv x+tv y:=by
    have:[x,y]=[x]++[y]:=rfl
    rw [this,gsum_snoc,gsum_one]
   rw [e,htv x (by simp),htv y (by simp)]
   exact ((hs x (by simp)).add (hs y (by simp))).mono (by decide)
theorem oneL_len (S:Rat) (n:Nat):(oneL S n).length≤1:=by unfold oneL;split<;>simp
theorem sz_flS {d:Rat}:flS 4 (oneT d 1)=if d=0 then 0 else flI d 1 4:=by
 unfold oneT
 split
 ·rfl
 ·show flI d 1 4+0=_;omega
theorem flI_unit (c:Rat):flI c 1 4=if c.num < 0 then -(((c.num.natAbs * 10000 / c.den+(if c.num.natAbs * 10000 % c.den=0 then 0 else 1):Nat)):Int) else ((c.num.natAbs * 10000 / c.den:Nat):Int):=by
 have e:c.num.natAbs * c.num.natAbs * 1 * (10 ^ 4 * 10 ^ 4)=(c.num.natAbs * 10000) * (c.num.natAbs * 10000):=by
  rw [Nat.mul_one,show 10 ^ 4 * 10 ^ 4=10000 * 10000 by decide]
  exact Nat.mul_mul_mul_comm _ _ _ _
 unfold flI
 simp only [e,rootN_sq,true_and]
theorem sgnF_unit {d:Rat} (h:d.den≤1000∨d=0):(sgnF (oneT d 1)).2=0:=by
 by_cases h0:d=0
 ·rw [h0];rfl
 have hd:=d.den_pos
 have h1:d.den≤1000:=h.resolve_right h0
 have hn:1≤d.num.natAbs:=by
  rcases Nat.eq_zero_or_pos d.num.natAbs with h|h
  ·exact absurd (Rat.num_eq_zero.1 (Int.natAbs_eq_zero.1 h)) h0
  ·exact h
 have hT:oneT d 1=[(d,1)]:=by unfold oneT;rw [if_neg h0]
 have hq:10≤d.num.natAbs * 10000 / d.den:=by
  rw [Nat.le_div_iff_mul_le hd]
  omega
 have hf:=flI_unit d
 have hs:flS 4 (oneT d 1)=flI d 1 4:=by rw [sz_flS,if_neg h0]
 unfold sgnF
 rw [if_neg (by rw [hT];simp)]
 unfold sgnL
 rw [hs,hf]
 have hlen:(oneT d 1).length=1:=by rw [hT];rfl
 rw [hlen]
 generalize d.num.natAbs * 10000 / d.den=Q at *
 by_cases hneg:d.num < 0
 ·rw [if_pos hneg,if_neg (by split<;>omega),if_pos (.inl (by split<;>omega))]
 ·rw [if_neg hneg,if_pos (by omega)]
end Go.Proofs.YthihcjgmlbnapaaGreatDoor
namespace Go.Proofs.YthihcjgmlbnapaaGreatDoor
open Go.RowKit Go.Shelf
def RetMF (C:Prop) (f:Nat→Rat) (N:Nat) (w:World) (e:Ending) (w':World):Prop:=∃ (u:Value) (c:Int) (L':TTexts),e=.returned (.tuple #[u,.int .i64 c])∧IsTerms w' u L'∧Hid (c=0→L'.length≤N∧∃ T,ResT L' T∧Near0 (fun P=>valT T P - f P))∧Hid ((C→c=0∨c=4)∧(c=0→SurdOk L'))∧Below w.heap.size w w'
theorem RetMG.f {C:Prop} {Q:Raws} {f:Nat→Rat} {N:Nat} {w w':World} {e:Ending} (h:RetMG Q w e w') (hN:Q.length=N) (hf:∀ P,valQ Q P=f P):RetMF C f N w e w':=by
 obtain ⟨u,c,L',he,hu,hT,hC,hB⟩:=h
 refine ⟨u,c,L',he,hu,Lib.hid fun h0=>?_,Lib.hid ⟨fun _=>hC.out.1,hC.out.2⟩,hB⟩
 obtain ⟨h3,T,h1,h2⟩:=hT.out h0
 refine ⟨by rw [← hN];exact h3,T,h1,?_⟩
 have e:(fun P=>valT T P - f P)=(fun P=>valT T P - valQ Q P):=funext fun P=>by rw [hf P]
 rw [e];exact h2
theorem RetMF.nil {C:Prop} {f:Nat→Rat} {N:Nat} {w w':World} {c:Int} (hc:c≠0) (hC:¬ C) (hB:Below w.heap.size w w'):RetMF C f N w (.returned (.tuple #[.slice none 0 0,.int .i64 c])) w' :=
 ⟨_,c,[],rfl,isTerms_nil,Lib.hid (fun h=>absurd h hc),Lib.hid ⟨fun h=>absurd h hC,fun h=>absurd h hc⟩,hB⟩
def RetBo (C:Prop) (w:World) (e:Ending) (w':World):Prop:=∃ b:Bool,e=.returned (.bool b)∧Hid (b=true↔C)∧Below w.heap.size w w'
theorem sbothG_ok (L M:TTexts) (T S:Terms) (u v:Value) (w:World) (hG:Glo w) (hP:Pri w) (hu:IsTerms w u L) (hv:IsTerms w v M) (h:ResT L T) (k:ResT M S) :
  Calls Tryz.prog 21 #[u,v] w (RetBo (SurdIs L T∧SurdIs M S) w):=by
 have H1:=Lib.hid (sCheck_ok L u w hG hP hu h.sizes)
 have H2:=Lib.hid (fun W hB=>sCheck_ok M v W (hG.below hB) (hP.below hB) (hv.below hB) k.sizes)
 have I1:=Lib.hid (fun h1=>h.is h1)
 have I2:=Lib.hid (fun h1=>k.is h1)
 clear hG hP hu hv h k
 go_enter Tryz.func21,Tryz.ntmps21
 go_wp2_with fail
 refine H1.out.mono ?_
 rintro e w1 ⟨k1,rfl,h1,hB1⟩
 by_cases hk1:k1=0
 ·have J1:=Lib.hid (I1.out (h1.out.1 hk1))
  subst hk1
  clear h1 I1
  go_wp2_with fail
  refine (H2.out _ hB1).mono ?_
  rintro e w2 ⟨k2,rfl,h2,hB2⟩
  have hb2:=below_trans' hB1 hB2
  clear hB1 hB2
  by_cases hk2:k2=0
  ·have J2:=Lib.hid (I2.out (h2.out.1 hk2))
   subst hk2
   clear h2 I2
   go_wp2_with fail
   go_ret
   exact ⟨true,rfl,Lib.hid ⟨fun _=>⟨J1.out,J2.out⟩,fun _=>rfl⟩,hb2⟩
  ·have J2:=Lib.hid (fun h:SurdIs M S=>hk2 (h2.out.2 ⟨_,h⟩))
   clear h2 I2
   go_wp2_with fail
   go_ret
   exact ⟨false,by simp [hk2],Lib.hid ⟨fun h=>by simp at h,fun h=>absurd h.2 J2.out⟩,hb2⟩
 ·have J1:=Lib.hid (fun h:SurdIs L T=>hk1 (h1.out.2 ⟨_,h⟩))
  clear h1 I1
  go_wp2_with fail
  go_ret
  exact ⟨false,rfl,Lib.hid ⟨fun h=>by simp at h,fun h=>absurd h.1 J1.out⟩,hB1⟩
theorem AddG_ok (T S:Terms) (L M:TTexts) (u v:Value) (w:World) (hG:Glo w) (hP:Pri w) (hu:IsTerms w u L) (hv:IsTerms w v M) (hT:ResT L T) (hS:ResT M S) (h12:L.length+M.length≤12) :
  Calls Tryz.prog 8 #[u,v] w (RetMF (SurdOk L∧SurdOk M) (fun P=>valT T P+valT S P) (L.length+M.length) w):=by
 have hl:=hT.len
 have hm:=hS.len
 have H1:=Lib.hid (sbothG_ok L M T S u v w hG hP hu hv hT hS)
 have HNB:=Lib.hid (fun (h:SurdOk L∧SurdOk M)=>(⟨hT.is h.1,hS.is h.2⟩:SurdIs L T∧SurdIs M S))
 obtain ⟨N,hN⟩:∃ N,L++M=N:=⟨_,rfl⟩
 have H3:=Lib.hid (fun (W:World) (b:Nat) (hB:Below w.heap.size w W) h0 h1=>(by rw [← hN];exact concat2_ok L M u v b W (hu.below hB) (hv.below hB) h0 h1 (by omega) (by omega):Calls Tryz.prog 22 #[.slice (some ⟨b,0,none⟩) 2 2] W (RetTs N W)))
 have HQ:RawOk (toQ T++toQ S):=rawOk_of (by rw [List.length_append,toQ_length,toQ_length,hT.same,hS.same];exact h12) (mem_append (toQ_mem hT) (toQ_mem hS))
 have H4:=Lib.hid (fun (k:SurdIs L T∧SurdIs M S) W x hG hP (hx:IsTerms W x N)=>(by
  have hLM:N=rawL (toQ T++toQ S):=by rw [← hN,rawL_append,← k.1.raw,← k.2.raw]
  exact (MakeG_ok (toQ T++toQ S) N x W hG hP HQ (by rw [hLM];exact rawL_is _) hx).mono fun e w' h=>h.f (by rw [List.length_append,toQ_length,toQ_length,k.1.same,k.2.same]) fun P=>by rw [valQ_append,valQ_toQ k.1.nrm,valQ_toQ k.2.nrm]:Calls Tryz.prog 9 #[x] W (RetMF (SurdOk L∧SurdOk M) (fun P=>valT T P+valT S P) (L.length+M.length) W)))
 have HG:=Lib.hid hG
 have HP:=Lib.hid hP
 obtain ⟨a1,c1,rfl,_⟩:=hu
 obtain ⟨a2,c2,rfl,_⟩:=hv
 generalize (fun P=>valT T P+valT S P)=f at *
 generalize hNN:L.length+M.length=NN at *
 clear hG hP hT hS HQ h12 hN hl hm hNN
 go_enter Tryz.func8,Tryz.ntmps8
 go_wp2_with fail
 refine H1.out.mono ?_
 rintro e w1 ⟨b,rfl,hb,hB1⟩
 cases b
 ·have HNC:=Lib.hid (fun h:SurdOk L∧SurdOk M=>(nomatch hb.out.2 (HNB.out h):False))
  clear hb H4
  go_wp2_with fail
  refine bodyPost_ret (v:=.tuple #[.slice none 0 0,.int .i64 1]) (by simp [results,Tryz.results8,go_sem]) rfl ?_
  exact RetMF.nil (by decide) HNC.out hB1
 ·have H5:=Lib.hid (H4.out (hb.out.1 rfl))
  clear hb H4 H1
  go_wp2_with fail
  have hb2:Below w.heap.size w (w1.alloc (.cells #[.slice a1 L.length c1,.slice a2 M.length c2] 42)):=bw4 hB1 _
  refine (H3.out _ w1.heap.size hb2 (by simp [go_sem]) (by simp [go_sem])).mono ?_
  rintro e w3 ⟨x,rfl,hx,hB3⟩
  have hb3:=below_trans' hb2 hB3
  have H6:=Lib.hid (H5.out w3 x (HG.out.below hb3) (HP.out.below hb3) hx)
  obtain ⟨xa,xc,rfl,_⟩:=hx
  clear hB3 hb2
  go_wp2_with fail
  refine H6.out.mono ?_
  rintro e w4 ⟨y,c,L',rfl,hy,hT,hC,hB4⟩
  have hb4:=below_trans' hb3 hB4
  have HY:=Lib.hid hy
  obtain ⟨ya,yc,rfl,_⟩:=hy
  clear hB4
  go_wp2_with fail
  refine bodyPost_ret (v:=.tuple #[.slice ya L'.length yc,.int .i64 c]) (by simp [results,Tryz.results8,go_sem]) rfl ?_
  exact ⟨_,c,L',rfl,HY.out,hT,hC,hb4⟩
theorem SubG_ok (T S:Terms) (L M:TTexts) (u v:Value) (w:World) (hG:Glo w) (hP:Pri w) (hu:IsTerms w u L) (hv:IsTerms w v M) (hT:ResT L T) (hS:ResT M S) (h12:L.length+M.length≤12) :
  Calls Tryz.prog 32 #[u,v] w (RetMF (SurdOk L∧SurdOk M) (fun P=>valT T P - valT S P) (L.length+M.length) w):=by
 have hl:=hT.len
 have hm:=hS.len
 have H1:=Lib.hid (sbothG_ok L M T S u v w hG hP hu hv hT hS)
 have HNB:=Lib.hid (fun (h:SurdOk L∧SurdOk M)=>(⟨hT.is h.1,hS.is h.2⟩:SurdIs L T∧SurdIs M S))
 obtain ⟨R,hR⟩:∃ R,rawL (scaledQ S (-1))=R:=⟨_,rfl⟩
 obtain ⟨N,hN⟩:∃ N,L++R=N:=⟨_,rfl⟩
 have H2:=Lib.hid (fun (k:SurdIs M S) W hB=>scaled_ok S (-1) M v ⟨#[45,49]⟩ W (hG.below hB) (hv.below hB) k minusOne (by unfold Sz;decide +kernel))
 rw [hR] at H2
 have hml:R.length=M.length:=by rw [← hR,rawL_length,scaledQ_length,hS.same]
 have H3:=Lib.hid (fun (W:World) (b:Nat) (x:Value) (hB:Below w.heap.size w W) (hx:IsTerms W x R) h0 h1=>(by rw [← hN];exact concat2_ok L R u x b W (hu.below hB) hx h0 h1 (by omega) (by omega):Calls Tryz.prog 22 #[.slice (some ⟨b,0,none⟩) 2 2] W (RetTs N W)))
 have HQ:RawOk (toQ T++scaledQ S (-1)):=rawOk_of (by rw [List.length_append,toQ_length,scaledQ_length,hT.same,hS.same];exact h12) (mem_append (toQ_mem hT) (scaled_mem hS (by unfold Sz;decide +kernel)))
 have H4:=Lib.hid (fun (k:SurdIs L T∧SurdIs M S) W x hG hP (hx:IsTerms W x N)=>(by
  have hLM:N=rawL (toQ T++scaledQ S (-1)):=by rw [← hN,← hR,rawL_append,← k.1.raw]
  exact (MakeG_ok (toQ T++scaledQ S (-1)) N x W hG hP HQ (by rw [hLM];exact rawL_is _) hx).mono fun e w' h=>h.f (by rw [List.length_append,toQ_length,scaledQ_length,k.1.same,k.2.same]) fun P=>by rw [valQ_append,valQ_toQ k.1.nrm,valQ_scaled k.2.nrm];grind:Calls Tryz.prog 9 #[x] W (RetMF (SurdOk L∧SurdOk M) (fun P=>valT T P - valT S P) (L.length+M.length) W)))
 have HG:=Lib.hid hG
 have HP:=Lib.hid hP
 obtain ⟨a1,c1,rfl,_⟩:=hu
 obtain ⟨a2,c2,rfl,_⟩:=hv
 generalize (fun P=>valT T P - valT S P)=f at *
 generalize hNN:L.length+M.length=NN at *
 clear hG hP hT hS HQ h12 hN hl hm hml hR hNN
 go_enter Tryz.func32,Tryz.ntmps32
 go_wp2_with fail
 refine H1.out.mono ?_
 rintro e w1 ⟨b,rfl,hb,hB1⟩
 cases b
 ·have HNC:=Lib.hid (fun h:SurdOk L∧SurdOk M=>(nomatch hb.out.2 (HNB.out h):False))
  clear hb H4
  go_wp2_with fail
  refine bodyPost_ret (v:=.tuple #[.slice none 0 0,.int .i64 1]) (by simp [results,Tryz.results32,go_sem]) rfl ?_
  exact RetMF.nil (by decide) HNC.out hB1
 ·have H5:=Lib.hid (H4.out (hb.out.1 rfl))
  have H22:=Lib.hid (H2.out (hb.out.1 rfl).2)
  clear hb H4 H1 H2
  go_wp2_with fail
  refine (H22.out _ hB1).mono ?_
  rintro e w2 ⟨m,rfl,hm,hB2⟩
  have hb2:=below_trans' hB1 hB2
  have HM:=Lib.hid hm
  obtain ⟨ma,mc,rfl,_⟩:=hm
  clear hB2
  go_wp2_with fail
  have hB3:Below w2.heap.size w2 (w2.alloc (.cells #[.slice a1 L.length c1,.slice ma R.length mc] 42)):=bw4 (bw0 _ _) _
  have hb3:=below_trans' hb2 hB3
  refine (H3.out _ w2.heap.size _ hb3 (HM.out.below hB3) (by simp [go_sem]) (by simp [go_sem])).mono ?_
  rintro e w3 ⟨x,rfl,hx,hB4⟩
  have hb4:=below_trans' hb3 hB4
  have H6:=Lib.hid (H5.out w3 x (HG.out.below hb4) (HP.out.below hb4) hx)
  obtain ⟨xa,xc,rfl,_⟩:=hx
  clear hB3 hb2 hB4 hb3
  go_wp2_with fail
  refine H6.out.mono ?_
  rintro e w4 ⟨y,c,L',rfl,hy,hT,hC,hB5⟩
  have hb5:=below_trans' hb4 hB5
  have HY:=Lib.hid hy
  obtain ⟨ya,yc,rfl,_⟩:=hy
  clear hB5
  go_wp2_with fail
  refine bodyPost_ret (v:=.tuple #[.slice ya L'.length yc,.int .i64 c]) (by simp [results,Tryz.results32,go_sem]) rfl ?_
  exact ⟨_,c,L',rfl,HY.out,hT,hC,hb5⟩
theorem ScaleG_ok (T:Terms) (q:Rat) (L:TTexts) (v:Value) (cs:ByteArray) (w:World) (hG:Glo w) (hP:Pri w) (hv:IsTerms w v L) (hT:ResT L T) (hc:cs.data.toList=ratText q) (hsc:Sz 30 q) :
  Calls Tryz.prog 86 #[v,.string cs] w (RetMF (SurdOk L) (fun P=>q * valT T P) L.length w):=by
 have hs9:Sz 90 q:=hsc.mono (by decide)
 have H1:=Lib.hid (sCheck_ok L v w hG hP hv hT.sizes)
 have H2:=Lib.hid (fun W hG=>RCheck_ok cs W hG hc hs9 (by decide))
 have H3:=Lib.hid (fun (k:SurdIs L T) W hB=>scaled_ok T q L v cs W (hG.below hB) (hv.below hB) k hc hs9)
 have HQ:RawOk (scaledQ T q):=rawOk_of (by rw [scaledQ_length,hT.same];exact hT.len) (scaled_mem hT hsc)
 have H4:=Lib.hid (fun (k:SurdIs L T) W u hG hP (hu:IsTerms W u (rawL (scaledQ T q)))=>((MakeG_ok (scaledQ T q) _ u W hG hP HQ (rawL_is _) hu).mono fun e w' h=>h.f (by rw [scaledQ_length,k.same]) fun P=>valQ_scaled k.nrm q P:Calls Tryz.prog 9 #[u] W (RetMF (SurdOk L) (fun P=>q * valT T P) L.length W)))
 have I1:=Lib.hid (fun h1=>hT.is h1)
 have HG:=Lib.hid hG
 have HP:=Lib.hid hP
 obtain ⟨a1,c1,rfl,_⟩:=hv
 generalize (fun P=>q * valT T P)=f at *
 clear hG hP hT hc hsc hs9 HQ
 go_enter Tryz.func86,Tryz.ntmps86
 go_wp2_with fail
 refine H1.out.mono ?_
 rintro e w1 ⟨k1,rfl,h1,hB1⟩
 by_cases hk1:k1=0
 ·have J1:=I1.out (h1.out.1 hk1)
  have H5:=Lib.hid (H4.out J1)
  have H6:=Lib.hid (H3.out J1)
  subst hk1
  clear h1 I1 J1 H4 H3
  go_wp2_with fail
  refine (H2.out _ (HG.out.below hB1)).mono ?_
  rintro e w2 ⟨rfl,hB2⟩
  have hb2:=below_trans' hB1 hB2
  clear hB1 hB2
  go_wp2_with fail
  refine (H6.out _ hb2).mono ?_
  rintro e w3 ⟨u,rfl,hu,hB3⟩
  have hb3:=below_trans' hb2 hB3
  have H7:=Lib.hid (H5.out w3 u (HG.out.below hb3) (HP.out.below hb3) hu)
  obtain ⟨ua,uc,rfl,_⟩:=hu
  clear hB3 hb2
  go_wp2_with fail
  refine H7.out.mono ?_
  rintro e w4 ⟨y,c,L',rfl,hy,hT,hC,hB4⟩
  have hb4:=below_trans' hb3 hB4
  have HY:=Lib.hid hy
  obtain ⟨ya,yc,rfl,_⟩:=hy
  clear hB4
  go_wp2_with fail
  refine bodyPost_ret (v:=.tuple #[.slice ya L'.length yc,.int .i64 c]) (by simp [results,Tryz.results86,go_sem]) rfl ?_
  exact ⟨_,c,L',rfl,HY.out,hT,hC,hb4⟩
 ·have J1:=Lib.hid (fun h:SurdOk L=>hk1 (h1.out.2 h))
  clear h1 I1 H4 H3
  go_wp2_with fail
  refine bodyPost_ret (v:=.tuple #[.slice none 0 0,.int .i64 1]) (by simp [results,Tryz.results86,go_sem]) rfl ?_
  exact RetMF.nil (by decide) J1.out hB1
end Go.Proofs.YthihcjgmlbnapaaGreatDoor
