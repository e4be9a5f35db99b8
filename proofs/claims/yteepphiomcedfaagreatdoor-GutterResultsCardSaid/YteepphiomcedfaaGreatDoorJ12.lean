/- Joined texts: WPCross0, WPCross1, WPCross2. -/
import Derived.Test.YteepphiomcedfaaGreatDoorJ11
import Derived.Test.YteepphiomcedfaaGreatDoorJ10
set_option maxRecDepth 100000
set_option linter.unusedVariables false
set_option linter.unusedSimpArgs false
set_option maxHeartbeats 6400000
namespace Go.Proofs.YteepphiomcedfaaGreatDoor
open Go.RowKit Go.Shelf
attribute [local go_sem] Oper.semAt_some
def boxVals (B C:Side):List Value:=[.int .i64 (min B.x C.x),.int .i64 (min B.y C.y),.int .i64 (max B.x C.x),.int .i64 (max B.y C.y)]
def pbox (P:List Ring) (x:Nat × Nat):List Value:=boxVals (sd (rg P x.1) x.2) (nx (rg P x.1) x.2)
def boxCells (P:List Ring) (xs:List (Nat × Nat)):List Value:=xs.flatMap (pbox P)
def placeCells (xs:List (Nat × Nat)):List Value:=xs.flatMap fun x=>[.int .i64 x.1,.int .i64 x.2]
theorem boxCells_snoc (P:List Ring) (xs:List (Nat × Nat)) (x:Nat × Nat):boxCells P (xs++[x])=boxCells P xs++pbox P x:=by simp [boxCells]
theorem placeCells_snoc (xs:List (Nat × Nat)) (x:Nat × Nat):placeCells (xs++[x])=placeCells xs++[.int .i64 x.1,.int .i64 x.2]:=by simp [placeCells]
theorem Tryz.infoBox:(Tryz.prog.info? 223).map (fun i=>(i.zero,i.size,i.bytes))=some (some (.agg #[.int .i64 0,.int .i64 0,.int .i64 0,.int .i64 0]),4,32):=by kernel_rfl
theorem Tryz.infoPlace:(Tryz.prog.info? 226).map (fun i=>(i.zero,i.size,i.bytes))=some (some (.agg #[.int .i64 0,.int .i64 0]),2,16):=by kernel_rfl
structure LInv (P:List Ring) (w:World) (xs:List (Nat × Nat)) (v3 v4:Value) (W:World):Prop where
 b3:Boxed W w.heap.size 220 v3
 b4:Boxed W (w.heap.size+1) 221 v4
 r3:W.ownsRow w.heap.size 223 4 v3 xs.length (boxCells P xs)
 r4:W.ownsRow w.heap.size 226 2 v4 xs.length (placeCells xs)
 below:Below w.heap.size w W
 size:w.heap.size+2≤W.heap.size
def KeepCells (W W':World):Prop:=∀ (k:Nat) (o:Obj),W.heap[k]?=some o→o.isCells=true→W'.heap[k]?=some o
theorem keepCells_below {W W':World} (h:Below W.heap.size W W'):KeepCells W W':=fun k o hk _=>(h.block k (Array.getElem?_eq_some_iff.1 hk).1).trans hk
theorem LInv.keeps {P:List Ring} {w:World} {xs:List (Nat × Nat)} {v3 v4:Value} {W W':World} (h:LInv P w xs v3 v4 W) (hk:KeepCells W W') (hB:Below w.heap.size w W') (hz:W.heap.size≤W'.heap.size):LInv P w xs v3 v4 W' :=
 ⟨hk _ _ h.b3 rfl,hk _ _ h.b4 rfl,ownsRow_keeps h.r3 hk,ownsRow_keeps h.r4 hk,hB,Nat.le_trans h.size hz⟩
theorem LInv.below' {P:List Ring} {w:World} {xs:List (Nat × Nat)} {v3 v4:Value} {W W':World} (h:LInv P w xs v3 v4 W) (hB:Below W.heap.size W W'):LInv P w xs v3 v4 W' :=
 h.keeps (keepCells_below hB) (h.below.trans (hB.mono h.below.size)) hB.size
theorem own_keepCells {m:Nat} {W W':World} {row:Option Nat} (hg:W.grownBy W' row) (hr:∀ r,row=some r→m≤r∧∃ o:Obj,W.heap[r]?=some o∧o.isCells=false):KeepCells W W':=fun k o hk ho=>by
 refine (hg.block k (Array.getElem?_eq_some_iff.1 hk).1 ?_).trans hk
 intro e
 obtain ⟨_,o',ho',hc⟩:=hr k e.symm
 rw [hk] at ho';cases ho'
 rw [ho] at hc;cases hc
theorem lInv_own {P:List Ring} {w:World} {m:Nat} (hm:w.heap.size≤m) {α:Type} (f:List α→List (Nat × Nat)):OwnFrom m (fun (pre:List α) W=>∃ v3 v4,LInv P w (f pre) v3 v4 W):=fun s W W' row hs hg hr=>by
 obtain ⟨v3,v4,h⟩:=hs
 exact ⟨v3,v4,h.keeps (own_keepCells hg hr) (h.below.trans ⟨hg.os,hg.tape,hg.output,hg.size,fun k hk=>hg.block k (by have:=h.below.size;omega) (fun e=>by have:=(hr k e.symm).1;omega)⟩) hg.size⟩
theorem ne_of_type {W:World} {a b:Nat} {o o':Obj} (ha:W.heap[a]?=some o) (hb:W.heap[b]?=some o') (h:o≠o'):a≠b:=fun e=>by subst e;rw [ha] at hb;cases hb;exact h rfl
theorem row_apart {W:World} {B e size k:Nat} {v:Value} {xs:List Value} (h:W.ownsRow B e size v k xs) {b:Nat} {cs:Array Value} {t:TypeId} (hb:W.heap[b]?=some (.cells cs t (0,0))) (hne:t≠e):v.ownBlock≠some b:=by
 rcases h.2 with ⟨rfl,_⟩|⟨g,cap,cur,rfl,_,hg,_⟩
 ·intro e;cases e
 ·intro e'
  obtain rfl:g=b:=by simpa [Value.ownBlock] using e'
  rw [hb] at hg;cases hg;exact hne rfl
def plc (r:Nat) {n:Nat} (i:Fin n):Nat × Nat:=(r,i.1)
theorem plc_all (P:List Ring) (r:Nat):pls P (r+1)=pls P r++(List.finRange (rg P r).length).map (plc r):=by
 rw [pls_succ]
 congr 1
 apply List.ext_getElem
 ·simp
 ·intro i h1 h2
  simp [plc]
end Go.Proofs.YteepphiomcedfaaGreatDoor
namespace Go.Proofs.YteepphiomcedfaaGreatDoor
open Go.RowKit Go.Shelf
structure Kept2 (u v:Value) (W W':World):Prop where
 os:W'.os=W.os
 tape:W'.tape=W.tape
 output:W'.output=W.output
 size:W.heap.size≤W'.heap.size
 block:∀ k,k < W.heap.size→u.ownBlock≠some k→v.ownBlock≠some k→W'.heap[k]?=W.heap[k]?
theorem Kept2.of_below {u v:Value} {W W':World} (h:Below W.heap.size W W'):Kept2 u v W W':=⟨h.os,h.tape,h.output,h.size,fun k hk _ _=>h.block k hk⟩
theorem Kept2.below' {u v:Value} {W X Y:World} (h:Kept2 u v W X) (hB:Below X.heap.size X Y):Kept2 u v W Y:=⟨hB.os.trans h.os,hB.tape.trans h.tape,hB.output.trans h.output,Nat.le_trans h.size hB.size,fun k hk h1 h2=>(hB.block k (Nat.lt_of_lt_of_le hk h.size)).trans (h.block k hk h1 h2)⟩
theorem Kept2.grow3 {u v:Value} {W X Y:World} (h:Kept2 u v W X) (hg:X.grownBy Y u.ownBlock):Kept2 u v W Y:=⟨hg.os.trans h.os,hg.tape.trans h.tape,hg.output.trans h.output,Nat.le_trans h.size hg.size,fun k hk h1 h2=>(hg.block k (Nat.lt_of_lt_of_le hk h.size) (fun e=>h1 e.symm)).trans (h.block k hk h1 h2)⟩
theorem Kept2.grow4 {u v:Value} {W X Y:World} (h:Kept2 u v W X) (hg:X.grownBy Y v.ownBlock):Kept2 u v W Y:=⟨hg.os.trans h.os,hg.tape.trans h.tape,hg.output.trans h.output,Nat.le_trans h.size hg.size,fun k hk h1 h2=>(hg.block k (Nat.lt_of_lt_of_le hk h.size) (fun e=>h2 e.symm)).trans (h.block k hk h1 h2)⟩
theorem grown_keep {W W':World} {v:Value} (hg:W.grownBy W' v.ownBlock) {k:Nat} {o:Obj} (hk:W.heap[k]?=some o) (hne:v.ownBlock≠some k):W'.heap[k]?=some o:=(hg.block k (Array.getElem?_eq_some_iff.1 hk).1 (fun e=>hne e.symm)).trans hk
theorem row_keep {W W':World} {B B' e e' s s' k k':Nat} {v u:Value} {xs ys:List Value} (h:W.ownsRow B e s v k xs) (h':W.ownsRow B' e' s' u k' ys) (hne:e≠e') (hg:W.grownBy W' u.ownBlock):W'.ownsRow B e s v k xs:=by
 obtain ⟨h1,h2⟩:=h
 refine ⟨h1,h2.imp id ?_⟩
 rintro ⟨g,cap,cur,x1,x2,x3,x4⟩
 exact ⟨g,cap,cur,x1,x2,grown_keep hg x3 (row_apart h' x3 hne),x4⟩
structure RR (n:Nat) (x3 x4:Value) (t5:Nat) (r:Nat) (Bx:Nat) (A S C:Side) (W:World):Prop where
 b3:Boxed W n 220 x3
 b4:Boxed W (n+1) 221 x4
 b5:Boxed W t5 3 (.int .i64 r)
 bx:BoxA W Bx A S C
theorem RR.below {n t5 r Bx:Nat} {x3 x4:Value} {A S C:Side} {W W':World} (h:RR n x3 x4 t5 r Bx A S C W) (hB:Below W.heap.size W W'):RR n x3 x4 t5 r Bx A S C W':=⟨boxed_below h.b3 hB,boxed_below h.b4 hB,boxed_below h.b5 hB,h.bx.below hB⟩
theorem RR.grow3 {n t5 r Bx B k:Nat} {x3 x4:Value} {A S C:Side} {W W':World} {xs:List Value} (h:RR n x3 x4 t5 r Bx A S C W) (hr:W.ownsRow B 223 4 x3 k xs) (hg:W.grownBy W' x3.ownBlock):RR n x3 x4 t5 r Bx A S C W' :=
 ⟨grown_keep hg h.b3 (row_apart hr h.b3 (by decide)),grown_keep hg h.b4 (row_apart hr h.b4 (by decide)),grown_keep hg h.b5 (row_apart hr h.b5 (by decide)),grown_keep hg h.bx (row_apart hr h.bx (by decide))⟩
theorem RR.grow4 {n t5 r Bx B k:Nat} {x3 x4:Value} {A S C:Side} {W W':World} {xs:List Value} (h:RR n x3 x4 t5 r Bx A S C W) (hr:W.ownsRow B 226 2 x4 k xs) (hg:W.grownBy W' x4.ownBlock):RR n x3 x4 t5 r Bx A S C W' :=
 ⟨grown_keep hg h.b3 (row_apart hr h.b3 (by decide)),grown_keep hg h.b4 (row_apart hr h.b4 (by decide)),grown_keep hg h.b5 (row_apart hr h.b5 (by decide)),grown_keep hg h.bx (row_apart hr h.bx (by decide))⟩
theorem row_below {W W':World} {B e s k:Nat} {v:Value} {xs:List Value} (h:W.ownsRow B e s v k xs) (hB:Below W.heap.size W W'):W'.ownsRow B e s v k xs:=ownsRow_keeps h (keepCells_below hB)
theorem heap_below {W W':World} {k:Nat} {o:Obj} (h:W.heap[k]?=some o) (hB:Below W.heap.size W W'):W'.heap[k]?=some o:=(hB.block k (Array.getElem?_eq_some_iff.1 h).1).trans h
theorem block_cells {W:World} {k:Nat} {cs:List Value} {t:TypeId} (h:W.heap[k]?=some (.cells cs.toArray t (0,0))):∀ j u,cs[j]?=some u→W.cell? (Addr.add ⟨k,0,none⟩ j)=some u:=by
 intro j u hj
 rw [addr_add,Nat.zero_add]
 simp only [World.cell?,h]
 simpa using hj
theorem row_setCell {W:World} {B e s k b:Nat} {v u:Value} {xs:List Value} {t:TypeId} {u0:Value} (h:W.ownsRow B e s v k xs) (hb:Boxed W b t u0) (hne:t≠e):(W.setCell ⟨b,0,none⟩ u).ownsRow B e s v k xs:=by
 have hap:=row_apart h hb hne
 obtain ⟨h1,h2⟩:=h
 refine ⟨h1,h2.imp id ?_⟩
 rintro ⟨g,cap,cur,x1,x2,x3,x4⟩
 subst x1
 exact ⟨g,cap,cur,rfl,x2,(Below.heap_setCell W ⟨b,0,none⟩ u g (fun e=>hap (by subst e;rfl))).trans x3,x4⟩
theorem own_ge {W:World} {B e s k:Nat} {v:Value} {xs:List Value} (h:W.ownsRow B e s v k xs):∀ g,v.ownBlock=some g→B≤g:=by
 obtain ⟨sa,sc,rfl,hob⟩:=row_shape h
 exact hob
theorem cross_fin {P:List Ring} {w W wn:World} {xs:List (Nat × Nat)} {x:Nat × Nat} {x3 x4 y3 y4 ring:Value} {m b1 t5 z r:Nat} {Ds:List Nat}
  (hL:LInv P w xs x3 x4 W) (KK:Kept2 x3 x4 W wn)
  (row3:(wn.setCell ⟨w.heap.size,0,none⟩ y3).ownsRow w.heap.size 223 4 y3 (xs.length+1) (boxCells P xs++pbox P x))
  (row4:(wn.setCell ⟨w.heap.size,0,none⟩ y3).ownsRow w.heap.size 226 2 y4 (xs.length+1) (placeCells xs++[.int .i64 x.1,.int .i64 x.2]))
  (nb3:Boxed (wn.setCell ⟨w.heap.size,0,none⟩ y3) w.heap.size 220 y3) (nb4:Boxed (wn.setCell ⟨w.heap.size,0,none⟩ y3) (w.heap.size+1) 221 x4)
  (b5:Boxed W t5 3 (.int .i64 r)) (bR:Boxed W b1 66 ring) (hz:z≤W.heap.size) (hM:∀ D ∈ Ds,w.heap.size+2≤D∧W.heap[D]?=some (.deferred (some []))) :
  KeepsFrom m W ((wn.setCell ⟨w.heap.size,0,none⟩ y3).setCell ⟨w.heap.size+1,0,none⟩ y4)∧KpR w.heap.size b1 W ((wn.setCell ⟨w.heap.size,0,none⟩ y3).setCell ⟨w.heap.size+1,0,none⟩ y4) ∧
  (((∃ v3 v4,LInv P w (xs++[x]) v3 v4 ((wn.setCell ⟨w.heap.size,0,none⟩ y3).setCell ⟨w.heap.size+1,0,none⟩ y4))∧Boxed ((wn.setCell ⟨w.heap.size,0,none⟩ y3).setCell ⟨w.heap.size+1,0,none⟩ y4) t5 3 (.int .i64 r))∧Boxed ((wn.setCell ⟨w.heap.size,0,none⟩ y3).setCell ⟨w.heap.size+1,0,none⟩ y4) b1 66 ring)∧(z≤((wn.setCell ⟨w.heap.size,0,none⟩ y3).setCell ⟨w.heap.size+1,0,none⟩ y4).heap.size∧(∀ D ∈ Ds,w.heap.size+2≤D∧((wn.setCell ⟨w.heap.size,0,none⟩ y3).setCell ⟨w.heap.size+1,0,none⟩ y4).heap[D]?=some (.deferred (some [])))):=by
 have s1:=sameBut_setCell wn w.heap.size 0 y3
 have s2:=sameBut_setCell (wn.setCell ⟨w.heap.size,0,none⟩ y3) (w.heap.size+1) 0 y4
 have n1:=nb3.other (B':=w.heap.size+1) (by omega) y4
 have n2:=nb4.set y4
 have rr3:=row_setCell (u:=y4) row3 nb4 (by decide)
 have rr4:=row_setCell (u:=y4) row4 nb4 (by decide)
 generalize (wn.setCell ⟨w.heap.size,0,none⟩ y3)=w1 at *
 generalize w1.setCell ⟨w.heap.size+1,0,none⟩ y4=W' at *
 have hsz:W'.heap.size=wn.heap.size:=s2.size.trans s1.size
 have hblk:∀ k,k < W.heap.size→x3.ownBlock≠some k→x4.ownBlock≠some k→k≠w.heap.size→k≠w.heap.size+1→W'.heap[k]?=W.heap[k]?:=fun k hk h1 h2 h3 h4=>(s2.block k h4).trans ((s1.block k h3).trans (KK.block k hk h1 h2))
 have hkeep:∀ k (o:Obj),W.heap[k]?=some o→o.isCells=false→W'.heap[k]?=some o:=fun k o hk ho=>by
  refine (hblk k (Array.getElem?_eq_some_iff.1 hk).1 ?_ ?_ ?_ ?_).trans hk
  ·intro e
   rcases hL.r3.2 with ⟨h,_⟩|⟨g,cap,cur,h,_,hg,_⟩
   ·rw [h] at e;cases e
   ·rw [h] at e;simp [Value.ownBlock] at e;subst e;rw [hk] at hg;cases hg;cases ho
  ·intro e
   rcases hL.r4.2 with ⟨h,_⟩|⟨g,cap,cur,h,_,hg,_⟩
   ·rw [h] at e;cases e
   ·rw [h] at e;simp [Value.ownBlock] at e;subst e;rw [hk] at hg;cases hg;cases ho
  ·intro e;subst e;rw [show W.heap[w.heap.size]?=_ from hL.b3] at hk;cases hk;cases ho
  ·intro e;subst e;rw [show W.heap[w.heap.size+1]?=_ from hL.b4] at hk;cases hk;cases ho
 have hz1:W.heap.size≤W'.heap.size:=by rw [hsz];exact KK.size
 have hbw:Below w.heap.size w W':=hL.below.trans ⟨s2.os.trans (s1.os.trans KK.os),s2.tape.trans (s1.tape.trans KK.tape),s2.output.trans (s1.output.trans KK.output),hz1,fun k hk=>hblk k (by have:=hL.below.size;omega) (fun e=>by have:=own_ge hL.r3 k e;omega) (fun e=>by have:=own_ge hL.r4 k e;omega) (by omega) (by omega)⟩
 have hb5:W'.heap[t5]?=W.heap[t5]?:=hblk t5 b5.lt (row_apart hL.r3 b5 (by decide)) (row_apart hL.r4 b5 (by decide)) (ne_of_type b5 hL.b3 (by intro e;cases e)) (ne_of_type b5 hL.b4 (by intro e;cases e))
 have hbR:W'.heap[b1]?=W.heap[b1]?:=hblk b1 bR.lt (row_apart hL.r3 bR (by decide)) (row_apart hL.r4 bR (by decide)) (ne_of_type bR hL.b3 (by intro e;cases e)) (ne_of_type bR hL.b4 (by intro e;cases e))
 refine ⟨⟨hz1,fun k o _ hk ho=>hkeep k o hk ho⟩,⟨⟨s2.os.trans (s1.os.trans KK.os),s2.tape.trans (s1.tape.trans KK.tape),s2.output.trans (s1.output.trans KK.output),hz1,fun k hk=>hblk k (by have:=hL.below.size;omega) (fun e=>by have:=own_ge hL.r3 k e;omega) (fun e=>by have:=own_ge hL.r4 k e;omega) (by omega) (by omega)⟩,hbR⟩,⟨⟨⟨y3,y4,⟨n1,n2,?_,?_,hbw,by have:=hL.size;omega⟩⟩,hb5.trans b5⟩,hbR.trans bR⟩,by omega,fun D hD=>⟨(hM D hD).1,hkeep D _ (hM D hD).2 rfl⟩⟩
 ·rw [boxCells_snoc,List.length_append];exact rr3
 ·rw [placeCells_snoc,List.length_append];exact rr4
end Go.Proofs.YteepphiomcedfaaGreatDoor
namespace Go.Proofs.YteepphiomcedfaaGreatDoor
open Go.RowKit Go.Shelf
theorem flat_get {α:Type} (n:Nat) (f:α→List Value) (hf:∀ x,(f x).length=n):∀ (l:List α) {i j:Nat} (h:i < l.length),j < n→(l.flatMap f)[i * n+j]?=(f l[i])[j]?:=by
 intro l
 induction l with
 | nil=>intro i j h;simp at h
 | cons x l ih =>
  intro i j h hj
  rw [List.flatMap_cons]
  cases i with
  | zero=>rw [Nat.zero_mul,Nat.zero_add,List.getElem?_append_left (by rw [hf];exact hj)];rfl
  | succ i =>
   rw [List.getElem?_append_right (by rw [hf,Nat.succ_mul];omega),hf,show (i+1) * n+j - n=i * n+j by rw [Nat.succ_mul];omega,ih (by simpa using h) hj]
   rfl
theorem row_cells {W:World} {B e s:Nat} {v:Value} {α:Type} {xs:List α} {f:α→List Value} (hf:∀ x,(f x).length=s) (h:W.ownsRow B e s v xs.length (xs.flatMap f)) (hne:xs≠[]) :
  ∃ g cap,v=.slice (some ⟨g,0,none⟩) xs.length cap∧∀ i (hi:i < xs.length) j u,(f xs[i])[j]?=some u→W.cell? ⟨g,i * s+j,none⟩=some u:=by
 rcases h.2 with ⟨_,h0⟩|⟨g,cap,cur,rfl,_,hg,_,_,hs,ht⟩
 ·exact absurd (List.length_eq_zero_iff.1 h0) hne
 ·refine ⟨g,cap,rfl,fun i hi j u hu=>?_⟩
  have hj:j < s:=by rw [← hf xs[i]];exact (List.getElem?_eq_some_iff.1 hu).1
  rw [← flat_get s f hf xs hi hj] at hu
  have hlt:i * s+j < xs.length * s:=by
   have:(i+1) * s≤xs.length * s:=Nat.mul_le_mul_right _ hi
   rw [Nat.succ_mul] at this;omega
  have h3:(cur.toList.take (xs.length * s))[i * s+j]?=(xs.flatMap f)[i * s+j]?:=by rw [ht]
  rw [List.getElem?_take_of_lt hlt,hu] at h3
  have h4:cur[i * s+j]?=some u:=by simpa using h3
  simp [World.cell?,hg,h4]
structure Lists (P:List Ring) (w:World) (g3 c3 g4 c4:Nat) (W:World):Prop where
 b3:W.cell? ⟨w.heap.size,0,none⟩=some (.slice (some ⟨g3,0,none⟩) (pls P P.length).length c3)
 b4:W.cell? ⟨w.heap.size+1,0,none⟩=some (.slice (some ⟨g4,0,none⟩) (pls P P.length).length c4)
 pl:∀ i (h:i < (pls P P.length).length),W.cell? ⟨g4,i * 2,none⟩=some (.int .i64 ((pls P P.length)[i].1:Nat))∧W.cell? ⟨g4,i * 2+1,none⟩=some (.int .i64 ((pls P P.length)[i].2:Nat))
 bx:∀ i (h:i < (pls P P.length).length),∀ j u,(pbox P (pls P P.length)[i])[j]?=some u→W.cell? ⟨g3,i * 4+j,none⟩=some u
theorem Lists.below {P:List Ring} {w:World} {g3 c3 g4 c4:Nat} {W W':World} (h:Lists P w g3 c3 g4 c4 W) (hB:Below W.heap.size W W'):Lists P w g3 c3 g4 c4 W' :=
 ⟨keep hB h.b3,keep hB h.b4,fun i hi=>⟨keep hB (h.pl i hi).1,keep hB (h.pl i hi).2⟩,fun i hi j u hu=>keep hB (h.bx i hi j u hu)⟩
theorem lists_of {P:List Ring} {w:World} {v3 v4:Value} {W:World} (h:LInv P w (pls P P.length) v3 v4 W) (hne:pls P P.length≠[]):∃ g3 c3 g4 c4,Lists P w g3 c3 g4 c4 W:=by
 obtain ⟨g3,c3,rfl,h3⟩:=row_cells (f:=pbox P) (fun x=>rfl) h.r3 hne
 obtain ⟨g4,c4,rfl,h4⟩:=row_cells (f:=fun x:Nat × Nat=>[.int .i64 x.1,.int .i64 x.2]) (fun x=>rfl) h.r4 hne
 exact ⟨g3,c3,g4,c4,h.b3.cell,h.b4.cell,fun i hi=>⟨h4 i hi 0 _ rfl,h4 i hi 1 _ rfl⟩,h3⟩
theorem marks_below {Ds:List Nat} {B:Nat} {W W':World} (h:∀ D ∈ Ds,B≤D∧W.heap[D]?=some (.deferred (some []))) (hB:Below W.heap.size W W'):∀ D ∈ Ds,B≤D∧W'.heap[D]?=some (.deferred (some [])):=fun D hD=>⟨(h D hD).1,(hB.block D (Array.getElem?_eq_some_iff.1 (h D hD).2).1).trans (h D hD).2⟩
end Go.Proofs.YteepphiomcedfaaGreatDoor
