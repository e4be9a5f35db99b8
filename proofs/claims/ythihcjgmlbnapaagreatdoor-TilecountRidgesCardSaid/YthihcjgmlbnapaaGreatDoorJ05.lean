/- Joined texts: WCmpL, WAddL, WBlk, WTimes, WDivS. -/
import Derived.Test.YthihcjgmlbnapaaGreatDoorJ04
import Derived.Laws.MakeOwn
set_option maxRecDepth 100000
set_option linter.unusedVariables false
set_option linter.unusedSimpArgs false
set_option maxHeartbeats 12800000
namespace Go.Proofs.YthihcjgmlbnapaaGreatDoor
open Go.RowKit Go.Shelf
attribute [local go_sem] Oper.semAt_some
def RetSgn (x y:Int) (w:World) (e:Ending) (w':World):Prop:=∃ r:Int,e=.returned (.int .i64 r)∧(r < 0↔x < y)∧(r=0↔x=y)∧Below w.heap.size w w'
def SameTop (a b:List Int) (pre:List (Fin a.length)):Prop:=∀ k ∈ pre,lim a (a.length - 1 - k.1)=lim b (a.length - 1 - k.1)
theorem results_cell1 {fn:Func} {p:Tmp} {tp:TypeId} (h:fn.results=#[.cell p tp]) {tmps:Array Value} {P:Program} {w:World} {a:Addr} {x:Value}
  (ha:tmps.getD p undef=.pointer (some a)) (l1:(loadVar tp a).run P w=.ok x w) :
  (results fn tmps).run P w=.ok x w:=by
 have e:∀ a,(asAddr (.pointer (some a))).run P w=.ok a w:=fun _=>rfl
 rw [Array.getD_eq_getD_getElem?] at ha
 simp only [results,h]
 simp [Sem.run_bind,Result.andThen,ha,e,l1]
def Found (a b:List Int) (pre:List (Fin a.length)) (r:Int):Prop:=∃ pre' k,pre=pre'++[k]∧SameTop a b pre'∧r=lim a (a.length - 1 - k.1) - lim b (a.length - 1 - k.1)∧r≠0
theorem sameTop_snoc {a b:List Int} {pre:List (Fin a.length)} {k:Fin a.length} (h:SameTop a b pre) (hk:lim a (a.length - 1 - k.1)=lim b (a.length - 1 - k.1)):SameTop a b (pre++[k]):=by
 intro j hj
 rcases List.mem_append.1 hj with hj|hj
 ·exact h j hj
 ·obtain rfl:j=k:=by simpa using hj
  exact hk
theorem sameTop_all {a b:List Int} {x y:Int} (ha:Num a x) (hb:Num b y) (hl:a.length=b.length) (h:SameTop a b (List.finRange a.length)):x=y:=by
 have e:a=b:=lim_ext hl fun i hi=>by
  have:=h ⟨a.length - 1 - i,by omega⟩ (List.mem_finRange _)
  simp only at this
  rwa [show a.length - 1 - (a.length - 1 - i)=i by omega] at this
 subst e
 rw [← ha.sum,hb.sum]
theorem found_sign {a b:List Int} {x y r:Int} (ha:Num a x) (hb:Num b y) (hl:a.length=b.length) {k:Nat} (hk:k≤a.length) (h:Found a b (fst a.length k) r):(r < 0↔x < y)∧(r=0↔x=y):=by
 obtain ⟨pre',j,e,hS,rfl,hne⟩:=h
 obtain ⟨m,rfl⟩:∃ m,k=m+1:=by
  cases k with
  | zero=>rw [fst_zero] at e;simp at e
  | succ m=>exact ⟨m,rfl⟩
 rw [fst_succ (by omega)] at e
 obtain ⟨e1,e2⟩:=List.append_inj' e rfl
 injection e2 with e2 _
 subst e1 e2
 have hbx:=hb.sum
 have hax:=ha.sum
 unfold val at hax hbx
 rw [← hl] at hbx
 have hS':∀ i,a.length - 1 - m < i→i < a.length→lim a i=lim b i:=fun i h1 h2=>by
  have hmem:(⟨a.length - 1 - i,by omega⟩:Fin a.length) ∈ fst a.length m:=by
   unfold fst
   refine List.mem_iff_getElem.2 ⟨a.length - 1 - i,by simp;omega,by simp⟩
  have:=hS _ hmem
  simp only at this
  rwa [show a.length - 1 - (a.length - 1 - i)=i by omega] at this
 have k1:=fun h=>vt_top (f:=lim a) (g:=lim b) (k:=a.length - 1 - m) (m:=a.length) (by omega) (fun i _=>ha.digs i) (fun i _=>hb.digs i) hS' h
 have k2:=fun h=>vt_top (f:=lim b) (g:=lim a) (k:=a.length - 1 - m) (m:=a.length) (by omega) (fun i _=>hb.digs i) (fun i _=>ha.digs i) (fun i h1 h2=>(hS' i h1 h2).symm) h
 rw [hax,hbx] at k1 k2
 simp only at hne ⊢
 rcases Int.lt_trichotomy (lim a (a.length - 1 - m)) (lim b (a.length - 1 - m)) with h|h|h
 ·have:=k1 h;omega
 ·omega
 ·have:=k2 h;omega
theorem compareL_ok {a b:List Int} {x y:Int} (va vb:Value) (w:World) (hva:IsInts w va a) (hvb:IsInts w vb b) (ha:Num a x) (hb:Num b y) (hal:a.length≤1000) (hbl:b.length≤1000) :
  Calls Tryz.prog 170 #[va,vb] w (RetSgn x y w):=by
 have HVA:=Lib.hid hva
 obtain ⟨aa,ac,rfl⟩:=hva.slice
 obtain ⟨ba,bc,rfl⟩:=hvb.slice
 have HL:=Lib.hid (fun h:a.length < b.length=>ha.lt_of_length hb h)
 have HM:=Lib.hid (fun h:b.length < a.length=>hb.lt_of_length ha h)
 have HA:=Lib.hid ha
 have HB:=Lib.hid hb
 obtain ⟨_,_,hcb⟩:=hvb.cells
 have HCB:=Lib.hid hcb
 clear ha hb hva hvb hcb
 refine (callsIn_wide (n:=5)).1 ?_
 refine callsIn_of_wp_marks Tryz.func170 rfl trivial ?_ rfl
 simp only [Tryz.ntmps170,List.size_toArray,List.length_cons,List.length_nil,Nat.reduceAdd,Nat.reduceSub,Array.replicate_succ,Array.replicate_zero,List.push_toArray,List.append_toArray,List.nil_append,List.cons_append]
 by_cases hlen:a.length=b.length
 ·have hne:((a.length:Int) != (b.length:Int))=false:=by simp [hlen]
  have HLEN:=Lib.hid hlen
  have HAL:=Lib.hid hal
  clear hlen HL HM hal hbl
  gi_wp2
  refine ⟨trivial,?_⟩
  refine (callsIn_wide.2 (backward_any _ _ _ _)).mono ?_
  rintro e w1 ⟨rfl,rfl⟩
  gi_wp2
  have hb0:Below w.heap.size w (((w.alloc (.cells #[.slice ba b.length bc] 205)).alloc (.cells #[.int .i64 0] 3)).alloc (.cells #[.slice aa a.length ac] 205)):=qbl
  have x0:Boxed (((w.alloc (.cells #[.slice ba b.length bc] 205)).alloc (.cells #[.int .i64 0] 3)).alloc (.cells #[.slice aa a.length ac] 205)) w.heap.size 205 (.slice ba b.length bc):=((Boxed.new w _ _).alloc _).alloc _
  have x1:Boxed (((w.alloc (.cells #[.slice ba b.length bc] 205)).alloc (.cells #[.int .i64 0] 3)).alloc (.cells #[.slice aa a.length ac] 205)) (w.heap.size+1) 3 (.int .i64 0):=(boxed_new' (by simp)).alloc _
  have x2:Boxed (((w.alloc (.cells #[.slice ba b.length bc] 205)).alloc (.cells #[.int .i64 0] 3)).alloc (.cells #[.slice aa a.length ac] 205)) (w.heap.size+2) 205 (.slice aa a.length ac):=boxed_new' (by simp)
  have hsz:(((w.alloc (.cells #[.slice ba b.length bc] 205)).alloc (.cells #[.int .i64 0] 3)).alloc (.cells #[.slice aa a.length ac] 205)).heap.size=w.heap.size+3:=by simp
  generalize (((w.alloc (.cells #[.slice ba b.length bc] 205)).alloc (.cells #[.int .i64 0] 3)).alloc (.cells #[.slice aa a.length ac] 205))=W0 at *
  refine wpIn_rangeFunc_ownH rfl (by omega) (gf:=210) (lb:=#[.pointer (some ⟨w.heap.size+2,0,none⟩)]) rfl trivial (enters_of Tryz.func210 (by kernel_rfl) rfl)
   (back_stops a _ (by omega) (w.heap.size+2) w.heap.size _ HAL.out W0 hb0.size (HVA.out.below hb0) HVA.out.lt x2.cell) KpR.t (KpR.b hb0.size (by omega)) (bw0 _ _) (fun _=>rfl)
   (fun pre W=>((((Boxed W w.heap.size 205 (.slice ba b.length bc)∧Boxed W (w.heap.size+1) 3 (.int .i64 0))∧Boxed W (w.heap.size+2) 205 (.slice aa a.length ac))∧(Below w.heap.size w W∧w.heap.size+3≤W.heap.size))∧SameTop a b pre))
   (fun c pre W=>(((∃ r,Boxed W (w.heap.size+1) 3 (.int .i64 r)∧Found a b pre r)∧(Below w.heap.size w W∧w.heap.size+3≤W.heap.size))∧c=.ret))
   (OwnFrom.and (OwnFrom.and (OwnFrom.and (OwnFrom.and (Own.from (boxed_own _ _ _) _) (Own.from (boxed_own _ _ _) _)) (Own.from (boxed_own _ _ _) _)) (OwnFrom.and (ownFrom_below (Nat.le_refl _) (by omega)) (fun s A B row hs hg hr=>Nat.le_trans hs hg.size))) (fun _ _ _ _ hs _ _=>hs))
   (fun c=>OwnFrom.and (OwnFrom.and (fun s X Y row hs hg hr=>by obtain ⟨r,h1,h2⟩:=hs;exact ⟨r,(Own.from (boxed_own (w.heap.size+1) 3 (fun _:Unit=>.int .i64 r)) _) () X Y row h1 hg hr,h2⟩) (OwnFrom.and (ownFrom_below (Nat.le_refl _) (by omega)) (fun s A B row hs hg hr=>Nat.le_trans hs hg.size))) (fun _ _ _ _ hs _ _=>hs))
   ⟨⟨⟨⟨x0,x1⟩,x2⟩,hb0,by omega⟩,fun k hk=>by cases hk⟩
   (fun x a' W=>a'={ tmps:=#[.slice aa a.length ac,.slice ba b.length bc,undef,.pointer (some ⟨w.heap.size,0,none⟩),.pointer (some ⟨w.heap.size+1,0,none⟩),.int .i64 ((a.length:Int) - 1 - x.1),.int .i64 (lim a (a.length - 1 - x.1)),.slice aa a.length ac,.int .i64 a.length,.slice ba b.length bc,.int .i64 b.length,.bool false,undef,undef,undef,undef,undef,.slice aa a.length ac,
    .func (.func 210) #[] #[.pointer (some ⟨w.heap.size+2,0,none⟩)],.int .i64 ((a.length:Int) - 1 - x.1),.int .i64 (lim a (a.length - 1 - x.1)),undef,undef,undef,undef,undef,undef,undef,undef,undef,undef,undef,undef],defers:=[] })
   (fun x a' _ X Y row hs hg hr=>hs)
   ?assign ?body ?done ?stop
  case assign =>
   rintro l1 pre x W K ⟨⟨⟨⟨b0,b1⟩,b2⟩,hB,hz⟩,hS⟩ hK
   unfold encB
   gi_wp2
   exact hK _ _ (KeepsFrom.refl _ _) ⟨(bw0 _ _).mono hB.size,rfl⟩ ⟨⟨⟨⟨b0,b1⟩,b2⟩,hB,hz⟩,hS⟩ rfl
  case body =>
   rintro l1 pre x a' W hl1 ⟨r,hr⟩ ⟨⟨⟨⟨b0,b1⟩,b2⟩,hB,hz⟩,hS⟩ rfl hlt
   have hx:=x.2
   obtain ⟨bb,ob,rfl,hcell⟩:=HCB.out (by have:=HLEN.out;omega)
   have hlb:=HLEN.out
   have ck:=keep hB (hcell (a.length - 1 - x.1) (by omega))
   have c0:=b0.cell
   have c1:=b1.cell
   have f1:=b1.frozen
   have hs:((a.length:Int) - 1 - (x.1:Int)).toNat=a.length - 1 - x.1:=by omega
   have hge:(0:Int)≤(a.length:Int) - 1 - (x.1:Int):=by omega
   have hlt2:(a.length:Int) - 1 - (x.1:Int) < (b.length:Int):=by omega
   obtain ⟨q1,q2⟩:=HA.out.digs (a.length - 1 - x.1)
   obtain ⟨q3,q4⟩:=HB.out.digs (a.length - 1 - x.1)
   have hw1:IntKind.i64.wrap (lim a (a.length - 1 - x.1) - lim b (a.length - 1 - x.1))=lim a (a.length - 1 - x.1) - lim b (a.length - 1 - x.1):=IntWalk.i64_in _ (by omega)
   have HS:=Lib.hid (fun h=>sameTop_snoc (k:=x) hS h)
   have HS0:=Lib.hid hS
   clear hlb hcell hS hlt
   by_cases hd:lim a (a.length - 1 - x.1)=lim b (a.length - 1 - x.1)
   ·have hdb:(lim a (a.length - 1 - x.1) != lim b (a.length - 1 - x.1))=false:=by simp [hd]
    have HS2:=Lib.hid (HS.out hd)
    clear hd
    gi_wp2
    exact ⟨KeepsFrom.refl _ _,⟨(bw0 _ _).mono hB.size,rfl⟩,⟨⟨⟨b0,b1⟩,b2⟩,hB,hz⟩,HS2.out⟩
   ·have hdb:(lim a (a.length - 1 - x.1) != lim b (a.length - 1 - x.1))=true:=by simp [hd]
    have HD:=Lib.hid hd
    clear hd
    gi_wp2
    have hS2:=sameBut_setCell W (w.heap.size+1) 0 (.int .i64 (lim a (a.length - 1 - x.1) - lim b (a.length - 1 - x.1)))
    exact ⟨keepsFrom_but hS2 (by omega),⟨⟨_,b1.set _,pre,x,rfl,HS0.out,rfl,by have:=HD.out;omega⟩,hS2.below hB (by omega),by rw [hS2.size];exact hz⟩,rfl⟩
  case done =>
   rintro D ys W hD rfl ⟨⟨⟨⟨b0,b1⟩,b2⟩,hB,hz⟩,hS⟩ hK
   have hc:=b1.cell
   have hf:=b1.frozen
   have he:=Lib.hid (sameTop_all HA.out HB.out HLEN.out hS)
   gi_wp2
   have hS2:=sameBut_setCell W (w.heap.size+1) 0 (.int .i64 0)
   have x1':=b1.set (.int .i64 0)
   refine leaves_marks (w.heap.size+3) [D] _ (by simp) (fun E hE=>?_) (fun W' hB' hcc=>?_)
   ·obtain rfl:E=D:=by simpa using hE
    exact ⟨by omega,(hS2.block E (by omega)).trans hK⟩
   ·have z1:W'.cell? ⟨w.heap.size+1,0,none⟩=some (.int .i64 0):=cell_keeps x1'.cell hcc
    have l1:(loadVar 3 ⟨w.heap.size+1,0,none⟩).run Tryz.prog W'=.ok (.int .i64 0) W':=by simp [go_sem,z1]
    have he':=he.out
    exact ⟨_,results_cell1 Tryz.results170 rfl l1,0,rfl,by omega,by omega,(hS2.below hB (by omega)).trans (hB'.mono (by omega))⟩
  case stop =>
   rintro D c pre W hD ⟨k0,hk0,rfl⟩ ⟨⟨⟨r,q1,hF⟩,hB,hz⟩,rfl⟩ hK
   have he:=Lib.hid (found_sign HA.out HB.out HLEN.out hk0 hF)
   gi_wp2
   refine leaves_marks (w.heap.size+3) [D] _ (by simp) (fun E hE=>?_) (fun W' hB' hcc=>?_)
   ·obtain rfl:E=D:=by simpa using hE
    exact ⟨by omega,hK⟩
   ·have z1:W'.cell? ⟨w.heap.size+1,0,none⟩=some (.int .i64 r):=cell_keeps q1.cell hcc
    have l1:(loadVar 3 ⟨w.heap.size+1,0,none⟩).run Tryz.prog W'=.ok (.int .i64 r) W':=by simp [go_sem,z1]
    exact ⟨_,results_cell1 Tryz.results170 rfl l1,r,rfl,he.out.1,he.out.2,hB.trans (hB'.mono (by omega))⟩
 ·have hne:((a.length:Int) != (b.length:Int))=true:=by simp;omega
  have HR:=Lib.hid (show ((a.length:Int) - (b.length:Int) < 0↔x < y)∧((a.length:Int) - (b.length:Int)=0↔x=y) by
   rcases Nat.lt_or_gt_of_ne hlen with h|h
   ·have:=HL.out h;omega
   ·have:=HM.out h;omega)
  clear hlen HL HM
  gi_wp2
  refine leaves_marks w.heap.size [] _ List.nodup_nil (fun D hD=>by cases hD) (fun W' hB' hcc=>?_)
  have x1:Boxed ((w.alloc (.cells #[.slice ba b.length bc] 205)).alloc (.cells #[.int .i64 ((a.length:Int) - b.length)] 3)) (w.heap.size+1) 3 (.int .i64 ((a.length:Int) - b.length)):=boxed_new' (by simp)
  have z1:W'.cell? ⟨w.heap.size+1,0,none⟩=some (.int .i64 ((a.length:Int) - b.length)):=cell_keeps x1.cell hcc
  have l1:(loadVar 3 ⟨w.heap.size+1,0,none⟩).run Tryz.prog W'=.ok (.int .i64 ((a.length:Int) - b.length)) W':=by simp [go_sem,z1]
  refine ⟨_,results_cell1 Tryz.results170 rfl l1,_,rfl,HR.out.1,HR.out.2,?_⟩
  exact (show Below w.heap.size w _ from qbl).trans hB'
end Go.Proofs.YthihcjgmlbnapaaGreatDoor
namespace Go.Proofs.YthihcjgmlbnapaaGreatDoor
open Go.RowKit Go.Shelf
def sgnV (m:Bool) (n:Int):Int:=if m then -n else n
def IsBig (w:World) (v:Value) (z:Int) (k:Nat):Prop:=∃ m u l n,v=.agg #[.bool m,u]∧IsInts w u l∧Num l n∧z=sgnV m n∧l.length≤k
theorem IsBig.below {w w':World} {v:Value} {z:Int} {k:Nat} (h:IsBig w v z k) (hB:Below w.heap.size w w'):IsBig w' v z k:=by
 obtain ⟨m,u,l,n,h1,h2,h3⟩:=h
 exact ⟨m,u,l,n,h1,h2.below hB,h3⟩
def RetBig (z:Int) (k:Nat) (w:World) (e:Ending) (w':World):Prop:=∃ v,e=.returned v∧IsBig w' v z k∧Below w.heap.size w w'
def BoxN (W:World) (b:Nat) (x y:Value):Prop:=W.heap[b]?=some (.cells #[x,y] 207 (0,0))
theorem BoxN.lt {W:World} {b:Nat} {x y:Value} (h:BoxN W b x y):b < W.heap.size:=(Array.getElem?_eq_some_iff.1 h).1
theorem BoxN.below {w w':World} {b:Nat} {x y:Value} (h:BoxN w b x y) (hB:Below w.heap.size w w'):BoxN w' b x y:=(hB.block b h.lt).trans h
theorem BoxN.c0 {W:World} {b:Nat} {x y:Value} (h:BoxN W b x y):W.cell? ⟨b,0,none⟩=some x:=by simp only [World.cell?,show W.heap[b]?=_ from h];rfl
theorem BoxN.c1 {W:World} {b:Nat} {x y:Value} (h:BoxN W b x y):W.cell? ⟨b,1,none⟩=some y:=by simp only [World.cell?,show W.heap[b]?=_ from h];rfl
theorem BoxN.new {X:World} {n:Nat} {x y:Value} (h:X.heap.size=n):BoxN (X.alloc (.cells #[x,y] 207)) n x y:=by subst h;exact World.alloc_heap_new _ _
theorem Tryz.infoBig:(Tryz.prog.info? 207).map (·.size)=some 2:=by kernel_rfl
theorem wp_store2 {o:Oper} {a:Act} {Q:Exit→Act→World→Prop} {K:Act→World→Prop} (p x:Operand) (ho:o.op=.store 207 p x) {w:World} {b:Nat} {x0 y0 x1 y1:Value} (hA:BoxN w b x0 y0)
  (h1:x1.oneCell'=true) (h2:y1.oneCell'=true) (hp:a.eval p=.pointer (some ⟨b,0,none⟩)) (hx:a.eval x=.agg #[x1,y1]) (h:∀ W,SameBut b w W→BoxN W b x1 y1→K (a.put o.dst undef) W) :
  o.wp Tryz.prog a w K Q:=by
 have hrow:=run_storeVar_row (P:=Tryz.prog) w b 207 207 #[x0,y0] #[x1,y1] hA Tryz.infoBig rfl (by simp [h1,h2])
 unfold Oper.wp execOp
 rw [ho]
 simp only [hp,hx,Sem.run_bind,Instr.storeAt,Instr.sureAddr,Sem.run_pure,Result.andThen_ok,hrow]
 exact h _ (setRow_sameBut _ _ _) (setRow_at hA)
theorem OwnInts.but {w W:World} {B b:Nat} {v:Value} {l:List Int} (h:OwnInts w B v l) (hs:SameBut b w W) (hb:b < B):OwnInts W B v l:=by
 refine ⟨h.1,?_⟩
 rcases h.2 with hn|⟨g,cap,cur,e,hB,hg,rest⟩
 ·exact .inl hn
 ·exact .inr ⟨g,cap,cur,e,hB,(hs.block g (by omega)).trans hg,rest⟩
theorem add_same {m1 m2:Bool} {l1 l2:List Int} {n1 n2:Int} (v1 v2:Value) (w:World) (h1:IsInts w v1 l1) (h2:IsInts w v2 l2) (d1:Num l1 n1) (d2:Num l2 n2) (k1:l1.length≤900) (k2:l2.length≤900) (hm:m1=m2) :
  Calls Tryz.prog 129 #[.agg #[.bool m1,v1],.agg #[.bool m2,v2]] w (RetBig (sgnV m1 n1+sgnV m2 n2) (max l1.length l2.length+1) w):=by
 obtain ⟨a1,c1,rfl⟩:=h1.slice
 obtain ⟨a2,c2,rfl⟩:=h2.slice
 have HP:=Lib.hid (fun W (hB:Below w.heap.size w W)=>plusL_ok _ _ W (h1.below hB) (h2.below hB) d1 d2 (by omega) (by omega))
 have hmb:(m1 == m2)=true:=by simp [hm]
 have HS:=Lib.hid (show sgnV m1 n1+sgnV m2 n2=sgnV m1 (n1+n2) from by subst hm;cases m1<;>simp [sgnV];omega)
 clear h1 h2 d1 d2 hm
 go_enter Tryz.func129,Tryz.ntmps129
 go_wp2_with fail
 have hb0:Below w.heap.size w (((w.alloc (.cells #[.bool m1,.slice a1 l1.length c1] 207)).alloc (.cells #[.bool m2,.slice a2 l2.length c2] 207)).alloc (.cells #[.bool false,.slice none 0 0] 207)):=qbl
 have x0:BoxN (((w.alloc (.cells #[.bool m1,.slice a1 l1.length c1] 207)).alloc (.cells #[.bool m2,.slice a2 l2.length c2] 207)).alloc (.cells #[.bool false,.slice none 0 0] 207)) w.heap.size (.bool m1) (.slice a1 l1.length c1):=((BoxN.new rfl).below (bw4 (bw0 _ _) _)).below (bw4 (bw0 _ _) _)
 have x1:BoxN (((w.alloc (.cells #[.bool m1,.slice a1 l1.length c1] 207)).alloc (.cells #[.bool m2,.slice a2 l2.length c2] 207)).alloc (.cells #[.bool false,.slice none 0 0] 207)) (w.heap.size+1) (.bool m2) (.slice a2 l2.length c2):=(BoxN.new (by simp)).below (bw4 (bw0 _ _) _)
 have x2:BoxN (((w.alloc (.cells #[.bool m1,.slice a1 l1.length c1] 207)).alloc (.cells #[.bool m2,.slice a2 l2.length c2] 207)).alloc (.cells #[.bool false,.slice none 0 0] 207)) (w.heap.size+2) (.bool false) (.slice none 0 0):=BoxN.new (by simp)
 have hz0:(((w.alloc (.cells #[.bool m1,.slice a1 l1.length c1] 207)).alloc (.cells #[.bool m2,.slice a2 l2.length c2] 207)).alloc (.cells #[.bool false,.slice none 0 0] 207)).heap.size=w.heap.size+3:=by simp
 generalize (((w.alloc (.cells #[.bool m1,.slice a1 l1.length c1] 207)).alloc (.cells #[.bool m2,.slice a2 l2.length c2] 207)).alloc (.cells #[.bool false,.slice none 0 0] 207))=W0 at *
 have hR:Below W0.heap.size W0 W0.drew:=(bw0 _ _).drew
 refine region_S (F:=[8]) (R:=(fun w'=>Below W0.heap.size W0 w')) 9 #[false,false,false,false,false,false,false,false,false] (by kernel_rfl) (by kernel_rfl) (by kernel_rfl) (fun _ _ _ _ _ h=>h) (fun Q' hQ' hN=>?_)
 generalize W0.drew=wd at *
 refine tS 11 0 (hy:=by intro wq hRq;have e0:=(x0.below hRq).c0;have e1:=(x0.below hRq).c1;have e2:=(x1.below hRq).c0;have e3:=(x1.below hRq).c1;go_simp;(try with_reducible rfl)) ?_
 refine tS 12 1 (hy:=by intro wq hRq;have e0:=(x0.below hRq).c0;have e1:=(x0.below hRq).c1;have e2:=(x1.below hRq).c0;have e3:=(x1.below hRq).c1;go_simp;(try with_reducible rfl)) ?_
 refine tS 13 2 (hy:=by intro wq hRq;have e0:=(x0.below hRq).c0;have e1:=(x0.below hRq).c1;have e2:=(x1.below hRq).c0;have e3:=(x1.below hRq).c1;go_simp;(try with_reducible rfl)) ?_
 refine tS 14 3 (hy:=by intro wq hRq;have e0:=(x0.below hRq).c0;have e1:=(x0.below hRq).c1;have e2:=(x1.below hRq).c0;have e3:=(x1.below hRq).c1;go_simp;(try with_reducible rfl)) ?_
 refine tS 15 4 (hy:=by intro wq hRq;have e0:=(x0.below hRq).c0;have e1:=(x0.below hRq).c1;have e2:=(x1.below hRq).c0;have e3:=(x1.below hRq).c1;go_simp;(try with_reducible rfl)) ?_
 refine tS 16 5 (hy:=by intro wq hRq;have e0:=(x0.below hRq).c0;have e1:=(x0.below hRq).c1;have e2:=(x1.below hRq).c0;have e3:=(x1.below hRq).c1;go_simp;(try with_reducible rfl)) ?_
 refine wpAnyS_ready (rs:=[6]) (by kernel_rfl) (by simp) ?_
 refine stepR (i:=6) rfl (by kernel_rfl) (fun K hK=>?_) (AllReadyS.nil)
 go_simp
 refine (HP.out _ (below_trans' hb0 hR)).mono ?_
 rintro e wn ⟨lr,vr,rfl,hown,hnum,hlen,hB'⟩
 have hzr:=hR.size
 have hR:Below W0.heap.size W0 wn:=below_trans' hR hB'
 obtain ⟨ar,cr,rfl,_⟩:=row_shape1 hown
 clear hB'
 refine hK.out _ _ hR ?_
 clear hK K
 (try simp only [Act.put,bw7,bw8,bw9])
 refine tS 18 7 (hy:=by intro wq hRq;have e0:=(x0.below hRq).c0;have e1:=(x0.below hRq).c1;have e2:=(x1.below hRq).c0;have e3:=(x1.below hRq).c1;go_simp;(try with_reducible rfl)) ?_
 refine wpAnyS_ready (rs:=[8]) (by kernel_rfl) (by simp) ?_
 refine stepF (i:=8) rfl (by kernel_rfl) (by kernel_rfl) (fun K hK=>?_) (AllReadyS.nil)
 refine wp_store2 _ _ rfl (x2.below hR) rfl rfl rfl rfl (fun wx hS hbx=>?_)
 have hown:=hown.but hS (by omega)
 have hBn:=hS.below (hb0.trans (hR.mono hb0.size)) (by omega)
 clear hS
 refine hK.out _ _ ?_
 clear hK K
 (try simp only [Act.put,bw7,bw8,bw9])
 refine wpAnyS_done (by kernel_rfl) ?_ _
 refine hN.out _ _ ?_
 go_wp2_with fail
 refine bodyPost_ret (results_cell_row rfl _ _ (w.heap.size+2) 207 #[.bool m1,.slice ar lr.length cr] (0,0) _ rfl hbx Tryz.underlying207 rfl (by kernel_rfl)) rfl ?_
 exact ⟨_,rfl,⟨_,_,lr,_,rfl,hown.is,hnum,HS.out,hlen⟩,hBn⟩
theorem add_great {m1 m2:Bool} {l1 l2:List Int} {n1 n2:Int} (v1 v2:Value) (w:World) (h1:IsInts w v1 l1) (h2:IsInts w v2 l2) (d1:Num l1 n1) (d2:Num l2 n2) (k1:l1.length≤900) (k2:l2.length≤900) (hm:¬ m1=m2) (hn:n2≤n1) :
  Calls Tryz.prog 129 #[.agg #[.bool m1,v1],.agg #[.bool m2,v2]] w (RetBig (sgnV m1 n1+sgnV m2 n2) (max l1.length l2.length+1) w):=by
 obtain ⟨a1,c1,rfl⟩:=h1.slice
 obtain ⟨a2,c2,rfl⟩:=h2.slice
 have HP:=Lib.hid (fun W (hB:Below w.heap.size w W)=>minusL_ok _ _ W (h1.below hB) (h2.below hB) d1 d2 (by omega) (by omega) hn)
 have hmb:(m1 == m2)=false:=by simp [hm]
 have HC:=Lib.hid (fun W (hB:Below w.heap.size w W)=>compareL_ok _ _ W (h1.below hB) (h2.below hB) d1 d2 (by omega) (by omega))
 have HN:=Lib.hid hn
 have HS:=Lib.hid (show sgnV m1 n1+sgnV m2 n2=sgnV m1 (n1 - n2) from by cases m1<;>cases m2<;>simp [sgnV] at hm ⊢<;>omega)
 clear h1 h2 d1 d2 hm hn
 go_enter Tryz.func129,Tryz.ntmps129
 go_wp2_with fail
 have hb0:Below w.heap.size w (((w.alloc (.cells #[.bool m1,.slice a1 l1.length c1] 207)).alloc (.cells #[.bool m2,.slice a2 l2.length c2] 207)).alloc (.cells #[.bool false,.slice none 0 0] 207)):=qbl
 have x0:BoxN (((w.alloc (.cells #[.bool m1,.slice a1 l1.length c1] 207)).alloc (.cells #[.bool m2,.slice a2 l2.length c2] 207)).alloc (.cells #[.bool false,.slice none 0 0] 207)) w.heap.size (.bool m1) (.slice a1 l1.length c1):=((BoxN.new rfl).below (bw4 (bw0 _ _) _)).below (bw4 (bw0 _ _) _)
 have x1:BoxN (((w.alloc (.cells #[.bool m1,.slice a1 l1.length c1] 207)).alloc (.cells #[.bool m2,.slice a2 l2.length c2] 207)).alloc (.cells #[.bool false,.slice none 0 0] 207)) (w.heap.size+1) (.bool m2) (.slice a2 l2.length c2):=(BoxN.new (by simp)).below (bw4 (bw0 _ _) _)
 have x2:BoxN (((w.alloc (.cells #[.bool m1,.slice a1 l1.length c1] 207)).alloc (.cells #[.bool m2,.slice a2 l2.length c2] 207)).alloc (.cells #[.bool false,.slice none 0 0] 207)) (w.heap.size+2) (.bool false) (.slice none 0 0):=BoxN.new (by simp)
 have hz0:(((w.alloc (.cells #[.bool m1,.slice a1 l1.length c1] 207)).alloc (.cells #[.bool m2,.slice a2 l2.length c2] 207)).alloc (.cells #[.bool false,.slice none 0 0] 207)).heap.size=w.heap.size+3:=by simp
 generalize (((w.alloc (.cells #[.bool m1,.slice a1 l1.length c1] 207)).alloc (.cells #[.bool m2,.slice a2 l2.length c2] 207)).alloc (.cells #[.bool false,.slice none 0 0] 207))=W0 at *
 refine (HC.out _ hb0).mono ?_
 rintro e w1 ⟨r,rfl,hr1,hr2,hB1⟩
 have hb1:Below w.heap.size w w1:=below_trans' hb0 hB1
 have x0:=x0.below hB1
 have x1:=x1.below hB1
 have x2:=x2.below hB1
 have hz1:=hB1.size
 have hr:0≤r:=by have:=HN.out;omega
 clear hr1 hr2 hB1
 go_wp2_with fail
 have hR:Below w1.heap.size w1 w1.drew:=(bw0 _ _).drew
 refine region_S (F:=[8]) (R:=(fun w'=>Below w1.heap.size w1 w')) 9 #[false,false,false,false,false,false,false,false,false] (by kernel_rfl) (by kernel_rfl) (by kernel_rfl) (fun _ _ _ _ _ h=>h) (fun Q' hQ' hN=>?_)
 generalize w1.drew=wd at *
 refine tS 26 0 (hy:=by intro wq hRq;have e0:=(x0.below hRq).c0;have e1:=(x0.below hRq).c1;have e2:=(x1.below hRq).c0;have e3:=(x1.below hRq).c1;go_simp;(try with_reducible rfl)) ?_
 refine tS 27 1 (hy:=by intro wq hRq;have e0:=(x0.below hRq).c0;have e1:=(x0.below hRq).c1;have e2:=(x1.below hRq).c0;have e3:=(x1.below hRq).c1;go_simp;(try with_reducible rfl)) ?_
 refine tS 28 2 (hy:=by intro wq hRq;have e0:=(x0.below hRq).c0;have e1:=(x0.below hRq).c1;have e2:=(x1.below hRq).c0;have e3:=(x1.below hRq).c1;go_simp;(try with_reducible rfl)) ?_
 refine tS 29 3 (hy:=by intro wq hRq;have e0:=(x0.below hRq).c0;have e1:=(x0.below hRq).c1;have e2:=(x1.below hRq).c0;have e3:=(x1.below hRq).c1;go_simp;(try with_reducible rfl)) ?_
 refine tS 30 4 (hy:=by intro wq hRq;have e0:=(x0.below hRq).c0;have e1:=(x0.below hRq).c1;have e2:=(x1.below hRq).c0;have e3:=(x1.below hRq).c1;go_simp;(try with_reducible rfl)) ?_
 refine tS 31 5 (hy:=by intro wq hRq;have e0:=(x0.below hRq).c0;have e1:=(x0.below hRq).c1;have e2:=(x1.below hRq).c0;have e3:=(x1.below hRq).c1;go_simp;(try with_reducible rfl)) ?_
 refine wpAnyS_ready (rs:=[6]) (by kernel_rfl) (by simp) ?_
 refine stepR (i:=6) rfl (by kernel_rfl) (fun K hK=>?_) (AllReadyS.nil)
 go_simp
 refine (HP.out _ (below_trans' hb1 hR)).mono ?_
 rintro e wn ⟨lr,vr,rfl,hown,hnum,hlen,hB'⟩
 have hzr:=hR.size
 have hR:Below w1.heap.size w1 wn:=below_trans' hR hB'
 obtain ⟨ar,cr,rfl,_⟩:=row_shape1 hown
 clear hB'
 refine hK.out _ _ hR ?_
 clear hK K
 (try simp only [Act.put,bw7,bw8,bw9])
 refine tS 33 7 (hy:=by intro wq hRq;have e0:=(x0.below hRq).c0;have e1:=(x0.below hRq).c1;have e2:=(x1.below hRq).c0;have e3:=(x1.below hRq).c1;go_simp;(try with_reducible rfl)) ?_
 refine wpAnyS_ready (rs:=[8]) (by kernel_rfl) (by simp) ?_
 refine stepF (i:=8) rfl (by kernel_rfl) (by kernel_rfl) (fun K hK=>?_) (AllReadyS.nil)
 refine wp_store2 _ _ rfl (x2.below hR) rfl rfl rfl rfl (fun wx hS hbx=>?_)
 have hown:=hown.but hS (by omega)
 have hBn:=hS.below (hb1.trans (hR.mono hb1.size)) (by omega)
 clear hS
 refine hK.out _ _ ?_
 clear hK K
 (try simp only [Act.put,bw7,bw8,bw9])
 refine wpAnyS_done (by kernel_rfl) ?_ _
 refine hN.out _ _ ?_
 go_wp2_with fail
 refine bodyPost_ret (results_cell_row rfl _ _ (w.heap.size+2) 207 #[.bool m1,.slice ar lr.length cr] (0,0) _ rfl hbx Tryz.underlying207 rfl (by kernel_rfl)) rfl ?_
 exact ⟨_,rfl,⟨_,_,lr,_,rfl,hown.is,hnum,HS.out,hlen⟩,hBn⟩
theorem add_less {m1 m2:Bool} {l1 l2:List Int} {n1 n2:Int} (v1 v2:Value) (w:World) (h1:IsInts w v1 l1) (h2:IsInts w v2 l2) (d1:Num l1 n1) (d2:Num l2 n2) (k1:l1.length≤900) (k2:l2.length≤900) (hm:¬ m1=m2) (hn:n1 < n2) :
  Calls Tryz.prog 129 #[.agg #[.bool m1,v1],.agg #[.bool m2,v2]] w (RetBig (sgnV m1 n1+sgnV m2 n2) (max l1.length l2.length+1) w):=by
 obtain ⟨a1,c1,rfl⟩:=h1.slice
 obtain ⟨a2,c2,rfl⟩:=h2.slice
 have HP:=Lib.hid (fun W (hB:Below w.heap.size w W)=>minusL_ok _ _ W (h2.below hB) (h1.below hB) d2 d1 (by omega) (by omega) (by omega))
 have hmb:(m1 == m2)=false:=by simp [hm]
 have HC:=Lib.hid (fun W (hB:Below w.heap.size w W)=>compareL_ok _ _ W (h1.below hB) (h2.below hB) d1 d2 (by omega) (by omega))
 have HN:=Lib.hid hn
 have HS:=Lib.hid (show sgnV m1 n1+sgnV m2 n2=sgnV m2 (n2 - n1) from by cases m1<;>cases m2<;>simp [sgnV] at hm ⊢<;>omega)
 clear h1 h2 d1 d2 hm hn
 go_enter Tryz.func129,Tryz.ntmps129
 go_wp2_with fail
 have hb0:Below w.heap.size w (((w.alloc (.cells #[.bool m1,.slice a1 l1.length c1] 207)).alloc (.cells #[.bool m2,.slice a2 l2.length c2] 207)).alloc (.cells #[.bool false,.slice none 0 0] 207)):=qbl
 have x0:BoxN (((w.alloc (.cells #[.bool m1,.slice a1 l1.length c1] 207)).alloc (.cells #[.bool m2,.slice a2 l2.length c2] 207)).alloc (.cells #[.bool false,.slice none 0 0] 207)) w.heap.size (.bool m1) (.slice a1 l1.length c1):=((BoxN.new rfl).below (bw4 (bw0 _ _) _)).below (bw4 (bw0 _ _) _)
 have x1:BoxN (((w.alloc (.cells #[.bool m1,.slice a1 l1.length c1] 207)).alloc (.cells #[.bool m2,.slice a2 l2.length c2] 207)).alloc (.cells #[.bool false,.slice none 0 0] 207)) (w.heap.size+1) (.bool m2) (.slice a2 l2.length c2):=(BoxN.new (by simp)).below (bw4 (bw0 _ _) _)
 have x2:BoxN (((w.alloc (.cells #[.bool m1,.slice a1 l1.length c1] 207)).alloc (.cells #[.bool m2,.slice a2 l2.length c2] 207)).alloc (.cells #[.bool false,.slice none 0 0] 207)) (w.heap.size+2) (.bool false) (.slice none 0 0):=BoxN.new (by simp)
 have hz0:(((w.alloc (.cells #[.bool m1,.slice a1 l1.length c1] 207)).alloc (.cells #[.bool m2,.slice a2 l2.length c2] 207)).alloc (.cells #[.bool false,.slice none 0 0] 207)).heap.size=w.heap.size+3:=by simp
 generalize (((w.alloc (.cells #[.bool m1,.slice a1 l1.length c1] 207)).alloc (.cells #[.bool m2,.slice a2 l2.length c2] 207)).alloc (.cells #[.bool false,.slice none 0 0] 207))=W0 at *
 refine (HC.out _ hb0).mono ?_
 rintro e w1 ⟨r,rfl,hr1,hr2,hB1⟩
 have hb1:Below w.heap.size w w1:=below_trans' hb0 hB1
 have x0:=x0.below hB1
 have x1:=x1.below hB1
 have x2:=x2.below hB1
 have hz1:=hB1.size
 have hr:¬ 0≤r:=by have:=HN.out;omega
 clear hr1 hr2 hB1
 go_wp2_with fail
 have hR:Below w1.heap.size w1 w1.drew:=(bw0 _ _).drew
 refine region_S (F:=[8]) (R:=(fun w'=>Below w1.heap.size w1 w')) 9 #[false,false,false,false,false,false,false,false,false] (by kernel_rfl) (by kernel_rfl) (by kernel_rfl) (fun _ _ _ _ _ h=>h) (fun Q' hQ' hN=>?_)
 generalize w1.drew=wd at *
 refine tS 34 0 (hy:=by intro wq hRq;have e0:=(x0.below hRq).c0;have e1:=(x0.below hRq).c1;have e2:=(x1.below hRq).c0;have e3:=(x1.below hRq).c1;go_simp;(try with_reducible rfl)) ?_
 refine tS 35 1 (hy:=by intro wq hRq;have e0:=(x0.below hRq).c0;have e1:=(x0.below hRq).c1;have e2:=(x1.below hRq).c0;have e3:=(x1.below hRq).c1;go_simp;(try with_reducible rfl)) ?_
 refine tS 36 2 (hy:=by intro wq hRq;have e0:=(x0.below hRq).c0;have e1:=(x0.below hRq).c1;have e2:=(x1.below hRq).c0;have e3:=(x1.below hRq).c1;go_simp;(try with_reducible rfl)) ?_
 refine tS 37 3 (hy:=by intro wq hRq;have e0:=(x0.below hRq).c0;have e1:=(x0.below hRq).c1;have e2:=(x1.below hRq).c0;have e3:=(x1.below hRq).c1;go_simp;(try with_reducible rfl)) ?_
 refine tS 38 4 (hy:=by intro wq hRq;have e0:=(x0.below hRq).c0;have e1:=(x0.below hRq).c1;have e2:=(x1.below hRq).c0;have e3:=(x1.below hRq).c1;go_simp;(try with_reducible rfl)) ?_
 refine tS 39 5 (hy:=by intro wq hRq;have e0:=(x0.below hRq).c0;have e1:=(x0.below hRq).c1;have e2:=(x1.below hRq).c0;have e3:=(x1.below hRq).c1;go_simp;(try with_reducible rfl)) ?_
 refine wpAnyS_ready (rs:=[6]) (by kernel_rfl) (by simp) ?_
 refine stepR (i:=6) rfl (by kernel_rfl) (fun K hK=>?_) (AllReadyS.nil)
 go_simp
 refine (HP.out _ (below_trans' hb1 hR)).mono ?_
 rintro e wn ⟨lr,vr,rfl,hown,hnum,hlen,hB'⟩
 have hzr:=hR.size
 have hR:Below w1.heap.size w1 wn:=below_trans' hR hB'
 obtain ⟨ar,cr,rfl,_⟩:=row_shape1 hown
 clear hB'
 refine hK.out _ _ hR ?_
 clear hK K
 (try simp only [Act.put,bw7,bw8,bw9])
 refine tS 41 7 (hy:=by intro wq hRq;have e0:=(x0.below hRq).c0;have e1:=(x0.below hRq).c1;have e2:=(x1.below hRq).c0;have e3:=(x1.below hRq).c1;go_simp;(try with_reducible rfl)) ?_
 refine wpAnyS_ready (rs:=[8]) (by kernel_rfl) (by simp) ?_
 refine stepF (i:=8) rfl (by kernel_rfl) (by kernel_rfl) (fun K hK=>?_) (AllReadyS.nil)
 refine wp_store2 _ _ rfl (x2.below hR) rfl rfl rfl rfl (fun wx hS hbx=>?_)
 have hown:=hown.but hS (by omega)
 have hBn:=hS.below (hb1.trans (hR.mono hb1.size)) (by omega)
 clear hS
 refine hK.out _ _ ?_
 clear hK K
 (try simp only [Act.put,bw7,bw8,bw9])
 refine wpAnyS_done (by kernel_rfl) ?_ _
 refine hN.out _ _ ?_
 go_wp2_with fail
 refine bodyPost_ret (results_cell_row rfl _ _ (w.heap.size+2) 207 #[.bool m2,.slice ar lr.length cr] (0,0) _ rfl hbx Tryz.underlying207 rfl (by kernel_rfl)) rfl ?_
 exact ⟨_,rfl,⟨_,_,lr,_,rfl,hown.is,hnum,HS.out,by omega⟩,hBn⟩
theorem addL_ok {z1 z2:Int} {k1 k2:Nat} (v1 v2:Value) (w:World) (h1:IsBig w v1 z1 k1) (h2:IsBig w v2 z2 k2) (hk1:k1≤900) (hk2:k2≤900) :
  Calls Tryz.prog 129 #[v1,v2] w (RetBig (z1+z2) (max k1 k2+1) w):=by
 obtain ⟨m1,u1,l1,n1,rfl,i1,d1,rfl,q1⟩:=h1
 obtain ⟨m2,u2,l2,n2,rfl,i2,d2,rfl,q2⟩:=h2
 have key:∀ {e w'},RetBig (sgnV m1 n1+sgnV m2 n2) (max l1.length l2.length+1) w e w'→RetBig (sgnV m1 n1+sgnV m2 n2) (max k1 k2+1) w e w':=by
  rintro e w' ⟨v,h,⟨m,u,l,n,e1,e2,e3,e4,e5⟩,hB⟩
  exact ⟨v,h,⟨m,u,l,n,e1,e2,e3,e4,by omega⟩,hB⟩
 by_cases hm:m1=m2
 ·exact (add_same u1 u2 w i1 i2 d1 d2 (by omega) (by omega) hm).mono fun _ _=>key
 ·by_cases hn:n2≤n1
  ·exact (add_great u1 u2 w i1 i2 d1 d2 (by omega) (by omega) hm hn).mono fun _ _=>key
  ·exact (add_less u1 u2 w i1 i2 d1 d2 (by omega) (by omega) hm (by omega)).mono fun _ _=>key
end Go.Proofs.YthihcjgmlbnapaaGreatDoor
namespace Go.Proofs.YthihcjgmlbnapaaGreatDoor
open Go.RowKit Go.Shelf
def BlkI (W:World) (g:Nat) (l:List Int):Prop:=W.heap[g]?=some (.cells (intVs l).toArray 3 (0,0))
theorem BlkI.lt {W:World} {g:Nat} {l:List Int} (h:BlkI W g l):g < W.heap.size:=(Array.getElem?_eq_some_iff.1 h).1
theorem BlkI.below {w w':World} {g:Nat} {l:List Int} (h:BlkI w g l) (hB:Below w.heap.size w w'):BlkI w' g l:=(hB.block g h.lt).trans h
theorem BlkI.but {w w':World} {g b:Nat} {l:List Int} (h:BlkI w g l) (hs:SameBut b w w') (hne:g≠b):BlkI w' g l:=(hs.block g hne).trans h
theorem BlkI.cell {W:World} {g:Nat} {l:List Int} (h:BlkI W g l) {p:Nat} (hp:p < l.length):W.cell? ⟨g,p,none⟩=some (.int .i64 (lim l p)):=by
 have:=intVs_get hp
 simp [World.cell?,show W.heap[g]?=_ from h,this]
theorem BlkI.frozen {W:World} {g:Nat} {l:List Int} (h:BlkI W g l) (p:Nat):W.frozen? ⟨g,p,none⟩=false:=by
 simp [World.frozen?,show W.heap[g]?=_ from h]
theorem intVs_set (l:List Int) (p:Nat) (x:Int):intVs (l.set p x)=(intVs l).set p (.int .i64 x):=by simp [intVs,List.map_set]
theorem BlkI.set {W:World} {g:Nat} {l:List Int} (h:BlkI W g l) (p:Nat) (x:Int):BlkI (W.setCell ⟨g,p,none⟩ (.int .i64 x)) g (l.set p x):=by
 obtain ⟨hlt,hk⟩:=Array.getElem?_eq_some_iff.1 h
 show (W.heap.modify g _)[g]?=_
 rw [Array.getElem?_eq_getElem (by rw [Array.size_modify];exact hlt),Array.getElem_modify_self,hk]
 simp [intVs_set]
theorem BlkI.own {W:World} {B g:Nat} {l:List Int} (h:BlkI W g l) (hB:B≤g) (hl:l.length≤100000):OwnInts W B (.slice (some ⟨g,0,none⟩) l.length l.length) l:=by
 refine ⟨by rw [intVs_len,Nat.mul_one],.inr ⟨g,l.length,(intVs l).toArray,rfl,hB,h,Nat.le_refl _,by unfold maxLen;omega,by simp [intVs_len],?_⟩⟩
 rw [Nat.mul_one,← intVs_len l]
 exact List.take_length
theorem BlkI.is {W:World} {g:Nat} {l:List Int} (h:BlkI W g l):IsInts W (.slice (some ⟨g,0,none⟩) l.length l.length) l :=
 ⟨some ⟨g,0,none⟩,l.length,rfl,Nat.le_refl _,fun _=>⟨g,0,rfl,fun k hk=>by rw [Nat.zero_add];exact h.cell hk⟩⟩
theorem after_setI {K:Act→World→Prop} {a:Act} {w:World} {g p:Nat} {l:List Int} {x:Int} (hx:BlkI w g l) (h:∀ W,SameBut g w W→BlkI W g (l.set p x)→K a W):K a (w.setCell ⟨g,p,none⟩ (.int .i64 x)) :=
 h _ (sameBut_setCell _ _ _ _) (hx.set p x)
def zerosL (n:Nat):List Int:=List.replicate n 0
theorem zerosL_len (n:Nat):(zerosL n).length=n:=by simp [zerosL]
theorem lim_zerosL (n i:Nat):lim (zerosL n) i=0:=by
 by_cases h:i < n
 ·rw [lim_eq (by rw [zerosL_len];exact h)];simp [zerosL]
 ·exact lim_out (by rw [zerosL_len];omega)
theorem run_makeI (w:World) (n:Nat) (hn:n≤100000) (x:Int) (hx:x=n):(Instr.makeSlice 205 (.int .i64 x) (.int .i64 x)).run Tryz.prog w=.ok (.slice (some ⟨w.heap.size,0,none⟩) n n) (w.alloc (.cells (intVs (zerosL n)).toArray 3)):=by
 subst hx
 obtain ⟨i0,hi0,hz0,hz1,hz2⟩:=info_parts Tryz.infoInt
 have h:=run_make (P:=Tryz.prog) w 205 3 i0 (.int .i64 0) Tryz.underlying205 hi0 hz0 .i64 .i64 n n (by omega) (Int.le_refl _) (by rw [hz2];omega) (by omega)
 have e:madeCells (Value.int .i64 0).cells ((n:Int).toNat * i0.size)=(intVs (zerosL n)).toArray:=by
  rw [hz1,Int.toNat_natCast,Nat.mul_one]
  apply Array.ext
  ·simp [madeCells,intVs,zerosL]
  ·intro i h1 h2
   simp [madeCells,intVs,zerosL,Value.cells,Nat.mod_one]
 rw [e,Int.toNat_natCast] at h
 exact h
theorem BlkI.new {X:World} {n:Nat} {l:List Int} (h:X.heap.size=n):BlkI (X.alloc (.cells (intVs l).toArray 3)) n l:=by subst h;exact World.alloc_heap_new _ _
end Go.Proofs.YthihcjgmlbnapaaGreatDoor
namespace Go.Proofs.YthihcjgmlbnapaaGreatDoor
open Go.RowKit Go.Shelf
theorem vt_set {l:List Int} {p:Nat} {x:Int} (h:p < l.length) (m:Nat):vt (lim (l.set p x)) m=vt (lim l) m+(if p < m then (x - lim l p) * pw p else 0):=by
 induction m with
 | zero=>simp [vt]
 | succ m ih =>
  rw [vt,vt,ih,lim_set h]
  by_cases hm:m=p
  ·subst hm
   rw [if_pos rfl,if_neg (by omega),if_pos (by omega)]
   grind
  ·rw [if_neg hm]
   by_cases hp:p < m
   ·rw [if_pos hp,if_pos (by omega)];grind
   ·rw [if_neg hp,if_neg (by omega)];grind
theorem val_set {l:List Int} {p:Nat} {x:Int} (h:p < l.length):val (l.set p x)=val l+(x - lim l p) * pw p:=by
 unfold val
 rw [List.length_set,vt_set h,if_pos h]
structure TimesIn (a b l0:List Int) (i k:Nat) (l:List Int) (c:Int):Prop where
 len:l.length=a.length+b.length+1
 digs:Digs l
 car:Dig c
 sum:val l+c * pw (i+k)=val l0+lim a i * vt (lim b) k * pw i
 same:∀ j,i+k≤j→lim l j=lim l0 j
 fin:b.length < k→c=0
theorem dig_div {n:Int} (h0:0≤n) (h1:n≤999999999999999999):Dig (n / 1000000000):=⟨by omega,by omega⟩
theorem dig_mod (n:Int):Dig (n % 1000000000):=⟨by omega,by omega⟩
theorem mul_dig {x y:Int} (hx:Dig x) (hy:Dig y):0≤x * y∧x * y≤999999998000000001:=by
 refine ⟨Int.mul_nonneg hx.1 hy.1,?_⟩
 have h1:=Int.mul_le_mul hx.2 hy.2 hy.1 (by omega)
 omega
theorem TimesIn.step {a b l0 l:List Int} {i k:Nat} {c:Int} (h:TimesIn a b l0 i k l c) (ha:Digs a) (hb:Digs b) (hi:i < a.length) (hk:k≤b.length) (h0:lim l0 (i+b.length)=0) :
  TimesIn a b l0 i (k+1) (l.set (i+k) ((lim l (i+k)+lim a i * lim b k+c) % 1000000000)) ((lim l (i+k)+lim a i * lim b k+c) / 1000000000):=by
 obtain ⟨m1,m2⟩:=mul_dig (ha i) (hb k)
 obtain ⟨o1,o2⟩:=h.digs (i+k)
 obtain ⟨c1,c2⟩:=h.car
 have hp:i+k < l.length:=by rw [h.len];omega
 refine ⟨by rw [List.length_set];exact h.len,fun j=>?_,dig_div (by omega) (by omega),?_,fun j hj=>?_,fun hf=>?_⟩
 ·rw [lim_set hp]
  split
  ·exact dig_mod _
  ·exact h.digs j
 ·rw [val_set hp]
  have hv:=h.sum
  have hdm:lim l (i+k)+lim a i * lim b k+c=(lim l (i+k)+lim a i * lim b k+c) % 1000000000+1000000000 * ((lim l (i+k)+lim a i * lim b k+c) / 1000000000):=by omega
  rw [show i+(k+1)=i+k+1 from rfl,pw,vt]
  have hpa:=pw_add i k
  generalize (lim l (i+k)+lim a i * lim b k+c) % 1000000000=r at *
  generalize (lim l (i+k)+lim a i * lim b k+c) / 1000000000=q at *
  grind
 ·rw [lim_set hp,if_neg (by omega)];exact h.same j (by omega)
 ·have e:k=b.length:=by omega
  subst e
  have e1:lim b b.length=0:=lim_out (Nat.le_refl _)
  have e2:lim l (i+b.length)=0:=by rw [h.same _ (Nat.le_refl _),h0]
  rw [e1,e2]
  omega
structure TimesTo (a b:List Int) (i:Nat) (l:List Int):Prop where
 len:l.length=a.length+b.length+1
 digs:Digs l
 sum:val l=vt (lim a) i * val b
 zero:∀ j,i+b.length≤j→lim l j=0
theorem TimesTo.start {a b l:List Int} {i:Nat} (h:TimesTo a b i l):TimesIn a b l i 0 l 0:=⟨h.len,h.digs,⟨by omega,by omega⟩,by simp [vt],fun _ _=>rfl,fun _=>rfl⟩
theorem TimesTo.zeros (a b:List Int):TimesTo a b 0 (zerosL (a.length+b.length+1)):=⟨zerosL_len _,fun i=>by rw [lim_zerosL];exact ⟨by omega,by omega⟩,by
 unfold val
 rw [vt_congr (g:=fun _=>0) (fun i _=>lim_zerosL _ i)]
 have:∀ n,vt (fun _=>0) n=0:=fun n=>by
  induction n with
  | zero=>rfl
  | succ n ih=>rw [vt,ih];simp
 rw [this];simp [vt],fun j _=>lim_zerosL _ j⟩
theorem TimesIn.next {a b l0 l:List Int} {i:Nat} {c:Int} (h0:TimesTo a b i l0) (h:TimesIn a b l0 i (b.length+1) l c):TimesTo a b (i+1) l:=by
 refine ⟨h.len,h.digs,?_,fun j hj=>?_⟩
 ·have hc:=h.fin (by omega)
  have hv:=h.sum
  rw [hc,vt_val (show b.length≤b.length+1 by omega),h0.sum] at hv
  rw [vt]
  grind
 ·rw [h.same j (by omega)];exact h0.zero j (by omega)
theorem timesL_ok {a b:List Int} {x y:Int} (va vb:Value) (w:World) (hva:IsInts w va a) (hvb:IsInts w vb b) (ha:Num a x) (hb:Num b y) (hal:a.length≤900) (hbl:b.length≤900) :
  Calls Tryz.prog 161 #[va,vb] w fun e w'=>∃ (m:Nat) (l:List Int),e=.returned (.slice (some ⟨w.heap.size,0,none⟩) m (a.length+b.length+1))∧BlkI w' w.heap.size l∧l.length=a.length+b.length+1∧m≤l.length∧Num (l.take m) (x * y)∧(∀ i,m≤i→lim l i=0)∧Below w.heap.size w w':=by
 have HVA:=Lib.hid hva
 have HVB:=Lib.hid hvb
 obtain ⟨aa,ac,rfl⟩:=hva.slice
 obtain ⟨ba,bc,rfl⟩:=hvb.slice
 obtain ⟨_,_,hca⟩:=hva.cells
 have HCA:=Lib.hid hca
 have HA:=Lib.hid ha
 have HB:=Lib.hid hb
 have hmk:=fun (w:World)=>run_makeI w (a.length+b.length+1) (by omega) ((a.length:Int)+(b.length:Int)+1) (by omega)
 clear ha hb hva hvb hca
 obtain ⟨N,hN⟩:∃ N,a.length+b.length+1=N:=⟨_,rfl⟩
 rw [hN] at hmk ⊢
 go_enter Tryz.func161,Tryz.ntmps161
 go_wp2_with fail
 have hb0:Below w.heap.size w (w.alloc (.cells (intVs (zerosL N)).toArray 3)):=qbl
 have x0:BlkI (w.alloc (.cells (intVs (zerosL N)).toArray 3)) w.heap.size (zerosL N):=BlkI.new rfl
 have hT:=Lib.hid (TimesTo.zeros a b)
 rw [hN] at hT
 generalize w.alloc (.cells (intVs (zerosL N)).toArray 3)=W0 at *
 go_loopw [20] (fun i wr=>∃ (k:Nat) (l:List Int),k≤a.length∧i=.int .i64 k∧BlkI wr w.heap.size l∧Hid (TimesTo a b k l)∧Below w.heap.size w wr) (fun i _=>a.length - (intOf i).toNat)
 case atStart=>exact ⟨0,zerosL N,by omega,rfl,x0,hT,hb0⟩
 case round =>
  obtain ⟨i,l,hi,rfl,hblk,hTo,hB⟩:=hrel
  by_cases hlt:i < a.length
  ·obtain ⟨b1,o1,rfl,hcell⟩:=HCA.out (by omega)
   have ck:=keep hB (hcell i hlt)
   clear hcell
   have HTO:=Lib.hid hTo.out.start
   have HZ:=Lib.hid (hTo.out.zero (i+b.length) (Nat.le_refl _))
   have HNX:=Lib.hid (fun l' c h=>TimesIn.next (l:=l') (c:=c) hTo.out h)
   have HBI:=Lib.hid hB
   clear hTo hB
   go_wp2_with fail
   go_loopw [8,28] (fun cy k wi=>∃ (j:Nat) (c:Int) (l':List Int),j≤b.length+1∧k=.int .i64 j∧cy=.int .i64 c∧BlkI wi w.heap.size l'∧Hid (TimesIn a b l i j l' c)∧Below w.heap.size w wi) (fun _ k _=>b.length+1 - (intOf k).toNat)
   case atStart=>exact ⟨0,0,l,by omega,rfl,rfl,hblk,HTO,HBI.out⟩
   case round =>
    obtain ⟨j,c,l',hj,rfl,rfl,hbk,hTi,hBi⟩:=hrel
    by_cases hjl:j < b.length+1
    ·have HL:=Lib.hid (fun (W:World) (h:Below w.heap.size w W)=>limb_ok b _ j W (HVB.out.below h) (by omega))
     obtain ⟨o1,o2⟩:=hTi.out.digs (i+j)
     obtain ⟨m1,m2⟩:=mul_dig (HA.out.digs i) (HB.out.digs j)
     obtain ⟨c1,c2⟩:=hTi.out.car
     have hst:=hTi.out.step HA.out.digs HB.out.digs hlt (by omega) HZ.out
     have hp:i+j < l'.length:=by rw [hTi.out.len];omega
     have hlen:l'.length=N:=by rw [hTi.out.len];exact hN
     have hpN:i+j < N:=by omega
     have hpI:(i:Int)+(j:Int) < (N:Int):=by omega
     have hp0:(0:Int)≤(i:Int)+(j:Int):=by omega
     have ck2:=hbk.cell hp
     have fr2:=hbk.frozen (i+j)
     have hp2:=hp
     obtain ⟨o,ho⟩:∃ o,lim l' (i+j)=o:=⟨_,rfl⟩
     rw [ho] at ck2 o1 o2 hst
     obtain ⟨P,hP⟩:∃ P,lim a i * lim b j=P:=⟨_,rfl⟩
     rw [hP] at m1 m2 hst
     obtain ⟨n,hn⟩:∃ n,o+P+c=n:=⟨_,rfl⟩
     rw [hn] at hst
     have hw1:IntKind.i64.wrap (lim a i * lim b j)=P:=by rw [hP];exact IntWalk.i64_in _ (by omega)
     have hw2:IntKind.i64.wrap (o+P)=o+P:=IntWalk.i64_in _ (by omega)
     have hw3:IntKind.i64.wrap (o+P+c)=n:=by rw [hn];exact IntWalk.i64_in _ (by omega)
     have hw4:IntKind.i64.wrap ((i:Int)+(j:Int))=(i:Int)+(j:Int):=IntWalk.i64_in _ (by omega)
     have hix:((i:Int)+(j:Int)).toNat=i+j:=by omega
     have hn0:0≤n:=by omega
     have hn1:n≤999999999999999999:=by omega
     have ht1:n.tmod 1000000000=n % 1000000000:=Int.tmod_eq_emod_of_nonneg hn0
     have ht2:n.tdiv 1000000000=n / 1000000000:=Int.tdiv_eq_ediv_of_nonneg hn0
     have HST:=Lib.hid hst
     have HLE:=Lib.hid hlen
     have HBB:=Lib.hid hBi
     clear hst hn hP hTi hlen
     go_wp2_with fail
     have hR:BlkI wr.drew w.heap.size l'∧Below w.heap.size w wr.drew:=⟨hbk.below (bw0 _ _).drew,HBB.out.trans ((bw0 _ _).drew.mono HBB.out.size)⟩
     clear hbk ck2 fr2
     refine region_S (F:=[]) (R:=(fun w'=>BlkI w' w.heap.size l'∧Below w.heap.size w w')) 15 #[false,false,false,false,false,false,false,false,false,false,false,false,false,false,false] (by kernel_rfl) (by kernel_rfl) (by kernel_rfl) (fun _ _ _ _ _ h=>h) (fun Q' hQ' hN=>?_)
     generalize wr.drew=wd at *
     refine tS 31 0 (hy:=by intro wq hRq;have ck2:=hRq.1.cell hp2;go_simp;(try with_reducible rfl)) ?_
     refine tS 32 1 (hy:=by intro wq hRq;have ck2:=hRq.1.cell hp2;go_simp;(try with_reducible rfl)) ?_
     refine tS 33 2 (hy:=by intro wq hRq;have ck2:=hRq.1.cell hp2;go_simp;(try with_reducible rfl)) ?_
     refine tS 34 3 (hy:=by intro wq hRq;have ck2:=hRq.1.cell hp2;go_simp;(try with_reducible rfl)) ?_
     refine tS 35 4 (hy:=by intro wq hRq;have ck2:=hRq.1.cell hp2;go_simp;(try with_reducible rfl)) ?_
     refine tS 36 5 (hy:=by intro wq hRq;have ck2:=hRq.1.cell hp2;go_simp;(try with_reducible rfl)) ?_
     refine tS 37 6 (hy:=by intro wq hRq;have ck2:=hRq.1.cell hp2;go_simp;(try with_reducible rfl)) ?_
     refine tS 38 7 (hy:=by intro wq hRq;have ck2:=hRq.1.cell hp2;go_simp;(try with_reducible rfl)) ?_
     refine tS 39 8 (hy:=by intro wq hRq;have ck2:=hRq.1.cell hp2;go_simp;(try with_reducible rfl)) ?_
     refine tS 43 12 (hy:=by intro wq hRq;have ck2:=hRq.1.cell hp2;go_simp;(try with_reducible rfl)) ?_
     refine wpAnyS_ready (rs:=[9]) (by kernel_rfl) (by simp) ?_
     refine stepR (i:=9) rfl (by kernel_rfl) (fun K hK=>?_) (AllReadyS.nil)
     go_simp
     refine (HL.out _ hR.2).mono ?_
     rintro e wn ⟨rfl,rfl⟩
     refine hK.out _ _ hR ?_
     clear hK K
     (try simp only [Act.put,bw7,bw8,bw9])
     refine tS 41 10 (hy:=by intro wq hRq;have ck2:=hRq.1.cell hp2;go_simp;(try with_reducible rfl)) ?_
     refine tS 42 11 (hy:=by intro wq hRq;have ck2:=hRq.1.cell hp2;go_simp;(try with_reducible rfl)) ?_
     refine tS 44 13 (hy:=by intro wq hRq;have ck2:=hRq.1.cell hp2;go_simp;(try with_reducible rfl)) ?_
     refine tS 10 14 (hy:=by intro wq hRq;have ck2:=hRq.1.cell hp2;go_simp;(try with_reducible rfl)) ?_
     refine wpAnyS_done (by kernel_rfl) ?_ _
     refine hN.out _ _ ?_
     have ck2:=hR.1.cell hp2
     have fr2:=hR.1.frozen (i+j)
     go_wp2_with fail
     have hS:=sameBut_setCell wn w.heap.size (i+j) (.int .i64 (n % 1000000000))
     go_roundw
     case rel=>exact ⟨j+1,_,_,by omega,by go_num,rfl,hR.1.set _ _,HST,hS.below hR.2 (Nat.le_refl _)⟩
     case measure=>simp [intOf];omega
    ·obtain rfl:j=b.length+1:=by omega
     have hTN:=Lib.hid (HNX.out l' c hTi.out)
     go_wp2_with fail
     go_roundw
     case rel=>exact ⟨i+1,l',by omega,by go_num,hbk,hTN,hBi⟩
     case measure=>simp [intOf];omega
  ·obtain rfl:i=a.length:=by omega
   have hlen:l.length=N:=by rw [hTo.out.len];exact hN
   have HT:=Lib.hid (trim_ok l (some ⟨w.heap.size,0,none⟩) N N wr (by have:=hblk.is;rwa [hlen] at this) (by omega))
   have HTO:=Lib.hid hTo.out
   have HLE:=Lib.hid hlen
   have HBI:=Lib.hid hB
   have HBK:=Lib.hid hblk
   clear hlen hTo hB hblk
   go_wp2_with fail
   refine HT.out.mono ?_
   rintro e w1 ⟨m,hm,rfl,ht,hl,rfl⟩
   have HTR:=Lib.hid ht
   have HL:=Lib.hid hl
   have HM:=Lib.hid hm
   clear ht hl hm
   go_wp2_with fail
   go_ret
   refine ⟨m,l,rfl,HBK.out,HLE.out,HM.out,⟨fun k=>by rw [HL.out];exact HTO.out.digs k,HTR.out,?_⟩,fun k hk=>?_,HBI.out⟩
   ·rw [val_of_lim HL.out,HTO.out.sum,show vt (lim a) a.length=val a from rfl,HA.out.sum,HB.out.sum]
   ·rw [← HL.out,lim_out (by rw [List.length_take];omega)]
end Go.Proofs.YthihcjgmlbnapaaGreatDoor
namespace Go.Proofs.YthihcjgmlbnapaaGreatDoor
open Go.RowKit Go.Shelf
attribute [local go_sem] Oper.semAt_some
def DivAt (a:List Int) (d:Int) (pre:List (Fin a.length)) (l:List Int) (r:Int):Prop:=∀ k,k≤a.length→pre=fst a.length k→val l * d+r * pw (a.length - k)+vt (lim a) (a.length - k)=val a∧∀ i,i < a.length - k→lim l i=0
theorem fst_snoc {n k:Nat} {pre:List (Fin n)} {x:Fin n} (hk:k≤n) (h:pre++[x]=fst n k):∃ m,k=m+1∧pre=fst n m∧x.1=m:=by
 cases k with
 | zero=>rw [fst_zero] at h;simp at h
 | succ m =>
  rw [fst_succ (by omega)] at h
  obtain ⟨e1,e2⟩:=List.append_inj' h rfl
  injection e2 with e2 _
  exact ⟨m,rfl,e1,by rw [e2]⟩
theorem DivAt.start (a:List Int) (d:Int):DivAt a d [] (zerosL a.length) 0:=fun k hk h=>by
 have h0:k=0:=by
  have:=congrArg List.length h
  rw [fst_length hk] at this;simpa using this.symm
 subst h0
 refine ⟨?_,fun i _=>lim_zerosL _ _⟩
 have e:val (zerosL a.length)=0:=by
  have h:=(TimesTo.zeros a []).sum
  have e2:val (zerosL (a.length+([]:List Int).length+1))=val (zerosL a.length):=val_of_lim fun i=>by rw [lim_zerosL,lim_zerosL]
  rw [← e2,h];simp [vt]
 rw [e,Nat.sub_zero]
 show 0 * d+0 * _+val a=val a
 omega
theorem DivAt.step {a:List Int} {d:Int} {pre:List (Fin a.length)} {l:List Int} {r:Int} (x:Fin a.length) (h:DivAt a d pre l r) (hl:l.length=a.length) :
  DivAt a d (pre++[x]) (l.set (a.length - 1 - x.1) ((lim a (a.length - 1 - x.1)+r * 1000000000) / d)) ((lim a (a.length - 1 - x.1)+r * 1000000000) % d):=fun k hk he=>by
 obtain ⟨m,rfl,hp,hx⟩:=fst_snoc hk he
 obtain ⟨h1,h2⟩:=h m (by omega) hp
 have hi:a.length - m=(a.length - 1 - x.1)+1:=by omega
 have hj:a.length - (m+1)=a.length - 1 - x.1:=by omega
 rw [hi] at h1 h2
 rw [hj]
 have hpl:a.length - 1 - x.1 < l.length:=by omega
 generalize a.length - 1 - x.1=p at *
 refine ⟨?_,fun i hi=>?_⟩
 ·rw [val_set hpl,h2 p (by omega)]
  rw [pw,vt] at h1
  have hdm:=Int.emod_add_mul_ediv (lim a p+r * 1000000000) d
  generalize (lim a p+r * 1000000000) % d=r' at *
  generalize (lim a p+r * 1000000000) / d=q at *
  grind
 ·rw [lim_set hpl,if_neg (by omega)];exact h2 i (by omega)
structure DivIn (a:List Int) (d:Int) (pre:List (Fin a.length)) (l:List Int) (r:Int):Prop where
 len:l.length=a.length
 digs:Digs l
 r0:0≤r
 r1:r < d
 at':DivAt a d pre l r
theorem DivIn.step {a:List Int} {d:Int} {pre:List (Fin a.length)} {l:List Int} {r:Int} (x:Fin a.length) (h:DivIn a d pre l r) (ha:Dig (lim a (a.length - 1 - x.1))) :
  DivIn a d (pre++[x]) (l.set (a.length - 1 - x.1) ((lim a (a.length - 1 - x.1)+r * 1000000000) / d)) ((lim a (a.length - 1 - x.1)+r * 1000000000) % d):=by
 have q0:=h.r0
 have q1:=h.r1
 have hpl:a.length - 1 - x.1 < l.length:=by rw [h.len];have:=x.2;omega
 refine ⟨by rw [List.length_set];exact h.len,fun i=>?_,Int.emod_nonneg _ (by omega),Int.emod_lt_of_pos _ (by omega),h.at'.step x h.len⟩
 rw [lim_set hpl]
 split
 ·obtain ⟨a1,a2⟩:=ha
  refine ⟨Int.ediv_nonneg (by omega) (by omega),?_⟩
  have:(lim a (a.length - 1 - x.1)+r * 1000000000) / d < 1000000000:=Int.ediv_lt_of_lt_mul (by omega) (by
   have h1:(r+1) * 1000000000≤d * 1000000000:=Int.mul_le_mul_of_nonneg_right (by omega) (by omega)
   omega)
  omega
 ·exact h.digs i
theorem blkI_own {β:Type} {m b:Nat} {l:List Int}:OwnFrom m (fun (_:β) W=>BlkI W b l):=cells_own rfl
def RetDivO (q r:Int) (k:Nat) (w:World) (e:Ending) (w':World):Prop:=∃ lq vq lr vr,e=.returned (.tuple #[vq,vr])∧OwnInts w' w.heap.size vq lq∧OwnInts w' w.heap.size vr lr∧Num lq q∧Num lr r∧lq.length≤k∧lr.length≤k∧Below w.heap.size w w'
def RetDiv (q r:Int) (k:Nat) (w:World) (e:Ending) (w':World):Prop:=∃ lq vq lr vr,e=.returned (.tuple #[vq,vr])∧IsInts w' vq lq∧IsInts w' vr lr∧Num lq q∧Num lr r∧lq.length≤k∧lr.length≤k∧Below w.heap.size w w'
theorem BlkI.isTake {W:World} {g m n:Nat} {l:List Int} (h:BlkI W g l) (hm:m≤l.length) (hn:l.length=n):IsInts W (.slice (some ⟨g,0,none⟩) m n) (l.take m):=by
 subst hn
 have hl:(l.take m).length=m:=by rw [List.length_take];omega
 refine ⟨some ⟨g,0,none⟩,l.length,by rw [hl],by omega,fun _=>⟨g,0,rfl,fun k hk=>?_⟩⟩
 rw [hl] at hk
 rw [Nat.zero_add,lim_take hk]
 exact h.cell (by omega)
theorem results_cell_tmp {fn:Func} {p q:Tmp} {tp:TypeId} (h:fn.results=#[.cell p tp,.tmp q]) {tmps:Array Value} {P:Program} {w:World} {a:Addr} {x:Value}
  (ha:tmps.getD p undef=.pointer (some a)) (l1:(loadVar tp a).run P w=.ok x w) :
  (results fn tmps).run P w=.ok (.tuple #[x,tmps.getD q undef]) w:=by
 have e:∀ a,(asAddr (.pointer (some a))).run P w=.ok a w:=fun _=>rfl
 rw [Array.getD_eq_getD_getElem?] at ha
 simp only [results,h]
 simp [Sem.run_bind,Result.andThen,ha,e,l1]
theorem divs_end {a:List Int} {x d r:Int} {l:List Int} {m1 m2 g gb:Nat} {w W:World} (ha:Num a x) (hin:DivIn a d (List.finRange a.length) l r) (d1:d≤999999999) (hq:m1≤l.length∧Trimmed (l.take m1)∧∀ i,lim (l.take m1) i=lim l i) (hq2:m2≤[r].length∧Trimmed ([r].take m2)∧∀ i,lim ([r].take m2) i=lim [r] i)
  (hb:BlkI W g l) (hb2:BlkI W gb [r]) (hB:Below w.heap.size w W) (hg:w.heap.size≤g) (hgb:w.heap.size≤gb) (hal:a.length≤900):RetDivO (x / d) (x % d) (max a.length 1) w (.returned (.tuple #[.slice (some ⟨g,0,none⟩) m1 a.length,.slice (some ⟨gb,0,none⟩) m2 1])) W:=by
 obtain ⟨h1,h2,h3⟩:=hq
 obtain ⟨h4,h5,h6⟩:=hq2
 have q0:=hin.r0
 have q1:=hin.r1
 obtain ⟨hv,_⟩:=hin.at' a.length (Nat.le_refl _) (fst_all _).symm
 rw [Nat.sub_self] at hv
 have hv2:val l * d+r=x:=by rw [← ha.sum,← hv];simp [vt,pw]
 obtain ⟨e1,e2⟩:=(Int.ediv_emod_unique (a:=x) (b:=d) (r:=r) (q:=val l) (by omega)).2 ⟨by rw [← hv2,Int.mul_comm];omega,q0,q1⟩
 refine ⟨l.take m1,_,[r].take m2,_,rfl,(by have:=(hb.own hg (by rw [hin.len];omega)).take' m1 h1;rw [hin.len] at this;exact this),(hb2.own hgb (by simp)).take' m2 h4,⟨fun i=>by rw [h3];exact hin.digs i,h2,?_⟩,⟨fun i=>?_,h5,?_⟩,?_,?_,hB⟩
 ·rw [val_of_lim h3,e1]
 ·rw [h6]
  cases i with
  | zero=>show Dig r;exact ⟨q0,by omega⟩
  | succ i=>show Dig (lim [r] (i+1));rw [lim_out (by simp)];exact ⟨by omega,by omega⟩
 ·rw [val_of_lim h6,e2]
  show 0+r * 1=r
  omega
 ·rw [List.length_take,hin.len];omega
 ·rw [List.length_take];simp at h4 ⊢;omega
theorem divideShortL_ok {a:List Int} {x d:Int} (va:Value) (w:World) (hva:IsInts w va a) (ha:Num a x) (hal:a.length≤900) (d0:1≤d) (d1:d≤999999999) :
  Calls Tryz.prog 180 #[va,.int .i64 d] w (RetDivO (x / d) (x % d) (max a.length 1) w):=by
 have HVA:=Lib.hid hva
 obtain ⟨aa,ac,rfl⟩:=hva.slice
 have HA:=Lib.hid ha
 have hmk:=fun (w:World)=>run_makeI w a.length (by omega) (a.length:Int) rfl
 clear ha hva
 refine (callsIn_wide (n:=5)).1 ?_
 refine callsIn_of_wp_marks Tryz.func180 rfl trivial ?_ rfl
 simp only [Tryz.ntmps180,List.size_toArray,List.length_cons,List.length_nil,Nat.reduceAdd,Nat.reduceSub,Array.replicate_succ,Array.replicate_zero,List.push_toArray,List.append_toArray,List.nil_append,List.cons_append]
 gi_wp2
 refine ⟨trivial,?_⟩
 refine (callsIn_wide.2 (backward_any _ _ _ _)).mono ?_
 rintro e w1 ⟨rfl,rfl⟩
 gi_wp2
 have hb0:Below w.heap.size w (((((w.alloc (.cells #[.int .i64 d] 3)).alloc (.cells #[.slice (some ⟨w.heap.size+1+1,0,none⟩) a.length a.length] 205)).alloc (.cells (intVs (zerosL a.length)).toArray 3)).alloc (.cells #[.int .i64 0] 3)).alloc (.cells #[.slice aa a.length ac] 205)):=qbl
 have x0:Boxed (((((w.alloc (.cells #[.int .i64 d] 3)).alloc (.cells #[.slice (some ⟨w.heap.size+1+1,0,none⟩) a.length a.length] 205)).alloc (.cells (intVs (zerosL a.length)).toArray 3)).alloc (.cells #[.int .i64 0] 3)).alloc (.cells #[.slice aa a.length ac] 205)) w.heap.size 3 (.int .i64 d):=((((Boxed.new w _ _).alloc _).alloc _).alloc _).alloc _
 have x1:Boxed (((((w.alloc (.cells #[.int .i64 d] 3)).alloc (.cells #[.slice (some ⟨w.heap.size+1+1,0,none⟩) a.length a.length] 205)).alloc (.cells (intVs (zerosL a.length)).toArray 3)).alloc (.cells #[.int .i64 0] 3)).alloc (.cells #[.slice aa a.length ac] 205)) (w.heap.size+1) 205 (.slice (some ⟨w.heap.size+2,0,none⟩) a.length a.length):=(((boxed_new' (by simp)).alloc _).alloc _).alloc _
 have x2:BlkI (((((w.alloc (.cells #[.int .i64 d] 3)).alloc (.cells #[.slice (some ⟨w.heap.size+1+1,0,none⟩) a.length a.length] 205)).alloc (.cells (intVs (zerosL a.length)).toArray 3)).alloc (.cells #[.int .i64 0] 3)).alloc (.cells #[.slice aa a.length ac] 205)) (w.heap.size+2) (zerosL a.length):=((BlkI.new (by simp)).below (bw4 (bw0 _ _) _)).below (bw4 (bw0 _ _) _)
 have x3:Boxed (((((w.alloc (.cells #[.int .i64 d] 3)).alloc (.cells #[.slice (some ⟨w.heap.size+1+1,0,none⟩) a.length a.length] 205)).alloc (.cells (intVs (zerosL a.length)).toArray 3)).alloc (.cells #[.int .i64 0] 3)).alloc (.cells #[.slice aa a.length ac] 205)) (w.heap.size+3) 3 (.int .i64 0):=(boxed_new' (by simp)).alloc _
 have x4:Boxed (((((w.alloc (.cells #[.int .i64 d] 3)).alloc (.cells #[.slice (some ⟨w.heap.size+1+1,0,none⟩) a.length a.length] 205)).alloc (.cells (intVs (zerosL a.length)).toArray 3)).alloc (.cells #[.int .i64 0] 3)).alloc (.cells #[.slice aa a.length ac] 205)) (w.heap.size+4) 205 (.slice aa a.length ac):=boxed_new' (by simp)
 have hsz:(((((w.alloc (.cells #[.int .i64 d] 3)).alloc (.cells #[.slice (some ⟨w.heap.size+1+1,0,none⟩) a.length a.length] 205)).alloc (.cells (intVs (zerosL a.length)).toArray 3)).alloc (.cells #[.int .i64 0] 3)).alloc (.cells #[.slice aa a.length ac] 205)).heap.size=w.heap.size+5:=by simp
 generalize (((((w.alloc (.cells #[.int .i64 d] 3)).alloc (.cells #[.slice (some ⟨w.heap.size+1+1,0,none⟩) a.length a.length] 205)).alloc (.cells (intVs (zerosL a.length)).toArray 3)).alloc (.cells #[.int .i64 0] 3)).alloc (.cells #[.slice aa a.length ac] 205))=W0 at *
 refine wpIn_rangeFunc_ownH rfl (by omega) (gf:=210) (lb:=#[.pointer (some ⟨w.heap.size+4,0,none⟩)]) rfl trivial (enters_of Tryz.func210 (by kernel_rfl) rfl)
  (back_stops a _ (by omega) (w.heap.size+4) w.heap.size _ (by omega) W0 hb0.size (HVA.out.below hb0) HVA.out.lt x4.cell) KpR.t (KpR.b hb0.size (by omega)) (bw0 _ _) (fun _=>rfl)
  (fun pre W=>((((Boxed W w.heap.size 3 (.int .i64 d)∧Boxed W (w.heap.size+1) 205 (.slice (some ⟨w.heap.size+2,0,none⟩) a.length a.length))∧Boxed W (w.heap.size+4) 205 (.slice aa a.length ac))∧(Below w.heap.size w W∧w.heap.size+5≤W.heap.size))∧(∃ r l,(Boxed W (w.heap.size+3) 3 (.int .i64 r)∧BlkI W (w.heap.size+2) l)∧DivIn a d pre l r)))
  (fun _ _ _=>False)
  (OwnFrom.and (OwnFrom.and (OwnFrom.and (OwnFrom.and (Own.from (boxed_own _ _ _) _) (Own.from (boxed_own _ _ _) _)) (Own.from (boxed_own _ _ _) _)) (OwnFrom.and (ownFrom_below (Nat.le_refl _) (by omega)) (fun s A B row hs hg hr=>Nat.le_trans hs hg.size))) (fun s X Y row hs hg hr=>by obtain ⟨r,l,⟨h1,h2⟩,h3⟩:=hs;exact ⟨r,l,⟨(Own.from (boxed_own (w.heap.size+3) 3 (fun _:Unit=>.int .i64 r)) _) () X Y row h1 hg hr,blkI_own () X Y row h2 hg hr⟩,h3⟩))
  (fun _ _ _ _ _ hs _ _=>hs)
  ⟨⟨⟨⟨x0,x1⟩,x4⟩,hb0,by omega⟩,0,_,⟨x3,x2⟩,zerosL_len _,fun i=>by rw [lim_zerosL];exact ⟨by omega,by omega⟩,by omega,by omega,DivAt.start a d⟩
  (fun x a' W=>a'={ tmps:=#[.slice aa a.length ac,.int .i64 d,undef,.pointer (some ⟨w.heap.size,0,none⟩),.pointer (some ⟨w.heap.size+1,0,none⟩),.slice none 0 0,.pointer (some ⟨w.heap.size+3,0,none⟩),.int .i64 ((a.length:Int) - 1 - x.1),.int .i64 (lim a (a.length - 1 - x.1)),.slice aa a.length ac,.int .i64 a.length,.slice (some ⟨w.heap.size+2,0,none⟩) a.length a.length,.slice aa a.length ac,.func (.func 210) #[] #[.pointer (some ⟨w.heap.size+4,0,none⟩)],.int .i64 ((a.length:Int) - 1 - x.1),.int .i64 (lim a (a.length - 1 - x.1)),undef,undef,undef,undef,undef,undef,undef,undef,undef,undef,undef,undef,undef,undef,undef,undef,undef,undef],defers:=[] })
  (fun x a' _ X Y row hs hg hr=>hs)
  ?assign ?body ?done ?stop
 case assign =>
  rintro l1 pre x W K ⟨⟨⟨⟨b0,b1⟩,b2⟩,hB,hz⟩,hS⟩ hK
  unfold encB
  gi_wp2
  exact hK _ _ (KeepsFrom.refl _ _) ⟨(bw0 _ _).mono hB.size,rfl⟩ ⟨⟨⟨⟨b0,b1⟩,b2⟩,hB,hz⟩,hS⟩ rfl
 case body =>
  rintro l1 pre x a' W hl1 ⟨rr,hr⟩ ⟨⟨⟨⟨b0,b1⟩,b2⟩,hB,hz⟩,r,l,⟨b3,hblk⟩,hIn⟩ rfl hlt
  have hxl:=x.2
  have HST:=Lib.hid (hIn.step x (HA.out.digs _))
  have q1:=hIn.r0
  have q2:=hIn.r1
  obtain ⟨q3,q4⟩:=HA.out.digs (a.length - 1 - x.1)
  obtain ⟨n,hn⟩:∃ n,lim a (a.length - 1 - x.1)+r * 1000000000=n:=⟨_,rfl⟩
  have hw1:IntKind.i64.wrap (r * 1000000000)=r * 1000000000:=IntWalk.i64_in _ (by omega)
  have hw2:IntKind.i64.wrap (lim a (a.length - 1 - x.1)+r * 1000000000)=n:=by rw [hn];exact IntWalk.i64_in _ (by omega)
  have hn0:0≤n:=by omega
  have hn1:n≤999999999999999999:=by omega
  have ht1:n.tmod d=n % d:=Int.tmod_eq_emod_of_nonneg hn0
  have ht2:n.tdiv d=n / d:=Int.tdiv_eq_ediv_of_nonneg hn0
  obtain ⟨m1,m2⟩:0≤n % d∧n % d < d:=⟨Int.emod_nonneg _ (by omega),Int.emod_lt_of_pos _ (by omega)⟩
  obtain ⟨m3,m4⟩:0≤n / d∧n / d≤n:=⟨Int.ediv_nonneg hn0 (by omega),Int.ediv_le_self _ hn0⟩
  have hw3:IntKind.i64.wrap (n % d)=n % d:=IntWalk.i64_in _ (by omega)
  have hw4:IntKind.i64.wrap (n / d)=n / d:=IntWalk.i64_in _ (by omega)
  have hdz:¬ d=0:=by omega
  have hdzb:(d == 0)=false:=by simp [hdz]
  have hpl:a.length - 1 - x.1 < l.length:=by rw [hIn.len];omega
  have hs:((a.length:Int) - 1 - (x.1:Int)).toNat=a.length - 1 - x.1:=by omega
  have hge:(0:Int)≤(a.length:Int) - 1 - (x.1:Int):=by omega
  have hlt2:(a.length:Int) - 1 - (x.1:Int) < (a.length:Int):=by omega
  have c3:=b3.cell
  have hle:((x.1:Nat):Int)≤(a.length:Int) - 1:=by omega
  rw [hn] at HST
  have hR:Boxed W.drew w.heap.size 3 (.int .i64 d)∧Boxed W.drew (w.heap.size+1) 205 (.slice (some ⟨w.heap.size+2,0,none⟩) a.length a.length)∧Boxed W.drew (w.heap.size+3) 3 (.int .i64 r):=⟨boxed_below b0 (bw0 _ _).drew,boxed_below b1 (bw0 _ _).drew,boxed_below b3 (bw0 _ _).drew⟩
  have hblk':=hblk.below (bw0 _ _).drew
  clear hn hIn
  gi_wp2
  refine region_I (L:=[10]) (R:=(fun w'=>Boxed w' w.heap.size 3 (.int .i64 d)∧Boxed w' (w.heap.size+1) 205 (.slice (some ⟨w.heap.size+2,0,none⟩) a.length a.length)∧Boxed w' (w.heap.size+3) 3 (.int .i64 r))) 11 #[false,false,false,false,false,false,false,false,false,false,false] (by kernel_rfl) (by kernel_rfl) (by kernel_rfl) (fun _ _ _ _ _ h=>h) (fun Q' hQ' hN hLO=>?_)
  have hBd:=(bw0 W.heap.size W).drew
  generalize W.drew=wd at *
  refine tI 20 0 (hy:=by intro wq hRq;have e0:=hRq.1.cell;have e1:=hRq.2.1.cell;have e2:=hRq.2.2.cell;go_simp;(try with_reducible rfl)) ?_
  refine tI 21 1 (hy:=by intro wq hRq;have e0:=hRq.1.cell;have e1:=hRq.2.1.cell;have e2:=hRq.2.2.cell;go_simp;(try with_reducible rfl)) ?_
  refine tI 22 2 (hy:=by intro wq hRq;have e0:=hRq.1.cell;have e1:=hRq.2.1.cell;have e2:=hRq.2.2.cell;go_simp;(try with_reducible rfl)) ?_
  refine tI 23 3 (hy:=by intro wq hRq;have e0:=hRq.1.cell;have e1:=hRq.2.1.cell;have e2:=hRq.2.2.cell;go_simp;(try with_reducible rfl)) ?_
  refine tI 24 4 (hy:=by intro wq hRq;have e0:=hRq.1.cell;have e1:=hRq.2.1.cell;have e2:=hRq.2.2.cell;go_simp;(try with_reducible rfl)) ?_
  refine tI 25 5 (hy:=by intro wq hRq;have e0:=hRq.1.cell;have e1:=hRq.2.1.cell;have e2:=hRq.2.2.cell;go_simp;(try with_reducible rfl)) ?_
  refine tI 26 6 (hy:=by intro wq hRq;have e0:=hRq.1.cell;have e1:=hRq.2.1.cell;have e2:=hRq.2.2.cell;go_simp;(try with_reducible rfl)) ?_
  refine tI 27 7 (hy:=by intro wq hRq;have e0:=hRq.1.cell;have e1:=hRq.2.1.cell;have e2:=hRq.2.2.cell;go_simp;(try with_reducible rfl)) ?_
  refine tI 28 8 (hy:=by intro wq hRq;have e0:=hRq.1.cell;have e1:=hRq.2.1.cell;have e2:=hRq.2.2.cell;go_simp;(try with_reducible rfl)) ?_
  refine wpAnyI_ready (rs:=[9]) (by kernel_rfl) (by simp) ?_
  refine stepRI (i:=9) rfl (by kernel_rfl) (fun K hK=>?_) (AllReadyI.nil)
  have f1:=hblk'.cell hpl
  have g1:=hblk'.frozen (a.length - 1 - x.1)
  go_simp
  refine after_setI hblk' (fun W2 hS2 hb2=>?_)
  clear f1 g1
  have hR2:Boxed W2 w.heap.size 3 (.int .i64 d)∧Boxed W2 (w.heap.size+1) 205 (.slice (some ⟨w.heap.size+2,0,none⟩) a.length a.length)∧Boxed W2 (w.heap.size+3) 3 (.int .i64 r):=⟨Boxed.but hR.1 hS2 (by omega),Boxed.but hR.2.1 hS2 (by omega),Boxed.but hR.2.2 hS2 (by omega)⟩
  refine hK.out _ _ hR2 ?_
  clear hK K
  (try simp only [Act.put,bw7,bw8,bw9])
  refine wpAnyI_ready (rs:=[10]) (by kernel_rfl) (by simp) ?_
  refine stepFI (i:=10) rfl (by kernel_rfl) (by kernel_rfl) (fun K hK=>?_) (AllReadyI.nil)
  have f2:=hR2.2.2.cell
  have g2:=hR2.2.2.frozen
  go_simp
  refine after_set1 hR2.2.2 (fun W3 hS3 e3=>?_)
  clear f2 g2
  refine hK.out _ _ ?_
  clear hK K
  (try simp only [Act.put,bw7,bw8,bw9])
  refine wpAnyI_done (by kernel_rfl) ?_ _
  refine hN.out _ _ ?_
  gi_wp2
  have hB3:Below w.heap.size w W3:=hS3.below (hS2.below (hB.trans (hBd.mono hB.size)) (by omega)) (by omega)
  have hz3:w.heap.size+5≤W3.heap.size:=by rw [hS3.size,hS2.size];exact Nat.le_trans hz hBd.size
  have d0':=Boxed.but (Boxed.but hR.1 hS2 (by omega)) hS3 (by omega)
  have d1':=Boxed.but (Boxed.but hR.2.1 hS2 (by omega)) hS3 (by omega)
  have d4':=Boxed.but (Boxed.but (boxed_below b2 hBd) hS2 (by omega)) hS3 (by omega)
  exact ⟨(keepsFrom_below hBd).trans ((keepsFrom_but hS2 (by omega)).trans (keepsFrom_but hS3 (by omega))),⟨hS3.below (hS2.below (hBd.mono hB.size) (by omega)) (by omega),(hS3.block _ (by omega)).trans ((hS2.block _ (by omega)).trans (hBd.block _ b2.lt))⟩,⟨⟨⟨⟨d0',d1'⟩,d4'⟩,hB3,hz3⟩,_,_,⟨e3,hb2.but hS3 (by omega)⟩,HST.out⟩⟩
 case done =>
  rintro D ys W hD rfl ⟨⟨⟨⟨b0,b1⟩,b2⟩,hB,hz⟩,r,l,⟨b3,hblk⟩,hIn⟩ hK
  have HTQ:=Lib.hid (fun (W:World) (h:BlkI W (w.heap.size+2) l)=>trim_ok l _ a.length a.length W (by have:=h.is;rwa [hIn.len] at this) (by rw [hIn.len];omega))
  have HIN:=Lib.hid hIn
  have hBd:=(bw0 W.heap.size W).drew
  have hR:BlkI W.drew (w.heap.size+2) l∧Boxed W.drew (w.heap.size+1) 205 (.slice (some ⟨w.heap.size+2,0,none⟩) a.length a.length)∧Boxed W.drew (w.heap.size+3) 3 (.int .i64 r)∧Below w.heap.size w W.drew∧w.heap.size+5≤W.drew.heap.size∧W.drew.heap[D]?=some (.deferred (some [])):=⟨hblk.below hBd,boxed_below b1 hBd,boxed_below b3 hBd,hB.trans (hBd.mono hB.size),Nat.le_trans hz hBd.size,(hBd.block D (Array.getElem?_eq_some_iff.1 hK).1).trans hK⟩
  clear hIn
  gi_wp2
  refine region_J (L:=[5,6]) (R:=(fun w'=>BlkI w' (w.heap.size+2) l∧Boxed w' (w.heap.size+1) 205 (.slice (some ⟨w.heap.size+2,0,none⟩) a.length a.length)∧Boxed w' (w.heap.size+3) 3 (.int .i64 r)∧Below w.heap.size w w'∧w.heap.size+5≤w'.heap.size∧w'.heap[D]?=some (.deferred (some [])))) 7 #[false,false,false,false,false,false,false] (by kernel_rfl) (by kernel_rfl) (by kernel_rfl) (fun Q' hQ' hN=>?_)
  generalize W.drew=wd at *
  refine tI 29 0 (hy:=by intro wq hRq;have e1:=hRq.2.1.cell;have e2:=hRq.2.2.1.cell;go_simp;(try with_reducible rfl)) ?_
  refine tI 31 2 (hy:=by intro wq hRq;have e1:=hRq.2.1.cell;have e2:=hRq.2.2.1.cell;go_simp;(try with_reducible rfl)) ?_
  refine wpAnyI_ready (rs:=[1,3]) (by kernel_rfl) (by simp) ?_
  refine stepRI (i:=1) rfl (by kernel_rfl) (fun K hK=>?_) (stepRI (i:=3) rfl (by kernel_rfl) (fun K hK=>?_) (AllReadyI.nil))
  ·have hq1:=HTQ.out _ hR.1
   go_simp
   refine ⟨trivial,?_⟩
   refine (callsIn_wide.2 hq1).mono ?_
   rintro e wn ⟨m1,hm1,rfl,ht1,hl1,rfl⟩
   have HQ:=Lib.hid (And.intro hm1 (And.intro ht1 hl1))
   clear hm1 ht1 hl1 hq1
   refine hK.out _ _ hR ?_
   clear hK K
   (try simp only [Act.put,bw7,bw8,bw9])
   refine wpAnyI_ready (rs:=[3]) (by kernel_rfl) (by simp) ?_
   refine stepRI (i:=3) rfl (by kernel_rfl) (fun K hK=>?_) (AllReadyI.nil)
   have hzz:=hR.2.2.2.2.1
   have hnD:=hR.2.2.2.2.2
   go_simp
   refine after_alloc (fun wb hB' hbb hzb=>?_)
   have hbb:BlkI wb _ [r]:=hbb
   have hR:BlkI wb (w.heap.size+2) l∧Boxed wb (w.heap.size+1) 205 (.slice (some ⟨w.heap.size+2,0,none⟩) a.length a.length)∧Boxed wb (w.heap.size+3) 3 (.int .i64 r)∧Below w.heap.size w wb∧w.heap.size+5≤wb.heap.size∧wb.heap[D]?=some (.deferred (some [])):=⟨hR.1.below hB',boxed_below hR.2.1 hB',boxed_below hR.2.2.1 hB',below_trans' hR.2.2.2.1 hB',Nat.le_trans hR.2.2.2.2.1 hB'.size,(hB'.block D (Array.getElem?_eq_some_iff.1 hR.2.2.2.2.2).1).trans hR.2.2.2.2.2⟩
   clear hB'
   refine hK.out _ _ hR ?_
   clear hK K
   (try simp only [Act.put,bw7,bw8,bw9])
   refine wpAnyI_ready (rs:=[4]) (by kernel_rfl) (by simp) ?_
   refine stepRI (i:=4) rfl (by kernel_rfl) (fun K hK=>?_) (AllReadyI.nil)
   have hq2:=trim_ok [r] _ _ _ _ hbb.is (by simp)
   go_simp
   refine ⟨trivial,?_⟩
   refine (callsIn_wide.2 hq2).mono ?_
   rintro e wn ⟨m2,hm2,rfl,ht2,hl2,rfl⟩
   have HQ2:=Lib.hid (And.intro hm2 (And.intro ht2 hl2))
   clear hm2 ht2 hl2 hq2
   have hbb:=hbb
   refine hK.out _ _ hR ?_
   clear hK K
   (try simp only [Act.put,bw7,bw8,bw9])
   refine wpAnyI_ready (rs:=[5]) (by kernel_rfl) (by simp) ?_
   refine stepFI (i:=5) rfl (by kernel_rfl) (by kernel_rfl) (fun K hK=>?_) (AllReadyI.nil)
   have f2:=hR.2.1.cell
   have g2:=hR.2.1.frozen
   go_simp
   refine after_set1 hR.2.1 (fun W3 hS3 e3=>?_)
   clear f2 g2
   refine hK.out _ _ ?_
   clear hK K
   (try simp only [Act.put,bw7,bw8,bw9])
   refine wpAnyI_ready (rs:=[6]) (by kernel_rfl) (by simp) ?_
   refine stepFI (i:=6) rfl (by kernel_rfl) (by kernel_rfl) (fun K hK=>?_) (AllReadyI.nil)
   go_simp
   refine hK.out _ _ ?_
   clear hK K
   (try simp only [Act.put,bw7,bw8,bw9])
   refine wpAnyI_done (by kernel_rfl) ?_ _
   refine hN.out _ _ ?_
   gi_wp2
   refine leaves_marks (w.heap.size+5) [D] _ (by simp) (fun E hE=>?_) (fun W' hB' hcc=>?_)
   ·obtain rfl:E=D:=by simpa using hE
    exact ⟨by omega,(hS3.block _ (by omega)).trans hR.2.2.2.2.2⟩
   ·have z1:W'.cell? ⟨w.heap.size+1,0,none⟩=some (.slice (some ⟨w.heap.size+2,0,none⟩) m1 a.length):=cell_keeps e3.cell hcc
    have l1:(loadVar 205 ⟨w.heap.size+1,0,none⟩).run Tryz.prog W'=.ok (.slice (some ⟨w.heap.size+2,0,none⟩) m1 a.length) W':=by simp [go_sem,z1]
    exact ⟨_,results_cell_tmp Tryz.results180 rfl l1,divs_end HA.out HIN.out d1 HQ.out HQ2.out (hcc _ _ (hR.1.but hS3 (by omega)) rfl) (hcc _ _ (hbb.but hS3 (by omega)) rfl) ((hS3.below hR.2.2.2.1 (by omega)).trans (hB'.mono (by omega))) (by omega) (by have:=hR.2.2.2.1.size;have:=hB.size;have:=hBd.size;omega) hal⟩
  ·have hzz:=hR.2.2.2.2.1
   have hnD:=hR.2.2.2.2.2
   go_simp
   refine after_alloc (fun wb hB' hbb hzb=>?_)
   have hbb:BlkI wb _ [r]:=hbb
   have hR:BlkI wb (w.heap.size+2) l∧Boxed wb (w.heap.size+1) 205 (.slice (some ⟨w.heap.size+2,0,none⟩) a.length a.length)∧Boxed wb (w.heap.size+3) 3 (.int .i64 r)∧Below w.heap.size w wb∧w.heap.size+5≤wb.heap.size∧wb.heap[D]?=some (.deferred (some [])):=⟨hR.1.below hB',boxed_below hR.2.1 hB',boxed_below hR.2.2.1 hB',below_trans' hR.2.2.2.1 hB',Nat.le_trans hR.2.2.2.2.1 hB'.size,(hB'.block D (Array.getElem?_eq_some_iff.1 hR.2.2.2.2.2).1).trans hR.2.2.2.2.2⟩
   clear hB'
   refine hK.out _ _ hR ?_
   clear hK K
   (try simp only [Act.put,bw7,bw8,bw9])
   refine wpAnyI_ready (rs:=[1]) (by kernel_rfl) (by simp) ?_
   refine stepRI (i:=1) rfl (by kernel_rfl) (fun K hK=>?_) (AllReadyI.nil)
   have hq1:=HTQ.out _ hR.1
   go_simp
   refine ⟨trivial,?_⟩
   refine (callsIn_wide.2 hq1).mono ?_
   rintro e wn ⟨m1,hm1,rfl,ht1,hl1,rfl⟩
   have HQ:=Lib.hid (And.intro hm1 (And.intro ht1 hl1))
   clear hm1 ht1 hl1 hq1
   refine hK.out _ _ hR ?_
   clear hK K
   (try simp only [Act.put,bw7,bw8,bw9])
   refine wpAnyI_ready (rs:=[4]) (by kernel_rfl) (by simp) ?_
   refine stepRI (i:=4) rfl (by kernel_rfl) (fun K hK=>?_) (AllReadyI.nil)
   have hq2:=trim_ok [r] _ _ _ _ hbb.is (by simp)
   go_simp
   refine ⟨trivial,?_⟩
   refine (callsIn_wide.2 hq2).mono ?_
   rintro e wn ⟨m2,hm2,rfl,ht2,hl2,rfl⟩
   have HQ2:=Lib.hid (And.intro hm2 (And.intro ht2 hl2))
   clear hm2 ht2 hl2 hq2
   have hbb:=hbb
   refine hK.out _ _ hR ?_
   clear hK K
   (try simp only [Act.put,bw7,bw8,bw9])
   refine wpAnyI_ready (rs:=[5]) (by kernel_rfl) (by simp) ?_
   refine stepFI (i:=5) rfl (by kernel_rfl) (by kernel_rfl) (fun K hK=>?_) (AllReadyI.nil)
   have f2:=hR.2.1.cell
   have g2:=hR.2.1.frozen
   go_simp
   refine after_set1 hR.2.1 (fun W3 hS3 e3=>?_)
   clear f2 g2
   refine hK.out _ _ ?_
   clear hK K
   (try simp only [Act.put,bw7,bw8,bw9])
   refine wpAnyI_ready (rs:=[6]) (by kernel_rfl) (by simp) ?_
   refine stepFI (i:=6) rfl (by kernel_rfl) (by kernel_rfl) (fun K hK=>?_) (AllReadyI.nil)
   go_simp
   refine hK.out _ _ ?_
   clear hK K
   (try simp only [Act.put,bw7,bw8,bw9])
   refine wpAnyI_done (by kernel_rfl) ?_ _
   refine hN.out _ _ ?_
   gi_wp2
   refine leaves_marks (w.heap.size+5) [D] _ (by simp) (fun E hE=>?_) (fun W' hB' hcc=>?_)
   ·obtain rfl:E=D:=by simpa using hE
    exact ⟨by omega,(hS3.block _ (by omega)).trans hR.2.2.2.2.2⟩
   ·have z1:W'.cell? ⟨w.heap.size+1,0,none⟩=some (.slice (some ⟨w.heap.size+2,0,none⟩) m1 a.length):=cell_keeps e3.cell hcc
    have l1:(loadVar 205 ⟨w.heap.size+1,0,none⟩).run Tryz.prog W'=.ok (.slice (some ⟨w.heap.size+2,0,none⟩) m1 a.length) W':=by simp [go_sem,z1]
    exact ⟨_,results_cell_tmp Tryz.results180 rfl l1,divs_end HA.out HIN.out d1 HQ.out HQ2.out (hcc _ _ (hR.1.but hS3 (by omega)) rfl) (hcc _ _ (hbb.but hS3 (by omega)) rfl) ((hS3.below hR.2.2.2.1 (by omega)).trans (hB'.mono (by omega))) (by omega) (by have:=hR.2.2.2.1.size;have:=hB.size;have:=hBd.size;omega) hal⟩
 case stop =>
  rintro D c pre W _ _ h _
  exact h.elim
end Go.Proofs.YthihcjgmlbnapaaGreatDoor
