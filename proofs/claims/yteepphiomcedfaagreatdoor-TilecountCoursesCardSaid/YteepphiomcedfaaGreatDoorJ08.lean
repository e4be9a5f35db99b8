/- Joined texts: WPlan2, Drawn4, WSidesIt, WBody. -/
import Derived.Test.YteepphiomcedfaaGreatDoorJ07
import Derived.OrdersIn
import Derived.OwnWalkIn
import Derived.RangeFuncNested
import Derived.RangeFuncBound
import Derived.RangeFuncCalls
import Derived.RangeFuncLeaves
import Derived.Shelf.Abstract
import Derived.Shelf.RegionOpen
import Derived.TacticsInMore
import Derived.LoopNIn
import Derived.LoopIn
import Derived.Sort.LoopGhostIn
import Derived.Deep.WholeRow
set_option maxRecDepth 100000
set_option linter.unusedVariables false
set_option linter.unusedSimpArgs false
set_option maxHeartbeats 6400000
namespace Go.Proofs.YteepphiomcedfaaGreatDoor
open Go.RowKit
def Box4 (w:World) (b:Nat) (t:TypeId) (x y z u:Value):Prop:=w.heap[b]?=some (.cells #[x,y,z,u] t (0,0))
theorem Box4.below {w w':World} {b:Nat} {t:TypeId} {x y z u:Value} (h:Box4 w b t x y z u) (hB:Below w.heap.size w w'):Box4 w' b t x y z u:=(hB.block b (Array.getElem?_eq_some_iff.1 h).1).trans h
structure SameBut (b:Nat) (w w':World):Prop where
 os:w'.os=w.os
 tape:w'.tape=w.tape
 output:w'.output=w.output
 size:w'.heap.size=w.heap.size
 block:∀ k,k≠b→w'.heap[k]?=w.heap[k]?
theorem SameBut.below {b B:Nat} {w0 w w':World} (h:SameBut b w w') (hB:Below B w0 w) (hb:B≤b):Below B w0 w':=hB.trans ⟨h.os,h.tape,h.output,Nat.le_of_eq h.size.symm,fun k hk=>h.block k (by omega)⟩
theorem SameBut.trans {b:Nat} {w w' w'':World} (h:SameBut b w w') (k:SameBut b w' w''):SameBut b w w'':=⟨k.os.trans h.os,k.tape.trans h.tape,k.output.trans h.output,k.size.trans h.size,fun j hj=>(k.block j hj).trans (h.block j hj)⟩
theorem sameBut_setCell (w:World) (b o:Nat) (v:Value):SameBut b w (w.setCell ⟨b,o,none⟩ v):=⟨rfl,rfl,rfl,World.size_setCell _ _ _,fun k hk=>Below.heap_setCell w ⟨b,o,none⟩ v k hk⟩
theorem heap_setCell_at {w:World} {b o:Nat} {cs:Array Value} {t:TypeId} {v:Value} (h:w.heap[b]?=some (.cells cs t (0,0))):(w.setCell ⟨b,o,none⟩ v).heap[b]?=some (.cells (cs.setIfInBounds o v) t (0,0)):=by
 show (w.heap.modify b _)[b]?=_
 rw [Array.getElem?_modify,if_pos rfl,h]
 rfl
theorem Box2.but {w w':World} {b c:Nat} {t:TypeId} {x y:Value} (h:Box2 w b t x y) (hs:SameBut c w w') (hne:b≠c):Box2 w' b t x y:=(hs.block b hne).trans h
theorem Box4.but {w w':World} {b c:Nat} {t:TypeId} {x y z u:Value} (h:Box4 w b t x y z u) (hs:SameBut c w w') (hne:b≠c):Box4 w' b t x y z u:=(hs.block b hne).trans h
theorem after_alloc {K:Act→World→Prop} {a:Act} {X:World} {o:Obj} (h:∀ W,Below X.heap.size X W→W.heap[X.heap.size]?=some o→X.heap.size < W.heap.size→K a W):K a (X.alloc o) :=
 h _ (bw4 (bw0 _ _) _) Array.getElem?_push_size (by simp)
theorem AroundAt.but {w w':World} {b c:Nat} {A B C:Side} (h:AroundAt w b A B C) (hs:SameBut c w w') (hne:b≠c):AroundAt w' b A B C:=by
 have hc:∀ o,w'.cell? ⟨b,o,none⟩=w.cell? ⟨b,o,none⟩:=fun o=>World.cell?_of_block (hs.block b hne)
 unfold AroundAt at *
 simpa only [hc] using h
end Go.Proofs.YteepphiomcedfaaGreatDoor
namespace Go.Proofs.YteepphiomcedfaaGreatDoor
section
variable {F:Fence} {n:Nat} {P:Program} {ops:Array Oper} {Q:Exit→Act→World→Prop} {md:Region.Mode} {L:List Nat} {R:World→Prop}
def wpAnyI (F:Fence) (n:Nat) (P:Program) (md:Region.Mode) (ops:Array Oper) (Q:Exit→Act→World→Prop) (L:List Nat) (R:World→Prop):Nat→Array Bool→Act→World→Prop
 | 0,listed,a,w=>Region.ready md ops listed=[]∧Q .normal a w
 | fuel+1,listed,a,w =>
  (Region.ready md ops listed=[]→Q .normal a w) ∧
  ∀ i ∈ Region.ready md ops listed,wpOpIn F n P ops Q i (fun a' w'=>SF L R (listed.setIfInBounds i true) w'∧wpAnyI F n P md ops Q L R fuel (listed.setIfInBounds i true) a' w') a w
theorem wpAnyIn_of_I:∀ (fuel:Nat) (listed:Array Bool) (a:Act) (w:World),wpAnyI F n P md ops Q L R fuel listed a w→wpAnyIn F n P md ops Q fuel listed a w
 | 0,_,_,_,h=>h
 | fuel+1,_,_,_,h=>⟨h.1,fun i hi=>wpOpIn_mono (fun a' w' h'=>wpAnyIn_of_I fuel _ a' w' h'.2) (h.2 i hi)⟩
def YieldsR (P:Program) (ops:Array Oper) (R:World→Prop) (o:Oper) (v:Value) (a:Act):Prop:=YieldsIf P ops R o v a∧∀ w,o.about P w a.eval=none
theorem YieldsR.of_same {o:Oper} {v:Value} {a a':Act} (hy:YieldsR P ops R o v a) (he:execOp a'.eval o=execOp a.eval o)
  (hw:Region.wanted o (yielded ops a'.tmps)=Region.wanted o (yielded ops a.tmps)) (hb:∀ w,o.about P w a'.eval=o.about P w a.eval):YieldsR P ops R o v a' :=
 ⟨hy.1.of_same he hw,fun w=>by rw [hb w];exact hy.2 w⟩
theorem YieldsR.wpOpIn {i:Nat} {o:Oper} {v:Value} {a:Act} (hnd:∀ c,o.op≠.defer c) (hi:ops[i]?=some o) (hy:YieldsR P ops R o v a)
  {K:Act→World→Prop} {w:World} (hR:R w) (h:K (a.put o.dst v) w):wpOpIn F n P ops Q i K a w:=by
 unfold Go.wpOpIn
 simp only [hi]
 have hab:∀ f,o.about P w a.eval=some f→F.fn f:=fun f hf=>by rw [hy.2 w] at hf;cases hf
 rcases hy.1 with ⟨hw,hv⟩|⟨hw,rfl⟩
 ·simp only [hw,if_true,Oper.wpIn,Oper.semAt_plain F _ _ hnd,hv w hR,Oper.uponIn];exact ⟨hab,h⟩
 ·simp only [hw,Bool.false_eq_true,if_false];exact ⟨hab,h⟩
theorem wpOpIn_putR {j:Nat} {oi oj:Oper} {v:Value} (hnd:∀ c,oj.op≠.defer c) (hj:ops[j]?=some oj) (hap:oi.apart ops oj=true)
  (hsi:∀ cs b,oi.op≠.select cs b) (hsj:∀ cs b,oj.op≠.select cs b)
  (hQ:∀ c a w,Q (.panic c) (a.put oi.dst v) w→Q (.panic c) a w) {K:Act→World→Prop} {a:Act} {w:World}
  (hy:YieldsR P ops R oi v a) (h:wpOpIn F n P ops Q j K (a.put oi.dst v) w) :
  wpOpIn F n P ops Q j (fun a' w'=>YieldsR P ops R oi v a'∧K (a'.put oi.dst v) w') a w:=by
 obtain ⟨h1,h2,h3⟩:=Oper.apart_spec hap
 have keep:∀ (a:Act),YieldsR P ops R oi v a→∀ u,YieldsR P ops R oi v (a.put oj.dst u):=fun a hy u =>
  hy.of_same (execOp_put oi hsi a oj.dst u h3) (wanted_put oi a oj.dst u h3) (fun w=>about_put oi w a oj.dst u h3)
 have keepD:∀ d,YieldsR P ops R oi v { a with defers:=d::a.defers }:=fun d=>hy.of_same rfl rfl (fun _=>rfl)
 unfold wpOpIn at *
 simp only [hj] at *
 rw [wanted_put oj a oi.dst v h1,about_put oj w a oi.dst v h1] at h
 split
 ·rename_i hw
  simp only [hw,if_true] at h
  unfold Oper.wpIn at *
  rw [about_put oj w a oi.dst v h1] at h
  refine ⟨h.1,?_⟩
  have h:=h.2
  rw [Oper.semAt_plain F _ _ hnd,execOp_put oj hsj a oi.dst v h1] at h
  rw [Oper.semAt_plain F _ _ hnd]
  generalize (execOp a.eval oj).run P w=r at *
  cases r with
  | ok x w' =>
   cases x<;>simp only [Oper.uponIn] at h ⊢
   case value u=>exact ⟨keep a hy u,by rw [← Act.put_comm a v u h2];exact h⟩
   case skip=>exact ⟨keep a hy _,by rw [← Act.put_comm a v undef h2];exact h⟩
   case defer d =>
    refine ⟨keep _ (keepD d) _,?_⟩
    rw [← Act.put_comm _ v undef h2,← Act.put_defers]
    exact h
   case enter f args =>
    refine ⟨h.1,CallsIn.mono h.2 fun e w'' he=>?_⟩
    cases e with
    | returned u=>exact ⟨keep a hy u,by rw [← Act.put_comm a v u h2];exact he⟩
    | panicked c=>exact hQ _ _ _ he
    | outgrown=>exact he
   case row row args=>exact ⟨h.1,RowsIn.mono h.2 fun u w'' he=>⟨keep a hy u,by rw [← Act.put_comm a v u h2];exact he⟩⟩
   case round l f tmps assign body =>
    refine ⟨h.1,RoundIn.mono h.2 fun e w'' he=>?_⟩
    cases e with
    | returned u=>exact ⟨keep a hy u,by rw [← Act.put_comm a v u h2];exact he⟩
    | panicked c=>exact hQ _ _ _ he
    | outgrown=>exact he
  | halt x w' =>
   cases x<;>simp only [Oper.uponIn] at h ⊢
   case panic u=>exact hQ _ _ _ h
 ·rename_i hw
  simp only [hw] at h
  exact ⟨h.1,keep a hy _,by rw [← Act.put_comm a v undef h2];exact h.2⟩
def NoDefer (ops:Array Oper):Prop:=∀ (j:Nat) (oj:Oper),ops[j]?=some oj→∀ c,oj.op≠Op.defer c
def isDefer:Op→Bool
 | .defer _=>true
 | _=>false
theorem noDefer_of (h:(ops.all fun o=>!isDefer o.op)=true):NoDefer ops:=by
 intro j oj hj c hc
 obtain ⟨hlt,rfl⟩:=Array.getElem?_eq_some_iff.1 hj
 have:=Array.all_eq_true.1 h j hlt
 rw [hc] at this
 cases this
theorem wpAnyI_first {i:Nat} {oi:Oper} {v:Value} (hi:ops[i]?=some oi) (hsel:∀ (j:Nat) (o:Oper) cs b,ops[j]?=some o→o.op≠.select cs b)
  (hQ:∀ c a w,Q (.panic c) (a.put oi.dst v) w→Q (.panic c) a w) (hiF:i ∉ L) (hnd:NoDefer ops) (hwt:∀ f ∈ L,Waits md ops i f) :
  ∀ (fuel:Nat) (listed:Array Bool) (a:Act) (w:World),Closed md ops listed →
   (∀ j oj,ops[j]?=some oj→j≠i→listed.getD j true=false→(∀ e ∈ oj.after,Region.binds md e=true→e.on≠i)→oi.apart ops oj=true) →
   i ∈ Region.ready md ops listed→YieldsR P ops R oi v a→SF L R listed w →
   wpAnyI F n P md ops Q L R fuel (listed.setIfInBounds i true) (a.put oi.dst v) w→wpAnyI F n P md ops Q L R (fuel+1) listed a w:=by
 have hund:∀ {listed:Array Bool},i ∈ Region.ready md ops listed→¬ listed.getD i false=true:=fun {listed} hr h=>by
  have h0:=(mem_ready.1 hr).1
  rcases Nat.lt_or_ge i listed.size with h'|h'
  ·simp [h'] at h0 h;rw [h0] at h;cases h
  ·simp [Array.getElem?_eq_none h'] at h
 have hR:∀ {listed:Array Bool} {w:World},Closed md ops listed→i ∈ Region.ready md ops listed→SF L R listed w→R w:=by
  intro listed w hcl hr hS
  rcases hS with ⟨f,hf,hl⟩|h
  ·exact absurd ((hwt f hf).listed hcl hl) (hund hr)
  ·exact h
 have hself:∀ {listed:Array Bool} {w:World},SF L R listed w→SF L R (listed.setIfInBounds i true) w:=by
  intro listed w hS
  refine hS.imp ?_ id
  rintro ⟨f,hf,hl⟩
  exact ⟨f,hf,getD_set_true hl⟩
 intro fuel
 induction fuel with
 | zero =>
  intro listed a w hcl _ hr hy hS H
  refine ⟨fun h=>(by rw [h] at hr;cases hr),fun j hj=>?_⟩
  by_cases hji:j=i
  ·subst hji;exact hy.wpOpIn (hnd _ _ hi) hi (hR hcl hr hS) ⟨hself hS,H⟩
  ·have:=ready_mono hj hji
   rw [H.1] at this
   cases this
 | succ fuel ih =>
  intro listed a w hcl hfree hr hy hS H
  refine ⟨fun h=>(by rw [h] at hr;cases hr),fun j hj=>?_⟩
  by_cases hji:j=i
  ·subst hji;exact hy.wpOpIn (hnd _ _ hi) hi (hR hcl hr hS) ⟨hself hS,H⟩
  ·have h1:=H.2 j (ready_mono hj hji)
   obtain ⟨hjun,oj,hoj,hall⟩:=mem_ready.1 hj
   have hnot:∀ e ∈ oj.after,Region.binds md e=true→e.on≠i:=fun e he hb heq=>by
    have h1:=hall e he hb
    have h0:=(mem_ready.1 hr).1
    rw [heq] at h1
    rcases Nat.lt_or_ge i listed.size with h'|h'
    ·simp [h'] at h0 h1;rw [h0] at h1;cases h1
    ·simp [Array.getElem?_eq_none h'] at h1
   have hjF:j ∉ L:=fun hjf=>hund hr ((hwt j hjf).ready hcl hj)
   have h2:=wpOpIn_putR (hnd _ _ hoj) hoj (hfree j oj hoj hji hjun hnot) (fun cs b=>hsel i oi cs b hi) (fun cs b=>hsel j oj cs b hoj) hQ hy h1
   have hfree':∀ k ok,ops[k]?=some ok→k≠i→(listed.setIfInBounds j true).getD k true=false →
     (∀ e ∈ ok.after,Region.binds md e=true→e.on≠i)→oi.apart ops ok=true:=fun k ok hk hki hun hno=>by
    refine hfree k ok hk hki ?_ hno
    by_cases hjk:j=k
    ·subst hjk;exact hjun
    ·rw [getD_set_ne true hjk] at hun;exact hun
   have hcl':=hcl.set hj
   refine wpOpIn_mono (fun a' w' h3=>⟨?_,ih (listed.setIfInBounds j true) a' w' hcl' hfree' (ready_mono hr (Ne.symm hji)) h3.1 ?_ ?_⟩) h2
   ·have:=h3.2.1
    rw [Array.setIfInBounds_comm _ _ (Ne.symm hji)] at this
    exact sF_set hiF this
   ·have:=h3.2.1
    rw [Array.setIfInBounds_comm _ _ (Ne.symm hji)] at this
    exact sF_set hiF this
   ·rw [Array.setIfInBounds_comm _ _ hji]
    exact h3.2.2
variable {listed:Array Bool} {a:Act} {w:World}
def wpE (F:Fence) (n:Nat) (P:Program) (md:Region.Mode) (ops:Array Oper) (Q:Exit→Act→World→Prop) (L:List Nat) (R:World→Prop) (fuel:Nat) (listed:Array Bool) (a:Act) (w:World):Prop:=Closed md ops listed→wpAnyI F n P md ops Q L R fuel listed a w
theorem region_I {id:Nat} (k:Nat) (M:Array Bool) (hm:P.follows .mixedOrders=true) (hn:ops.size=k) (hM:Array.replicate k false=M) (hQ:∀ c (a:Act) d v w,Q (.panic c) (a.put (some d) v) w→Q (.panic c) a w)
  (h:∀ Q':Exit→Act→World→Prop,(∀ c (a:Act) d v w,Q' (.panic c) (a.put (some d) v) w→Q' (.panic c) a w)→Shut (∀ a w,Q .normal a w→Q' .normal a w)→Shut (LetsOut Q→LetsOut Q')→wpE F n P .any ops Q' L R k M a w.drew) :
  (Code.region id ops true).wpIn F n P Q a w:=wpIn_region_any hm (by
 rw [hn,hM]
 refine wpAnyIn_of_I _ _ _ _ (h Q hQ (fun _ _ h=>h) (fun h=>h) ?_)
 intro f o ho hf
 rw [← hM] at hf
 simp only [Array.getD_eq_getD_getElem?] at hf
 by_cases hfn:f < k
 ·simp [hfn] at hf
 ·simp [hfn] at hf)
def NoPanic (Q:Exit→Act→World→Prop) (e:Exit) (a:Act) (w:World):Prop:=(∀ c,e≠.panic c)∧Q e a w
theorem region_J {id:Nat} (k:Nat) (M:Array Bool) (hm:P.follows .mixedOrders=true) (hn:ops.size=k) (hM:Array.replicate k false=M)
  (h:∀ Q':Exit→Act→World→Prop,(∀ c (a:Act) d v w,Q' (.panic c) (a.put (some d) v) w→Q' (.panic c) a w)→Shut (∀ a w,Q .normal a w→Q' .normal a w)→wpE F n P .any ops Q' L R k M a w.drew) :
  (Code.region id ops true).wpIn F n P Q a w :=
 Code.wpIn_mono (Q:=NoPanic Q) (fun e a w h=>h.2) (region_I (Q:=NoPanic Q) k M hm hn hM (fun c a d v w h=>absurd rfl (h.1 c)) (fun Q' hQ' hN _=>h Q' hQ' (fun a w hq=>hN.out a w ⟨(fun c hc=>by cases hc),hq⟩)))
theorem takeI (d:Nat) {i:Nat} {oi:Oper} {v:Value} {fuel:Nat} (hQ:∀ c (a:Act) d v w,Q (.panic c) (a.put (some d) v) w→Q (.panic c) a w) (hS:R w) (hi:ops[i]?=some oi) (hd:oi.dst=some d)
  (hs:Region.noSelect ops=true) (hf:Region.free md ops listed i=true) (hr:(Region.ready md ops listed).contains i=true)
  (hw:Region.wanted oi (yielded ops a.tmps)=true) {fw:Nat} (hk:(!L.contains i && L.all (waitsB md ops i fw) && ops.all fun o=>!isDefer o.op)=true) (hab:∀ w,oi.about P w a.eval=none) (hy:∀ w,R w→(execOp a.eval oi).run P w=.ok (.value v) w)
  (h:wpE F n P md ops Q L R fuel (listed.setIfInBounds i true) (a.put (some d) v) w):wpE F n P md ops Q L R (fuel+1) listed a w:=by
 simp only [Bool.and_eq_true,Bool.not_eq_true'] at hk
 obtain ⟨⟨hk1,hk2⟩,hk3⟩:=hk
 have hr':i ∈ Region.ready md ops listed:=by simpa using hr
 intro hc
 exact wpAnyI_first hi (Region.noSelect_spec hs) (fun c a w h=>putQ hQ c a w h) (by simpa using hk1) (noDefer_of (by simpa using hk3)) (fun f hf=>waits_of (List.all_eq_true.1 hk2 f hf)) fuel listed a w hc (Region.free_spec hi hf) hr' ⟨Or.inl ⟨hw,hy⟩,hab⟩ (.inr hS) (by rw [hd];exact h (hc.set hr'))
theorem tkI (d : Nat) {i : Nat} {oi : Oper} {v : Value} {fuel : Nat} (hQ : ∀ c (a : Act) d v w, Q (.panic c) (a.put (some d) v) w → Q (.panic c) a w) (hS : R w) (hi : ops[i]? = some oi) {fw : Nat}
 (hab : ∀ w, oi.about P w a.eval = none) (hy : ∀ w, R w → (execOp a.eval oi).run P w = .ok (.value v) w) (h : wpE F n P md ops Q L R fuel (listed.setIfInBounds i true) (a.put (some d) v) w) (hd : oi.dst = some d := by kernel_rfl)
 (hs : Region.noSelect ops = true := by kernel_rfl) (hf : Region.free md ops listed i = true := by kernel_rfl) (hr : (Region.ready md ops listed).contains i = true := by kernel_rfl)
 (hw : Region.wanted oi (yielded ops a.tmps) = true := by kernel_rfl) (hk : (!L.contains i && L.all (waitsB md ops i fw) && ops.all fun o => !isDefer o.op) = true := by kernel_rfl) : wpE F n P md ops Q L R (fuel + 1) listed a w :=
 takeI d hQ hS hi hd hs hf hr hw hk hab hy h
def AllReadyI (F:Fence) (n:Nat) (P:Program) (md:Region.Mode) (ops:Array Oper) (Q:Exit→Act→World→Prop) (L:List Nat) (R:World→Prop) (fuel:Nat) (listed:Array Bool) (a:Act) (w:World) (rs:List Nat):Prop :=
 ∀ i ∈ rs,i ∈ Region.ready md ops listed→Closed md ops listed→wpOpIn F n P ops Q i (fun a' w'=>SF L R (listed.setIfInBounds i true) w'∧wpAnyI F n P md ops Q L R fuel (listed.setIfInBounds i true) a' w') a w
theorem AllReadyI.nil {fuel:Nat}:AllReadyI F n P md ops Q L R fuel listed a w []:=fun _ h=>by cases h
theorem stepRI {i:Nat} {o:Oper} {rs:List Nat} {fuel:Nat} (ho:ops[i]?=some o) (hw:Region.wanted o (yielded ops a.tmps)=true)
  (h:∀ K':Act→World→Prop,Shut (∀ a w,R w→wpE F n P md ops Q L R fuel (listed.setIfInBounds i true) a w→K' a w)→Oper.wpIn F n P o a w K' Q)
  (hs:AllReadyI F n P md ops Q L R fuel listed a w rs):AllReadyI F n P md ops Q L R fuel listed a w (i::rs):=fun j hj hr hc=>by
 rcases List.mem_cons.1 hj with rfl|hj
 ·exact wpOpIn_step ho (fun K' hK=>by rw [if_pos hw];exact h K' (fun a w hR hW=>hK a w ⟨.inr hR,hW (hc.set hr)⟩))
 ·exact hs j hj hr hc
theorem stepFI {i:Nat} {o:Oper} {rs:List Nat} {fuel:Nat} (ho:ops[i]?=some o) (hw:Region.wanted o (yielded ops a.tmps)=true) (hF:(L.contains i && decide (i < listed.size))=true)
  (h:∀ K':Act→World→Prop,Shut (∀ a w,wpE F n P md ops Q L R fuel (listed.setIfInBounds i true) a w→K' a w)→Oper.wpIn F n P o a w K' Q)
  (hs:AllReadyI F n P md ops Q L R fuel listed a w rs):AllReadyI F n P md ops Q L R fuel listed a w (i::rs):=fun j hj hr hc=>by
 rcases List.mem_cons.1 hj with rfl|hj
 ·simp only [Bool.and_eq_true,decide_eq_true_eq] at hF
  refine wpOpIn_step ho (fun K' hK=>by rw [if_pos hw];exact h K' (fun a w hW=>hK a w ⟨.inl ⟨j,by simpa using hF.1,by simp [hF.2]⟩,hW (hc.set hr)⟩))
 ·exact hs j hj hr hc
theorem wpAnyI_ready {rs:List Nat} {fuel:Nat} (hr:Region.ready md ops listed=rs) (hne:rs≠[])
  (h:AllReadyI F n P md ops Q L R fuel listed a w rs):wpE F n P md ops Q L R (fuel+1) listed a w:=fun hc=>⟨fun h0=>absurd (hr ▸ h0) hne,fun i hi=>h i (hr ▸ hi) hi hc⟩
theorem wpAnyI_done (hr:Region.ready md ops listed=[]) (h:Q .normal a w):∀ fuel,wpE F n P md ops Q L R fuel listed a w
 | 0=>fun _=>⟨hr,h⟩
 | _+1=>fun _=>⟨fun _=>h,by rw [hr];simp⟩
end
theorem tI (d i:Nat) {P:Program} {ops:Array Oper} {Q:Exit→Act→World→Prop} {md:Region.Mode} {F:Fence} {n:Nat} {L:List Nat} {R:World→Prop} {listed L':Array Bool} {a a':Act} {w:World} {oi:Oper} {v:Value} {fuel:Nat}
  (h:wpE F n P md ops Q L R fuel L' a' w)
  (hQ:∀ c (a:Act) d v w,Q (.panic c) (a.put (some d) v) w→Q (.panic c) a w:=by assumption) (hS:R w:=by assumption)
  (hi:ops[i]?=some oi:=by rfl) (hd:oi.dst=some d:=by kernel_rfl) (hs:Region.noSelect ops=true:=by kernel_rfl) (hf:Region.free md ops listed i=true:=by kernel_rfl)
  (hr:(Region.ready md ops listed).contains i=true:=by kernel_rfl) (hw:Region.wanted oi (yielded ops a.tmps)=true:=by kernel_rfl) (fw:Nat:=4) (hk:(!L.contains i && L.all (waitsB md ops i fw) && ops.all fun o=>!isDefer o.op)=true:=by kernel_rfl) (hab:∀ w,oi.about P w a.eval=none:=by intro _;rfl)
  (hy:∀ wq,R wq→(execOp a.eval oi).run P wq=.ok (.value v) wq:=by intro wq hRq;(try dsimp only at hRq);go_simp;(try with_reducible rfl))
  (hL:listed.setIfInBounds i true=L':=by (try simp only [bw7,bw8,bw9]);(try with_reducible rfl))
  (ha:a.put (some d) v=a':=by (try simp only [Act.put,bw7,bw8,bw9]);(try with_reducible rfl)):wpE F n P md ops Q L R (fuel+1) listed a w:=by
 subst hL ha
 exact takeI d hQ hS hi hd hs hf hr hw hk hab hy h
end Go.Proofs.YteepphiomcedfaaGreatDoor
namespace Go.Proofs.YteepphiomcedfaaGreatDoor
open Go.RowKit Go.Shelf
attribute [local go_sem] Oper.semAt_some
def KpR (B b1:Nat) (W W':World):Prop:=Below B W W'∧W'.heap[b1]?=W.heap[b1]?
theorem KpR.t {B b1:Nat} {X Y Z:World} (h:KpR B b1 X Y) (k:KpR B b1 Y Z):KpR B b1 X Z:=⟨h.1.trans k.1,k.2.trans h.2⟩
theorem KpR.b {B b1 m:Nat} (h1:B≤m) (h2:b1 < m) (W:World) (l:Nat) (o o':Obj) (hl:m≤l) (_:W.heap[l]?=some o) (_:o.isCells=false) (_:o.isWalk=false):KpR B b1 W (W.putObj l o'):=by
 have hg:=grownBy_putObj' W l o'
 exact ⟨⟨hg.os,hg.tape,hg.output,hg.size,fun k hk=>World.putObj_heap_other (by omega)⟩,World.putObj_heap_other (by omega)⟩
def fst (n k:Nat):List (Fin n):=(List.finRange n).take k
theorem fst_zero (n:Nat):fst n 0=[]:=rfl
theorem fst_succ {n k:Nat} (h:k < n):fst n (k+1)=fst n k++[⟨k,h⟩]:=by
 unfold fst
 rw [List.take_succ_eq_append_getElem (by simpa using h)]
 simp
theorem fst_all (n:Nat):fst n n=List.finRange n:=List.take_of_length_le (by simp)
theorem fst_length {n k:Nat} (h:k≤n):(fst n k).length=k:=by simp [fst];omega
theorem SideAt.belowB {w w':World} {B b o:Nat} {s:Side} (h:SideAt w b o s) (hB:Below B w w') (hb:b < B):SideAt w' b o s:=by
 obtain ⟨h0,h1,h2,h3,h4,h5,h6⟩:=h
 exact ⟨(hB.cell (p:=⟨b,o,none⟩) hb).trans h0,(hB.cell (p:=⟨b,o+1,none⟩) hb).trans h1,(hB.cell (p:=⟨b,o+2,none⟩) hb).trans h2,(hB.cell (p:=⟨b,o+3,none⟩) hb).trans h3,(hB.cell (p:=⟨b,o+4,none⟩) hb).trans h4,(hB.cell (p:=⟨b,o+5,none⟩) hb).trans h5,(hB.cell (p:=⟨b,o+6,none⟩) hb).trans h6⟩
end Go.Proofs.YteepphiomcedfaaGreatDoor
namespace Go.Proofs.YteepphiomcedfaaGreatDoor
open Go.RowKit Go.Shelf
def BoxA (W:World) (b:Nat) (A B C:Side):Prop:=W.heap[b]?=some (.cells #[.int .i64 A.x,.int .i64 A.y,.int .i64 A.rise,.int .i64 A.run,.bool A.gable,.int .i64 A.plate,.int .i64 A.over,.int .i64 B.x,.int .i64 B.y,.int .i64 B.rise,.int .i64 B.run,.bool B.gable,.int .i64 B.plate,.int .i64 B.over,.int .i64 C.x,.int .i64 C.y,.int .i64 C.rise,.int .i64 C.run,.bool C.gable,.int .i64 C.plate,.int .i64 C.over] 207 (0,0))
theorem BoxA.lt {W:World} {b:Nat} {A B C:Side} (h:BoxA W b A B C):b < W.heap.size:=(Array.getElem?_eq_some_iff.1 h).1
theorem BoxA.at {W:World} {b:Nat} {A B C:Side} (h:BoxA W b A B C):AroundAt W b A B C:=by
 have key:∀ o,W.cell? ⟨b,o,none⟩=(#[Value.int .i64 A.x,.int .i64 A.y,.int .i64 A.rise,.int .i64 A.run,.bool A.gable,.int .i64 A.plate,.int .i64 A.over,.int .i64 B.x,.int .i64 B.y,.int .i64 B.rise,.int .i64 B.run,.bool B.gable,.int .i64 B.plate,.int .i64 B.over,.int .i64 C.x,.int .i64 C.y,.int .i64 C.rise,.int .i64 C.run,.bool C.gable,.int .i64 C.plate,.int .i64 C.over])[o]?:=by
  intro o
  simp only [World.cell?,show W.heap[b]?=_ from h]
  rfl
 unfold AroundAt
 simp only [key]
 exact ⟨rfl,rfl,rfl,rfl,rfl,rfl,rfl,rfl,rfl,rfl,rfl,rfl,rfl,rfl,rfl,rfl,rfl,rfl,rfl,rfl,rfl⟩
theorem BoxA.below {w w':World} {b:Nat} {A B C:Side} (h:BoxA w b A B C) (hB:Below w.heap.size w w'):BoxA w' b A B C:=(hB.block b h.lt).trans h
theorem cells_own {β:Type} {m b:Nat} {o:Obj} (ho:o.isCells=true):OwnFrom m (fun (_:β) W=>W.heap[b]?=some o):=fun s W W' row hs hg hr=>by
 refine (hg.block b (Array.getElem?_eq_some_iff.1 hs).1 ?_).trans hs
 intro e
 obtain ⟨_,o',ho',hc⟩:=hr b e.symm
 rw [hs] at ho'
 cases ho'
 rw [ho] at hc
 cases hc
structure TurnBut (b:Nat) (W W':World):Prop where
 os:W'.os=W.os
 tape:W'.tape=W.tape
 output:W'.output=W.output
 size:W.heap.size≤W'.heap.size
 block:∀ k,k < W.heap.size→k≠b→W'.heap[k]?=W.heap[k]?
theorem TurnBut.but {b:Nat} {W X Y:World} (h:TurnBut b W X) (hs:SameBut b X Y):TurnBut b W Y:=⟨hs.os.trans h.os,hs.tape.trans h.tape,hs.output.trans h.output,by rw [hs.size];exact h.size,fun k hk hne=>(hs.block k hne).trans (h.block k hk hne)⟩
theorem TurnBut.below' {b:Nat} {W X Y:World} (h:TurnBut b W X) (hB:Below X.heap.size X Y):TurnBut b W Y:=⟨hB.os.trans h.os,hB.tape.trans h.tape,hB.output.trans h.output,Nat.le_trans h.size hB.size,fun k hk hne=>(hB.block k (Nat.lt_of_lt_of_le hk h.size)).trans (h.block k hk hne)⟩
theorem TurnBut.below {b B:Nat} {w W W':World} (h:TurnBut b W W') (hB:Below B w W) (hb:B≤b) (hBW:B≤W.heap.size):Below B w W':=hB.trans ⟨h.os,h.tape,h.output,h.size,fun k hk=>h.block k (by omega) (by omega)⟩
theorem after_set1 {K:Act→World→Prop} {a:Act} {w:World} {b:Nat} {t:TypeId} {v v':Value} (hx:Boxed w b t v) (h:∀ W,SameBut b w W→Boxed W b t v'→K a W):K a (w.setCell ⟨b,0,none⟩ v') :=
 h _ (sameBut_setCell _ _ _ _) (hx.set v')
theorem boxed_below {w w':World} {b:Nat} {t:TypeId} {v:Value} (h:Boxed w b t v) (hB:Below w.heap.size w w'):Boxed w' b t v:=(hB.block b h.lt).trans h
end Go.Proofs.YteepphiomcedfaaGreatDoor
