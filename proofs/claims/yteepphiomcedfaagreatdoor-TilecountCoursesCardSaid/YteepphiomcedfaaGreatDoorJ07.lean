/- Joined texts: Drawn, WSides, Drawn3, WPlan1. -/
import Derived.Test.YteepphiomcedfaaGreatDoorJ01
import Derived.Deep.RegionHeld3
import Derived.Deep.RegionWith
import Derived.Deep.DrawnRows
import Derived.Test.YteepphiomcedfaaGreatDoorJ06
import Derived.OwnWalk
import Derived.Maps.AppendAt
set_option maxRecDepth 100000
set_option linter.unusedVariables false
set_option linter.unusedSimpArgs false
set_option maxHeartbeats 6400000
namespace Go.Proofs.YteepphiomcedfaaGreatDoor
theorem consW {P:Program} {ops:Array Oper} {Q:Exit→Act→World→Prop} {md:Region.Mode} {S:World→Prop} {fuel:Nat} {listed:Array Bool} {a:Act} {w:World} {i:Nat} {o:Oper} (ho:ops[i]?=some o) (hw:Region.wanted o (yielded ops a.tmps)=true)
  (h:∀ K':Act→World→Prop,Shut (∀ a w,S w→(S w→wpAnyH P md ops Q S fuel (listed.setIfInBounds i true) a w)→K' a w)→Oper.wp P o a w K' Q):AllReadyH P md ops Q S fuel listed a w [i] :=
 AllReadyH.cons ho (fun K' hK=>by rw [if_pos hw];exact h K' hK) AllReadyH.nil
section
variable {P:Program} {ops:Array Oper} {Q:Exit→Act→World→Prop} {md:Region.Mode} {S:World→Prop} {listed:Array Bool} {a:Act} {w:World}
theorem region_held_abs {id:Nat} (n:Nat) (L:Array Bool) (hm:P.follows .mixedOrders=true) (hn:ops.size=n) (hL:Array.replicate n false=L) (hQ:∀ c (a:Act) d v w,Q (.panic c) (a.put (some d) v) w→Q (.panic c) a w) (hS:S w.drew)
  (h:∀ Q':Exit→Act→World→Prop,(∀ c (a:Act) d v w,Q' (.panic c) (a.put (some d) v) w→Q' (.panic c) a w)→Shut (∀ a w,Q .normal a w→Q' .normal a w)→S w.drew→wpAnyH P .any ops Q' S n L a w.drew) :
  (Code.region id ops true).wp P Q a w:=wp_region_held_drew hm hS (by rw [hn,hL];exact h Q hQ (fun _ _ h=>h))
theorem putQ {d:Option Nat} {v:Value} (hQ:∀ c (a:Act) d v w,Q (.panic c) (a.put (some d) v) w→Q (.panic c) a w):∀ c (a:Act) w,Q (.panic c) (a.put d v) w→Q (.panic c) a w:=by
 intro c a w h
 cases d with
 | none=>exact h
 | some d=>exact hQ c a d v w h
theorem takeT (d:Nat) {i:Nat} {oi:Oper} {v:Value} {fuel:Nat} (hQ:∀ c (a:Act) d v w,Q (.panic c) (a.put (some d) v) w→Q (.panic c) a w) (hS:S w) (hi:ops[i]?=some oi) (hd:oi.dst=some d)
  (hs:Region.noSelect ops=true) (hf:Region.free md ops listed i=true) (hr:(Region.ready md ops listed).contains i=true)
  (hw:Region.wanted oi (yielded ops a.tmps)=true) (hy:∀ w,S w→(execOp a.eval oi).run P w=.ok (.value v) w)
  (h:wpAnyH P md ops Q S fuel (listed.setIfInBounds i true) (a.put (some d) v) w):wpAnyH P md ops Q S (fuel+1) listed a w :=
 wpAnyH_take hi hs hf hr (fun c a w h=>putQ hQ c a w h) (Or.inl ⟨hw,hy⟩) hS (by rw [hd];exact h)
theorem takeF (d:Nat) {i:Nat} {oi:Oper} {fuel:Nat} (hQ:∀ c (a:Act) d v w,Q (.panic c) (a.put (some d) v) w→Q (.panic c) a w) (hS:S w) (hi:ops[i]?=some oi) (hd:oi.dst=some d)
  (hs:Region.noSelect ops=true) (hf:Region.free md ops listed i=true) (hr:(Region.ready md ops listed).contains i=true)
  (hw:Region.wanted oi (yielded ops a.tmps)=false)
  (h:wpAnyH P md ops Q S fuel (listed.setIfInBounds i true) (a.put (some d) undef) w):wpAnyH P md ops Q S (fuel+1) listed a w :=
 wpAnyH_take hi hs hf hr (fun c a w h=>putQ hQ c a w h) (Or.inr ⟨hw,rfl⟩) hS (by rw [hd];exact h)
end
theorem tT (d i:Nat) {P:Program} {ops:Array Oper} {Q:Exit→Act→World→Prop} {md:Region.Mode} {S:World→Prop} {listed L':Array Bool} {a a':Act} {w:World} {oi:Oper} {v:Value} {fuel:Nat}
  (h:wpAnyH P md ops Q S fuel L' a' w)
  (hQ:∀ c (a:Act) d v w,Q (.panic c) (a.put (some d) v) w→Q (.panic c) a w:=by assumption) (hS:S w:=by assumption)
  (hi:ops[i]?=some oi:=by rfl) (hd:oi.dst=some d:=by kernel_rfl) (hs:Region.noSelect ops=true:=by kernel_rfl) (hf:Region.free md ops listed i=true:=by kernel_rfl)
  (hr:(Region.ready md ops listed).contains i=true:=by kernel_rfl) (hw:Region.wanted oi (yielded ops a.tmps)=true:=by kernel_rfl)
  (hy:∀ w,S w→(execOp a.eval oi).run P w=.ok (.value v) w:=by intro w hSw;(try dsimp only at hSw);go_simp;(try with_reducible rfl))
  (hL:listed.setIfInBounds i true=L':=by (try simp only [bw7,bw8,bw9]);(try with_reducible rfl))
  (ha:a.put (some d) v=a':=by (try simp only [Act.put,bw7,bw8,bw9]);(try with_reducible rfl)):wpAnyH P md ops Q S (fuel+1) listed a w:=by
 subst hL ha
 exact takeT d hQ hS hi hd hs hf hr hw hy h
theorem tF (d i:Nat) {P:Program} {ops:Array Oper} {Q:Exit→Act→World→Prop} {md:Region.Mode} {S:World→Prop} {listed L':Array Bool} {a a':Act} {w:World} {oi:Oper} {fuel:Nat}
  (h:wpAnyH P md ops Q S fuel L' a' w) (hQ:∀ c (a:Act) d v w,Q (.panic c) (a.put (some d) v) w→Q (.panic c) a w:=by assumption) (hS:S w:=by assumption)
  (hi:ops[i]?=some oi:=by rfl) (hd:oi.dst=some d:=by kernel_rfl) (hs:Region.noSelect ops=true:=by kernel_rfl) (hf:Region.free md ops listed i=true:=by kernel_rfl)
  (hr:(Region.ready md ops listed).contains i=true:=by kernel_rfl) (hw:Region.wanted oi (yielded ops a.tmps)=false:=by kernel_rfl)
  (hL:listed.setIfInBounds i true=L':=by (try simp only [bw7,bw8,bw9]);(try with_reducible rfl))
  (ha:a.put (some d) undef=a':=by (try simp only [Act.put,bw7,bw8,bw9]);(try with_reducible rfl)):wpAnyH P md ops Q S (fuel+1) listed a w:=by
 subst hL ha
 exact takeF d hQ hS hi hd hs hf hr hw h
end Go.Proofs.YteepphiomcedfaaGreatDoor
namespace Go.Proofs.YteepphiomcedfaaGreatDoor
open Go.RowKit
def sideCells (s:Side):List Value:=[.int .i64 s.x,.int .i64 s.y,.int .i64 s.rise,.int .i64 s.run,.bool s.gable,.int .i64 s.plate,.int .i64 s.over]
theorem addr_add (b off j:Nat):Addr.add ⟨b,off,none⟩ j=⟨b,off+j,none⟩:=by
 unfold Addr.add
 by_cases h:j=0
 ·simp [h]
 ·simp [h]
theorem row_shape {w:World} {B e size n:Nat} {v:Value} {xs:List Value} (h:w.ownsRow B e size v n xs):∃ sa sc,v=.slice sa n sc∧∀ b,(Value.slice sa n sc).ownBlock=some b→B≤b:=by
 rcases h.2 with ⟨rfl,rfl⟩|⟨g,cap,cur,rfl,hb,_⟩
 ·exact ⟨none,0,rfl,fun b h=>by cases h⟩
 ·exact ⟨_,_,rfl,fun b h=>by cases h;exact hb⟩
end Go.Proofs.YteepphiomcedfaaGreatDoor
namespace Go.Proofs.YteepphiomcedfaaGreatDoor
section
variable {P:Program} {ops:Array Oper} {Q:Exit→Act→World→Prop} {md:Region.Mode} {F:List Nat} {R:World→Prop}
def SF (F:List Nat) (R:World→Prop) (listed:Array Bool) (w:World):Prop:=(∃ f ∈ F,listed.getD f false=true)∨R w
def wpAnyS (P:Program) (md:Region.Mode) (ops:Array Oper) (Q:Exit→Act→World→Prop) (F:List Nat) (R:World→Prop):Nat→Array Bool→Act→World→Prop
 | 0,listed,a,w=>Region.ready md ops listed=[]∧Q .normal a w
 | fuel+1,listed,a,w =>
  (Region.ready md ops listed=[]→Q .normal a w) ∧
  ∀ i ∈ Region.ready md ops listed,wpOp P ops Q i (fun a' w'=>SF F R (listed.setIfInBounds i true) w'∧wpAnyS P md ops Q F R fuel (listed.setIfInBounds i true) a' w') a w
theorem wpAny_of_S:∀ (fuel:Nat) (listed:Array Bool) (a:Act) (w:World),wpAnyS P md ops Q F R fuel listed a w→wpAny P md ops Q fuel listed a w
 | 0,_,_,_,h=>h
 | fuel+1,_,_,_,h=>⟨h.1,fun i hi=>wpOp_mono (fun a' w' h'=>wpAny_of_S fuel _ a' w' h'.2) (h.2 i hi)⟩
theorem sF_set {listed:Array Bool} {i:Nat} {w:World} (hi:i ∉ F) (h:SF F R (listed.setIfInBounds i true) w):SF F R listed w:=by
 refine h.imp ?_ id
 rintro ⟨f,hf,hl⟩
 refine ⟨f,hf,?_⟩
 have hne:i≠f:=fun e=>hi (e ▸ hf)
 simpa [hne,Array.getD_eq_getD_getElem?] using hl
inductive Waits (md:Region.Mode) (ops:Array Oper) (i:Nat):Nat→Prop
 | one {f:Nat} {o:Oper} {e:Edge} (ho:ops[f]?=some o) (he:e ∈ o.after) (hb:Region.binds md e=true) (h:e.on=i):Waits md ops i f
 | more {f:Nat} {o:Oper} {e:Edge} (ho:ops[f]?=some o) (he:e ∈ o.after) (hb:Region.binds md e=true) (h:Waits md ops i e.on):Waits md ops i f
def Closed (md:Region.Mode) (ops:Array Oper) (listed:Array Bool):Prop:=∀ f o,ops[f]?=some o→listed.getD f false=true→∀ e ∈ o.after,Region.binds md e=true→listed.getD e.on false=true
theorem Waits.listed {i f:Nat} (h:Waits md ops i f) {listed:Array Bool} (hc:Closed md ops listed) (hf:listed.getD f false=true):listed.getD i false=true:=by
 induction h with
 | one ho he hb h=>subst h;exact hc _ _ ho hf _ he hb
 | more ho he hb _ ih=>exact ih (hc _ _ ho hf _ he hb)
theorem Waits.ready {i f:Nat} (h:Waits md ops i f) {listed:Array Bool} (hc:Closed md ops listed) (hf:f ∈ Region.ready md ops listed):listed.getD i false=true:=by
 obtain ⟨_,o',ho',hall⟩:=mem_ready.1 hf
 cases h with
 | one ho he hb h=>subst h;rw [ho] at ho';cases ho';exact hall _ he hb
 | more ho he hb h=>rw [ho] at ho';cases ho';exact h.listed hc (hall _ he hb)
theorem Closed.set {listed:Array Bool} {j:Nat} (hc:Closed md ops listed) (hj:j ∈ Region.ready md ops listed):Closed md ops (listed.setIfInBounds j true):=by
 intro f o ho hf e he hb
 by_cases hjf:j=f
 ·subst hjf
  obtain ⟨_,o',ho',hall⟩:=mem_ready.1 hj
  rw [ho] at ho';cases ho'
  exact getD_set_true (hall e he hb)
 ·rw [getD_set_ne false hjf] at hf
  exact getD_set_true (hc f o ho hf e he hb)
theorem wpAnyS_first {i:Nat} {oi:Oper} {v:Value} (hi:ops[i]?=some oi) (hsel:∀ (j:Nat) (o:Oper) cs b,ops[j]?=some o→o.op≠.select cs b)
  (hQ:∀ c a w,Q (.panic c) (a.put oi.dst v) w→Q (.panic c) a w) (hiF:i ∉ F) (hwt:∀ f ∈ F,Waits md ops i f) :
  ∀ (fuel:Nat) (listed:Array Bool) (a:Act) (w:World),Closed md ops listed →
   (∀ j oj,ops[j]?=some oj→j≠i→listed.getD j true=false→(∀ e ∈ oj.after,Region.binds md e=true→e.on≠i)→oi.apart ops oj=true) →
   i ∈ Region.ready md ops listed→YieldsIf P ops R oi v a→SF F R listed w →
   wpAnyS P md ops Q F R fuel (listed.setIfInBounds i true) (a.put oi.dst v) w→wpAnyS P md ops Q F R (fuel+1) listed a w:=by
 have hund:∀ {listed:Array Bool},i ∈ Region.ready md ops listed→¬ listed.getD i false=true:=fun {listed} hr h=>by
  have h0:=(mem_ready.1 hr).1
  rcases Nat.lt_or_ge i listed.size with h'|h'
  ·simp [h'] at h0 h;rw [h0] at h;cases h
  ·simp [Array.getElem?_eq_none h'] at h
 have hR:∀ {listed:Array Bool} {w:World},Closed md ops listed→i ∈ Region.ready md ops listed→SF F R listed w→R w:=by
  intro listed w hcl hr hS
  rcases hS with ⟨f,hf,hl⟩|h
  ·exact absurd ((hwt f hf).listed hcl hl) (hund hr)
  ·exact h
 have hself:∀ {listed:Array Bool} {w:World},SF F R listed w→SF F R (listed.setIfInBounds i true) w:=by
  intro listed w hS
  refine hS.imp ?_ id
  rintro ⟨f,hf,hl⟩
  exact ⟨f,hf,getD_set_true hl⟩
 intro fuel
 induction fuel with
 | zero =>
  intro listed a w hcl _ hr hy hS H
  refine ⟨fun h=>(by rw [h] at hr;cases hr),fun j hj=>?_⟩
  by_cases hji:j=i
  ·subst hji;exact hy.wpOp hi (hR hcl hr hS) ⟨hself hS,H⟩
  ·have:=ready_mono hj hji
   rw [H.1] at this
   cases this
 | succ fuel ih =>
  intro listed a w hcl hfree hr hy hS H
  refine ⟨fun h=>(by rw [h] at hr;cases hr),fun j hj=>?_⟩
  by_cases hji:j=i
  ·subst hji;exact hy.wpOp hi (hR hcl hr hS) ⟨hself hS,H⟩
  ·have h1:=H.2 j (ready_mono hj hji)
   obtain ⟨hjun,oj,hoj,hall⟩:=mem_ready.1 hj
   have hnot:∀ e ∈ oj.after,Region.binds md e=true→e.on≠i:=fun e he hb heq=>by
    have h1:=hall e he hb
    have h0:=(mem_ready.1 hr).1
    rw [heq] at h1
    rcases Nat.lt_or_ge i listed.size with h'|h'
    ·simp [h'] at h0 h1;rw [h0] at h1;cases h1
    ·simp [Array.getElem?_eq_none h'] at h1
   have hjF:j ∉ F:=fun hjf=>hund hr ((hwt j hjf).ready hcl hj)
   have h2:=wpOp_putIf hoj (hfree j oj hoj hji hjun hnot) (fun cs b=>hsel i oi cs b hi) (fun cs b=>hsel j oj cs b hoj) hQ hy h1
   have hfree':∀ k ok,ops[k]?=some ok→k≠i→(listed.setIfInBounds j true).getD k true=false →
     (∀ e ∈ ok.after,Region.binds md e=true→e.on≠i)→oi.apart ops ok=true:=fun k ok hk hki hun hno=>by
    refine hfree k ok hk hki ?_ hno
    by_cases hjk:j=k
    ·subst hjk;exact hjun
    ·rw [getD_set_ne true hjk] at hun;exact hun
   have hcl':=hcl.set hj
   refine wpOp_mono (fun a' w' h3=>⟨?_,ih (listed.setIfInBounds j true) a' w' hcl' hfree' (ready_mono hr (Ne.symm hji)) h3.1 ?_ ?_⟩) h2
   ·have:=h3.2.1
    rw [Array.setIfInBounds_comm _ _ (Ne.symm hji)] at this
    exact sF_set hiF this
   ·have:=h3.2.1
    rw [Array.setIfInBounds_comm _ _ (Ne.symm hji)] at this
    exact sF_set hiF this
   ·rw [Array.setIfInBounds_comm _ _ hji]
    exact h3.2.2
def waitsB (md:Region.Mode) (ops:Array Oper) (i:Nat):Nat→Nat→Bool
 | 0,_=>false
 | n+1,f=>match ops[f]? with
  | some o=>(o.after.any fun e=>Region.binds md e && e.on == i) || (o.after.any fun e=>Region.binds md e && waitsB md ops i n e.on)
  | none=>false
theorem waits_of {i:Nat}:∀ {n f:Nat},waitsB md ops i n f=true→Waits md ops i f:=by
 intro n
 induction n with
 | zero=>intro f h;cases h
 | succ n ih =>
  intro f h
  unfold waitsB at h
  split at h
  ·rename_i o ho
   rcases Bool.or_eq_true _ _ ▸ h with h1|h1
   ·obtain ⟨e,he,hb⟩:=Array.any_eq_true'.1 h1
    simp only [Bool.and_eq_true,beq_iff_eq] at hb
    exact .one ho he hb.1 hb.2
   ·obtain ⟨e,he,hb⟩:=Array.any_eq_true'.1 h1
    simp only [Bool.and_eq_true] at hb
    exact .more ho he hb.1 (ih hb.2)
  ·cases h
variable {listed:Array Bool} {a:Act} {w:World}
def wpC (P:Program) (md:Region.Mode) (ops:Array Oper) (Q:Exit→Act→World→Prop) (F:List Nat) (R:World→Prop) (fuel:Nat) (listed:Array Bool) (a:Act) (w:World):Prop:=Closed md ops listed→wpAnyS P md ops Q F R fuel listed a w
theorem region_S {id:Nat} (n:Nat) (L:Array Bool) (hm:P.follows .mixedOrders=true) (hn:ops.size=n) (hL:Array.replicate n false=L) (hQ:∀ c (a:Act) d v w,Q (.panic c) (a.put (some d) v) w→Q (.panic c) a w)
  (h:∀ Q':Exit→Act→World→Prop,(∀ c (a:Act) d v w,Q' (.panic c) (a.put (some d) v) w→Q' (.panic c) a w)→Shut (∀ a w,Q .normal a w→Q' .normal a w)→wpC P .any ops Q' F R n L a w.drew) :
  (Code.region id ops true).wp P Q a w:=wp_region_any hm (by
 rw [hn,hL]
 refine wpAny_of_S _ _ _ _ (h Q hQ (fun _ _ h=>h) ?_)
 intro f o ho hf
 rw [← hL] at hf
 simp only [Array.getD_eq_getD_getElem?] at hf
 by_cases hfn:f < n
 ·simp [hfn] at hf
 ·simp [hfn] at hf)
theorem takeS (d:Nat) {i:Nat} {oi:Oper} {v:Value} {fuel:Nat} (hQ:∀ c (a:Act) d v w,Q (.panic c) (a.put (some d) v) w→Q (.panic c) a w) (hS:R w) (hi:ops[i]?=some oi) (hd:oi.dst=some d)
  (hs:Region.noSelect ops=true) (hf:Region.free md ops listed i=true) (hr:(Region.ready md ops listed).contains i=true)
  (hw:Region.wanted oi (yielded ops a.tmps)=true) {fw:Nat} (hk:(!F.contains i && F.all (waitsB md ops i fw))=true) (hy:∀ w,R w→(execOp a.eval oi).run P w=.ok (.value v) w)
  (h:wpC P md ops Q F R fuel (listed.setIfInBounds i true) (a.put (some d) v) w):wpC P md ops Q F R (fuel+1) listed a w:=by
 simp only [Bool.and_eq_true,Bool.not_eq_true'] at hk
 obtain ⟨hk1,hk2⟩:=hk
 have hr':i ∈ Region.ready md ops listed:=by simpa using hr
 intro hc
 exact wpAnyS_first hi (Region.noSelect_spec hs) (fun c a w h=>putQ hQ c a w h) (by simpa using hk1) (fun f hf=>waits_of (List.all_eq_true.1 hk2 f hf)) fuel listed a w hc (Region.free_spec hi hf) hr' (Or.inl ⟨hw,hy⟩) (.inr hS) (by rw [hd];exact h (hc.set hr'))
theorem tkS (d : Nat) {i : Nat} {oi : Oper} {v : Value} {fuel : Nat} (hQ : ∀ c (a : Act) d v w, Q (.panic c) (a.put (some d) v) w → Q (.panic c) a w) (hS : R w) (hi : ops[i]? = some oi) {fw : Nat}
 (hy : ∀ w, R w → (execOp a.eval oi).run P w = .ok (.value v) w) (h : wpC P md ops Q F R fuel (listed.setIfInBounds i true) (a.put (some d) v) w) (hd : oi.dst = some d := by kernel_rfl)
 (hs : Region.noSelect ops = true := by kernel_rfl) (hf : Region.free md ops listed i = true := by kernel_rfl) (hr : (Region.ready md ops listed).contains i = true := by kernel_rfl)
 (hw : Region.wanted oi (yielded ops a.tmps) = true := by kernel_rfl) (hk : (!F.contains i && F.all (waitsB md ops i fw)) = true := by kernel_rfl) : wpC P md ops Q F R (fuel + 1) listed a w :=
 takeS d hQ hS hi hd hs hf hr hw hk hy h
def AllReadyS (P:Program) (md:Region.Mode) (ops:Array Oper) (Q:Exit→Act→World→Prop) (F:List Nat) (R:World→Prop) (fuel:Nat) (listed:Array Bool) (a:Act) (w:World) (rs:List Nat):Prop :=
 ∀ i ∈ rs,i ∈ Region.ready md ops listed→Closed md ops listed→wpOp P ops Q i (fun a' w'=>SF F R (listed.setIfInBounds i true) w'∧wpAnyS P md ops Q F R fuel (listed.setIfInBounds i true) a' w') a w
theorem AllReadyS.nil {fuel:Nat}:AllReadyS P md ops Q F R fuel listed a w []:=fun _ h=>by cases h
theorem stepR {i:Nat} {o:Oper} {rs:List Nat} {fuel:Nat} (ho:ops[i]?=some o) (hw:Region.wanted o (yielded ops a.tmps)=true)
  (h:∀ K':Act→World→Prop,Shut (∀ a w,R w→wpC P md ops Q F R fuel (listed.setIfInBounds i true) a w→K' a w)→Oper.wp P o a w K' Q)
  (hs:AllReadyS P md ops Q F R fuel listed a w rs):AllReadyS P md ops Q F R fuel listed a w (i::rs):=fun j hj hr hc=>by
 rcases List.mem_cons.1 hj with rfl|hj
 ·exact wpOp_step ho (fun K' hK=>by rw [if_pos hw];exact h K' (fun a w hR hW=>hK a w ⟨.inr hR,hW (hc.set hr)⟩))
 ·exact hs j hj hr hc
theorem stepF {i:Nat} {o:Oper} {rs:List Nat} {fuel:Nat} (ho:ops[i]?=some o) (hw:Region.wanted o (yielded ops a.tmps)=true) (hF:(F.contains i && decide (i < listed.size))=true)
  (h:∀ K':Act→World→Prop,Shut (∀ a w,wpC P md ops Q F R fuel (listed.setIfInBounds i true) a w→K' a w)→Oper.wp P o a w K' Q)
  (hs:AllReadyS P md ops Q F R fuel listed a w rs):AllReadyS P md ops Q F R fuel listed a w (i::rs):=fun j hj hr hc=>by
 rcases List.mem_cons.1 hj with rfl|hj
 ·simp only [Bool.and_eq_true,decide_eq_true_eq] at hF
  refine wpOp_step ho (fun K' hK=>by rw [if_pos hw];exact h K' (fun a w hW=>hK a w ⟨.inl ⟨j,by simpa using hF.1,by simp [hF.2]⟩,hW (hc.set hr)⟩))
 ·exact hs j hj hr hc
theorem wpAnyS_ready {rs:List Nat} {fuel:Nat} (hr:Region.ready md ops listed=rs) (hne:rs≠[])
  (h:AllReadyS P md ops Q F R fuel listed a w rs):wpC P md ops Q F R (fuel+1) listed a w:=fun hc=>⟨fun h0=>absurd (hr ▸ h0) hne,fun i hi=>h i (hr ▸ hi) hi hc⟩
theorem wpAnyS_done (hr:Region.ready md ops listed=[]) (h:Q .normal a w):∀ fuel,wpC P md ops Q F R fuel listed a w
 | 0=>fun _=>⟨hr,h⟩
 | _+1=>fun _=>⟨fun _=>h,by rw [hr];simp⟩
end
theorem tS (d i:Nat) {P:Program} {ops:Array Oper} {Q:Exit→Act→World→Prop} {md:Region.Mode} {F:List Nat} {R:World→Prop} {listed L':Array Bool} {a a':Act} {w:World} {oi:Oper} {v:Value} {fuel:Nat}
  (h:wpC P md ops Q F R fuel L' a' w)
  (hQ:∀ c (a:Act) d v w,Q (.panic c) (a.put (some d) v) w→Q (.panic c) a w:=by assumption) (hS:R w:=by assumption)
  (hi:ops[i]?=some oi:=by rfl) (hd:oi.dst=some d:=by kernel_rfl) (hs:Region.noSelect ops=true:=by kernel_rfl) (hf:Region.free md ops listed i=true:=by kernel_rfl)
  (hr:(Region.ready md ops listed).contains i=true:=by kernel_rfl) (hw:Region.wanted oi (yielded ops a.tmps)=true:=by kernel_rfl) (fw:Nat:=4) (hk:(!F.contains i && F.all (waitsB md ops i fw))=true:=by kernel_rfl)
  (hy:∀ wq,R wq→(execOp a.eval oi).run P wq=.ok (.value v) wq:=by intro wq hRq;(try dsimp only at hRq);go_simp;(try with_reducible rfl))
  (hL:listed.setIfInBounds i true=L':=by (try simp only [bw7,bw8,bw9]);(try with_reducible rfl))
  (ha:a.put (some d) v=a':=by (try simp only [Act.put,bw7,bw8,bw9]);(try with_reducible rfl)):wpC P md ops Q F R (fuel+1) listed a w:=by
 subst hL ha
 exact takeS d hQ hS hi hd hs hf hr hw hk hy h
end Go.Proofs.YteepphiomcedfaaGreatDoor
namespace Go.Proofs.YteepphiomcedfaaGreatDoor
open Go.RowKit
def AroundAt (w:World) (b:Nat) (A B C:Side):Prop:=w.cell? ⟨b,0,none⟩=some (.int .i64 A.x)∧w.cell? ⟨b,1,none⟩=some (.int .i64 A.y)∧w.cell? ⟨b,2,none⟩=some (.int .i64 A.rise)∧w.cell? ⟨b,3,none⟩=some (.int .i64 A.run)∧w.cell? ⟨b,4,none⟩=some (.bool A.gable)∧w.cell? ⟨b,5,none⟩=some (.int .i64 A.plate)∧w.cell? ⟨b,6,none⟩=some (.int .i64 A.over)∧w.cell? ⟨b,7,none⟩=some (.int .i64 B.x)∧w.cell? ⟨b,8,none⟩=some (.int .i64 B.y)∧w.cell? ⟨b,9,none⟩=some (.int .i64 B.rise)∧w.cell? ⟨b,10,none⟩=some (.int .i64 B.run)∧w.cell? ⟨b,11,none⟩=some (.bool B.gable)∧w.cell? ⟨b,12,none⟩=some (.int .i64 B.plate)∧w.cell? ⟨b,13,none⟩=some (.int .i64 B.over)∧w.cell? ⟨b,14,none⟩=some (.int .i64 C.x)∧w.cell? ⟨b,15,none⟩=some (.int .i64 C.y)∧w.cell? ⟨b,16,none⟩=some (.int .i64 C.rise)∧w.cell? ⟨b,17,none⟩=some (.int .i64 C.run)∧w.cell? ⟨b,18,none⟩=some (.bool C.gable)∧w.cell? ⟨b,19,none⟩=some (.int .i64 C.plate)∧w.cell? ⟨b,20,none⟩=some (.int .i64 C.over)
theorem AroundAt.below {w w':World} {b:Nat} {A B C:Side} (h:AroundAt w b A B C) (hB:Below w.heap.size w w'):AroundAt w' b A B C:=by
 obtain ⟨e0,e1,e2,e3,e4,e5,e6,e7,e8,e9,e10,e11,e12,e13,e14,e15,e16,e17,e18,e19,e20⟩:=h
 exact ⟨keep hB e0,keep hB e1,keep hB e2,keep hB e3,keep hB e4,keep hB e5,keep hB e6,keep hB e7,keep hB e8,keep hB e9,keep hB e10,keep hB e11,keep hB e12,keep hB e13,keep hB e14,keep hB e15,keep hB e16,keep hB e17,keep hB e18,keep hB e19,keep hB e20⟩
def Box2 (w:World) (b:Nat) (t:TypeId) (x y:Value):Prop:=w.heap[b]?=some (.cells #[x,y] t (0,0))
theorem Box2.below {w w':World} {b:Nat} {t:TypeId} {x y:Value} (h:Box2 w b t x y) (hB:Below w.heap.size w w'):Box2 w' b t x y:=(hB.block b (Array.getElem?_eq_some_iff.1 h).1).trans h
end Go.Proofs.YteepphiomcedfaaGreatDoor
