/- Joined texts: WRef6, WRef7, WRef8, WRef9, WRefC. -/
import Derived.Test.YteepphiomcedfaaGreatDoorJ05
set_option maxRecDepth 100000
set_option linter.unusedVariables false
set_option linter.unusedSimpArgs false
set_option maxHeartbeats 6400000
namespace Go.Proofs.YteepphiomcedfaaGreatDoor
open Go.RowKit
end Go.Proofs.YteepphiomcedfaaGreatDoor
namespace Go.Proofs.YteepphiomcedfaaGreatDoor
open Go.RowKit
def IsRings (w:World) (v:Value) (P:List Ring):Prop:=∃ (a:Option Addr) (cap:Nat),v=.slice a P.length cap∧(P≠[]→∃ b off,a=some ⟨b,off,none⟩∧∀ k,k < P.length→∃ u,w.cell? ⟨b,off+k,none⟩=some u∧IsRing w u (rg P k))
theorem IsRings.below {w w':World} {v:Value} {P:List Ring} (h:IsRings w v P) (hB:Below w.heap.size w w'):IsRings w' v P:=by
 obtain ⟨a,cap,rfl,h⟩:=h
 refine ⟨a,cap,rfl,fun hl=>?_⟩
 obtain ⟨b,off,rfl,hc⟩:=h hl
 refine ⟨b,off,rfl,fun k hk=>?_⟩
 obtain ⟨u,h1,h2⟩:=hc k hk
 exact ⟨u,keep hB h1,h2.below hB⟩
theorem IsRings.drewN {w:World} {v:Value} {P:List Ring} (h:IsRings w v P) (n:Nat):IsRings (w.drewN n) v P:=h.below (bw2 (bw0 _ _) _)
def N4 (P:List Ring) (r i s k:Nat):Prop:=∀ k',k' < k→¬ Meet P r i s k'
def N3 (P:List Ring) (r i s:Nat):Prop:=∀ s',r≤s'→s' < s→N4 P r i s' (rg P s').length
def N2 (P:List Ring) (r i:Nat):Prop:=∀ i',i' < i→N3 P r i' P.length
def N1 (P:List Ring) (r:Nat):Prop:=∀ r',r' < r→N2 P r' (rg P r').length
theorem N4.next {P:List Ring} {r i s k:Nat} (h:N4 P r i s k) (h1:¬ Meet P r i s k):N4 P r i s (k+1):=fun k' hk=>by
 by_cases e:k' < k
 ·exact h k' e
 ·have:k'=k:=by omega
  subst this;exact h1
theorem N3.next {P:List Ring} {r i s:Nat} (h:N3 P r i s) (h1:N4 P r i s (rg P s).length):N3 P r i (s+1):=fun s' hr hs=>by
 by_cases e:s' < s
 ·exact h s' hr e
 ·have:s'=s:=by omega
  subst this;exact h1
theorem N2.next {P:List Ring} {r i:Nat} (h:N2 P r i) (h1:N3 P r i P.length):N2 P r (i+1):=fun i' hi=>by
 by_cases e:i' < i
 ·exact h i' e
 ·have:i'=i:=by omega
  subst this;exact h1
theorem N1.next {P:List Ring} {r:Nat} (h:N1 P r) (h1:N2 P r (rg P r).length):N1 P (r+1):=fun r' hr=>by
 by_cases e:r' < r
 ·exact h r' e
 ·have:r'=r:=by omega
  subst this;exact h1
theorem N1.all {P:List Ring} (h:N1 P P.length):¬ Crossed P:=by
 rintro ⟨r,i,s,k,h1,h2,h3,h4,h5,h6⟩
 exact h r h1 i h2 s h3 h4 k h5 h6
end Go.Proofs.YteepphiomcedfaaGreatDoor
namespace Go.Proofs.YteepphiomcedfaaGreatDoor
open Go.RowKit
theorem SideAt.first {w:World} {b o:Nat} {s:Side} (h:SideAt w b (o+0 * 7) s):w.cell? ⟨b,o,none⟩=some (.int .i64 s.x)∧w.cell? ⟨b,o+1,none⟩=some (.int .i64 s.y):=by
 obtain ⟨h0,h1,_⟩:=h
 simp only [Nat.zero_mul,Nat.add_zero] at h0 h1
 exact ⟨h0,h1⟩
end Go.Proofs.YteepphiomcedfaaGreatDoor
namespace Go.Proofs.YteepphiomcedfaaGreatDoor
open Go.RowKit
end Go.Proofs.YteepphiomcedfaaGreatDoor
namespace Go.Proofs.YteepphiomcedfaaGreatDoor
open Go.RowKit
def IsPlan (w:World) (v:Value) (P:List Ring):Prop:=∃ u,v=.agg #[u]∧IsRings w u P
theorem IsPlan.below {w w':World} {v:Value} {P:List Ring} (h:IsPlan w v P) (hB:Below w.heap.size w w'):IsPlan w' v P:=by
 obtain ⟨u,rfl,h⟩:=h
 exact ⟨u,rfl,h.below hB⟩
end Go.Proofs.YteepphiomcedfaaGreatDoor
