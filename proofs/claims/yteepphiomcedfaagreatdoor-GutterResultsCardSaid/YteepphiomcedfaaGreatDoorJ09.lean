/- Joined texts: WRight, WArea, WTile1, WTile2, WTile3. -/
import Derived.Test.YteepphiomcedfaaGreatDoorJ04
import Derived.Test.YteepphiomcedfaaGreatDoorJ07
import Derived.BigQuiet
set_option maxRecDepth 100000
set_option linter.unusedVariables false
set_option linter.unusedSimpArgs false
set_option maxHeartbeats 6400000
namespace Go.Proofs.YteepphiomcedfaaGreatDoor
open Go.RowKit
attribute [local go_sem ↓] Go.wp_at_zero Go.wp_at_succ
def IsSpans (w:World) (v:Value) (sp:List (Rat × Rat)):Prop:=∃ (a:Option Addr) (cap:Nat),v=.slice a sp.length cap∧sp.length≤cap ∧
 (sp≠[]→∃ b off,a=some ⟨b,off,none⟩∧b < w.heap.size∧∀ k (h:k < sp.length),∃ s t:ByteArray,w.cell? ⟨b,off+k * 2,none⟩=some (.string s)∧w.cell? ⟨b,off+k * 2+1,none⟩=some (.string t)∧s.data.toList=ratText sp[k].1∧t.data.toList=ratText sp[k].2)
theorem IsSpans.below {w w':World} {v:Value} {sp:List (Rat × Rat)} (h:IsSpans w v sp) (hB:Below w.heap.size w w'):IsSpans w' v sp:=by
 obtain ⟨a,cap,h1,h2,h3⟩:=h
 refine ⟨a,cap,h1,h2,fun hn=>?_⟩
 obtain ⟨b,off,e,hb,hc⟩:=h3 hn
 refine ⟨b,off,e,Nat.lt_of_lt_of_le hb hB.size,fun k hk=>?_⟩
 obtain ⟨s,t,c1,c2,c3,c4⟩:=hc k hk
 exact ⟨s,t,(hB.cell (p:=⟨b,_,none⟩) hb).trans c1,(hB.cell (p:=⟨b,_,none⟩) hb).trans c2,c3,c4⟩
end Go.Proofs.YteepphiomcedfaaGreatDoor
namespace Go.Proofs.YteepphiomcedfaaGreatDoor
open Go.RowKit
end Go.Proofs.YteepphiomcedfaaGreatDoor
namespace Go.Proofs.YteepphiomcedfaaGreatDoor
open Go.RowKit
def IsCourse (w:World) (c:Value) (lo hi:Rat) (sp:List (Rat × Rat)):Prop:=∃ (s t:ByteArray) (v:Value),c=.agg #[.string s,.string t,v]∧s.data.toList=ratText lo∧t.data.toList=ratText hi∧IsSpans w v sp
theorem IsCourse.below {w w':World} {c:Value} {lo hi:Rat} {sp:List (Rat × Rat)} (h:IsCourse w c lo hi sp) (hB:Below w.heap.size w w'):IsCourse w' c lo hi sp:=by
 obtain ⟨s,t,v,h1,h2,h3,h4⟩:=h
 exact ⟨s,t,v,h1,h2,h3,h4.below hB⟩
end Go.Proofs.YteepphiomcedfaaGreatDoor
namespace Go.Proofs.YteepphiomcedfaaGreatDoor
open Go.RowKit
end Go.Proofs.YteepphiomcedfaaGreatDoor
namespace Go.Proofs.YteepphiomcedfaaGreatDoor
open Go.RowKit
end Go.Proofs.YteepphiomcedfaaGreatDoor
