/- Joined texts: WRef1, WRef2, WRef3, WRef4, WRef5. -/
import Derived.Test.YteepphiomcedfaaGreatDoorJ01
set_option maxRecDepth 100000
set_option linter.unusedVariables false
set_option linter.unusedSimpArgs false
set_option maxHeartbeats 6400000
namespace Go.Proofs.YteepphiomcedfaaGreatDoor
open Go.RowKit
def SideAt (w:World) (b o:Nat) (s:Side):Prop:=w.cell? ⟨b,o,none⟩=some (.int .i64 s.x)∧w.cell? ⟨b,o+1,none⟩=some (.int .i64 s.y)∧w.cell? ⟨b,o+2,none⟩=some (.int .i64 s.rise)∧w.cell? ⟨b,o+3,none⟩=some (.int .i64 s.run)∧w.cell? ⟨b,o+4,none⟩=some (.bool s.gable)∧w.cell? ⟨b,o+5,none⟩=some (.int .i64 s.plate)∧w.cell? ⟨b,o+6,none⟩=some (.int .i64 s.over)
def IsRing (w:World) (v:Value) (l:Ring):Prop:=∃ (a:Option Addr) (cap:Nat),v=.slice a l.length cap∧(l≠[]→∃ b off,a=some ⟨b,off,none⟩∧∀ k,k < l.length→SideAt w b (off+k * 7) (sd l k))
theorem SideAt.below {w w':World} {b o:Nat} {s:Side} (h:SideAt w b o s) (hB:Below w.heap.size w w'):SideAt w' b o s:=by
 obtain ⟨h0,h1,h2,h3,h4,h5,h6⟩:=h
 exact ⟨keep hB h0,keep hB h1,keep hB h2,keep hB h3,keep hB h4,keep hB h5,keep hB h6⟩
theorem IsRing.below {w w':World} {v:Value} {l:Ring} (h:IsRing w v l) (hB:Below w.heap.size w w'):IsRing w' v l:=by
 obtain ⟨a,cap,rfl,h⟩:=h
 refine ⟨a,cap,rfl,fun hl=>?_⟩
 obtain ⟨b,off,rfl,hc⟩:=h hl
 exact ⟨b,off,rfl,fun k hk=>(hc k hk).below hB⟩
theorem IsRing.drewN {w:World} {v:Value} {l:Ring} (h:IsRing w v l) (n:Nat):IsRing (w.drewN n) v l:=h.below (bw2 (bw0 _ _) _)
end Go.Proofs.YteepphiomcedfaaGreatDoor
namespace Go.Proofs.YteepphiomcedfaaGreatDoor
open Go.RowKit
end Go.Proofs.YteepphiomcedfaaGreatDoor
namespace Go.Proofs.YteepphiomcedfaaGreatDoor
open Go.RowKit
end Go.Proofs.YteepphiomcedfaaGreatDoor
namespace Go.Proofs.YteepphiomcedfaaGreatDoor
open Go.RowKit
end Go.Proofs.YteepphiomcedfaaGreatDoor
namespace Go.Proofs.YteepphiomcedfaaGreatDoor
open Go.RowKit
end Go.Proofs.YteepphiomcedfaaGreatDoor
