/- Joined texts: WRef1, WRef2, WRef3, WRef4, WRef5. -/
import Derived.Test.YteepphiomcedfaaGreatDoorJ01
set_option maxRecDepth 100000
set_option linter.unusedVariables false
set_option linter.unusedSimpArgs false
set_option maxHeartbeats 6400000
namespace Go.Proofs.YteepphiomcedfaaGreatDoor
open Go.RowKit
def SideAt (w:World) (b o:Nat) (s:Side):Prop:=w.cell? ⟨b,o,none⟩=some (.int .i64 s.x)∧w.cell? ⟨b,o+1,none⟩=some (.int .i64 s.y)∧w.cell? ⟨b,o+2,none⟩=some (.int .i64 s.rise)∧w.cell? ⟨b,o+3,none⟩=some (.int .i64 s.run)∧w.cell? ⟨b,o+4,none⟩=some (.bool s.gable)∧w.cell? ⟨b,o+5,none⟩=some (.int .i64 s.plate)∧w.cell? ⟨b,o+6,none⟩=some (.int .i64 s.over)
def IsRing (w:World) (v:Value) (l:Ring):Prop:=∃ (a:Option Addr) (cap:Nat),v=.slice a l.length cap∧(l≠[]→∃ b off,a=some ⟨b,off,none⟩∧∀ k,k < l.length→SideAt w b (off+k * 7) (sd l k))
theorem SideAt.below {w w':World} {b o:Nat} {s:Side} (h:SideAt w b o s) (hB:Below w.heap.size w w'):SideAt w' b o s:=by
 obtain ⟨h0,h1,h2,h3,h4,h5,h6⟩:=h
 exact ⟨keep hB h0,keep hB h1,keep hB h2,keep hB h3,keep hB h4,keep hB h5,keep hB h6⟩
theorem IsRing.below {w w':World} {v:Value} {l:Ring} (h:IsRing w v l) (hB:Below w.heap.size w w'):IsRing w' v l:=by
 obtain ⟨a,cap,rfl,h⟩:=h
 refine ⟨a,cap,rfl,fun hl=>?_⟩
 obtain ⟨b,off,rfl,hc⟩:=h hl
 exact ⟨b,off,rfl,fun k hk=>(hc k hk).below hB⟩
theorem IsRing.drewN {w:World} {v:Value} {l:Ring} (h:IsRing w v l) (n:Nat):IsRing (w.drewN n) v l:=h.below (bw2 (bw0 _ _) _)
def RRing (l:Ring):Prop:=∀ i,i < l.length→RSide (sd l i)
end Go.Proofs.YteepphiomcedfaaGreatDoor
namespace Go.Proofs.YteepphiomcedfaaGreatDoor
open Go.RowKit
end Go.Proofs.YteepphiomcedfaaGreatDoor
namespace Go.Proofs.YteepphiomcedfaaGreatDoor
open Go.RowKit
def touchB (a a' b b':Side):Bool:=decide (min a.x a'.x≤max b.x b'.x) && decide (min b.x b'.x≤max a.x a'.x) && decide (min a.y a'.y≤max b.y b'.y) && decide (min b.y b'.y≤max a.y a'.y)
theorem touchB_iff {a a' b b':Side}:touchB a a' b b'=true↔Touch a a' b b':=by simp [touchB,Touch,and_assoc]
end Go.Proofs.YteepphiomcedfaaGreatDoor
namespace Go.Proofs.YteepphiomcedfaaGreatDoor
open Go.RowKit
theorem insTo_hit {l:Ring} {x y:Int} {k:Nat} (h:Hit l x y k):insTo l x y (k+1)=!insTo l x y k:=by simp [insTo,h]
theorem insTo_not {l:Ring} {x y:Int} {k:Nat} (h:¬ Hit l x y k):insTo l x y (k+1)=insTo l x y k:=by simp [insTo,h]
theorem four_cases (p1 p2 p3 p4:Bool):p1=false∨(p1=true∧p2=false)∨(p1=true∧p2=true∧p3=false)∨(p1=true∧p2=true∧p3=true∧p4=false)∨(p1=true∧p2=true∧p3=true∧p4=true):=by cases p1<;>cases p2<;>cases p3<;>cases p4<;>simp
end Go.Proofs.YteepphiomcedfaaGreatDoor
namespace Go.Proofs.YteepphiomcedfaaGreatDoor
open Go.RowKit
end Go.Proofs.YteepphiomcedfaaGreatDoor
