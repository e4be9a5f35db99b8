/- Walks: Flow and Size of the program and of the reference (kingpostref50) at any texts of at most 20 bytes and any tables. -/
import Derived.Test.YteepphiomcedfaaGreatDoorJ26
import Derived.Test.YteepphiomcedfaaGreatDoorJ25
import Derived.Test.YteepphiomcedfaaGreatDoorWSizes50
set_option maxRecDepth 100000
set_option linter.unusedVariables false
set_option linter.unusedSimpArgs false
set_option maxHeartbeats 6400000
namespace Go.Proofs.YteepphiomcedfaaGreatDoor
open Go.RowKit
open Classical in
noncomputable def qOf (s:ByteArray):Rat:=if h:IsNum s then Classical.choose h else 0
open Classical in
theorem qOf_spec {s:ByteArray} (h:IsNum s):s.data.toList=ratText (qOf s)∧Sz 300 (qOf s):=by
 unfold qOf
 rw [dif_pos h]
 exact Classical.choose_spec h
theorem rOf1_ok (n:Int) (w:World) (h0 : -1000000000≤n) (h1:n≤1000000000) :
  Calls Tryz.prog 54 #[.int .i64 n,.int .i64 1] w (RetB (.tuple #[.string (numS (n:Rat)),.int .i64 0]) w):=by
 have HQ:=Lib.hid (fun W=>quick02_ok n 1 W (by omega) (by omega) (by omega))
 have HE:Hid (Rat.divInt n 1=(n:Rat)):=Lib.hid (by rw [show (1:Int)=((1:Nat):Int) from rfl,Rat.divInt_ofNat,Rat.mkRat_one])
 go_enter Tryz.func54,Tryz.ntmps54
 go_wp2_with fail
 refine (HQ.out _).mono ?_
 rintro e w1 ⟨r,hr,rfl,hB⟩
 rw [HE.out] at hr
 obtain rfl:=numS_of hr
 clear hr
 go_wp2_with fail
 go_ret2
 exact ⟨rfl,qbl⟩
end Go.Proofs.YteepphiomcedfaaGreatDoor
