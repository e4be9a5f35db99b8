/- Joined texts: WRidA, WOpenT, WOpenL, WRidC, WGlo5, WRidGr, WLRow, WRidK, WRidL, WPair. -/
import Derived.Test.YthihcjgmlbnapaaGreatDoorJ15
import Derived.Test.YthihcjgmlbnapaaGreatDoorJ11
import Derived.Test.YthihcjgmlbnapaaGreatDoorJ01
import Derived.Deep.SlicePairs
import Derived.Deep.Matrix
import Derived.Deep.Slices
import Derived.SizedLaws
import Derived.Maps.Keyed
import Derived.LaidMore
import Derived.LaidHandle
import Derived.WideKeyElems2
import Derived.Test.YthihcjgmlbnapaaGreatDoorJ04
import Derived.Test.YthihcjgmlbnapaaGreatDoorJ10
set_option maxRecDepth 100000
set_option linter.unusedVariables false
set_option linter.unusedSimpArgs false
set_option maxHeartbeats 12800000
namespace Go.Proofs.YthihcjgmlbnapaaGreatDoor
open Go.RowKit Go.Shelf
theorem rLong_ok {q:Rat} (s:ByteArray) (w:World) (hG:Glo w) (hs:IsN 30 s q) :
  Calls Tryz.prog 46 #[.string s] w (RetB (.bool false) w):=by
 obtain ⟨hs,hq⟩:=hs
 have HPA:=Lib.hid (PartsQ_ok (k:=30) s w hG hs hq (by decide))
 have l1:=len_of_lt hq.1 (by decide)
 have l2:=len_of_lt hq.2 (by decide)
 have HTR:=Lib.hid (fun (a:ByteArray) W (ha:a.data.toList=Lib.itoa q.num)=>trimPrefix_any a ⟨#[45]⟩ W (trimMinus ha))
 have HL:=Lib.hid (fun (z:ByteArray) (hz:Hid (z.data.toList=Lib.decDigits q.num.natAbs))=>(by
  have h1:z.size=z.data.toList.length:=rfl
  rw [h1,hz.out]
  omega:¬ (36:Int) < (z.size:Int)))
 have HK:=Lib.hid (fun (z:ByteArray) (hz:Hid (z.data.toList=Lib.decDigits q.den))=>(by
  have h1:z.size=z.data.toList.length:=rfl
  rw [h1,hz.out]
  omega:¬ (36:Int) < (z.size:Int)))
 clear hs hG hq l1 l2
 go_enter Tryz.func46,Tryz.ntmps46
 go_wp2_with fail
 refine HPA.out.mono ?_
 rintro e w1 ⟨a,b,ha,hb,rfl,hB1⟩
 go_wp2_with fail
 refine (HTR.out a _ ha.out).mono ?_
 rintro e wn ⟨z,hz,rfl,rfl⟩
 have hzl:=HL.out z hz
 have hbl:=HK.out b hb
 go_wp2_with fail
 go_ret
 exact ⟨by simp [hzl,hbl],hB1⟩
theorem two_ok (l r:Int) (w:World):Calls Tryz.prog 275 #[.int .i64 l,.int .i64 r] w (RetB (.bool (decide (0≤l∧0≤r∧l≠r))) w):=by
 by_cases h1:0≤l
 ·by_cases h2:0≤r
  ·by_cases h3:l=r
   ·subst h3
    go_enter Tryz.func275,Tryz.ntmps275
    go_wp2_with fail
    go_ret
    exact ⟨by simp,bw0 _ _⟩
   ·go_enter Tryz.func275,Tryz.ntmps275
    go_wp2_with fail
    go_ret
    exact ⟨by simp [h1,h2,h3],bw0 _ _⟩
  ·have h2':r < 0:=by omega
   go_enter Tryz.func275,Tryz.ntmps275
   go_wp2_with fail
   go_ret
   exact ⟨by simp;omega,bw0 _ _⟩
 ·have h1':l < 0:=by omega
  go_enter Tryz.func275,Tryz.ntmps275
  go_wp2_with fail
  go_ret
  exact ⟨by simp;omega,bw0 _ _⟩
theorem level1_ok (w:World):Calls Tryz.prog 48 #[.int .i64 1] w (RetB (.bool true) w):=by
 go_enter Tryz.func48,Tryz.ntmps48
 go_wp2_with fail
 go_ret
 exact ⟨rfl,bw0 _ _⟩
theorem level2_ok (w:World):Calls Tryz.prog 48 #[.int .i64 2] w (RetB (.bool false) w):=by
 go_enter Tryz.func48,Tryz.ntmps48
 go_wp2_with fail
 go_ret
 exact ⟨rfl,bw0 _ _⟩
theorem Tryz.infoPoint:(Tryz.prog.info? 105).map (·.size)=some 2:=by kernel_rfl
theorem point_ok (x y z:ByteArray) (w:World):Calls Tryz.prog 47 #[.agg #[.string x,.string y,.string z]] w (RetB (.agg #[.string x,.string y]) w):=by
 have x0:BoxT2 105 ((w.alloc (.cells #[.string x,.string y,.string z] 38)).alloc (.cells #[.string ⟨#[]⟩,.string ⟨#[]⟩] 105)) (w.heap.size+1) (.string ⟨#[]⟩) (.string ⟨#[]⟩):=BoxT2.new (by simp)
 have hb:Below w.heap.size w ((w.alloc (.cells #[.string x,.string y,.string z] 38)).alloc (.cells #[.string ⟨#[]⟩,.string ⟨#[]⟩] 105)):=qbl
 go_enter Tryz.func47,Tryz.ntmps47
 go_wp2_with (refine wpList_store2 rfl _ _ _ rfl x0 Tryz.infoPoint rfl rfl rfl rfl ?_;intro W hS hx2;have hbW:=hS.below hb (by omega);have f0:=hx2.c0;have f1:=hx2.c1;clear hS)
 refine bodyPost_ret (v:=.agg #[.string x,.string y]) (by simp [results,Tryz.results47,go_sem,f0,f1]) rfl ?_
 exact ⟨rfl,hbW⟩
theorem pointEq (c r c0 r0:ByteArray) (W:World):(Go.binOp .eql 105 (.agg #[.string c,.string r]) (.agg #[.string c0,.string r0])).run Tryz.prog W=.ok (.bool ((c.toList == c0.toList) && (r.toList == r0.toList))) W:=by
 have hu:=Tryz.underlying105
 have hn:=Tryz.underlying36
 cases h1:(c.toList == c0.toList)<;>cases h2:(r.toList == r0.toList)<;>simp [go_sem,hu,hn,h1,h2]
theorem RCheckN_ok (s:ByteArray) (w:World) (hG:Glo w) (hs:s.size≤1000):Calls Tryz.prog 23 #[.string s] w (RetC0 (IsNum s) w):=by
 by_cases h:IsNum s
 ·obtain ⟨q,h1,h2⟩:=id h
  refine (RCheck_ok s w hG h1 h2 (by omega)).mono ?_
  rintro e w' ⟨rfl,hB⟩
  exact ⟨0,rfl,Lib.hid ⟨fun _=>h,fun _=>rfl⟩,hB⟩
 ·refine (RCheck_bad s w hG hs h).mono ?_
  rintro e w' ⟨c,rfl,h1,h2,hB⟩
  exact ⟨c,rfl,Lib.hid ⟨fun h'=>absurd h' h1,fun h'=>absurd h' h⟩,hB⟩
theorem vCheckA_ok (x y z:ByteArray) (w:World) (hG:Glo w) (hx:x.size≤1000) (hy:y.size≤1000) (hz:z.size≤1000) :
  Calls Tryz.prog 44 #[.agg #[.string x,.string y,.string z]] w (RetC0 (IsNum x∧IsNum y∧IsNum z) w):=by
 have HX:=Lib.hid (fun W hG=>RCheckN_ok x W hG hx)
 have HY:=Lib.hid (fun W hG=>RCheckN_ok y W hG hy)
 have HZ:=Lib.hid (fun W hG=>RCheckN_ok z W hG hz)
 have HV:=Lib.hid (fun W=>vList_ok x y z W)
 have hi0:=fun W=>(spot_index x y z W).1
 have hi1:=fun W=>(spot_index x y z W).2.1
 have hi2:=fun W=>(spot_index x y z W).2.2
 have HG:=Lib.hid hG
 generalize IsNum x=X at *
 generalize IsNum y=Y at *
 generalize IsNum z=Z at *
 clear hG hx hy hz
 go_enter Tryz.func44,Tryz.ntmps44
 go_wp2_with fail
 refine (HV.out _).mono ?_
 rintro e w1 ⟨rfl,hB1⟩
 have hb1:Below w.heap.size w w1:=below_trans' qbl hB1
 clear hB1
 go_wp2_with fail
 go_loopw [8] (fun i wr=>Below w.heap.size w wr∧(i=.int .i64 0∨(i=.int .i64 1∧Hid X)∨(i=.int .i64 2∧Hid (X∧Y))∨(i=.int .i64 3∧Hid (X∧Y∧Z)))) (fun i _=>3 - (intOf i).toNat)
 case atStart=>exact ⟨hb1,.inl rfl⟩
 case round =>
  obtain ⟨hB,rfl|⟨rfl,hk⟩|⟨rfl,hk⟩|⟨rfl,hk⟩⟩:=hrel
  ·go_wp2_with fail
   refine (HX.out _ (HG.out.below hB)).mono ?_
   rintro e w2 ⟨k,rfl,h1,hB2⟩
   have hb2:=below_trans' hB hB2
   by_cases h0:k=0
   ·have J:=Lib.hid (h1.out.1 h0)
    subst h0
    clear h1
    go_wp2_with fail
    go_roundw
    case rel=>exact ⟨hb2,.inr (.inl ⟨rfl,J⟩)⟩
    case measure=>simp [intOf]
   ·have J:=Lib.hid (fun h:X=>h0 (h1.out.2 h))
    clear h1
    go_wp2_with fail
    go_ret
    exact ⟨k,rfl,Lib.hid ⟨fun h=>absurd h h0,fun h=>absurd h.1 J.out⟩,hb2⟩
  ·go_wp2_with fail
   refine (HY.out _ (HG.out.below hB)).mono ?_
   rintro e w2 ⟨k,rfl,h1,hB2⟩
   have hb2:=below_trans' hB hB2
   by_cases h0:k=0
   ·have J:Hid (X∧Y):=Lib.hid ⟨hk.out,h1.out.1 h0⟩
    subst h0
    clear h1
    go_wp2_with fail
    go_roundw
    case rel=>exact ⟨hb2,.inr (.inr (.inl ⟨rfl,J⟩))⟩
    case measure=>simp [intOf]
   ·have J:=Lib.hid (fun h:Y=>h0 (h1.out.2 h))
    clear h1
    go_wp2_with fail
    go_ret
    exact ⟨k,rfl,Lib.hid ⟨fun h=>absurd h h0,fun h=>absurd h.2.1 J.out⟩,hb2⟩
  ·go_wp2_with fail
   refine (HZ.out _ (HG.out.below hB)).mono ?_
   rintro e w2 ⟨k,rfl,h1,hB2⟩
   have hb2:=below_trans' hB hB2
   by_cases h0:k=0
   ·have J:Hid (X∧Y∧Z):=Lib.hid ⟨hk.out.1,hk.out.2,h1.out.1 h0⟩
    subst h0
    clear h1
    go_wp2_with fail
    go_roundw
    case rel=>exact ⟨hb2,.inr (.inr (.inr ⟨rfl,J⟩))⟩
    case measure=>simp [intOf]
   ·have J:=Lib.hid (fun h:Z=>h0 (h1.out.2 h))
    clear h1
    go_wp2_with fail
    go_ret
    exact ⟨k,rfl,Lib.hid ⟨fun h=>absurd h h0,fun h=>absurd h.2.2 J.out⟩,hb2⟩
  ·go_wp2_with fail
   go_ret
   exact ⟨0,rfl,Lib.hid ⟨fun _=>hk.out,fun _=>rfl⟩,hB⟩
def cmpR (p q:Rat):Int:=Lib.compareInt (p.num * (q.den:Int)) (q.num * (p.den:Int))
def cmp3 (a b c:Int):Int:=if a=0 then (if b=0 then c else b) else a
theorem vCompare_ok (x y z x' y' z':ByteArray) (p q r p' q' r':Rat) (w:World) (hG:Glo w) (hx:IsQ x p) (hy:IsQ y q) (hz:IsQ z r) (hx':IsQ x' p') (hy':IsQ y' q') (hz':IsQ z' r') :
  Calls Tryz.prog 49 #[.agg #[.string x,.string y,.string z],.agg #[.string x',.string y',.string z']] w (RetB (.tuple #[.int .i64 (cmp3 (cmpR p p') (cmpR q q') (cmpR r r')),.int .i64 0]) w):=by
 have HBO:=Lib.hid (fun W hG=>vBoth_ok x y z x' y' z' p q r p' q' r' W hG hx hy hz hx' hy' hz')
 have HL:=Lib.hid (fun a b c W=>vList_ok a b c W)
 have H1:=Lib.hid (fun W hG=>(by unfold cmpR;exact RCompare_ok x x' W hG hx.1 hx.2 hx'.1 hx'.2 (by decide):Calls Tryz.prog 30 #[.string x,.string x'] W (RetB (.tuple #[.int .i64 (cmpR p p'),.int .i64 0]) W)))
 have H2:=Lib.hid (fun W hG=>(by unfold cmpR;exact RCompare_ok y y' W hG hy.1 hy.2 hy'.1 hy'.2 (by decide):Calls Tryz.prog 30 #[.string y,.string y'] W (RetB (.tuple #[.int .i64 (cmpR q q'),.int .i64 0]) W)))
 have H3:=Lib.hid (fun W hG=>(by unfold cmpR;exact RCompare_ok z z' W hG hz.1 hz.2 hz'.1 hz'.2 (by decide):Calls Tryz.prog 30 #[.string z,.string z'] W (RetB (.tuple #[.int .i64 (cmpR r r'),.int .i64 0]) W)))
 have HG:=Lib.hid hG
 have hi0:=fun W=>(spot_index x y z W).1
 have hi1:=fun W=>(spot_index x y z W).2.1
 have hi2:=fun W=>(spot_index x y z W).2.2
 generalize cmpR p p'=A at *
 generalize cmpR q q'=B at *
 generalize cmpR r r'=C at *
 clear hG hx hy hz hx' hy' hz'
 go_enter Tryz.func49,Tryz.ntmps49
 go_wp2_with fail
 have hb0:Below w.heap.size w ((w.alloc (.cells #[.string x,.string y,.string z] 38)).alloc (.cells #[.string x',.string y',.string z'] 38)):=qbl
 have a0:BoxT3 38 ((w.alloc (.cells #[.string x,.string y,.string z] 38)).alloc (.cells #[.string x',.string y',.string z'] 38)) w.heap.size (.string x) (.string y) (.string z):=(BoxT3.new rfl).below (bw4 (bw0 _ _) _)
 have a1:BoxT3 38 ((w.alloc (.cells #[.string x,.string y,.string z] 38)).alloc (.cells #[.string x',.string y',.string z'] 38)) (w.heap.size+1) (.string x') (.string y') (.string z'):=BoxT3.new (by simp)
 generalize ((w.alloc (.cells #[.string x,.string y,.string z] 38)).alloc (.cells #[.string x',.string y',.string z'] 38))=W0 at *
 refine (HBO.out _ (HG.out.below hb0)).mono ?_
 rintro e w1 ⟨rfl,hB1⟩
 have hb1:=below_trans' hb0 hB1
 replace a0:=a0.below hB1
 replace a1:=a1.below hB1
 clear hB1 hb0 HBO
 have d0:=a1.c0
 have d1:=a1.c1
 have d2:=a1.c2
 go_wp2_with fail
 refine (HL.out x' y' z' w1).mono ?_
 rintro e w2 ⟨rfl,hB2⟩
 have hb2:=below_trans' hb1 hB2
 replace a0:=a0.below hB2
 clear hB2 hb1 d0 d1 d2 a1
 have c0:=(a0.below (bw4 (bw0 _ _) (.cells #[.string x',.string y',.string z'] 162))).c0
 have c1:=(a0.below (bw4 (bw0 _ _) (.cells #[.string x',.string y',.string z'] 162))).c1
 have c2:=(a0.below (bw4 (bw0 _ _) (.cells #[.string x',.string y',.string z'] 162))).c2
 go_wp2_with fail
 have hb3:Below w.heap.size w (w2.alloc (.cells #[.string x',.string y',.string z'] 162)):=bw4 hb2 _
 have a4:BoxT3 162 (w2.alloc (.cells #[.string x',.string y',.string z'] 162)) w2.heap.size (.string x') (.string y') (.string z'):=BoxT3.new rfl
 clear a0 c0 c1 c2 hb2
 generalize w2.alloc (.cells #[.string x',.string y',.string z'] 162)=W1 at *
 generalize w2.heap.size=m1 at *
 refine (HL.out x y z W1).mono ?_
 rintro e w3 ⟨rfl,hB3⟩
 have hb4:=below_trans' hb3 hB3
 replace a4:=a4.below hB3
 clear hB3 hb3
 go_wp2_with fail
 go_loopw [22] (fun i wr=>Below w.heap.size w wr∧BoxT3 162 wr m1 (.string x') (.string y') (.string z')∧((i=.int .i64 0)∨(i=.int .i64 1∧Hid (A=0))∨(i=.int .i64 2∧Hid (A=0∧B=0))∨(i=.int .i64 3∧Hid (A=0∧B=0∧C=0)))) (fun i _=>3 - (intOf i).toNat)
 case atStart=>exact ⟨hb4,a4,.inl rfl⟩
 case round =>
  obtain ⟨hB,b4,hst⟩:=hrel
  have c0:=b4.c0
  have c1:=b4.c1
  have c2:=b4.c2
  rcases hst with rfl|⟨rfl,hk⟩|⟨rfl,hk⟩|⟨rfl,hk⟩
  ·go_wp2_with fail
   refine (H1.out _ (HG.out.below hB)).mono ?_
   rintro e w4 ⟨rfl,hB4⟩
   have hb5:=below_trans' hB hB4
   replace b4:=b4.below hB4
   clear hB4 hB c0 c1 c2
   by_cases h0:A=0
   ·subst h0
    have J:Hid ((0:Int)=0):=Lib.hid rfl
    go_wp2_with fail
    go_roundw
    case rel=>exact ⟨hb5,b4,.inr (.inl ⟨rfl,J⟩)⟩
    case measure=>simp [intOf]
   ·go_wp2_with fail
    refine bodyPost_ret (v:=.tuple #[.int .i64 A,.int .i64 0]) (by simp [results,Tryz.results49,go_sem]) rfl ?_
    exact ⟨by rw [show cmp3 A B C=A from (by unfold cmp3;rw [if_neg h0])],hb5⟩
  ·go_wp2_with fail
   refine (H2.out _ (HG.out.below hB)).mono ?_
   rintro e w4 ⟨rfl,hB4⟩
   have hb5:=below_trans' hB hB4
   replace b4:=b4.below hB4
   clear hB4 hB c0 c1 c2
   by_cases h0:B=0
   ·subst h0
    have J:Hid (A=0∧(0:Int)=0):=Lib.hid ⟨hk.out,rfl⟩
    go_wp2_with fail
    go_roundw
    case rel=>exact ⟨hb5,b4,.inr (.inr (.inl ⟨rfl,J⟩))⟩
    case measure=>simp [intOf]
   ·go_wp2_with fail
    refine bodyPost_ret (v:=.tuple #[.int .i64 B,.int .i64 0]) (by simp [results,Tryz.results49,go_sem]) rfl ?_
    exact ⟨by rw [show cmp3 A B C=B from (by unfold cmp3;rw [if_pos hk.out,if_neg h0])],hb5⟩
  ·go_wp2_with fail
   refine (H3.out _ (HG.out.below hB)).mono ?_
   rintro e w4 ⟨rfl,hB4⟩
   have hb5:=below_trans' hB hB4
   replace b4:=b4.below hB4
   clear hB4 hB c0 c1 c2
   by_cases h0:C=0
   ·subst h0
    have J:Hid (A=0∧B=0∧(0:Int)=0):=Lib.hid ⟨hk.out.1,hk.out.2,rfl⟩
    go_wp2_with fail
    go_roundw
    case rel=>exact ⟨hb5,b4,.inr (.inr (.inr ⟨rfl,J⟩))⟩
    case measure=>simp [intOf]
   ·go_wp2_with fail
    refine bodyPost_ret (v:=.tuple #[.int .i64 C,.int .i64 0]) (by simp [results,Tryz.results49,go_sem]) rfl ?_
    exact ⟨by rw [show cmp3 A B C=C from (by unfold cmp3;rw [if_pos hk.out.1,if_pos hk.out.2])],hb5⟩
  ·go_wp2_with fail
   refine bodyPost_ret (v:=.tuple #[.int .i64 0,.int .i64 0]) (by simp [results,Tryz.results49,go_sem]) rfl ?_
   exact ⟨by rw [show cmp3 A B C=0 from (by unfold cmp3;rw [if_pos hk.out.1,if_pos hk.out.2.1];exact hk.out.2.2)],hB⟩
end Go.Proofs.YthihcjgmlbnapaaGreatDoor
namespace Go.Proofs.YthihcjgmlbnapaaGreatDoor
open Go.ChangeShapes Go.WideShapes Go.ChangeAt Go.RowKit Go.Deep
theorem choose_ltT {α:Type} [Inhabited α] {n:Nat} {P:Nat→α→Prop} (h:∀ i,i < n→∃ x,P i x):∃ f:Nat→α,∀ i,i < n→P i (f i):=by
 classical
 exact ⟨fun i=>if hi:i < n then (h i hi).choose else default,fun i hi=>by simp only [hi,dif_pos];exact (h i hi).choose_spec⟩
theorem at_noneT {W:World} {a:Addr} {v:Value} (h:W.cell? a=some v):a=⟨a.block,a.off,none⟩:=by
 obtain ⟨b,o,s⟩:=a
 cases s with
 | none=>rfl
 | some x=>simp [World.cell?] at h;split at h<;>simp_all
theorem addr_addO (b off j:Nat):Addr.add ⟨b,off,none⟩ j=⟨b,off+j,none⟩:=by
 unfold Addr.add
 by_cases h:j=0
 ·simp [h]
 ·simp [h]
end Go.Proofs.YthihcjgmlbnapaaGreatDoor
namespace Go.Proofs.YthihcjgmlbnapaaGreatDoor
open Go.ChangeShapes Go.WideShapes Go.ChangeAt Go.RowKit Go.Deep
structure LineD where
 k:Int
 a:ByteArray
 b:ByteArray
 c:ByteArray
 d:ByteArray
 e:ByteArray
 f:ByteArray
 l:Int
 r:Int
instance:Inhabited LineD:=⟨⟨0,⟨#[]⟩,⟨#[]⟩,⟨#[]⟩,⟨#[]⟩,⟨#[]⟩,⟨#[]⟩,0,0⟩⟩
def LineD.cells (x:LineD):List Value:=[.int .i64 x.k,.string x.a,.string x.b,.string x.c,.string x.d,.string x.e,.string x.f,.int .i64 x.l,.int .i64 x.r]
def LineD.value (x:LineD):Value:=.agg #[.int .i64 x.k,.string x.a,.string x.b,.string x.c,.string x.d,.string x.e,.string x.f,.int .i64 x.l,.int .i64 x.r]
def LineAt (w:World) (b o:Nat) (x:LineD):Prop:=∀ j,j < 9→w.cell? ⟨b,o+j,none⟩=x.cells[j]?
def IsLines (w:World) (v:Value) (L:List LineD):Prop:=∃ (a:Option Addr) (cap:Nat),v=.slice a L.length cap∧L.length≤cap∧(L≠[]→∃ b off,a=some ⟨b,off,none⟩∧∀ k (h:k < L.length),LineAt w b (off+k * 9) L[k])
theorem Tryz.cellsSpot:Tryz.prog.cellsOf 38=3:=by kernel_rfl
theorem Tryz.cellsLine:Tryz.prog.cellsOf 40=9:=by kernel_rfl
theorem Tryz.cellsNum:Tryz.prog.cellsOf 36=1:=by kernel_rfl
theorem Tryz.cellsInt:Tryz.prog.cellsOf 3=1:=by kernel_rfl
section
variable {H:Type} {enc:TypeId × Value→H} {W:World}
theorem open_spot {n:Nat} {u0 u1 u2:Value} {x:DataW H × List MemPlace} (h2:DataW.trod enc Tryz.prog W 0 (fun _=>true) true n 38 [u0,u1,u2]=some x):∃ a b c:ByteArray,u0=.string a∧u1=.string b∧u2=.string c:=by
 obtain ⟨xs,k,_,_,_,hxl,hf⟩:=DataW.trod_struct Tryz.underlying38 h2
 have get:∀ i,i < 3→∃ y,xs[i]?=some y:=fun i hi=>⟨_,List.getElem?_eq_getElem (by rw [hxl];exact hi)⟩
 obtain ⟨y0,e0⟩:=get 0 (by omega)
 obtain ⟨y1,e1⟩:=get 1 (by omega)
 obtain ⟨y2,e2⟩:=get 2 (by omega)
 have g0:DataW.trod enc Tryz.prog W 0 (fun _=>true) true k 36 [u0]=some y0:=by
  have h:DataW.trod enc Tryz.prog W 0 (fun _=>true) true k 36 (([u0,u1,u2].drop 0).take (Tryz.prog.cellsOf 36))=some y0:=(hf 0 _ rfl).trans e0
  rw [Tryz.cellsNum] at h
  exact h
 have g1:DataW.trod enc Tryz.prog W 0 (fun _=>true) true k 36 [u1]=some y1:=by
  have h:DataW.trod enc Tryz.prog W 0 (fun _=>true) true k 36 (([u0,u1,u2].drop 1).take (Tryz.prog.cellsOf 36))=some y1:=(hf 1 _ rfl).trans e1
  rw [Tryz.cellsNum] at h
  exact h
 have g2:DataW.trod enc Tryz.prog W 0 (fun _=>true) true k 36 [u2]=some y2:=by
  have h:DataW.trod enc Tryz.prog W 0 (fun _=>true) true k 36 (([u0,u1,u2].drop 2).take (Tryz.prog.cellsOf 36))=some y2:=(hf 2 _ rfl).trans e2
  rw [Tryz.cellsNum] at h
  exact h
 obtain ⟨a,q0,_⟩:=DataW.trod_string Tryz.underlying36 g0
 obtain ⟨b,q1,_⟩:=DataW.trod_string Tryz.underlying36 g1
 obtain ⟨c,q2,_⟩:=DataW.trod_string Tryz.underlying36 g2
 simp only [List.cons.injEq,and_true] at q0 q1 q2
 exact ⟨a,b,c,q0,q1,q2⟩
theorem open_line {n:Nat} {cs:List Value} {x:DataW H × List MemPlace} (hl:cs.length=9) (h2:DataW.trod enc Tryz.prog W 0 (fun _=>true) true n 40 cs=some x):∃ D:LineD,cs=D.cells:=by
 obtain ⟨xs,k,_,_,_,hxl,hf⟩:=DataW.trod_struct Tryz.underlying40 h2
 match cs,hl with
 | [v0,v1,v2,v3,v4,v5,v6,v7,v8],_ =>
  have get:∀ i,i < 5→∃ y,xs[i]?=some y:=fun i hi=>⟨_,List.getElem?_eq_getElem (by rw [hxl];exact hi)⟩
  obtain ⟨y0,e0⟩:=get 0 (by omega)
  obtain ⟨y1,e1⟩:=get 1 (by omega)
  obtain ⟨y2,e2⟩:=get 2 (by omega)
  obtain ⟨y3,e3⟩:=get 3 (by omega)
  obtain ⟨y4,e4⟩:=get 4 (by omega)
  have g0:DataW.trod enc Tryz.prog W 0 (fun _=>true) true k 3 [v0]=some y0:=by
   have h:DataW.trod enc Tryz.prog W 0 (fun _=>true) true k 3 (([v0,v1,v2,v3,v4,v5,v6,v7,v8].drop 0).take (Tryz.prog.cellsOf 3))=some y0:=(hf 0 _ rfl).trans e0
   rw [Tryz.cellsInt] at h
   exact h
  have g1:DataW.trod enc Tryz.prog W 0 (fun _=>true) true k 38 [v1,v2,v3]=some y1:=by
   have h:DataW.trod enc Tryz.prog W 0 (fun _=>true) true k 38 (([v0,v1,v2,v3,v4,v5,v6,v7,v8].drop 1).take (Tryz.prog.cellsOf 38))=some y1:=(hf 1 _ rfl).trans e1
   rw [Tryz.cellsSpot] at h
   exact h
  have g2:DataW.trod enc Tryz.prog W 0 (fun _=>true) true k 38 [v4,v5,v6]=some y2:=by
   have h:DataW.trod enc Tryz.prog W 0 (fun _=>true) true k 38 (([v0,v1,v2,v3,v4,v5,v6,v7,v8].drop 4).take (Tryz.prog.cellsOf 38))=some y2:=(hf 2 _ rfl).trans e2
   rw [Tryz.cellsSpot] at h
   exact h
  have g3:DataW.trod enc Tryz.prog W 0 (fun _=>true) true k 3 [v7]=some y3:=by
   have h:DataW.trod enc Tryz.prog W 0 (fun _=>true) true k 3 (([v0,v1,v2,v3,v4,v5,v6,v7,v8].drop 7).take (Tryz.prog.cellsOf 3))=some y3:=(hf 3 _ rfl).trans e3
   rw [Tryz.cellsInt] at h
   exact h
  have g4:DataW.trod enc Tryz.prog W 0 (fun _=>true) true k 3 [v8]=some y4:=by
   have h:DataW.trod enc Tryz.prog W 0 (fun _=>true) true k 3 (([v0,v1,v2,v3,v4,v5,v6,v7,v8].drop 8).take (Tryz.prog.cellsOf 3))=some y4:=(hf 4 _ rfl).trans e4
   rw [Tryz.cellsInt] at h
   exact h
  obtain ⟨n0,q0,_⟩:=DataW.trod_int Tryz.underlying3 g0
  obtain ⟨n7,q7,_⟩:=DataW.trod_int Tryz.underlying3 g3
  obtain ⟨n8,q8,_⟩:=DataW.trod_int Tryz.underlying3 g4
  obtain ⟨a,b,c,rfl,rfl,rfl⟩:=open_spot g1
  obtain ⟨d,e,f,rfl,rfl,rfl⟩:=open_spot g2
  simp only [List.cons.injEq,and_true] at q0 q7 q8
  subst q0 q7 q8
  exact ⟨⟨n0,a,b,c,d,e,f,n7,n8⟩,rfl⟩
theorem open_lines {base:Nat} {v:Value} {d:DataW H} {p:List MemPlace} (hval:Value.okWide Tryz.prog W .any base 22 v) (hd:DataW.Trod enc Tryz.prog W 0 (fun _=>true) true 22 v d p):∃ L:List LineD,IsLines W v L∧L.length≤maxLen:=by
 obtain ⟨a0,len0,cap0,rfl⟩:=okWide_slice Tryz.underlying22 hval
 obtain ⟨fuel,h⟩:=hd
 rcases open_slice Tryz.underlying22 h with ⟨hv,_⟩|⟨a,len,cap,m,n',D,Pl,hv,_,hlc,hcm,hm,hx,hel⟩
 ·simp [Value.cells] at hv
  obtain ⟨rfl,rfl,rfl⟩:=hv
  exact ⟨[],⟨none,0,rfl,Nat.zero_le _,fun h=>absurd rfl h⟩,Nat.zero_le _⟩
 ·simp [Value.cells] at hv
  obtain ⟨rfl,rfl,rfl⟩:=hv
  simp only [if_true] at hm
  subst hm
  have each:∀ i,i < m→∃ s:LineD,∀ j,j < 9→W.cell? ((a.add (i * 9)).add j)=s.cells[j]?:=by
   intro i hi
   obtain ⟨cs,h1,h2⟩:=hel i hi
   rw [Tryz.cellsLine] at h1
   obtain ⟨_,hcl,hc⟩:=World.cells?_some h1
   obtain ⟨s,hs⟩:=open_line hcl h2
   exact ⟨s,fun j hj=>by rw [← hs];exact hc j hj⟩
  obtain ⟨T,hT⟩:=choose_ltT each
  refine ⟨(List.range len0).map T,⟨some a,m,by simp,by simp;omega,fun hl=>?_⟩,by simp;omega⟩
  have h0:0 < len0:=by
   rcases Nat.eq_zero_or_pos len0 with h0|h0
   ·subst h0;simp at hl
   ·exact h0
  have ha:a=⟨a.block,a.off,none⟩:=at_noneT (v:=.int .i64 (T 0).k) (by have h:=hT 0 (by omega) 0 (by omega);rw [show (a.add (0 * 9)).add 0=a by simp [Addr.add]] at h;exact h)
  refine ⟨a.block,a.off,by rw [← ha],fun k hk j hj=>?_⟩
  have hk':k < len0:=by simpa using hk
  have:=hT k (by omega) j hj
  rw [ha,addr_addO,addr_addO] at this
  simpa using this
end
end Go.Proofs.YthihcjgmlbnapaaGreatDoor
namespace Go.Proofs.YthihcjgmlbnapaaGreatDoor
open Go.RowKit Go.Shelf
def SidesIn (w:World) (bm:Nat) (es:Array MapEntry) (clock:Nat):Prop:=w.cell? ⟨0,0,none⟩=some (.map (some bm))∧w.heap[bm]?=some (.map es clock)
def SidesOk (w:World):Prop:=∃ bm es clock,SidesIn w bm es clock∧∀ W:World,W.heap[bm]?=some (.map es clock)→∀ k:Int,k=1∨k=2→(Instr.lookup 99 (.map (some bm)) (.int .i64 k) false).run Tryz.prog W=.ok (.func (.func 275) #[] #[]) W
theorem SidesOk.below {w w':World} (h:SidesOk w) (hB:Below w.heap.size w w'):SidesOk w':=by
 obtain ⟨bm,es,clock,⟨h1,h2⟩,h3⟩:=h
 exact ⟨bm,es,clock,⟨keep hB h1,(hB.block bm (Array.getElem?_eq_some_iff.1 h2).1).trans h2⟩,h3⟩
def BoxL (W:World) (b:Nat) (x:LineD):Prop:=W.heap[b]?=some (.cells #[.int .i64 x.k,.string x.a,.string x.b,.string x.c,.string x.d,.string x.e,.string x.f,.int .i64 x.l,.int .i64 x.r] 40 (0,0))
theorem BoxL.lt {W:World} {b:Nat} {x:LineD} (h:BoxL W b x):b < W.heap.size:=(Array.getElem?_eq_some_iff.1 h).1
theorem BoxL.below {w w':World} {b:Nat} {x:LineD} (h:BoxL w b x) (hB:Below w.heap.size w w'):BoxL w' b x:=(hB.block b h.lt).trans h
theorem BoxL.new {X:World} {n:Nat} {x:LineD} (h:X.heap.size=n):BoxL (X.alloc (.cells #[.int .i64 x.k,.string x.a,.string x.b,.string x.c,.string x.d,.string x.e,.string x.f,.int .i64 x.l,.int .i64 x.r] 40)) n x:=by subst h;exact World.alloc_heap_new _ _
theorem BoxL.cs {W:World} {b:Nat} {x:LineD} (h:BoxL W b x):W.cell? ⟨b,0,none⟩=some (.int .i64 x.k)∧W.cell? ⟨b,1,none⟩=some (.string x.a)∧W.cell? ⟨b,2,none⟩=some (.string x.b)∧W.cell? ⟨b,3,none⟩=some (.string x.c)∧W.cell? ⟨b,4,none⟩=some (.string x.d)∧W.cell? ⟨b,5,none⟩=some (.string x.e)∧W.cell? ⟨b,6,none⟩=some (.string x.f)∧W.cell? ⟨b,7,none⟩=some (.int .i64 x.l)∧W.cell? ⟨b,8,none⟩=some (.int .i64 x.r):=by
 simp only [World.cell?,show W.heap[b]?=_ from h]
 exact ⟨rfl,rfl,rfl,rfl,rfl,rfl,rfl,rfl,rfl⟩
noncomputable def numV (s:ByteArray):Rat:=open Classical in if h:IsNum s then h.choose else 0
theorem numV_is {s:ByteArray} (h:IsNum s):s.data.toList=ratText (numV s):=by
 unfold numV;rw [dif_pos h];exact h.choose_spec.1
theorem numV_sz {s:ByteArray} {k:Nat} (h:IsNum s) (hs:s.size≤k) (h1:1≤k):Sz k (numV s):=by
 have e:=numV_is h
 have hl:s.size=s.data.toList.length:=rfl
 rw [e,ratText_parts] at hl
 simp only [List.length_append] at hl
 refine ⟨?_,?_⟩
 ·exact lenSz (by omega)
 ·by_cases hd:(numV s).den=1
  ·rw [hd];exact Nat.one_lt_pow (by omega) (by decide)
  ·rw [if_neg hd] at hl
   simp only [List.length_cons] at hl
   exact lenSz (by omega)
theorem numV_in {s:ByteArray} {k:Nat} (h:IsNum s) (hs:s.size≤k) (h1:1≤k):IsN k s (numV s):=⟨numV_is h,numV_sz h hs h1⟩
def LineS (x:LineD):Prop:=x.a.size≤30∧x.b.size≤30∧x.c.size≤30∧x.d.size≤30∧x.e.size≤30∧x.f.size≤30
def LineN (x:LineD):Prop:=(IsNum x.a∧IsNum x.b∧IsNum x.c)∧IsNum x.d∧IsNum x.e∧IsNum x.f
def RidOk (x:LineD):Prop:=LineN x∧((x.a.toList == x.d.toList) && (x.b.toList == x.e.toList))=false∧(-1≤x.l∧-1≤x.r∧x.l < 24∧x.r < 24)∧(0≤x.l∧0≤x.r∧x.l≠x.r) ∧
 (x.k=1→cmp3 (cmpR (numV x.a) (numV x.d)) (cmpR (numV x.b) (numV x.e)) (cmpR (numV x.c) (numV x.f)) < 0∧(x.c.toList == x.f.toList)=true)∧(x.k=2→cmpR (numV x.c) (numV x.f) < 0)
end Go.Proofs.YthihcjgmlbnapaaGreatDoor
namespace Go.Proofs.YthihcjgmlbnapaaGreatDoor
open Go.RowKit
theorem gSides : Tryz.prog.globalNamed "kingpost/ridgeline.sides" = some 0 := by kernel_rfl
theorem tSides:(Tryz.prog.globals[0]?).map (·.type)=some 99:=by kernel_rfl
theorem zeroFn (w:World):(zeroValue 98).run Tryz.prog w=.ok .nilFunc w:=by kernel_rfl
theorem cells_func {P:Program} {t:TypeId} {ps rs:Array TypeId} {va:Bool} {v:Value} (ht:P.underlying t=some (.func ps rs va)) (h:v.formed P t=true):v.cells.toList=[v]:=by
 cases v<;>simp [Value.formed,ht] at h<;>simp [Value.cells]
theorem one_of_list {cs:Array Value} {v:Value} (h:cs.toList=[v]):cs=#[v]:=by
 cases cs with|mk l=>simp at h;rw [h]
abbrev twoB:List UInt8:=[107,105,110,103,112,111,115,116,47,114,105,100,103,101,108,105,110,101,46,116,119,111]
abbrev oneB:List UInt8:=[107,105,110,103,112,111,115,116,47,114,105,100,103,101,108,105,110,101,46,111,110,101]
def sidesD:DataW (List UInt8):=.map [(.int .i64 1,.held twoB),(.int .i64 2,.held twoB),(.int .i64 3,.held twoB),(.int .i64 4,.held oneB),(.int .i64 5,.held oneB),(.int .i64 6,.held twoB),(.int .i64 7,.held oneB),(.int .i64 8,.held oneB)]
theorem sidesD_at (k:Int) (h:k=1∨k=2) (z:DataW (List UInt8)):sidesD.atKey (.int .i64 k) z=.held twoB:=by
 rcases h with rfl|rfl<;>rfl
theorem wfKey (k:Int) (h:k=1∨k=2):(Lit.int .i64 k).wf=true:=by
 rcases h with rfl|rfl<;>decide
theorem oneTwo:((List.range Tryz.prog.funcs.size).filter fun f=>(Tryz.prog.funcs[f]?).any (·.name.toUTF8.data.toList == twoB))=[275]:=by kernel_rfl
theorem sides_of {W:World} (h:laidMetH Tryz.prog Rows.tilecountRidgesRow.laid W):SidesOk W:=by
 obtain ⟨g, t, cs, fuel, p, hg, ht, hv, hd⟩ := h.funcs (n := "kingpost/ridgeline.sides") (List.mem_cons_of_mem _ (List.mem_cons_of_mem _ (List.mem_cons_of_mem _ (List.mem_cons_of_mem _ (List.mem_cons_of_mem _ (List.mem_cons_of_mem _ (List.mem_cons_of_mem _ (List.mem_cons_of_mem _ (List.mem_cons_self)))))))))
 obtain rfl:=Option.some.inj (gSides.symm.trans hg)
 obtain rfl:=Option.some.inj (tSides.symm.trans ht)
 have hd':DataW.trod (funcToken Tryz.prog) Tryz.prog W 0 (fun _=>true) true fuel 99 cs.toList=some (sidesD,p):=hd
 rcases WideElems.open_map Tryz.underlying99 hd' with ⟨_,hx⟩|⟨b,es,clock,n,rfl,hcs,hb,_,F,hx⟩
 ·cases hx
 ·obtain ⟨hD,_⟩:=Prod.mk.inj hx
  refine ⟨b,es,clock,⟨?_,hb⟩,fun W' hW' k hk=>?_⟩
  ·have h1:=World.var?_cell hg hv 0
   rw [one_of_list hcs] at h1
   simpa using h1
  ·rcases Maps.fit_look (w:=W') false (Maps.int_keyed Tryz.underlying3) Tryz.underlying99 (z:=.nilFunc) (zeroFn W') hW' F (Maps.keyOf_int_mk Tryz.underlying3 (wfKey k hk)) with ⟨_,_,hat⟩|⟨e0,y,_,_,hrun,hR,hat,_⟩
   ·have h1:=hat .nil
    rw [← hD,sidesD_at k hk] at h1
    cases h1
   ·have h1:=hat .nil
    rw [← hD,sidesD_at k hk] at h1
    obtain ⟨y1,y2⟩:=y
    dsimp only at h1
    subst h1
    unfold WideElems.elemAt at hR
    split at hR
    ·rename_i hf
     rw [cells_func Tryz.underlying98 hf] at hR
     have e:=func_of_trod (f0:=275) Tryz.underlying98 oneTwo hR
     rw [hrun,e]
     rfl
    ·cases hR
theorem rid_of {W:World} (h:laidMetH Tryz.prog Rows.tilecountRidgesRow.laid W) (hsh:W.ShapedOpen Tryz.prog):Wor W∧SidesOk W :=
 ⟨wor_of (show laidMet Tryz.prog _ W∧handlesMet Tryz.prog _ W from h).1 hsh,sides_of h⟩
end Go.Proofs.YthihcjgmlbnapaaGreatDoor
namespace Go.Proofs.YthihcjgmlbnapaaGreatDoor
open Go.RowKit Go.Shelf
theorem gSpot_ok (x y z:ByteArray) (w:World):Calls Tryz.prog 12 #[.agg #[.string x,.string y,.string z]] w (RetB (.bool (decide (30 < x.size∨30 < y.size∨30 < z.size))) w):=by
 by_cases h1:30 < x.size
 ·have g1:(30:Int) < (x.size:Int):=by omega
  go_enter Tryz.func12,Tryz.ntmps12
  go_wp2_with fail
  go_ret
  exact ⟨by simp [h1],qbl⟩
 ·have g1:¬ (30:Int) < (x.size:Int):=by omega
  by_cases h2:30 < y.size
  ·have g2:(30:Int) < (y.size:Int):=by omega
   go_enter Tryz.func12,Tryz.ntmps12
   go_wp2_with fail
   go_ret
   exact ⟨by simp [h2],qbl⟩
  ·have g2:¬ (30:Int) < (y.size:Int):=by omega
   by_cases h3:30 < z.size
   ·have g3:(30:Int) < (z.size:Int):=by omega
    go_enter Tryz.func12,Tryz.ntmps12
    go_wp2_with fail
    go_ret
    exact ⟨by simp [h3],qbl⟩
   ·have g3:¬ (30:Int) < (z.size:Int):=by omega
    go_enter Tryz.func12,Tryz.ntmps12
    go_wp2_with fail
    go_ret
    exact ⟨by simp [h1,h2,h3],qbl⟩
def RetGl (L:List LineD) (w:World) (e:Ending) (w':World):Prop:=∃ g:Bool,e=.returned (.bool g)∧Hid (g=false→L.length≤60∧∀ x ∈ L,LineS x)∧Below w.heap.size w w'
theorem LineAt.cs {w:World} {b o:Nat} {x:LineD} (h:LineAt w b o x):w.cell? ⟨b,o,none⟩=some (.int .i64 x.k)∧w.cell? ⟨b,o+1,none⟩=some (.string x.a)∧w.cell? ⟨b,o+2,none⟩=some (.string x.b)∧w.cell? ⟨b,o+3,none⟩=some (.string x.c)∧w.cell? ⟨b,o+4,none⟩=some (.string x.d)∧w.cell? ⟨b,o+5,none⟩=some (.string x.e)∧w.cell? ⟨b,o+6,none⟩=some (.string x.f)∧w.cell? ⟨b,o+7,none⟩=some (.int .i64 x.l)∧w.cell? ⟨b,o+8,none⟩=some (.int .i64 x.r) :=
 ⟨h 0 (by omega),h 1 (by omega),h 2 (by omega),h 3 (by omega),h 4 (by omega),h 5 (by omega),h 6 (by omega),h 7 (by omega),h 8 (by omega)⟩
theorem LineAt.below {w w':World} {b o:Nat} {x:LineD} (h:LineAt w b o x) (hB:Below w.heap.size w w'):LineAt w' b o x:=fun j hj=>by
 have h1:=h j hj
 have:∃ v,x.cells[j]?=some v:=⟨_,List.getElem?_eq_getElem (show j < 9 from hj)⟩
 obtain ⟨v,hv⟩:=this
 rw [hv] at h1 ⊢
 exact keep hB h1
theorem gLines_ok (L:List LineD) (v:Value) (w:World) (hv:IsLines w v L) (hm:L.length≤maxLen) :
  Calls Tryz.prog 4 #[v] w (RetGl L w):=by
 obtain ⟨a,cap,rfl,hcap,h⟩:=hv
 have HV:=Lib.hid h
 have hM:L.length≤9223372036854775807:=hm
 clear h hm
 by_cases h60:(60:Int) < (L.length:Int)
 ·have h60':¬ (L.length:Int)≤60:=by omega
  have hp:(0:Int) < (L.length:Int):=by omega
  go_enter Tryz.func4,Tryz.ntmps4
  go_wp2_with fail
  go_loopw [3] (fun i wr=>i=.int .i64 0∧wr=w) (fun i _=>0)
  case atStart=>exact ⟨rfl,rfl⟩
  case round =>
   obtain ⟨rfl,hwr⟩:=hrel
   subst hwr
   go_wp2_with fail
   go_ret
   exact ⟨true,by simp [h60],Lib.hid (fun h=>by cases h),bw0 _ _⟩
 ·have h60':(L.length:Int)≤60:=by omega
  go_enter Tryz.func4,Tryz.ntmps4
  go_wp2_with fail
  go_loopw [3] (fun i wr=>∃ k:Nat,k≤L.length∧i=.int .i64 k∧Below w.heap.size w wr∧Hid (∀ x ∈ L.take k,LineS x)) (fun i _=>L.length - (intOf i).toNat)
  case atStart=>exact ⟨0,by omega,rfl,bw0 _ _,Lib.hid (fun x h=>by simp at h)⟩
  case round =>
   obtain ⟨k,hk,rfl,hB,hs⟩:=hrel
   by_cases hlt:k < L.length
   ·obtain ⟨b,off,rfl,hcell⟩:=HV.out (fun h0=>by rw [h0] at hlt;simp at hlt)
    have hc:=(hcell k hlt).below hB
    obtain ⟨x,hx⟩:∃ x,L[k]=x:=⟨_,rfl⟩
    rw [hx] at hc
    obtain ⟨c0,c1,c2,c3,c4,c5,c6,c7,c8⟩:=hc.cs
    have HN:Hid (LineS x→∀ y ∈ L.take (k+1),LineS y):=Lib.hid (fun h y hy=>by
     rw [List.take_succ_eq_append_getElem hlt,hx] at hy
     rcases List.mem_append.1 hy with h1|h1
     ·exact hs.out y h1
     ·rw [List.mem_singleton.1 h1];exact h)
    have hltI:(k:Int) < (L.length:Int):=by omega
    have hk1:IntKind.i64.wrap ((k:Int)+1)=((k+1:Nat):Int):=IntWalk.i64_in _ (by omega)
    clear hcell hc hx hs
    have HS1:=Lib.hid (fun W=>gSpot_ok x.a x.b x.c W)
    have HS2:=Lib.hid (fun W=>gSpot_ok x.d x.e x.f W)
    go_wp2_with fail
    refine (HS1.out _).mono ?_
    rintro e w2 ⟨rfl,hB2⟩
    have hb2:=below_trans' hB hB2
    have d4:=keep hB2 c4
    have d5:=keep hB2 c5
    have d6:=keep hB2 c6
    clear hB2 hB c0 c1 c2 c3 c4 c5 c6 c7 c8
    by_cases g1:30 < x.a.size∨30 < x.b.size∨30 < x.c.size
    ·rw [decide_eq_true g1]
     clear HS2
     go_wp2_with fail
     go_ret
     exact ⟨true,rfl,Lib.hid (fun h=>by cases h),hb2⟩
    ·rw [decide_eq_false g1]
     go_wp2_with fail
     refine (HS2.out _).mono ?_
     rintro e w3 ⟨rfl,hB3⟩
     have hb3:=below_trans' hb2 hB3
     clear hB3 hb2 d4 d5 d6
     by_cases g2:30 < x.d.size∨30 < x.e.size∨30 < x.f.size
     ·rw [decide_eq_true g2]
      go_wp2_with fail
      go_ret
      exact ⟨true,rfl,Lib.hid (fun h=>by cases h),hb3⟩
     ·have HX:=Lib.hid (HN.out (by unfold LineS;omega))
      rw [decide_eq_false g2]
      clear g1 g2 HN
      go_wp2_with fail
      go_roundw
      case rel=>exact ⟨k+1,by omega,by go_num,hb3,HX⟩
      case measure=>simp [intOf];omega
   ·have e:k=L.length:=by omega
    subst e
    have hltI:¬ (L.length:Int) < (L.length:Int):=by omega
    go_wp2_with fail
    go_ret
    exact ⟨false,by simp [h60],Lib.hid (fun _=>⟨by omega,by have h:=hs.out;rwa [List.take_length] at h⟩),hB⟩
end Go.Proofs.YthihcjgmlbnapaaGreatDoor
namespace Go.Proofs.YthihcjgmlbnapaaGreatDoor
open Go.RowKit Go.Shelf
theorem IsLines.below {w w':World} {v:Value} {L:List LineD} (h:IsLines w v L) (hB:Below w.heap.size w w'):IsLines w' v L:=by
 obtain ⟨a,cap,e,hc,hk⟩:=h
 refine ⟨a,cap,e,hc,fun hn=>?_⟩
 obtain ⟨b,off,e2,h2⟩:=hk hn
 exact ⟨b,off,e2,fun k hk=>(h2 k hk).below hB⟩
def lineCells (L:List LineD):List Value:=L.flatMap LineD.cells
theorem lineCells_append (l m:List LineD):lineCells (l++m)=lineCells l++lineCells m:=by simp [lineCells]
theorem lineCells_get:∀ (l:List LineD) {k f:Nat} (h:k < l.length),f < 9→(lineCells l)[k * 9+f]?=(l[k]).cells[f]?:=by
 intro l
 induction l with
 | nil=>intro k f h;simp at h
 | cons s l ih =>
  intro k f hk hf
  have e:lineCells (s::l)=s.cells++lineCells l:=rfl
  have hl:s.cells.length=9:=rfl
  cases k with
  | zero =>
   rw [e,Nat.zero_mul,Nat.zero_add,List.getElem?_append_left (by rw [hl];exact hf)];rfl
  | succ k =>
   rw [e,List.getElem?_append_right (by rw [hl];omega),hl,show (k+1) * 9+f - 9=k * 9+f by omega,ih (by simpa using hk) hf]
   rfl
theorem isLines_row {w:World} {B:Nat} {v:Value} {l:List LineD} {t:TypeId} (h:w.ownsRow B t 9 v l.length (lineCells l)):IsLines w v l:=by
 rcases h.2 with ⟨rfl,hl⟩|⟨g,cap,cur,rfl,_,hg,h1,_,hs,ht⟩
 ·obtain rfl:l=[]:=List.length_eq_zero_iff.1 hl
  exact ⟨none,0,rfl,Nat.le_refl _,fun h=>absurd rfl h⟩
 ·refine ⟨some ⟨g,0,none⟩,cap,rfl,h1,fun _=>⟨g,0,rfl,fun k hk f hf=>?_⟩⟩
  obtain ⟨u,hu⟩:∃ u,(l[k]).cells[f]?=some u:=⟨_,List.getElem?_eq_getElem (show f < 9 from hf)⟩
  have hg2:=lineCells_get l hk hf
  rw [hu] at hg2 ⊢
  have h3:(cur.toList.take (l.length * 9))[k * 9+f]?=(lineCells l)[k * 9+f]?:=by rw [ht]
  rw [List.getElem?_take_of_lt (by omega),hg2] at h3
  have h4:cur[k * 9+f]?=some u:=by simpa using h3
  simp [World.cell?,hg,h4]
theorem line_cells_new (w:World) (x:LineD) (t:TypeId) {n:Nat} (hn:w.heap.size=n):∀ j u,x.cells[j]?=some u→(w.alloc (.cells #[.int .i64 x.k,.string x.a,.string x.b,.string x.c,.string x.d,.string x.e,.string x.f,.int .i64 x.l,.int .i64 x.r] t)).cell? ((⟨n,0,none⟩:Addr).add j)=some u:=by
 subst hn
 intro j u hj
 rw [addr_addT]
 have hlt:j < 9:=(List.getElem?_eq_some_iff.1 hj).1
 have e:x.cells=(#[.int .i64 x.k,.string x.a,.string x.b,.string x.c,.string x.d,.string x.e,.string x.f,.int .i64 x.l,.int .i64 x.r]:Array Value).toList:=rfl
 rw [e] at hj
 simp only [World.cell?,World.alloc_heap_new]
 simpa using hj
theorem LineD.one (x:LineD):∀ u ∈ x.cells,u.oneCell'=true:=by
 intro u hu
 simp only [LineD.cells,List.mem_cons,List.not_mem_nil,or_false] at hu
 rcases hu with rfl|rfl|rfl|rfl|rfl|rfl|rfl|rfl|rfl<;>rfl
theorem Tryz.infoLine:(Tryz.prog.info? 40).map (fun i=>(i.zero,i.size,i.bytes))=some (some (.agg #[.int .i64 0,.string ⟨#[]⟩,.string ⟨#[]⟩,.string ⟨#[]⟩,.string ⟨#[]⟩,.string ⟨#[]⟩,.string ⟨#[]⟩,.int .i64 0,.int .i64 0]),9,120):=by kernel_rfl
theorem Tryz.infoLine1:(Tryz.prog.info? 40).map (·.size)=some 9:=by kernel_rfl
theorem wpList_storeL {P:Program} {ops:Array Oper} {rest:List Oper} {o:Oper} {a:Act} {w:World} {Q:Exit→Act→World→Prop} (hgd:o.guard=none) (p x:Operand) (ho:o.op=.store 40 p x)
  {b:Nat} {X Y:LineD} (hA:BoxL w b X) (hi:(P.info? 40).map (·.size)=some 9) (hp:a.eval p=.pointer (some ⟨b,0,none⟩)) (hx:a.eval x=Y.value)
  (h:∀ W,SameBut b w W→BoxL W b Y→wpList P ops Q rest (a.put o.dst undef) W):wpList P ops Q (o::rest) a w :=
 wpList_store_row hgd 40 p x ho b #[.int .i64 Y.k,.string Y.a,.string Y.b,.string Y.c,.string Y.d,.string Y.e,.string Y.f,.int .i64 Y.l,.int .i64 Y.r] hp hx 40 #[.int .i64 X.k,.string X.a,.string X.b,.string X.c,.string X.d,.string X.e,.string X.f,.int .i64 X.l,.int .i64 X.r] hA hi rfl (by simp [show ∀ (k:IntKind) (n:Int),(Value.int k n).oneCell'=true from fun _ _=>rfl,show ∀ s:ByteArray,(Value.string s).oneCell'=true from fun _=>rfl]) (h _ (setRow_sameBut _ _ _) (setRow_at hA))
end Go.Proofs.YthihcjgmlbnapaaGreatDoor
namespace Go.Proofs.YthihcjgmlbnapaaGreatDoor
open Go.RowKit Go.Shelf
attribute [local go_sem] Oper.semAt_some
theorem min2_any {P:Program} (k:IntKind) (x y:Int):∃ m,m≤x∧m≤y∧(m=x∨m=y)∧∀ (ts:Array TypeId) (t:TypeId) (w:World),(Builtin.min_ ts t #[.int k x,.int k y]).run P w=.ok (.int k m) w:=by
 refine ⟨if y < x then y else x,?_,?_,?_,fun ts t w=>by simp [Builtin.min_,Builtin.min2]⟩<;>split<;>omega
theorem isStrs6 {t:TypeId} {W:World} {b:Nat} {x y z u v q:ByteArray} (h:W.heap[b]?=some (.cells #[.string x,.string y,.string z,.string u,.string v,.string q] t (0,0))):IsStrs W (.slice (some ⟨b,0,none⟩) 6 6) [x,y,z,u,v,q] :=
 ⟨some ⟨b,0,none⟩,6,rfl,fun _=>⟨b,0,rfl,fun k hk=>by
  match k,hk with
  | 0,_=>simp [World.cell?,h]
  | 1,_=>simp [World.cell?,h]
  | 2,_=>simp [World.cell?,h]
  | 3,_=>simp [World.cell?,h]
  | 4,_=>simp [World.cell?,h]
  | 5,_=>simp [World.cell?,h]⟩⟩
theorem twoNotNil (W:World):(Go.binOp .eql 98 (.func (.func 275) #[] #[]) .nilFunc).run Tryz.prog W=.ok (.bool false) W:=by
 kernel_rfl
def BoxS2 (W:World) (n:Nat) (a b c d e f:ByteArray):Prop:=W.heap[n]?=some (.cells #[.string a,.string b,.string c,.string d,.string e,.string f] 38 (0,0))
theorem BoxS2.lt {W:World} {n:Nat} {a b c d e f:ByteArray} (h:BoxS2 W n a b c d e f):n < W.heap.size:=(Array.getElem?_eq_some_iff.1 h).1
theorem BoxS2.below {W W':World} {n:Nat} {a b c d e f:ByteArray} (h:BoxS2 W n a b c d e f) (hB:Below W.heap.size W W'):BoxS2 W' n a b c d e f:=(hB.block n h.lt).trans h
theorem BoxS2.cs {W:World} {n:Nat} {a b c d e f:ByteArray} (h:BoxS2 W n a b c d e f):W.cell? ⟨n,0,none⟩=some (.string a)∧W.cell? ⟨n,1,none⟩=some (.string b)∧W.cell? ⟨n,2,none⟩=some (.string c)∧W.cell? ⟨n,3,none⟩=some (.string d)∧W.cell? ⟨n,4,none⟩=some (.string e)∧W.cell? ⟨n,5,none⟩=some (.string f):=by
 simp only [World.cell?,show W.heap[n]?=_ from h]
 exact ⟨rfl,rfl,rfl,rfl,rfl,rfl⟩
theorem BoxL.but {W W':World} {b c:Nat} {x:LineD} (h:BoxL W b x) (hs:SameBut c W W') (hne:b≠c):BoxL W' b x:=(hs.block b hne).trans h
theorem BoxS2.but {W W':World} {n m:Nat} {a b c d e f:ByteArray} (h:BoxS2 W n a b c d e f) (hs:SameBut m W W') (hne:n≠m):BoxS2 W' n a b c d e f:=(hs.block n hne).trans h
theorem rCheck_ok (k l r:Int) (a b c d e f:ByteArray) (w:World) (hG:Glo w) (hS:SidesOk w) (hz:LineS ⟨k,a,b,c,d,e,f,l,r⟩) (hk:k=1∨k=2) :
  Calls Tryz.prog 19 #[.agg #[.int .i64 k,.string a,.string b,.string c,.string d,.string e,.string f,.int .i64 l,.int .i64 r]] w (RetC0 (RidOk ⟨k,a,b,c,d,e,f,l,r⟩) w):=by
 obtain ⟨za,zb,zc,zd,ze,zf⟩:=hz
 dsimp only at za zb zc zd ze zf
 have HV1:=Lib.hid (fun W hG=>vCheckA_ok a b c W hG (by omega) (by omega) (by omega))
 have HV2:=Lib.hid (fun W hG=>vCheckA_ok d e f W hG (by omega) (by omega) (by omega))
 have HIN:=Lib.hid (fun (h:(IsNum a∧IsNum b∧IsNum c)∧IsNum d∧IsNum e∧IsNum f)=>(⟨numV_in h.1.1 za (by decide),numV_in h.1.2.1 zb (by decide),numV_in h.1.2.2 zc (by decide),numV_in h.2.1 zd (by decide),numV_in h.2.2.1 ze (by decide),numV_in h.2.2.2 zf (by decide)⟩:IsN 30 a (numV a)∧IsN 30 b (numV b)∧IsN 30 c (numV c)∧IsN 30 d (numV d)∧IsN 30 e (numV e)∧IsN 30 f (numV f)))
 have HCF:=Lib.hid (fun (h:(IsNum a∧IsNum b∧IsNum c)∧IsNum d∧IsNum e∧IsNum f) (v:Value) W (hG:Glo W) (hv:IsStrs W v [a,b,c,d,e,f])=>containsNum_no 46 [a,b,c,d,e,f] v W hv (by show 6≤100000;decide) (enters_of Tryz.func46 (by kernel_rfl) rfl) (fun k hk W' hB=>by
  obtain ⟨i1,i2,i3,i4,i5,i6⟩:=HIN.out h
  match k,hk with
  | 0,_=>exact rLong_ok a W' (hG.below hB) i1
  | 1,_=>exact rLong_ok b W' (hG.below hB) i2
  | 2,_=>exact rLong_ok c W' (hG.below hB) i3
  | 3,_=>exact rLong_ok d W' (hG.below hB) i4
  | 4,_=>exact rLong_ok e W' (hG.below hB) i5
  | 5,_=>exact rLong_ok f W' (hG.below hB) i6))
 have HP1:=Lib.hid (fun W=>point_ok a b c W)
 have HP2:=Lib.hid (fun W=>point_ok d e f W)
 have HPE:=Lib.hid (fun W=>pointEq a b d e W)
 have HTW:=Lib.hid (fun W=>two_ok l r W)
 have HVC:=Lib.hid (fun (h:(IsNum a∧IsNum b∧IsNum c)∧IsNum d∧IsNum e∧IsNum f) W hG=>(by
  obtain ⟨i1,i2,i3,i4,i5,i6⟩:=HIN.out h
  exact vCompare_ok a b c d e f _ _ _ _ _ _ W hG (i1.q (by decide)) (i2.q (by decide)) (i3.q (by decide)) (i4.q (by decide)) (i5.q (by decide)) (i6.q (by decide)):Calls Tryz.prog 49 #[.agg #[.string a,.string b,.string c],.agg #[.string d,.string e,.string f]] W (RetB (.tuple #[.int .i64 (cmp3 (cmpR (numV a) (numV d)) (cmpR (numV b) (numV e)) (cmpR (numV c) (numV f))),.int .i64 0]) W)))
 have HRC:=Lib.hid (fun (h:(IsNum a∧IsNum b∧IsNum c)∧IsNum d∧IsNum e∧IsNum f) W hG=>(by
  obtain ⟨i1,i2,i3,i4,i5,i6⟩:=HIN.out h
  unfold cmpR
  exact RCompare_ok c f W hG i3.1 i3.2 i6.1 i6.2 (by decide):Calls Tryz.prog 30 #[.string c,.string f] W (RetB (.tuple #[.int .i64 (cmpR (numV c) (numV f)),.int .i64 0]) W)))
 have HC:Hid (RidOk ⟨k,a,b,c,d,e,f,l,r⟩↔((IsNum a∧IsNum b∧IsNum c)∧IsNum d∧IsNum e∧IsNum f)∧((a.toList == d.toList) && (b.toList == e.toList))=false∧(-1≤l∧-1≤r∧l < 24∧r < 24)∧(0≤l∧0≤r∧l≠r)∧(k=1→cmp3 (cmpR (numV a) (numV d)) (cmpR (numV b) (numV e)) (cmpR (numV c) (numV f)) < 0∧(c.toList == f.toList)=true)∧(k=2→cmpR (numV c) (numV f) < 0)):=Lib.hid Iff.rfl
 have HG:=Lib.hid hG
 obtain ⟨bm,es,clock,⟨hs1,hs2⟩,hs3⟩:=hS
 have hbm:=(Array.getElem?_eq_some_iff.1 hs2).1
 have hb0:Below w.heap.size w (w.alloc (.cells #[.int .i64 k,.string a,.string b,.string c,.string d,.string e,.string f,.int .i64 l,.int .i64 r] 40)):=bw4 (bw0 _ _) _
 have hlk:=hs3 (w.alloc (.cells #[.int .i64 k,.string a,.string b,.string c,.string d,.string e,.string f,.int .i64 l,.int .i64 r] 40)) ((hb0.block bm hbm).trans hs2) k hk
 have hg:=keep hb0 hs1
 have x0:BoxL (w.alloc (.cells #[.int .i64 k,.string a,.string b,.string c,.string d,.string e,.string f,.int .i64 l,.int .i64 r] 40)) w.heap.size ⟨k,a,b,c,d,e,f,l,r⟩:=BoxL.new (x:=⟨k,a,b,c,d,e,f,l,r⟩) rfl
 have HK:=Lib.hid hk
 have hnn:=twoNotNil
 generalize RidOk ⟨k,a,b,c,d,e,f,l,r⟩=C at *
 generalize hN1:(IsNum a∧IsNum b∧IsNum c)=N1 at *
 generalize hN2:(IsNum d∧IsNum e∧IsNum f)=N2 at *
 generalize cmp3 (cmpR (numV a) (numV d)) (cmpR (numV b) (numV e)) (cmpR (numV c) (numV f))=VC at *
 generalize cmpR (numV c) (numV f)=RC at *
 generalize hpe:((a.toList == d.toList) && (b.toList == e.toList))=PE at *
 generalize hze:(c.toList == f.toList)=ZE at *
 have HZE:=Lib.hid hze
 have HPQ:=Lib.hid hpe
 clear hG hs1 hs2 hs3 hbm za zb zc zd ze zf HIN hN1 hN2 hpe hze hk
 go_enter Tryz.func19,Tryz.ntmps19
 go_wp2_with fail
 have hbA:Below w.heap.size w ((w.alloc (.cells #[.int .i64 k,.string a,.string b,.string c,.string d,.string e,.string f,.int .i64 l,.int .i64 r] 40)).alloc (.cells #[.string a,.string b,.string c,.string d,.string e,.string f] 38)):=bw4 hb0 _
 have x1:BoxL ((w.alloc (.cells #[.int .i64 k,.string a,.string b,.string c,.string d,.string e,.string f,.int .i64 l,.int .i64 r] 40)).alloc (.cells #[.string a,.string b,.string c,.string d,.string e,.string f] 38)) w.heap.size ⟨k,a,b,c,d,e,f,l,r⟩:=x0.below (bw4 (bw0 _ _) _)
 have y1:BoxS2 ((w.alloc (.cells #[.int .i64 k,.string a,.string b,.string c,.string d,.string e,.string f,.int .i64 l,.int .i64 r] 40)).alloc (.cells #[.string a,.string b,.string c,.string d,.string e,.string f] 38)) (w.heap.size+1) a b c d e f:=by
  have h:=World.alloc_heap_new (w.alloc (.cells #[.int .i64 k,.string a,.string b,.string c,.string d,.string e,.string f,.int .i64 l,.int .i64 r] 40)) (.cells #[.string a,.string b,.string c,.string d,.string e,.string f] 38)
  rw [World.size_alloc] at h
  exact h
 generalize ((w.alloc (.cells #[.int .i64 k,.string a,.string b,.string c,.string d,.string e,.string f,.int .i64 l,.int .i64 r] 40)).alloc (.cells #[.string a,.string b,.string c,.string d,.string e,.string f] 38))=W1 at *
 clear hb0 hlk hg x0
 generalize hb1n:w.heap.size+1=n1 at *
 go_loopw [23] (fun i wr=>Below w.heap.size w wr∧BoxL wr w.heap.size ⟨k,a,b,c,d,e,f,l,r⟩∧BoxS2 wr n1 a b c d e f∧(i=.int .i64 0∨(i=.int .i64 1∧Hid N1)∨(i=.int .i64 2∧Hid (N1∧N2)))) (fun i _=>2 - (intOf i).toNat)
 case atStart=>exact ⟨hbA,x1,y1,.inl rfl⟩
 case round =>
  clear hbA x1 y1
  obtain ⟨hB,x1,y1,rfl|⟨rfl,hkn⟩|⟨rfl,hkn⟩⟩:=hrel
  ·obtain ⟨d0,d1,d2,d3,d4,d5⟩:=y1.cs
   have hz:=hB.size
   have hbw:Below w.heap.size w (wr.alloc (.cells #[.string ⟨#[]⟩,.string ⟨#[]⟩,.string ⟨#[]⟩] 38)):=bw4 hB _
   have s0:BoxT3 38 (wr.alloc (.cells #[.string ⟨#[]⟩,.string ⟨#[]⟩,.string ⟨#[]⟩] 38)) wr.heap.size (.string ⟨#[]⟩) (.string ⟨#[]⟩) (.string ⟨#[]⟩):=BoxT3.new rfl
   have x2:=x1.below (bw4 (bw0 _ _) (.cells #[.string ⟨#[]⟩,.string ⟨#[]⟩,.string ⟨#[]⟩] 38))
   have y2:=y1.below (bw4 (bw0 _ _) (.cells #[.string ⟨#[]⟩,.string ⟨#[]⟩,.string ⟨#[]⟩] 38))
   have hx1:=x1.lt
   have hy1:=y1.lt
   go_wp2_with (refine wpList_store3 rfl _ _ _ rfl s0 Tryz.infoSpot rfl rfl rfl rfl rfl ?_;intro Wz hS hx;have hbz:Below w.heap.size w Wz:=hS.below hbw (by omega);have x3:=x2.but hS (by omega);have y3:=y2.but hS (by omega);have g0:=hx.c0;have g1:=hx.c1;have g2:=hx.c2;clear hS s0 x2 y2 hbw)
   refine (HV1.out _ (HG.out.below hbz)).mono ?_
   rintro e w2 ⟨m,rfl,h1,hB2⟩
   have hb2:=below_trans' hbz hB2
   replace x3:=x3.below hB2
   replace y3:=y3.below hB2
   clear hB2 hbz g0 g1 g2 x1 y1 d0 d1 d2 d3 d4 d5
   by_cases h0:m=0
   ·have J:Hid (N1):=Lib.hid (h1.out.1 h0)
    subst h0
    clear h1
    go_wp2_with fail
    go_roundw
    case rel=>exact ⟨hb2,x3,y3,.inr (.inl ⟨rfl,J⟩)⟩
    case measure=>simp [intOf]
   ·have J:=Lib.hid (fun h:N1=>h0 (h1.out.2 h))
    clear h1
    go_wp2_with fail
    go_ret
    exact ⟨m,rfl,Lib.hid ⟨fun h=>absurd h h0,fun h=>absurd (HC.out.1 h) (fun h=>J.out (h.1.1))⟩,hb2⟩
  ·obtain ⟨d0,d1,d2,d3,d4,d5⟩:=y1.cs
   have hz:=hB.size
   have hbw:Below w.heap.size w (wr.alloc (.cells #[.string ⟨#[]⟩,.string ⟨#[]⟩,.string ⟨#[]⟩] 38)):=bw4 hB _
   have s0:BoxT3 38 (wr.alloc (.cells #[.string ⟨#[]⟩,.string ⟨#[]⟩,.string ⟨#[]⟩] 38)) wr.heap.size (.string ⟨#[]⟩) (.string ⟨#[]⟩) (.string ⟨#[]⟩):=BoxT3.new rfl
   have x2:=x1.below (bw4 (bw0 _ _) (.cells #[.string ⟨#[]⟩,.string ⟨#[]⟩,.string ⟨#[]⟩] 38))
   have y2:=y1.below (bw4 (bw0 _ _) (.cells #[.string ⟨#[]⟩,.string ⟨#[]⟩,.string ⟨#[]⟩] 38))
   have hx1:=x1.lt
   have hy1:=y1.lt
   go_wp2_with (refine wpList_store3 rfl _ _ _ rfl s0 Tryz.infoSpot rfl rfl rfl rfl rfl ?_;intro Wz hS hx;have hbz:Below w.heap.size w Wz:=hS.below hbw (by omega);have x3:=x2.but hS (by omega);have y3:=y2.but hS (by omega);have g0:=hx.c0;have g1:=hx.c1;have g2:=hx.c2;clear hS s0 x2 y2 hbw)
   refine (HV2.out _ (HG.out.below hbz)).mono ?_
   rintro e w2 ⟨m,rfl,h1,hB2⟩
   have hb2:=below_trans' hbz hB2
   replace x3:=x3.below hB2
   replace y3:=y3.below hB2
   clear hB2 hbz g0 g1 g2 x1 y1 d0 d1 d2 d3 d4 d5
   by_cases h0:m=0
   ·have J:Hid (N1∧N2):=Lib.hid ⟨hkn.out,h1.out.1 h0⟩
    subst h0
    clear h1
    go_wp2_with fail
    go_roundw
    case rel=>exact ⟨hb2,x3,y3,.inr (.inr ⟨rfl,J⟩)⟩
    case measure=>simp [intOf]
   ·have J:=Lib.hid (fun h:N2=>h0 (h1.out.2 h))
    clear h1
    go_wp2_with fail
    go_ret
    exact ⟨m,rfl,Lib.hid ⟨fun h=>absurd h h0,fun h=>absurd (HC.out.1 h) (fun h=>J.out (h.1.2))⟩,hb2⟩
  ·obtain ⟨c0,c1,c2,c3,c4,c5,c6,c7,c8⟩:=x1.cs
   dsimp only at c0 c1 c2 c3 c4 c5 c6 c7 c8
   replace HCF:=Lib.hid (HCF.out hkn.out)
   replace HVC:=Lib.hid (HVC.out hkn.out)
   replace HRC:=Lib.hid (HRC.out hkn.out)
   clear y1 HV1 HV2 hnn
   go_wp2_with fail
   have hB3:Below wr.heap.size wr (wr.alloc (.cells #[.string a,.string b,.string c,.string d,.string e,.string f] 36)):=bw4 (bw0 _ _) _
   have hb3:=below_trans' hB hB3
   have x2:=x1.below hB3
   have HI:Hid (IsStrs (wr.alloc (.cells #[.string a,.string b,.string c,.string d,.string e,.string f] 36)) (.slice (some ⟨wr.heap.size,0,none⟩) 6 6) [a,b,c,d,e,f]):=Lib.hid (isStrs6 (World.alloc_heap_new _ _))
   clear hB3 hB x1 c0 c1 c2 c3 c4 c5 c6 c7 c8
   generalize wr.alloc (.cells #[.string a,.string b,.string c,.string d,.string e,.string f] 36)=W2 at *
   refine (HCF.out _ W2 (HG.out.below hb3) HI.out).mono ?_
   rintro e w3 ⟨rfl,hB4⟩
   have hb4:=below_trans' hb3 hB4
   replace x2:=x2.below hB4
   clear hB4 hb3 HI HCF
   go_wp2_with fail
   have hR:Below w.heap.size w w3.drew∧BoxL w3.drew w.heap.size ⟨k,a,b,c,d,e,f,l,r⟩:=⟨hb4.drew,x2.below (bw0 _ _).drew⟩
   clear x2 hb4
   refine region_S (F:=[]) (R:=(fun w'=>Below w.heap.size w w'∧BoxL w' w.heap.size ⟨k,a,b,c,d,e,f,l,r⟩)) 7 #[false,false,false,false,false,false,false] (by kernel_rfl) (by kernel_rfl) (by kernel_rfl) (fun _ _ _ _ _ h=>h) (fun Q' hQ' hN=>?_)
   generalize w3.drew=wd at *
   refine tkS 53 (i:=0) (v:=?_) (fw:=5) hQ' hR rfl ?_ ?_;rotate_left;(focus (intro wq hRq;obtain ⟨c0,c1,c2,c3,c4,c5,c6,c7,c8⟩:=hRq.2.cs;dsimp only at c0 c1 c2 c3 c4 c5 c6 c7 c8;go_simp;(try with_reducible rfl)));(try simp only [Act.put,bw7,bw8,bw9])
   refine tkS 54 (i:=1) (v:=?_) (fw:=5) hQ' hR rfl ?_ ?_;rotate_left;(focus (intro wq hRq;obtain ⟨c0,c1,c2,c3,c4,c5,c6,c7,c8⟩:=hRq.2.cs;dsimp only at c0 c1 c2 c3 c4 c5 c6 c7 c8;go_simp;(try with_reducible rfl)));(try simp only [Act.put,bw7,bw8,bw9])
   refine tkS 56 (i:=3) (v:=?_) (fw:=5) hQ' hR rfl ?_ ?_;rotate_left;(focus (intro wq hRq;obtain ⟨c0,c1,c2,c3,c4,c5,c6,c7,c8⟩:=hRq.2.cs;dsimp only at c0 c1 c2 c3 c4 c5 c6 c7 c8;go_simp;(try with_reducible rfl)));(try simp only [Act.put,bw7,bw8,bw9])
   refine tkS 57 (i:=4) (v:=?_) (fw:=5) hQ' hR rfl ?_ ?_;rotate_left;(focus (intro wq hRq;obtain ⟨c0,c1,c2,c3,c4,c5,c6,c7,c8⟩:=hRq.2.cs;dsimp only at c0 c1 c2 c3 c4 c5 c6 c7 c8;go_simp;(try with_reducible rfl)));(try simp only [Act.put,bw7,bw8,bw9])
   refine wpAnyS_ready (rs:=[2]) (by kernel_rfl) (by simp) ?_
   refine stepR (i:=2) rfl (by kernel_rfl) (fun K hK=>?_) (AllReadyS.nil)
   go_simp
   refine (HP1.out _).mono ?_
   rintro e wn ⟨rfl,hB'⟩
   replace hR:=(⟨below_trans' hR.1 hB',hR.2.below hB'⟩:Below w.heap.size w wn∧BoxL wn w.heap.size ⟨k,a,b,c,d,e,f,l,r⟩)
   clear hB'
   refine hK.out _ _ hR ?_
   clear hK K
   (try simp only [Act.put,bw7,bw8,bw9])
   refine wpAnyS_ready (rs:=[5]) (by kernel_rfl) (by simp) ?_
   refine stepR (i:=5) rfl (by kernel_rfl) (fun K hK=>?_) (AllReadyS.nil)
   go_simp
   refine (HP2.out _).mono ?_
   rintro e wn ⟨rfl,hB'⟩
   replace hR:=(⟨below_trans' hR.1 hB',hR.2.below hB'⟩:Below w.heap.size w wn∧BoxL wn w.heap.size ⟨k,a,b,c,d,e,f,l,r⟩)
   clear hB'
   refine hK.out _ _ hR ?_
   clear hK K
   (try simp only [Act.put,bw7,bw8,bw9])
   refine tkS 59 (i:=6) (v:=.bool PE) (fw:=5) hQ' hR rfl (fun wq hRq=>by go_simp;rw [← HPQ.out];by_cases ha:a.toList=d.toList<;>by_cases hb:b.toList=e.toList<;>simp [ha,hb]) ?_;(try simp only [Act.put,bw7,bw8,bw9])
   refine wpAnyS_done (by kernel_rfl) ?_ _
   refine hN.out _ _ ?_
   obtain ⟨hb5,x3⟩:=hR
   obtain ⟨c0,c1,c2,c3,c4,c5,c6,c7,c8⟩:=x3.cs
   dsimp only at c0 c1 c2 c3 c4 c5 c6 c7 c8
   clear HP1 HP2 HPE HPQ
   cases PE with
   | true =>
    clear HVC HRC HTW
    go_wp2_with fail
    go_ret
    exact ⟨12,rfl,Lib.hid ⟨fun h=>absurd h (by decide),fun h=>absurd (HC.out.1 h).2.1 (by decide)⟩,hb5⟩
   | false =>
    obtain ⟨mn,m1,m2,m3,hmn⟩:=@min2_any Tryz.prog .i64 l r
    obtain ⟨mx,q1,q2,q3,hmx⟩:=@max2_any Tryz.prog .i64 l r
    have HMN:=Lib.hid (⟨m1,m2,m3⟩:mn≤l∧mn≤r∧(mn=l∨mn=r))
    have HMX:=Lib.hid (⟨q1,q2,q3⟩:l≤mx∧r≤mx∧(mx=l∨mx=r))
    clear m1 m2 m3 q1 q2 q3
    by_cases g1:mn < -1
    ·clear HVC HRC HTW
     have HN:Hid (¬ C):=Lib.hid (fun h=>by have h1:=(HC.out.1 h).2.2.1;have h2:=HMN.out;omega)
     go_wp2_with fail
     go_ret
     exact ⟨18,rfl,Lib.hid ⟨fun h=>absurd h (by decide),fun h=>absurd h HN.out⟩,hb5⟩
    ·by_cases g2:24≤mx
     ·clear HVC HRC HTW
      have HN:Hid (¬ C):=Lib.hid (fun h=>by have h1:=(HC.out.1 h).2.2.1;have h2:=HMX.out;omega)
      go_wp2_with fail
      go_ret
      exact ⟨18,rfl,Lib.hid ⟨fun h=>absurd h (by decide),fun h=>absurd h HN.out⟩,hb5⟩
     ·have HRG:Hid (-1≤l∧-1≤r∧l < 24∧r < 24):=Lib.hid (by have h1:=HMN.out;have h2:=HMX.out;omega)
      clear HMN HMX
      go_wp2_with fail
      refine (HTW.out _).mono ?_
      rintro e w4 ⟨rfl,hB6⟩
      have hb6:=below_trans' hb5 hB6
      replace x3:=x3.below hB6
      clear hB6 hb5 c0 c1 c2 c3 c4 c5 c6 c7 c8 hmn hmx HTW
      by_cases g3:0≤l∧0≤r∧l≠r
      ·have HG3:=Lib.hid g3
       rw [decide_eq_true g3]
       clear g3 g1 g2
       obtain ⟨c0,c1,c2,c3,c4,c5,c6,c7,c8⟩:=x3.cs
       dsimp only at c0 c1 c2 c3 c4 c5 c6 c7 c8
       rcases HK.out with rfl|rfl
       ·have HC1:Hid (C↔(VC < 0∧ZE=true)):=Lib.hid ⟨fun h=>(HC.out.1 h).2.2.2.2.1 rfl,fun h=>HC.out.2 ⟨hkn.out,trivial,HRG.out,HG3.out,fun _=>h,fun h=>absurd h (by decide)⟩⟩
        clear HRC HC
        go_wp2_with fail
        refine (level1_ok _).mono ?_
        rintro e w5 ⟨rfl,hB7⟩
        have hb7:=below_trans' hb6 hB7
        replace x3:=x3.below hB7
        clear hB7 hb6 c0 c1 c2 c3 c4 c5 c6 c7 c8
        obtain ⟨c0,c1,c2,c3,c4,c5,c6,c7,c8⟩:=x3.cs
        dsimp only at c0 c1 c2 c3 c4 c5 c6 c7 c8
        go_wp2_with fail
        refine (HVC.out _ (HG.out.below hb7)).mono ?_
        rintro e w6 ⟨rfl,hB8⟩
        have hb8:=below_trans' hb7 hB8
        replace x3:=x3.below hB8
        clear hB8 hb7 c0 c1 c2 c3 c4 c5 c6 c7 c8 HVC
        obtain ⟨c0,c1,c2,c3,c4,c5,c6,c7,c8⟩:=x3.cs
        dsimp only at c0 c1 c2 c3 c4 c5 c6 c7 c8
        by_cases g4:0≤VC
        ·have HN:Hid (¬ C):=Lib.hid (fun h=>by have h1:=(HC1.out.1 h).1;omega)
         go_wp2_with fail
         go_ret
         exact ⟨10,rfl,Lib.hid ⟨fun h=>absurd h (by decide),fun h=>absurd h HN.out⟩,hb8⟩
        ·have hze:=HZE.out
         cases ZE with
         | false =>
          have HN:Hid (¬ C):=Lib.hid (fun h=>by have h1:=(HC1.out.1 h).2;cases h1)
          go_wp2_with fail
          go_ret
          exact ⟨10,rfl,Lib.hid ⟨fun h=>absurd h (by decide),fun h=>absurd h HN.out⟩,hb8⟩
         | true =>
          have HY:Hid C:=Lib.hid (HC1.out.2 ⟨by omega,rfl⟩)
          go_wp2_with fail
          go_ret
          exact ⟨0,rfl,Lib.hid ⟨fun _=>HY.out,fun _=>rfl⟩,hb8⟩
       ·have HC1:Hid (C↔RC < 0):=Lib.hid ⟨fun h=>(HC.out.1 h).2.2.2.2.2 rfl,fun h=>HC.out.2 ⟨hkn.out,trivial,HRG.out,HG3.out,fun h=>absurd h (by decide),fun _=>h⟩⟩
        clear HVC HC
        go_wp2_with fail
        refine (level2_ok _).mono ?_
        rintro e w5 ⟨rfl,hB7⟩
        have hb7:=below_trans' hb6 hB7
        replace x3:=x3.below hB7
        clear hB7 hb6 c0 c1 c2 c3 c4 c5 c6 c7 c8
        obtain ⟨c0,c1,c2,c3,c4,c5,c6,c7,c8⟩:=x3.cs
        dsimp only at c0 c1 c2 c3 c4 c5 c6 c7 c8
        go_wp2_with fail
        refine (HRC.out _ (HG.out.below hb7)).mono ?_
        rintro e w6 ⟨rfl,hB8⟩
        have hb8:=below_trans' hb7 hB8
        clear hB8 hb7 c0 c1 c2 c3 c4 c5 c6 c7 c8 HRC x3
        by_cases g4:0≤RC
        ·have HN:Hid (¬ C):=Lib.hid (fun h=>by have h1:=HC1.out.1 h;omega)
         go_wp2_with fail
         go_ret
         exact ⟨10,rfl,Lib.hid ⟨fun h=>absurd h (by decide),fun h=>absurd h HN.out⟩,hb8⟩
        ·have HY:Hid C:=Lib.hid (HC1.out.2 (by omega))
         go_wp2_with fail
         go_ret
         exact ⟨0,rfl,Lib.hid ⟨fun _=>HY.out,fun _=>rfl⟩,hb8⟩
      ·have HN:Hid (¬ C):=Lib.hid (fun h=>absurd (HC.out.1 h).2.2.2.1 g3)
       rw [decide_eq_false g3]
       clear HVC HRC g3 g1 g2
       go_wp2_with fail
       go_ret
       exact ⟨18,rfl,Lib.hid ⟨fun h=>absurd h (by decide),fun h=>absurd h HN.out⟩,hb6⟩
end Go.Proofs.YthihcjgmlbnapaaGreatDoor
namespace Go.Proofs.YthihcjgmlbnapaaGreatDoor
open Go.RowKit Go.Shelf
noncomputable def lx (x:LineD):Rat:=numV x.d - numV x.a
noncomputable def ly (x:LineD):Rat:=numV x.e - numV x.b
noncomputable def lz (x:LineD):Rat:=numV x.f - numV x.c
noncomputable def lenD (x:LineD):Rat:=lx x * lx x+ly x * ly x+lz x * lz x
def lineP (x:LineD):Prop:=RidOk x∧LenP (lx x) (ly x) (lz x)
noncomputable def lineL (x:LineD):TTexts:=oneL (normQ (lenD x)).1 (normQ (lenD x)).2
noncomputable def lineT (x:LineD):Terms:=oneT (normQ (lenD x)).1 (normQ (lenD x)).2
theorem lineP.is {x:LineD} (h:lineP x):SurdIs (lineL x) (lineT x):=surdOne h.2.2.2
theorem rlength_ok (k l r:Int) (a b c d e f:ByteArray) (w:World) (hG:Glo w) (hP:Pri w) (hz:LineS ⟨k,a,b,c,d,e,f,l,r⟩) (hN:LineN ⟨k,a,b,c,d,e,f,l,r⟩) :
  Calls Tryz.prog 20 #[.agg #[.int .i64 k,.string a,.string b,.string c,.string d,.string e,.string f,.int .i64 l,.int .i64 r]] w (RetLe (LenP (lx ⟨k,a,b,c,d,e,f,l,r⟩) (ly ⟨k,a,b,c,d,e,f,l,r⟩) (lz ⟨k,a,b,c,d,e,f,l,r⟩)) (lineL ⟨k,a,b,c,d,e,f,l,r⟩) w):=by
 obtain ⟨za,zb,zc,zd,ze,zf⟩:=hz
 obtain ⟨⟨na,nb,nc⟩,nd,ne,nf⟩:=hN
 dsimp only at za zb zc zd ze zf na nb nc nd ne nf
 have ia:=numV_in na za (by decide)
 have ib:=numV_in nb zb (by decide)
 have ic:=numV_in nc zc (by decide)
 have id':=numV_in nd zd (by decide)
 have ie:=numV_in ne ze (by decide)
 have if':=numV_in nf zf (by decide)
 have HS:=Lib.hid (fun W hG=>vSubW_ok d e f a b c _ _ _ _ _ _ W hG id' ie if' ia ib ic)
 have s1:=id'.2.sub ia.2
 have s2:=ie.2.sub ib.2
 have s3:=if'.2.sub ic.2
 have HLE:=Lib.hid (fun (x y z:ByteArray) W hG hP (hx:x.data.toList=ratText (numV d - numV a)) (hy:y.data.toList=ratText (numV e - numV b)) (hz:z.data.toList=ratText (numV f - numV c))=>(show Calls Tryz.prog 51 #[.agg #[.string x,.string y,.string z]] W (RetLe (LenP (lx ⟨k,a,b,c,d,e,f,l,r⟩) (ly ⟨k,a,b,c,d,e,f,l,r⟩) (lz ⟨k,a,b,c,d,e,f,l,r⟩)) (lineL ⟨k,a,b,c,d,e,f,l,r⟩) W) from vLengthW_ok x y z _ _ _ W hG hP ⟨hx,s1⟩ ⟨hy,s2⟩ ⟨hz,s3⟩))
 have HG:=Lib.hid hG
 have HP:=Lib.hid hP
 generalize LenP (lx ⟨k,a,b,c,d,e,f,l,r⟩) (ly ⟨k,a,b,c,d,e,f,l,r⟩) (lz ⟨k,a,b,c,d,e,f,l,r⟩)=Q at *
 generalize lineL ⟨k,a,b,c,d,e,f,l,r⟩=O at *
 have x0:BoxL (w.alloc (.cells #[.int .i64 k,.string a,.string b,.string c,.string d,.string e,.string f,.int .i64 l,.int .i64 r] 40)) w.heap.size ⟨k,a,b,c,d,e,f,l,r⟩:=BoxL.new (x:=⟨k,a,b,c,d,e,f,l,r⟩) rfl
 have hb0:Below w.heap.size w (w.alloc (.cells #[.int .i64 k,.string a,.string b,.string c,.string d,.string e,.string f,.int .i64 l,.int .i64 r] 40)):=bw4 (bw0 _ _) _
 obtain ⟨c0,c1,c2,c3,c4,c5,c6,c7,c8⟩:=x0.cs
 dsimp only at c0 c1 c2 c3 c4 c5 c6 c7 c8
 clear hG hP za zb zc zd ze zf na nb nc nd ne nf ia ib ic id' ie if' s1 s2 s3
 go_enter Tryz.func20,Tryz.ntmps20
 go_wp2_with fail
 generalize w.alloc (.cells #[.int .i64 k,.string a,.string b,.string c,.string d,.string e,.string f,.int .i64 l,.int .i64 r] 40)=W0 at *
 refine (HS.out _ (HG.out.below hb0)).mono ?_
 rintro e w1 ⟨x,y,z,hx,hy,hz,rfl,hB1⟩
 have hb1:=below_trans' hb0 hB1
 have HX:=Lib.hid hx
 have HY:=Lib.hid hy
 have HZ:=Lib.hid hz
 clear hB1 hb0 hx hy hz c0 c1 c2 c3 c4 c5 c6 c7 c8 x0 HS
 have hb2:Below w.heap.size w (w1.alloc (.cells #[.string ⟨#[]⟩,.string ⟨#[]⟩,.string ⟨#[]⟩] 38)):=bw4 hb1 _
 have y0:BoxT3 38 (w1.alloc (.cells #[.string ⟨#[]⟩,.string ⟨#[]⟩,.string ⟨#[]⟩] 38)) w1.heap.size (.string ⟨#[]⟩) (.string ⟨#[]⟩) (.string ⟨#[]⟩):=BoxT3.new rfl
 have hz1:=hb1.size
 go_wp2_with (refine wpList_store3 rfl _ _ _ rfl y0 Tryz.infoSpot rfl rfl rfl rfl rfl ?_;intro Wz hS hx;have hbz:Below w.heap.size w Wz:=hS.below hb2 (by omega);have g0:=hx.c0;have g1:=hx.c1;have g2:=hx.c2;clear hS y0 hb2)
 refine (HLE.out x y z _ (HG.out.below hbz) (HP.out.below hbz) HX.out HY.out HZ.out).mono ?_
 rintro e w2 ⟨u,c,L',rfl,hu,hc,hB2⟩
 have hb3:=below_trans' hbz hB2
 have HU:=Lib.hid hu
 obtain ⟨ua,uc,rfl,_⟩:=hu
 clear hB2 hbz g0 g1 g2 HLE
 go_wp2_with fail
 refine bodyPost_ret (v:=.tuple #[.slice ua L'.length uc,.int .i64 c]) (by simp [results,Tryz.results20,go_sem]) rfl ?_
 exact ⟨_,c,L',rfl,HU.out,hc,hb3⟩
theorem rLength_ok (k l r:Int) (a b c d e f:ByteArray) (w:World) (hG:Glo w) (hP:Pri w) (hS:SidesOk w) (hz:LineS ⟨k,a,b,c,d,e,f,l,r⟩) (hk:k=1∨k=2) :
  Calls Tryz.prog 7 #[.agg #[.int .i64 k,.string a,.string b,.string c,.string d,.string e,.string f,.int .i64 l,.int .i64 r]] w (RetLe (lineP ⟨k,a,b,c,d,e,f,l,r⟩) (lineL ⟨k,a,b,c,d,e,f,l,r⟩) w):=by
 have HCK:=Lib.hid (fun W hG hS=>rCheck_ok k l r a b c d e f W hG hS hz hk)
 have HLE:=Lib.hid (fun (h:RidOk ⟨k,a,b,c,d,e,f,l,r⟩) W hG hP=>rlength_ok k l r a b c d e f W hG hP hz h.1)
 have HG:=Lib.hid hG
 have HP:=Lib.hid hP
 have HS:=Lib.hid hS
 unfold lineP
 generalize LenP (lx ⟨k,a,b,c,d,e,f,l,r⟩) (ly ⟨k,a,b,c,d,e,f,l,r⟩) (lz ⟨k,a,b,c,d,e,f,l,r⟩)=Q at *
 generalize RidOk ⟨k,a,b,c,d,e,f,l,r⟩=C at *
 generalize lineL ⟨k,a,b,c,d,e,f,l,r⟩=O at *
 have x0:BoxL (w.alloc (.cells #[.int .i64 k,.string a,.string b,.string c,.string d,.string e,.string f,.int .i64 l,.int .i64 r] 40)) w.heap.size ⟨k,a,b,c,d,e,f,l,r⟩:=BoxL.new (x:=⟨k,a,b,c,d,e,f,l,r⟩) rfl
 have hb0:Below w.heap.size w (w.alloc (.cells #[.int .i64 k,.string a,.string b,.string c,.string d,.string e,.string f,.int .i64 l,.int .i64 r] 40)):=bw4 (bw0 _ _) _
 obtain ⟨c0,c1,c2,c3,c4,c5,c6,c7,c8⟩:=x0.cs
 dsimp only at c0 c1 c2 c3 c4 c5 c6 c7 c8
 clear hG hP hS hz hk
 go_enter Tryz.func7,Tryz.ntmps7
 go_wp2_with fail
 generalize w.alloc (.cells #[.int .i64 k,.string a,.string b,.string c,.string d,.string e,.string f,.int .i64 l,.int .i64 r] 40)=W0 at *
 refine (HCK.out _ (HG.out.below hb0) (HS.out.below hb0)).mono ?_
 rintro e w1 ⟨n,rfl,hn,hB1⟩
 have hb1:=below_trans' hb0 hB1
 replace x0:=x0.below hB1
 clear hB1 hb0 HCK c0 c1 c2 c3 c4 c5 c6 c7 c8
 by_cases h0:n=0
 ·have J:=Lib.hid (hn.out.1 h0)
  replace HLE:=Lib.hid (HLE.out J.out)
  obtain ⟨c0,c1,c2,c3,c4,c5,c6,c7,c8⟩:=x0.cs
  dsimp only at c0 c1 c2 c3 c4 c5 c6 c7 c8
  subst h0
  clear hn
  go_wp2_with fail
  refine (HLE.out _ (HG.out.below hb1) (HP.out.below hb1)).mono ?_
  rintro e w2 ⟨u,c,L',rfl,hu,hc,hB2⟩
  have hb3:=below_trans' hb1 hB2
  have HU:=Lib.hid hu
  obtain ⟨ua,uc,rfl,_⟩:=hu
  clear hB2 HLE c0 c1 c2 c3 c4 c5 c6 c7 c8
  go_wp2_with fail
  refine bodyPost_ret (v:=.tuple #[.slice ua L'.length uc,.int .i64 c]) (by simp [results,Tryz.results7,go_sem]) rfl ?_
  exact ⟨_,c,L',rfl,HU.out,Lib.hid ⟨⟨fun h=>⟨J.out,hc.out.1.1 h⟩,fun h=>hc.out.1.2 h.2⟩,hc.out.2⟩,hb3⟩
 ·have J:=Lib.hid (fun h:C=>h0 (hn.out.2 h))
  clear hn HLE x0
  go_wp2_with fail
  refine bodyPost_ret (v:=.tuple #[.slice none 0 0,.int .i64 30]) (by simp [results,Tryz.results7,go_sem]) rfl ?_
  exact ⟨_,30,[],rfl,isTerms_nil,Lib.hid ⟨⟨fun h=>absurd h (by decide),fun h=>absurd h.1 J.out⟩,fun h=>absurd h (by decide)⟩,hb1⟩
end Go.Proofs.YthihcjgmlbnapaaGreatDoor
namespace Go.Proofs.YthihcjgmlbnapaaGreatDoor
open Go.RowKit Go.Shelf
attribute [local go_sem] Oper.semAt_some
theorem Tryz.infoPair:(Tryz.prog.info? 176).map (·.size)=some 2:=by kernel_rfl
theorem BoxT2.frz {t:TypeId} {W:World} {b:Nat} {x y:Value} (h:BoxT2 t W b x y) (k:Nat):W.frozen? ⟨b,k,none⟩=false:=by simp [World.frozen?,show W.heap[b]?=_ from h]
theorem BoxT2.set0 {t:TypeId} {W:World} {b:Nat} {x y:Value} (h:BoxT2 t W b x y) (v:Value):BoxT2 t (W.setCell ⟨b,0,none⟩ v) b v y:=heap_setCell_at h
theorem wp_storeT2 {P:Program} {o:Oper} {a:Act} {Q:Exit→Act→World→Prop} {K:Act→World→Prop} (ty:TypeId) (p x:Operand) (ho:o.op=.store ty p x) {w:World} {b:Nat} {x0 y0 x1 y1:Value} (hA:BoxT2 ty w b x0 y0)
  (hi:(P.info? ty).map (·.size)=some 2) (h1:x1.oneCell'=true) (h2:y1.oneCell'=true) (hp:a.eval p=.pointer (some ⟨b,0,none⟩)) (hx:a.eval x=.agg #[x1,y1]) (h:∀ W,SameBut b w W→BoxT2 ty W b x1 y1→K (a.put o.dst undef) W):o.wp P a w K Q:=by
 have hrow:=run_storeVar_row (P:=P) w b ty ty #[x0,y0] #[x1,y1] hA hi rfl (by simp [h1,h2])
 unfold Oper.wp execOp
 rw [ho]
 simp only [hp,hx,Sem.run_bind,Instr.storeAt,Instr.sureAddr,Sem.run_pure,Result.andThen_ok,hrow]
 exact h _ (setRow_sameBut _ _ _) (setRow_at hA)
theorem pTimes_ok (a b c d:Nat) (w:World) (hG:Glo w) (ha:Fit (a:Int)) (hb:Fit (b:Int)) (hc:Fit (c:Int)) (hd:Fit (d:Int)) (h1:Fit ((a * c:Nat):Int)) (h2:Fit ((b * d:Nat):Int)) :
  Calls Tryz.prog 246 #[.agg #[.string (decS a),.string (decS b)],.agg #[.string (decS c),.string (decS d)]] w (RetB (.agg #[.string (decS (a * c)),.string (decS (b * d))]) w):=by
 have H1:=Lib.hid (fun W (hB:Below w.heap.size w W)=>mulN_ok a c W (hG.below hB) ha hc h1)
 have H2:=Lib.hid (fun W (hB:Below w.heap.size w W)=>mulN_ok b d W (hG.below hB) hb hd h2)
 generalize decS (a * c)=X at *
 generalize decS (b * d)=Y at *
 generalize decS a=sa at *
 generalize decS b=sb at *
 generalize decS c=sc at *
 generalize decS d=sd at *
 clear hG ha hb hc hd h1 h2
 go_enter Tryz.func246,Tryz.ntmps246
 go_wp2_with fail
 have hb0:Below w.heap.size w (((w.alloc (.cells #[.string sa,.string sb] 176)).alloc (.cells #[.string sc,.string sd] 176)).alloc (.cells #[.string ⟨#[]⟩,.string ⟨#[]⟩] 176)):=qbl
 have x0:BoxT2 176 (((w.alloc (.cells #[.string sa,.string sb] 176)).alloc (.cells #[.string sc,.string sd] 176)).alloc (.cells #[.string ⟨#[]⟩,.string ⟨#[]⟩] 176)) w.heap.size (.string sa) (.string sb):=((BoxT2.new rfl).below (bw4 (bw0 _ _) _)).below (bw4 (bw0 _ _) _)
 have x1:BoxT2 176 (((w.alloc (.cells #[.string sa,.string sb] 176)).alloc (.cells #[.string sc,.string sd] 176)).alloc (.cells #[.string ⟨#[]⟩,.string ⟨#[]⟩] 176)) (w.heap.size+1) (.string sc) (.string sd):=(BoxT2.new (by simp)).below (bw4 (bw0 _ _) _)
 have x2:BoxT2 176 (((w.alloc (.cells #[.string sa,.string sb] 176)).alloc (.cells #[.string sc,.string sd] 176)).alloc (.cells #[.string ⟨#[]⟩,.string ⟨#[]⟩] 176)) (w.heap.size+2) (.string ⟨#[]⟩) (.string ⟨#[]⟩):=BoxT2.new (by simp)
 generalize (((w.alloc (.cells #[.string sa,.string sb] 176)).alloc (.cells #[.string sc,.string sd] 176)).alloc (.cells #[.string ⟨#[]⟩,.string ⟨#[]⟩] 176))=W7 at *
 have hR:Below W7.heap.size W7 W7.drew:=(bw0 _ _).drew
 refine region_S (F:=[11]) (R:=(fun w'=>Below W7.heap.size W7 w')) 12 #[false,false,false,false,false,false,false,false,false,false,false,false] (by kernel_rfl) (by kernel_rfl) (by kernel_rfl) (fun _ _ _ _ _ h=>h) (fun Q' hQ' hN=>?_)
 generalize W7.drew=wd at *
 refine tkS 5 (i:=0) (v:=?_) (fw:=6) hQ' hR rfl ?_ ?_;rotate_left;(focus (intro wq hRq;have c0:=(x0.below hRq).c0;have c1:=(x0.below hRq).c1;have d0:=(x1.below hRq).c0;have d1:=(x1.below hRq).c1;go_simp;(try with_reducible rfl)));(try simp only [Act.put,bw7,bw8,bw9])
 refine tkS 6 (i:=1) (v:=?_) (fw:=6) hQ' hR rfl ?_ ?_;rotate_left;(focus (intro wq hRq;have c0:=(x0.below hRq).c0;have c1:=(x0.below hRq).c1;have d0:=(x1.below hRq).c0;have d1:=(x1.below hRq).c1;go_simp;(try with_reducible rfl)));(try simp only [Act.put,bw7,bw8,bw9])
 refine tkS 7 (i:=2) (v:=?_) (fw:=6) hQ' hR rfl ?_ ?_;rotate_left;(focus (intro wq hRq;have c0:=(x0.below hRq).c0;have c1:=(x0.below hRq).c1;have d0:=(x1.below hRq).c0;have d1:=(x1.below hRq).c1;go_simp;(try with_reducible rfl)));(try simp only [Act.put,bw7,bw8,bw9])
 refine tkS 8 (i:=3) (v:=?_) (fw:=6) hQ' hR rfl ?_ ?_;rotate_left;(focus (intro wq hRq;have c0:=(x0.below hRq).c0;have c1:=(x0.below hRq).c1;have d0:=(x1.below hRq).c0;have d1:=(x1.below hRq).c1;go_simp;(try with_reducible rfl)));(try simp only [Act.put,bw7,bw8,bw9])
 refine tkS 10 (i:=5) (v:=?_) (fw:=6) hQ' hR rfl ?_ ?_;rotate_left;(focus (intro wq hRq;have c0:=(x0.below hRq).c0;have c1:=(x0.below hRq).c1;have d0:=(x1.below hRq).c0;have d1:=(x1.below hRq).c1;go_simp;(try with_reducible rfl)));(try simp only [Act.put,bw7,bw8,bw9])
 refine tkS 11 (i:=6) (v:=?_) (fw:=6) hQ' hR rfl ?_ ?_;rotate_left;(focus (intro wq hRq;have c0:=(x0.below hRq).c0;have c1:=(x0.below hRq).c1;have d0:=(x1.below hRq).c0;have d1:=(x1.below hRq).c1;go_simp;(try with_reducible rfl)));(try simp only [Act.put,bw7,bw8,bw9])
 refine tkS 12 (i:=7) (v:=?_) (fw:=6) hQ' hR rfl ?_ ?_;rotate_left;(focus (intro wq hRq;have c0:=(x0.below hRq).c0;have c1:=(x0.below hRq).c1;have d0:=(x1.below hRq).c0;have d1:=(x1.below hRq).c1;go_simp;(try with_reducible rfl)));(try simp only [Act.put,bw7,bw8,bw9])
 refine tkS 13 (i:=8) (v:=?_) (fw:=6) hQ' hR rfl ?_ ?_;rotate_left;(focus (intro wq hRq;have c0:=(x0.below hRq).c0;have c1:=(x0.below hRq).c1;have d0:=(x1.below hRq).c0;have d1:=(x1.below hRq).c1;go_simp;(try with_reducible rfl)));(try simp only [Act.put,bw7,bw8,bw9])
 refine wpAnyS_ready (rs:=[4]) (by kernel_rfl) (by simp) ?_
 refine stepR (i:=4) rfl (by kernel_rfl) (fun K hK=>?_) (AllReadyS.nil)
 go_simp
 refine (H1.out _ (below_trans' hb0 hR)).mono ?_
 rintro e wn ⟨rfl,hB'⟩
 replace hR:=below_trans' hR hB'
 clear hB'
 refine hK.out _ _ hR ?_
 clear hK K
 (try simp only [Act.put,bw7,bw8,bw9])
 refine wpAnyS_ready (rs:=[9]) (by kernel_rfl) (by simp) ?_
 refine stepR (i:=9) rfl (by kernel_rfl) (fun K hK=>?_) (AllReadyS.nil)
 go_simp
 refine (H2.out _ (below_trans' hb0 hR)).mono ?_
 rintro e wn ⟨rfl,hB'⟩
 replace hR:=below_trans' hR hB'
 clear hB'
 refine hK.out _ _ hR ?_
 clear hK K
 (try simp only [Act.put,bw7,bw8,bw9])
 refine tkS 15 (i:=10) (v:=?_) (fw:=6) hQ' hR rfl ?_ ?_;rotate_left;(focus (intro wq hRq;have c0:=(x0.below hRq).c0;have c1:=(x0.below hRq).c1;have d0:=(x1.below hRq).c0;have d1:=(x1.below hRq).c1;go_simp;(try with_reducible rfl)));(try simp only [Act.put,bw7,bw8,bw9])
 refine wpAnyS_ready (rs:=[11]) (by kernel_rfl) (by simp) ?_
 refine stepF (i:=11) rfl (by kernel_rfl) (by kernel_rfl) (fun K hK=>?_) (AllReadyS.nil)
 refine wp_storeT2 _ _ _ rfl (x2.below hR) Tryz.infoPair rfl rfl rfl rfl (fun wx hS hx2=>?_)
 have hbz:Below w.heap.size w wx:=hS.below (below_trans' hb0 hR) (by omega)
 refine hK.out _ _ ?_
 clear hK K
 (try simp only [Act.put,bw7,bw8,bw9])
 refine wpAnyS_done (by kernel_rfl) ?_ _
 refine hN.out _ _ ?_
 have g0:=hx2.c0
 have g1:=hx2.c1
 go_wp2_with fail
 refine bodyPost_ret (v:=.agg #[.string X,.string Y]) (by simp [results,Tryz.results246,go_sem,g0,g1]) rfl ?_
 exact ⟨rfl,hbz⟩
theorem pOver_ok (a b c d:Nat) (w:World) (hG:Glo w) (ha:Fit (a:Int)) (hb:Fit (b:Int)) (hc:Fit (c:Int)) (hd:Fit (d:Int)) (h1:Fit ((a * d:Nat):Int)) (h2:Fit ((b * c:Nat):Int)) :
  Calls Tryz.prog 245 #[.agg #[.string (decS a),.string (decS b)],.agg #[.string (decS c),.string (decS d)]] w (RetB (.agg #[.string (decS (a * d)),.string (decS (b * c))]) w):=by
 have H1:=Lib.hid (fun W (hB:Below w.heap.size w W)=>mulN_ok a d W (hG.below hB) ha hd h1)
 have H2:=Lib.hid (fun W (hB:Below w.heap.size w W)=>mulN_ok b c W (hG.below hB) hb hc h2)
 generalize decS (a * d)=X at *
 generalize decS (b * c)=Y at *
 generalize decS a=sa at *
 generalize decS b=sb at *
 generalize decS c=sc at *
 generalize decS d=sd at *
 clear hG ha hb hc hd h1 h2
 go_enter Tryz.func245,Tryz.ntmps245
 go_wp2_with fail
 have hb0:Below w.heap.size w (((w.alloc (.cells #[.string sa,.string sb] 176)).alloc (.cells #[.string sc,.string sd] 176)).alloc (.cells #[.string ⟨#[]⟩,.string ⟨#[]⟩] 176)):=qbl
 have x0:BoxT2 176 (((w.alloc (.cells #[.string sa,.string sb] 176)).alloc (.cells #[.string sc,.string sd] 176)).alloc (.cells #[.string ⟨#[]⟩,.string ⟨#[]⟩] 176)) w.heap.size (.string sa) (.string sb):=((BoxT2.new rfl).below (bw4 (bw0 _ _) _)).below (bw4 (bw0 _ _) _)
 have x1:BoxT2 176 (((w.alloc (.cells #[.string sa,.string sb] 176)).alloc (.cells #[.string sc,.string sd] 176)).alloc (.cells #[.string ⟨#[]⟩,.string ⟨#[]⟩] 176)) (w.heap.size+1) (.string sc) (.string sd):=(BoxT2.new (by simp)).below (bw4 (bw0 _ _) _)
 have x2:BoxT2 176 (((w.alloc (.cells #[.string sa,.string sb] 176)).alloc (.cells #[.string sc,.string sd] 176)).alloc (.cells #[.string ⟨#[]⟩,.string ⟨#[]⟩] 176)) (w.heap.size+2) (.string ⟨#[]⟩) (.string ⟨#[]⟩):=BoxT2.new (by simp)
 generalize (((w.alloc (.cells #[.string sa,.string sb] 176)).alloc (.cells #[.string sc,.string sd] 176)).alloc (.cells #[.string ⟨#[]⟩,.string ⟨#[]⟩] 176))=W7 at *
 have hR:Below W7.heap.size W7 W7.drew:=(bw0 _ _).drew
 refine region_S (F:=[11]) (R:=(fun w'=>Below W7.heap.size W7 w')) 12 #[false,false,false,false,false,false,false,false,false,false,false,false] (by kernel_rfl) (by kernel_rfl) (by kernel_rfl) (fun _ _ _ _ _ h=>h) (fun Q' hQ' hN=>?_)
 generalize W7.drew=wd at *
 refine tkS 5 (i:=0) (v:=?_) (fw:=6) hQ' hR rfl ?_ ?_;rotate_left;(focus (intro wq hRq;have c0:=(x0.below hRq).c0;have c1:=(x0.below hRq).c1;have d0:=(x1.below hRq).c0;have d1:=(x1.below hRq).c1;go_simp;(try with_reducible rfl)));(try simp only [Act.put,bw7,bw8,bw9])
 refine tkS 6 (i:=1) (v:=?_) (fw:=6) hQ' hR rfl ?_ ?_;rotate_left;(focus (intro wq hRq;have c0:=(x0.below hRq).c0;have c1:=(x0.below hRq).c1;have d0:=(x1.below hRq).c0;have d1:=(x1.below hRq).c1;go_simp;(try with_reducible rfl)));(try simp only [Act.put,bw7,bw8,bw9])
 refine tkS 7 (i:=2) (v:=?_) (fw:=6) hQ' hR rfl ?_ ?_;rotate_left;(focus (intro wq hRq;have c0:=(x0.below hRq).c0;have c1:=(x0.below hRq).c1;have d0:=(x1.below hRq).c0;have d1:=(x1.below hRq).c1;go_simp;(try with_reducible rfl)));(try simp only [Act.put,bw7,bw8,bw9])
 refine tkS 8 (i:=3) (v:=?_) (fw:=6) hQ' hR rfl ?_ ?_;rotate_left;(focus (intro wq hRq;have c0:=(x0.below hRq).c0;have c1:=(x0.below hRq).c1;have d0:=(x1.below hRq).c0;have d1:=(x1.below hRq).c1;go_simp;(try with_reducible rfl)));(try simp only [Act.put,bw7,bw8,bw9])
 refine tkS 10 (i:=5) (v:=?_) (fw:=6) hQ' hR rfl ?_ ?_;rotate_left;(focus (intro wq hRq;have c0:=(x0.below hRq).c0;have c1:=(x0.below hRq).c1;have d0:=(x1.below hRq).c0;have d1:=(x1.below hRq).c1;go_simp;(try with_reducible rfl)));(try simp only [Act.put,bw7,bw8,bw9])
 refine tkS 11 (i:=6) (v:=?_) (fw:=6) hQ' hR rfl ?_ ?_;rotate_left;(focus (intro wq hRq;have c0:=(x0.below hRq).c0;have c1:=(x0.below hRq).c1;have d0:=(x1.below hRq).c0;have d1:=(x1.below hRq).c1;go_simp;(try with_reducible rfl)));(try simp only [Act.put,bw7,bw8,bw9])
 refine tkS 12 (i:=7) (v:=?_) (fw:=6) hQ' hR rfl ?_ ?_;rotate_left;(focus (intro wq hRq;have c0:=(x0.below hRq).c0;have c1:=(x0.below hRq).c1;have d0:=(x1.below hRq).c0;have d1:=(x1.below hRq).c1;go_simp;(try with_reducible rfl)));(try simp only [Act.put,bw7,bw8,bw9])
 refine tkS 13 (i:=8) (v:=?_) (fw:=6) hQ' hR rfl ?_ ?_;rotate_left;(focus (intro wq hRq;have c0:=(x0.below hRq).c0;have c1:=(x0.below hRq).c1;have d0:=(x1.below hRq).c0;have d1:=(x1.below hRq).c1;go_simp;(try with_reducible rfl)));(try simp only [Act.put,bw7,bw8,bw9])
 refine wpAnyS_ready (rs:=[4]) (by kernel_rfl) (by simp) ?_
 refine stepR (i:=4) rfl (by kernel_rfl) (fun K hK=>?_) (AllReadyS.nil)
 go_simp
 refine (H1.out _ (below_trans' hb0 hR)).mono ?_
 rintro e wn ⟨rfl,hB'⟩
 replace hR:=below_trans' hR hB'
 clear hB'
 refine hK.out _ _ hR ?_
 clear hK K
 (try simp only [Act.put,bw7,bw8,bw9])
 refine wpAnyS_ready (rs:=[9]) (by kernel_rfl) (by simp) ?_
 refine stepR (i:=9) rfl (by kernel_rfl) (fun K hK=>?_) (AllReadyS.nil)
 go_simp
 refine (H2.out _ (below_trans' hb0 hR)).mono ?_
 rintro e wn ⟨rfl,hB'⟩
 replace hR:=below_trans' hR hB'
 clear hB'
 refine hK.out _ _ hR ?_
 clear hK K
 (try simp only [Act.put,bw7,bw8,bw9])
 refine tkS 15 (i:=10) (v:=?_) (fw:=6) hQ' hR rfl ?_ ?_;rotate_left;(focus (intro wq hRq;have c0:=(x0.below hRq).c0;have c1:=(x0.below hRq).c1;have d0:=(x1.below hRq).c0;have d1:=(x1.below hRq).c1;go_simp;(try with_reducible rfl)));(try simp only [Act.put,bw7,bw8,bw9])
 refine wpAnyS_ready (rs:=[11]) (by kernel_rfl) (by simp) ?_
 refine stepF (i:=11) rfl (by kernel_rfl) (by kernel_rfl) (fun K hK=>?_) (AllReadyS.nil)
 refine wp_storeT2 _ _ _ rfl (x2.below hR) Tryz.infoPair rfl rfl rfl rfl (fun wx hS hx2=>?_)
 have hbz:Below w.heap.size w wx:=hS.below (below_trans' hb0 hR) (by omega)
 refine hK.out _ _ ?_
 clear hK K
 (try simp only [Act.put,bw7,bw8,bw9])
 refine wpAnyS_done (by kernel_rfl) ?_ _
 refine hN.out _ _ ?_
 have g0:=hx2.c0
 have g1:=hx2.c1
 go_wp2_with fail
 refine bodyPost_ret (v:=.agg #[.string X,.string Y]) (by simp [results,Tryz.results245,go_sem,g0,g1]) rfl ?_
 exact ⟨rfl,hbz⟩
theorem pFloor_ok (a b:Nat) (w:World) (hG:Glo w) (ha:Fit (a:Int)) (hb:Fit (b:Int)) (hb0:0 < b) :
  Calls Tryz.prog 247 #[.agg #[.string (decS a),.string (decS b)]] w (RetB (.string (decS (a / b))) w):=by
 have H1:=Lib.hid (fun W (hB:Below w.heap.size w W)=>quotN_ok a b W (hG.below hB) ha hb hb0)
 generalize decS (a / b)=X at *
 generalize decS (a % b)=Y at *
 generalize decS a=sa at *
 generalize decS b=sb at *
 clear hG ha hb
 go_enter Tryz.func247,Tryz.ntmps247
 go_wp2_with fail
 refine (H1.out _ qbl).mono ?_
 rintro e w1 ⟨rfl,hB1⟩
 have hb1:Below w.heap.size w w1:=qbl
 clear hB1
 go_wp2_with fail
 go_ret
 exact ⟨rfl,hb1⟩
end Go.Proofs.YthihcjgmlbnapaaGreatDoor
