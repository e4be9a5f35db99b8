/- Tables (rows of ints), and the codes of both Checks. -/
import Derived.Test.YteepphiomcedfaaGreatDoorJ15
import Derived.Test.YteepphiomcedfaaGreatDoorJ02
import Derived.Deep.Matrix
import Derived.BigQuiet
set_option maxRecDepth 100000
set_option linter.unusedVariables false
set_option linter.unusedSimpArgs false
set_option maxHeartbeats 6400000
namespace Go.Proofs.YteepphiomcedfaaGreatDoor
open Go.ChangeShapes Go.WideShapes Go.ChangeAt Go.RowKit Go.Deep
def rowT (T:List (List Int)) (k:Nat):List Int:=T.getD k []
def IsTable (w:World) (v:Value) (T:List (List Int)):Prop:=∃ (a:Option Addr) (cap:Nat),v=.slice a T.length cap∧T.length≤maxLen∧(∀ k,(rowT T k).length≤maxLen) ∧
 (T≠[]→∃ b off,a=some ⟨b,off,none⟩∧∀ k,k < T.length→∃ u,w.cell? ⟨b,off+k,none⟩=some u∧IsInts w u (rowT T k))
theorem IsTable.below {w w':World} {v:Value} {T:List (List Int)} (h:IsTable w v T) (hB:Below w.heap.size w w'):IsTable w' v T:=by
 obtain ⟨a,cap,h1,h2,h3,h4⟩:=h
 refine ⟨a,cap,h1,h2,h3,fun hn=>?_⟩
 obtain ⟨b,off,e,hc⟩:=h4 hn
 refine ⟨b,off,e,fun k hk=>?_⟩
 obtain ⟨u,hu,hi⟩:=hc k hk
 exact ⟨u,keep hB hu,hi.below hB⟩
theorem spot_none' {W:World} {a:Addr} {v:Value} (h:W.cell? a=some v):a.spot=none:=by
 unfold World.cell? at h
 split at h
 ·split at h
  ·cases h
  ·rename_i hs;simpa using hs
 ·cases h
theorem add_none {W:World} {a:Addr} {v:Value} {i:Nat} (h:W.cell? (a.add i)=some v):a.add i=⟨a.block,a.off+i,none⟩:=by
 have hsp:=spot_none' h
 by_cases hz:i=0
 ·subst hz
  cases a
  simp [Addr.add] at hsp ⊢
  exact hsp
 ·simp [Addr.add,hz]
theorem at_none {W:World} {a:Addr} {v:Value} (h:W.cell? (a.add 0)=some v):a=⟨a.block,a.off,none⟩:=by
 have:=add_none h
 cases a
 simp [Addr.add] at this ⊢
 exact this
theorem cellRow:Tryz.prog.cellsOf 51=1:=by kernel_rfl
theorem cellInt':Tryz.prog.cellsOf 3=1:=by kernel_rfl
theorem open_table {H:Type} {enc:TypeId × Value→H} {W:World} {base:Nat} {v:Value} {d:DataW H} {p:List MemPlace}
  (hval:Value.okWide Tryz.prog W .any base 46 v) (h:DataW.Trod enc Tryz.prog W 0 (fun _=>true) true 46 v d p):∃ T:List (List Int),IsTable W v T:=by
 obtain ⟨a0,len,cap,rfl⟩:=okWide_slice Tryz.underlying46 hval
 obtain ⟨fuel,hf⟩:=h
 rcases open_int_rows Tryz.underlying46 Tryz.underlying51 Tryz.underlying3 cellRow cellInt' hf with ⟨hcs,hx⟩|⟨a,len',cap',A,L,C,Z,hcs,_,hl,hm,hx,hr⟩
 ·simp [Value.cells] at hcs
  obtain ⟨rfl,rfl,rfl⟩:=hcs
  exact ⟨[],none,0,rfl,Nat.zero_le _,fun k=>by simp [rowT],fun h=>absurd rfl h⟩
 ·simp [Value.cells] at hcs
  obtain ⟨rfl,rfl,rfl⟩:=hcs
  have hlen:((List.range len).map fun r=>(Z r).take (L r)).length=len:=by simp
  have hrow:∀ k,k < len→rowT ((List.range len).map fun r=>(Z r).take (L r)) k=(Z k).take (L k):=fun k hk=>by
   unfold rowT
   rw [List.getD_eq_getElem?_getD,List.getElem?_map,List.getElem?_range hk]
   rfl
  refine ⟨(List.range len).map fun r=>(Z r).take (L r),some a,cap,by rw [hlen],by rw [hlen];omega,fun k=>?_,fun hne=>?_⟩
  ·by_cases hk:k < len
   ·rw [hrow k hk]
    obtain ⟨_,h1,h2,h3,_⟩:=hr k (by omega)
    simp;omega
   ·unfold rowT
    rw [List.getD_eq_getElem?_getD,List.getElem?_eq_none (by rw [hlen];omega)]
    exact Nat.zero_le _
  ·have h0:0 < len:=by
    rcases Nat.eq_zero_or_pos len with h0|h0
    ·subst h0;exact absurd rfl hne
    ·exact h0
   refine ⟨a.block,a.off,by rw [← at_none (hr 0 (by omega)).1],fun k hk=>?_⟩
   rw [hlen] at hk
   obtain ⟨h1,h2,h3,h4,h5,h6,h7⟩:=hr k (by omega)
   refine ⟨.slice (A k) (L k) (C k),by rw [← add_none h1];exact h1,?_⟩
   rw [hrow k hk]
   have hl2:((Z k).take (L k)).length=L k:=by simp;omega
   refine ⟨A k,C k,by rw [hl2],by rw [hl2];exact h2,fun hn=>?_⟩
   rw [hl2] at hn ⊢
   cases hA:A k with
   | none=>exact absurd (h6 hA) (by omega)
   | some a' =>
    obtain ⟨_,hc⟩:=h7 a' hA
    refine ⟨a'.block,a'.off,by rw [← at_none (hc 0 (by omega))],fun c hc'=>?_⟩
    have e1:=hc c (by omega)
    rw [add_none e1] at e1
    rw [e1]
    congr 2
    unfold lim
    rw [List.getD_eq_getElem?_getD,List.getD_eq_getElem?_getD,List.getElem?_take_of_lt hc']
def rowCode (T:List (List Int)) (k:Nat):Int :=
 if (rowT T k).length≠2 then 9
 else if lim (rowT T k) 0 < 1∨1000 < lim (rowT T k) 0∨lim (rowT T k) 1 < 1∨1048576 < lim (rowT T k) 1 then 2
 else if 0 < k∧(lim (rowT T k) 0≤lim (rowT T (k - 1)) 0∨lim (rowT T k) 1≤lim (rowT T (k - 1)) 1) then 10 else 0
def CodeT (T:List (List Int)) (c:Int):Prop:=(T.length=0∧c=5)∨(T.length≠0∧c≠0∧∃ k,k < T.length∧(∀ j,j < k→rowCode T j=0)∧rowCode T k=c)∨(T.length≠0∧c=0∧∀ j,j < T.length→rowCode T j=0)
theorem CodeT.uniq {T:List (List Int)} {c d:Int} (hc:CodeT T c) (hd:CodeT T d):c=d:=by
 rcases hc with ⟨h,rfl⟩|⟨h,c0,k,hk,hj,rfl⟩|⟨h,rfl,ha⟩<;>rcases hd with ⟨h',rfl⟩|⟨h',d0,k',hk',hj',rfl⟩|⟨h',rfl,ha'⟩<;>try omega
 ·rcases Nat.lt_trichotomy k k' with hlt|rfl|hlt
  ·exact absurd (hj' k hlt) c0
  ·rfl
  ·exact absurd (hj k' hlt) d0
 ·exact absurd (ha' k hk) c0
 ·exact absurd (ha k' hk') d0
theorem rowCode_len {T:List (List Int)} {k:Nat} (h:rowCode T k=0):(rowT T k).length=2:=by
 refine Decidable.byContradiction fun hn=>?_
 unfold rowCode at h
 rw [if_pos hn] at h
 exact absurd h (by decide)
def RetCodeT (T:List (List Int)) (w:World) (e:Ending) (w':World):Prop:=∃ c:Int,e=.returned (.int .i64 c)∧Hid (CodeT T c)∧Below w.heap.size w w'
theorem greatTable_ok (T:List (List Int)) (v:Value) (w:World) (hv:IsTable w v T) :
  Calls Tryz.prog 22 #[v] w fun e w'=>∃ b:Bool,e=.returned (.bool b)∧Hid (b=false→T.length≤12∧∀ k,(rowT T k).length≤4)∧w'=w:=by
 obtain ⟨a,cap,rfl,hT,hR,hc⟩:=hv
 have HR:=Lib.hid hR
 have HC:=Lib.hid hc
 have hT':(T.length:Int)≤9223372036854775807:=by unfold maxLen at hT;omega
 clear hR hc hT
 go_enter Tryz.func22,Tryz.ntmps22
 go_wp2_with fail
 go_loopw [3] (fun i wr=>∃ k:Nat,k≤T.length∧i=.int .i64 k∧Hid (∀ j,j < k→(rowT T j).length≤4)∧wr=w) (fun i _=>T.length - (intOf i).toNat)
 case atStart=>exact ⟨0,by omega,rfl,Lib.hid (fun j h=>by omega),rfl⟩
 case round =>
  obtain ⟨k,hk,rfl,HL,hwr⟩:=hrel
  subst wr
  by_cases hlt:k < T.length
  ·obtain ⟨b,off,rfl,hcc⟩:=HC.out (fun h=>by rw [h] at hlt;simp at hlt)
   obtain ⟨u,hu,hi⟩:=hcc k hlt
   obtain ⟨ra,rc,rfl,-,-⟩:=hi
   by_cases h4:(rowT T k).length≤4
   ·have h4':decide ((4:Int) < ((rowT T k).length:Int))=false:=by simp;omega
    have HL2:Hid (∀ j,j < k+1→(rowT T j).length≤4):=Lib.hid (fun j hj=>by
     by_cases h:j < k
     ·exact HL.out j h
     ·obtain rfl:j=k:=by omega
      exact h4)
    clear h4 hcc
    go_wp2_with fail
    go_roundw
    case rel=>exact ⟨k+1,by omega,by go_num,HL2,by trivial⟩
    case measure=>simp [intOf];omega
   ·have h4':decide ((4:Int) < ((rowT T k).length:Int))=true:=by simp;omega
    clear h4 hcc
    go_wp2_with fail
    go_ret
    exact ⟨true,rfl,Lib.hid (fun h=>by cases h),rfl⟩
  ·have e:k=T.length:=by omega
   subst e
   have HF:Hid (decide ((12:Int) < (T.length:Int))=false→T.length≤12∧∀ k,(rowT T k).length≤4):=Lib.hid (fun h=>by
    refine ⟨by simp at h;omega,fun j=>?_⟩
    by_cases hj:j < T.length
    ·exact HL.out j hj
    ·unfold rowT
     rw [List.getD_eq_getElem?_getD,List.getElem?_eq_none (by omega)]
     exact Nat.zero_le _)
   go_wp2_with fail
   go_ret
   exact ⟨_,rfl,HF,rfl⟩
end Go.Proofs.YteepphiomcedfaaGreatDoor
