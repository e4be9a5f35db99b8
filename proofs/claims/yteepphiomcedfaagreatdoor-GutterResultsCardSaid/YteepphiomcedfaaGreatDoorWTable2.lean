/- Walks: kingpostref50.Check and gutter.Check of a table: both return its code. -/
import Derived.Test.YteepphiomcedfaaGreatDoorWTable
set_option maxRecDepth 100000
set_option linter.unusedVariables false
set_option linter.unusedSimpArgs false
set_option maxHeartbeats 6400000
namespace Go.Proofs.YteepphiomcedfaaGreatDoor
open Go.RowKit
theorem CodeT.bad {T:List (List Int)} {k:Nat} {c:Int} (hk:k < T.length) (hj:∀ j,j < k→rowCode T j=0) (hc:rowCode T k=c) (c0:c≠0):CodeT T c:=.inr (.inl ⟨by omega,c0,k,hk,hj,hc⟩)
theorem code9 {T:List (List Int)} {k:Nat} (h:(rowT T k).length≠2):rowCode T k=9:=by unfold rowCode;rw [if_pos h]
theorem code2 {T:List (List Int)} {k:Nat} {x y:Int} (h:(rowT T k).length=2) (hx:lim (rowT T k) 0=x) (hy:lim (rowT T k) 1=y) (hr:x < 1∨1000 < x∨y < 1∨1048576 < y):rowCode T k=2:=by
 unfold rowCode;rw [if_neg (by omega),hx,hy,if_pos hr]
theorem code10 {T:List (List Int)} {k:Nat} {x y p q:Int} (h:(rowT T k).length=2) (hx:lim (rowT T k) 0=x) (hy:lim (rowT T k) 1=y) (hp:lim (rowT T (k - 1)) 0=p) (hq:lim (rowT T (k - 1)) 1=q) (hr:¬ (x < 1∨1000 < x∨y < 1∨1048576 < y)) (h0:0 < k) (ho:x≤p∨y≤q):rowCode T k=10:=by
 unfold rowCode;rw [if_neg (by omega),hx,hy,if_neg hr,hp,hq,if_pos ⟨h0,ho⟩]
theorem code0 {T:List (List Int)} {k:Nat} {x y p q:Int} (h:(rowT T k).length=2) (hx:lim (rowT T k) 0=x) (hy:lim (rowT T k) 1=y) (hp:lim (rowT T (k - 1)) 0=p) (hq:lim (rowT T (k - 1)) 1=q) (hr:¬ (x < 1∨1000 < x∨y < 1∨1048576 < y)) (ho:¬ (0 < k∧(x≤p∨y≤q))):rowCode T k=0:=by
 unfold rowCode;rw [if_neg (by omega),hx,hy,if_neg hr,hp,hq,if_neg ho]
theorem IsInts.two {w:World} {u:Value} {l:List Int} (h:IsInts w u l) (h2:l.length=2):∃ b off cap,u=.slice (some ⟨b,off,none⟩) 2 cap∧w.cell? ⟨b,off,none⟩=some (.int .i64 (lim l 0))∧w.cell? ⟨b,off+1,none⟩=some (.int .i64 (lim l 1)):=by
 obtain ⟨a,cap,rfl,_,hc⟩:=h
 obtain ⟨b,off,rfl,hcc⟩:=hc (by omega)
 exact ⟨b,off,cap,by rw [h2],hcc 0 (by omega),hcc 1 (by omega)⟩
theorem refCheckT_ok (T:List (List Int)) (v:Value) (w:World) (hv:IsTable w v T) (h12:T.length≤12):Calls Tryz.prog 27 #[v] w (RetCodeT T w):=by
 have HV:=Lib.hid hv
 obtain ⟨a,cap,rfl,-,-,hc⟩:=hv
 have HC:=Lib.hid hc
 clear hc
 by_cases h0:T.length=0
 ·have hz:((T.length:Int) == 0)=true:=by rw [h0];rfl
  have HF:Hid (CodeT T 5):=Lib.hid (.inl ⟨h0,rfl⟩)
  clear h0
  go_enter Tryz.func27,Tryz.ntmps27
  go_wp2_with fail
  go_ret
  exact ⟨5,rfl,HF,qbl⟩
 ·have hz:((T.length:Int) == 0)=false:=by rw [beq_eq_false_iff_ne];omega
  go_enter Tryz.func27,Tryz.ntmps27
  go_wp2_with fail
  go_loopw [3] (fun i wr=>∃ k:Nat,k≤T.length∧i=.int .i64 k∧Hid (∀ j,j < k→rowCode T j=0)∧Below w.heap.size w wr) (fun i _=>T.length - (intOf i).toNat)
  case atStart=>exact ⟨0,by omega,rfl,Lib.hid (fun j h=>by omega),bw0 _ _⟩
  case round =>
   obtain ⟨k,hk,rfl,HL,hB⟩:=hrel
   by_cases hlt:k < T.length
   ·obtain ⟨b,off,rfl,-⟩:=HC.out (fun h=>by rw [h] at hlt;simp at hlt)
    obtain ⟨_,_,e,_,_,h4⟩:=HV.out.below hB
    obtain ⟨b2,off2,rfl,hcc⟩:=h4 (fun h=>by rw [h] at hlt;simp at hlt)
    cases e
    obtain ⟨u,hu,hi⟩:=hcc k hlt
    have BAD:=Lib.hid (fun (c:Int) (hc:rowCode T k=c) (c0:c≠0)=>CodeT.bad hlt HL.out hc c0)
    by_cases h2:(rowT T k).length=2
    ·obtain ⟨rb,ro,rc,rfl,c0,c1⟩:=hi.two h2
     have HX:=Lib.hid (rfl:lim (rowT T k) 0=lim (rowT T k) 0)
     obtain ⟨x,hx⟩:∃ x,lim (rowT T k) 0=x:=⟨_,rfl⟩
     obtain ⟨y,hy⟩:∃ y,lim (rowT T k) 1=y:=⟨_,rfl⟩
     rw [hx] at c0
     rw [hy] at c1
     have H2:=Lib.hid h2
     have HX:=Lib.hid hx
     have HY:=Lib.hid hy
     by_cases hr:x < 1∨1000 < x∨y < 1∨1048576 < y
     ·have HF:=Lib.hid (BAD.out _ (code2 h2 hx hy hr) (by decide))
      clear hx hy h2 BAD hcc hi
      have hr4:x < 1∨(¬ x < 1∧1000 < x)∨(¬ x < 1∧¬ 1000 < x∧y < 1)∨(¬ x < 1∧¬ 1000 < x∧¬ y < 1∧1048576 < y):=by omega
      clear hr
      rcases hr4 with r1|⟨r1,r2⟩|⟨r1,r2,r3⟩|⟨r1,r2,r3,r4⟩
      ·skip
       go_wp2_with fail
       go_ret
       exact ⟨2,rfl,HF,qbl⟩
      ·skip
       go_wp2_with fail
       go_ret
       exact ⟨2,rfl,HF,qbl⟩
      ·skip
       go_wp2_with fail
       go_ret
       exact ⟨2,rfl,HF,qbl⟩
      ·skip
       go_wp2_with fail
       go_ret
       exact ⟨2,rfl,HF,qbl⟩
     ·have r1:¬ x < 1:=by omega
      have r2:¬ 1000 < x:=by omega
      have r3:¬ y < 1:=by omega
      have r4:¬ 1048576 < y:=by omega
      by_cases hk0:k=0
      ·have HN:Hid (∀ j,j < k+1→rowCode T j=0):=Lib.hid (fun j hj=>by
        obtain rfl:j=k:=by omega
        exact code0 h2 hx hy rfl rfl hr (by omega))
       have hkn:decide (0 < k)=false:=by simp;omega
       clear hx hy h2 BAD hcc hi hr hk0
       go_wp2_with fail
       go_quiet (fail)
       go_wp2_with fail
       go_roundw
       case rel=>exact ⟨k+1,by omega,by go_num,HN,qbl⟩
       case measure=>simp [intOf];omega
      ·obtain ⟨u',hu',hi'⟩:=hcc (k - 1) (by omega)
       obtain ⟨pb,po,pc,rfl,d0,d1⟩:=hi'.two (rowCode_len (HL.out (k - 1) (by omega)))
       obtain ⟨p,hp⟩:∃ p,lim (rowT T (k - 1)) 0=p:=⟨_,rfl⟩
       obtain ⟨q,hq⟩:∃ q,lim (rowT T (k - 1)) 1=q:=⟨_,rfl⟩
       rw [hp] at d0
       rw [hq] at d1
       have hkp:decide (0 < k)=true:=by simp;omega
       have hk6:(1:Int)≤(k:Int):=by omega
       have hk1:IntKind.i64.wrap ((k:Int) - 1)=(k:Int) - 1:=IntWalk.i64_in _ (by omega)
       have hk2:0≤(k:Int) - 1:=by omega
       have hk3:((k:Int) - 1).toNat=k - 1:=by omega
       have hk4:(k:Int) - 1 < (T.length:Int):=by omega
       have hk5:k - 1 < T.length:=by omega
       by_cases ho:x≤p∨y≤q
       ·have HF:=Lib.hid (BAD.out _ (code10 h2 hx hy hp hq hr (by omega) ho) (by decide))
        clear hx hy h2 BAD hcc hi hr hp hq hi'
        have ho2:decide (x≤p)=true∨(decide (x≤p)=false∧decide (y≤q)=true):=by simp;omega
        clear ho
        rcases ho2 with o1|⟨o1,o2⟩
        ·skip
         go_wp2_with fail
         go_quiet (fail)
         go_wp2_with fail
         go_ret
         exact ⟨10,rfl,HF,qbl⟩
        ·skip
         go_wp2_with fail
         go_quiet (fail)
         go_wp2_with fail
         go_ret
         exact ⟨10,rfl,HF,qbl⟩
       ·have HN:Hid (∀ j,j < k+1→rowCode T j=0):=Lib.hid (fun j hj=>by
         by_cases h:j < k
         ·exact HL.out j h
         ·obtain rfl:j=k:=by omega
          exact code0 h2 hx hy hp hq hr (fun h=>ho h.2))
        have o1:decide (x≤p)=false:=by simp;omega
        have o2:decide (y≤q)=false:=by simp;omega
        clear hx hy h2 BAD hcc hi hr hp hq hi' ho
        go_wp2_with fail
        go_quiet (fail)
        go_wp2_with fail
        go_roundw
        case rel=>exact ⟨k+1,by omega,by go_num,HN,qbl⟩
        case measure=>simp [intOf];omega
    ·have HF:=Lib.hid (BAD.out _ (code9 h2) (by decide))
     have hne:(((rowT T k).length:Int) != 2)=true:=by simp;omega
     obtain ⟨ra,rc,rfl,-,-⟩:=hi
     clear h2 BAD hcc
     go_wp2_with fail
     go_ret
     exact ⟨9,rfl,HF,qbl⟩
   ·have e:k=T.length:=by omega
    have HF:Hid (CodeT T 0):=Lib.hid (.inr (.inr ⟨h0,rfl,fun j hj=>HL.out j (by omega)⟩))
    subst e
    go_wp2_with fail
    go_ret
    exact ⟨0,rfl,HF,qbl⟩
theorem gutCheckT_ok (T:List (List Int)) (v:Value) (w:World) (hv:IsTable w v T) (h12:T.length≤12):Calls Tryz.prog 26 #[v] w (RetCodeT T w):=by
 have HV:=Lib.hid hv
 obtain ⟨a,cap,rfl,-,-,hc⟩:=hv
 have HC:=Lib.hid hc
 clear hc
 by_cases h0:T.length=0
 ·have hz:((T.length:Int) == 0)=true:=by rw [h0];rfl
  have HF:Hid (CodeT T 5):=Lib.hid (.inl ⟨h0,rfl⟩)
  clear h0
  go_enter Tryz.func26,Tryz.ntmps26
  go_wp2_with fail
  go_ret
  exact ⟨5,rfl,HF,qbl⟩
 ·have hz:((T.length:Int) == 0)=false:=by rw [beq_eq_false_iff_ne];omega
  go_enter Tryz.func26,Tryz.ntmps26
  go_wp2_with fail
  go_loopw [15] (fun i wr=>∃ k:Nat,k≤T.length∧i=.int .i64 k∧Hid (∀ j,j < k→rowCode T j=0)∧Below w.heap.size w wr) (fun i _=>T.length - (intOf i).toNat)
  case atStart=>exact ⟨0,by omega,rfl,Lib.hid (fun j h=>by omega),bw0 _ _⟩
  case round =>
   obtain ⟨k,hk,rfl,HL,hB⟩:=hrel
   by_cases hlt:k < T.length
   ·obtain ⟨b,off,rfl,-⟩:=HC.out (fun h=>by rw [h] at hlt;simp at hlt)
    obtain ⟨_,_,e,_,_,h4⟩:=HV.out.below hB
    obtain ⟨b2,off2,rfl,hcc⟩:=h4 (fun h=>by rw [h] at hlt;simp at hlt)
    cases e
    obtain ⟨u,hu,hi⟩:=hcc k hlt
    have BAD:=Lib.hid (fun (c:Int) (hc:rowCode T k=c) (c0:c≠0)=>CodeT.bad hlt HL.out hc c0)
    by_cases h2:(rowT T k).length=2
    ·obtain ⟨rb,ro,rc,rfl,c0,c1⟩:=hi.two h2
     have HX:=Lib.hid (rfl:lim (rowT T k) 0=lim (rowT T k) 0)
     obtain ⟨x,hx⟩:∃ x,lim (rowT T k) 0=x:=⟨_,rfl⟩
     obtain ⟨y,hy⟩:∃ y,lim (rowT T k) 1=y:=⟨_,rfl⟩
     rw [hx] at c0
     rw [hy] at c1
     have H2:=Lib.hid h2
     have HX:=Lib.hid hx
     have HY:=Lib.hid hy
     by_cases hr:x < 1∨1000 < x∨y < 1∨1048576 < y
     ·have HF:=Lib.hid (BAD.out _ (code2 h2 hx hy hr) (by decide))
      clear hx hy h2 BAD hcc hi
      have hr4:x < 1∨(¬ x < 1∧1000 < x)∨(¬ x < 1∧¬ 1000 < x∧y < 1)∨(¬ x < 1∧¬ 1000 < x∧¬ y < 1∧1048576 < y):=by omega
      clear hr
      rcases hr4 with r1|⟨r1,r2⟩|⟨r1,r2,r3⟩|⟨r1,r2,r3,r4⟩
      ·skip
       go_wp2_with fail
       go_ret
       exact ⟨2,rfl,HF,qbl⟩
      ·skip
       go_wp2_with fail
       go_ret
       exact ⟨2,rfl,HF,qbl⟩
      ·skip
       go_wp2_with fail
       go_ret
       exact ⟨2,rfl,HF,qbl⟩
      ·skip
       go_wp2_with fail
       go_ret
       exact ⟨2,rfl,HF,qbl⟩
     ·have r1:¬ x < 1:=by omega
      have r2:¬ 1000 < x:=by omega
      have r3:¬ y < 1:=by omega
      have r4:¬ 1048576 < y:=by omega
      by_cases hk0:k=0
      ·have HN:Hid (∀ j,j < k+1→rowCode T j=0):=Lib.hid (fun j hj=>by
        obtain rfl:j=k:=by omega
        exact code0 h2 hx hy rfl rfl hr (by omega))
       have hkn:decide (0 < k)=false:=by simp;omega
       clear hx hy h2 BAD hcc hi hr hk0
       go_wp2_with fail
       go_quiet (fail)
       go_wp2_with fail
       go_roundw
       case rel=>exact ⟨k+1,by omega,by go_num,HN,qbl⟩
       case measure=>simp [intOf];omega
      ·obtain ⟨u',hu',hi'⟩:=hcc (k - 1) (by omega)
       obtain ⟨pb,po,pc,rfl,d0,d1⟩:=hi'.two (rowCode_len (HL.out (k - 1) (by omega)))
       obtain ⟨p,hp⟩:∃ p,lim (rowT T (k - 1)) 0=p:=⟨_,rfl⟩
       obtain ⟨q,hq⟩:∃ q,lim (rowT T (k - 1)) 1=q:=⟨_,rfl⟩
       rw [hp] at d0
       rw [hq] at d1
       have hkp:decide (0 < k)=true:=by simp;omega
       have hk6:(1:Int)≤(k:Int):=by omega
       have hk1:IntKind.i64.wrap ((k:Int) - 1)=(k:Int) - 1:=IntWalk.i64_in _ (by omega)
       have hk2:0≤(k:Int) - 1:=by omega
       have hk3:((k:Int) - 1).toNat=k - 1:=by omega
       have hk4:(k:Int) - 1 < (T.length:Int):=by omega
       have hk5:k - 1 < T.length:=by omega
       by_cases ho:x≤p∨y≤q
       ·have HF:=Lib.hid (BAD.out _ (code10 h2 hx hy hp hq hr (by omega) ho) (by decide))
        clear hx hy h2 BAD hcc hi hr hp hq hi'
        have ho2:decide (x≤p)=true∨(decide (x≤p)=false∧decide (y≤q)=true):=by simp;omega
        clear ho
        rcases ho2 with o1|⟨o1,o2⟩
        ·skip
         go_wp2_with fail
         go_quiet (fail)
         go_wp2_with fail
         go_ret
         exact ⟨10,rfl,HF,qbl⟩
        ·skip
         go_wp2_with fail
         go_quiet (fail)
         go_wp2_with fail
         go_ret
         exact ⟨10,rfl,HF,qbl⟩
       ·have HN:Hid (∀ j,j < k+1→rowCode T j=0):=Lib.hid (fun j hj=>by
         by_cases h:j < k
         ·exact HL.out j h
         ·obtain rfl:j=k:=by omega
          exact code0 h2 hx hy hp hq hr (fun h=>ho h.2))
        have o1:decide (x≤p)=false:=by simp;omega
        have o2:decide (y≤q)=false:=by simp;omega
        clear hx hy h2 BAD hcc hi hr hp hq hi' ho
        go_wp2_with fail
        go_quiet (fail)
        go_wp2_with fail
        go_roundw
        case rel=>exact ⟨k+1,by omega,by go_num,HN,qbl⟩
        case measure=>simp [intOf];omega
    ·have HF:=Lib.hid (BAD.out _ (code9 h2) (by decide))
     have hne:(((rowT T k).length:Int) != 2)=true:=by simp;omega
     obtain ⟨ra,rc,rfl,-,-⟩:=hi
     clear h2 BAD hcc
     go_wp2_with fail
     go_ret
     exact ⟨9,rfl,HF,qbl⟩
   ·have e:k=T.length:=by omega
    have HF:Hid (CodeT T 0):=Lib.hid (.inr (.inr ⟨h0,rfl,fun j hj=>HL.out j (by omega)⟩))
    subst e
    go_wp2_with fail
    go_ret
    exact ⟨0,rfl,HF,qbl⟩
end Go.Proofs.YteepphiomcedfaaGreatDoor
