/- Joined texts: WGreat47, WSpareAny, WAwake, WOpenC, WSteps, WCourses48. -/
import Derived.Test.YteepphiomcedfaaGreatDoorW47
import Derived.Test.YteepphiomcedfaaGreatDoorJ30
import Derived.Test.YteepphiomcedfaaGreatDoorJ07
import Derived.Test.YteepphiomcedfaaGreatDoorJ08
import Derived.BigRegion
import Derived.Test.YteepphiomcedfaaGreatDoorJ10
import Derived.Test.YteepphiomcedfaaGreatDoorJ02
import Derived.Test.YteepphiomcedfaaGreatDoorJ28
import Derived.Test.YteepphiomcedfaaGreatDoorWTable
import Derived.Deep.SlicePairs
set_option maxRecDepth 100000
set_option linter.unusedVariables false
set_option linter.unusedSimpArgs false
set_option maxHeartbeats 6400000
namespace Go.Proofs.YteepphiomcedfaaGreatDoor
open Go.RowKit
theorem block_cells' {W:World} {k:Nat} {cs:List Value} {t:TypeId} (h:W.heap[k]?=some (.cells cs.toArray t (0,0))):∀ j u,cs[j]?=some u→W.cell? (Addr.add ⟨k,0,none⟩ j)=some u:=by
 intro j u hj
 rw [addr_add,Nat.zero_add]
 simp only [World.cell?,h]
 simpa using hj
theorem wpS_append {w:World} {o:Oper} {a:Act} {K:Act→World→Prop} {Q:Exit→Act→World→Prop}
  (s x:Operand) (t:TypeId) (hop:o.op=Op.call { callee:=Callee.builtin Builtin.append,args:=#[s,x],argTypes:=#[t,t] })
  (base:Nat) (e:TypeId) (i:TypeInfo) (z:Value) (size bytes:Nat) (h1:Tryz.prog.underlying t=some (.slice e)) (h2:Tryz.prog.info? e=some i) (h3:i.zero=some z) (h4:i.size=size) (h5:i.bytes=bytes) (h6:z.cells.size=size) (h7:0 < size)
  (v:Value) (k:Nat) (xs:List Value) (hs:a.eval s=v) (hown:w.ownsRow base e size v k xs) (ad:Addr) (m c:Nat) (news:List Value) (hx:a.eval x=.slice (some ad) m c) (hn:news.length=m * size)
  (hc:∀ j u,news[j]?=some u→w.cell? (ad.add j)=some u) (h1c:∀ u ∈ news,u.oneCell'=true) (b1:k+m≤maxLen) (b2:(k+m) * bytes≤140737488355328) (b3:base≤w.heap.size)
  (hK:∀ v' w',w'.ownsRow base e size v' (k+m) (xs++news)→w.grownBy w' v.ownBlock→K (a.put o.dst v') w'):o.wp Tryz.prog a w K Q:=by
 obtain ⟨v',w',hrun,r1,r2,r3⟩:=run_append_own (P:=Tryz.prog) w base t o.type e i z size bytes h1 h2 h3 h4 h5 h6 h7 v k xs hown ad m c news hn hc h1c b1 b2 b3
 unfold Oper.wp
 simp [execOp,hop,resolve,invoke,builtin,hs,hx,hrun,Result.andThen]
 exact hK _ _ r1 r2
def txL (lo hi:ByteArray) (S:Texts) (j:Nat):List ByteArray:=lo::hi::(List.range j).flatMap (fun k=>[(tx S k).1,(tx S k).2])
theorem txL_succ (lo hi:ByteArray) (S:Texts) (j:Nat):txL lo hi S (j+1)=txL lo hi S j++[(tx S j).1,(tx S j).2]:=by
 unfold txL;rw [List.range_succ,List.flatMap_append];simp
theorem txL_length (lo hi:ByteArray) (S:Texts) (j:Nat):(txL lo hi S j).length=2 * j+2:=by
 induction j with
 | zero=>rfl
 | succ j ih=>rw [txL_succ,List.length_append,ih];simp;omega
theorem txL_all {lo hi:ByteArray} {S:Texts} {j:Nat} {p:ByteArray→Prop} (h1:p lo) (h2:p hi) (h3:∀ k,k < j→p (tx S k).1∧p (tx S k).2):∀ t ∈ txL lo hi S j,p t:=by
 intro t ht
 unfold txL at ht
 simp only [List.mem_cons,List.mem_flatMap,List.mem_range,List.not_mem_nil,or_false] at ht
 rcases ht with rfl|rfl|⟨k,hk,rfl|rfl⟩
 ·exact h1
 ·exact h2
 ·exact (h3 k hk).1
 ·exact (h3 k hk).2
theorem txL_mem {lo hi:ByteArray} {S:Texts} {j:Nat} {p:ByteArray→Prop} (h:∀ t ∈ txL lo hi S j,p t):p lo∧p hi∧∀ k,k < j→p (tx S k).1∧p (tx S k).2:=by
 refine ⟨h _ (by simp [txL]),h _ (by simp [txL]),fun k hk=>⟨h _ ?_,h _ ?_⟩⟩<;>(unfold txL;simp only [List.mem_cons,List.mem_flatMap,List.mem_range];exact .inr (.inr ⟨k,hk,by simp⟩))
theorem strs_row {w:World} {B:Nat} {v:Value} {l:List ByteArray} (h:w.ownsRow B 22 1 v l.length (l.map .string)):IsStrs w v l:=by
 rcases h.2 with ⟨rfl,hl⟩|⟨g,cap,cur,rfl,_,hg,h1,_,hs,ht⟩
 ·obtain rfl:l=[]:=List.length_eq_zero_iff.1 hl
  exact ⟨none,0,rfl,fun h=>absurd rfl h⟩
 ·refine ⟨some ⟨g,0,none⟩,cap,by simp,fun _=>⟨g,0,rfl,fun k hk=>?_⟩⟩
  have h2:cur.toList[k]?=some (.string l[k]):=by
   have h3:(cur.toList.take (l.length * 1))[k]?=(l.map Value.string)[k]?:=by rw [ht]
   rw [List.getElem?_take_of_lt (by omega)] at h3
   rw [h3];simp [hk]
  have h4:cur[k]?=some (.string l[k]):=by simpa using h2
  simp [World.cell?,hg,h4]
theorem strs_cells' {w:World} {a:Option Addr} {n cap:Nat} {l:List ByteArray} (h:IsStrs w (.slice a n cap) l) (hne:l≠[]):∃ b off,a=some ⟨b,off,none⟩∧∀ k (h:k < l.length),w.cell? ⟨b,off+k,none⟩=some (.string l[k]):=by
 obtain ⟨a',cap',e,h2⟩:=h
 cases e
 exact h2 hne
def SmallC (lo hi:ByteArray) (S:Texts):Prop:=S.length≤70∧∀ t ∈ txL lo hi S S.length,t.size≤90
def RetGr (p:Prop) (w:World) (e:Ending) (w':World):Prop:=∃ g:Bool,e=.returned (.bool g)∧Hid (g=false→p)∧Below w.heap.size w w'
theorem rgreat47 (b0 o0 cap0:Nat) (lo hi:ByteArray) (S:Texts) (v0:Value) (w:World) (hG:Glo w)
  (c0:w.cell? ⟨b0,o0,none⟩=some (.string lo)) (c1:w.cell? ⟨b0,o0+1,none⟩=some (.string hi)) (c2:w.cell? ⟨b0,o0+2,none⟩=some v0)
  (hv:SpansAt w v0 S) (hlo:lo.size≤maxLen) (hhi:hi.size≤maxLen) (hbr:∀ k,k < S.length→(tx S k).1.size≤maxLen∧(tx S k).2.size≤maxLen) :
  Calls Tryz.prog 8 #[.slice (some ⟨b0,o0,none⟩) 1 cap0] w (RetGr (SmallC lo hi S) w):=by
 obtain ⟨a,cap,rfl,hmx,hcells⟩:=hv
 have hmx':S.length≤9223372036854775807:=hmx
 have HALL:=Lib.hid (txL_all (j:=S.length) (p:=fun t=>t.size≤maxLen) hlo hhi hbr)
 obtain ⟨P,hP⟩:∃ P,SmallC lo hi S=P:=⟨_,rfl⟩
 rw [hP]
 have HP:=Lib.hid hP
 have HG:=Lib.hid hG
 have HC:=Lib.hid hcells
 obtain ⟨i0,hi0,hz0,hz1,hz2⟩:=info_parts Tryz.infoNum
 clear hG hcells hbr hmx hlo hhi hP
 go_enter Tryz.func8,Tryz.ntmps8
 go_wp2_with fail
 go_loopw [3] (fun i wr=>∃ k:Nat,k≤1∧i=.int .i64 k∧Hid (k=1→P)∧Below w.heap.size w wr) (fun i _=>1 - (intOf i).toNat)
 case atStart=>exact ⟨0,by omega,rfl,Lib.hid (fun h=>by omega),bw0 _ _⟩
 case round =>
  obtain ⟨k,hk,rfl,hdone,hB0⟩:=hrel
  by_cases hk1:k=1
  ·subst hk1
   have HD:=Lib.hid (hdone.out rfl)
   clear hdone
   go_wp2_with fail
   go_ret
   exact ⟨false,rfl,Lib.hid (fun _=>HD.out),hB0⟩
  ·obtain rfl:k=0:=by omega
   clear hk hk1 hdone
   have hR:Below w.heap.size w wr.drew:=bw3 hB0
   go_wp2_with fail
   refine region_S (F:=[]) (R:=(fun w'=>Below w.heap.size w w')) 12 #[false,false,false,false,false,false,false,false,false,false,false,false] (by kernel_rfl) (by kernel_rfl) (by kernel_rfl) (fun _ _ _ _ _ h=>h) (fun Q' hQ' hN=>?_)
   generalize wr.drew=wd at *
   refine tS 30 0 (hy:=by intro wq hRq;have d0:=keep hRq c0;have d1:=keep hRq c1;go_simp;(try with_reducible rfl)) ?_
   refine tS 31 1 (hy:=by intro wq hRq;have d0:=keep hRq c0;have d1:=keep hRq c1;go_simp;(try with_reducible rfl)) ?_
   refine tS 32 2 (hy:=by intro wq hRq;have d0:=keep hRq c0;have d1:=keep hRq c1;go_simp;(try with_reducible rfl)) ?_
   refine tS 33 3 (hy:=by intro wq hRq;have d0:=keep hRq c0;have d1:=keep hRq c1;go_simp;(try with_reducible rfl)) ?_
   refine tS 34 4 (hy:=by intro wq hRq;have d0:=keep hRq c0;have d1:=keep hRq c1;go_simp;(try with_reducible rfl)) ?_
   refine tS 35 5 (hy:=by intro wq hRq;have d0:=keep hRq c0;have d1:=keep hRq c1;go_simp;(try with_reducible rfl)) ?_
   refine tS 36 6 (hy:=by intro wq hRq;have d0:=keep hRq c0;have d1:=keep hRq c1;go_simp;(try with_reducible rfl)) ?_
   refine tS 37 7 (hy:=by intro wq hRq;have d0:=keep hRq c0;have d1:=keep hRq c1;go_simp;(try with_reducible rfl)) ?_
   refine tS 38 8 (hy:=by intro wq hRq;have d0:=keep hRq c0;have d1:=keep hRq c1;go_simp;(try with_reducible rfl)) ?_
   refine tS 39 9 (hy:=by intro wq hRq;have d0:=keep hRq c0;have d1:=keep hRq c1;go_simp;(try with_reducible rfl)) ?_
   refine wpAnyS_ready (rs:=[10]) (by kernel_rfl) (by simp) ?_
   refine stepR (i:=10) rfl (by kernel_rfl) (fun K hK=>?_) (AllReadyS.nil)
   go_simp
   refine after_alloc (fun wn hB' hs hz=>?_)
   have hzr:=hR.size
   have hR:Below w.heap.size w wn:=bw5 hB' hR
   have HS:=Lib.hid hs
   clear hs
   refine hK.out _ _ hR ?_
   clear hK K
   (try simp only [Act.put,bw7,bw8,bw9])
   refine tS 4 11 (hy:=by intro wq hRq;have d0:=keep hRq c0;have d1:=keep hRq c1;go_simp;(try with_reducible rfl)) ?_
   refine wpAnyS_done (by kernel_rfl) ?_ _
   refine hN.out _ _ ?_
   have hzn:=hR.size
   have HROW:Hid (wn.ownsRow w.heap.size 22 1 (.slice (some ⟨wd.heap.size,0,none⟩) 2 2) 2 ((txL lo hi S 0).map .string)):=Lib.hid ⟨rfl,.inr ⟨_,2,#[.string lo,.string hi],rfl,by omega,HS.out,by omega,by unfold maxLen;omega,rfl,rfl⟩⟩
   generalize wd.heap.size=g0 at *
   have d2:=keep hR c2
   clear HS hB0
   by_cases hn:S.length≤70
   rotate_left
   ·have hn':(70:Int) < (S.length:Int):=by omega
    clear hn
    go_wp2_with fail
    go_ret
    exact ⟨true,rfl,Lib.hid (fun h=>by cases h),hR⟩
   have hn':decide ((70:Int) < (S.length:Int))=false:=by simp;omega
   go_wp2_with fail
   clear d2
   go_loopw [4,5] (fun n i wq=>∃ (j M:Nat) (sa:Option Addr) (sc:Nat),j≤S.length∧Hid (M=2 * j+2)∧M≤142∧i=.int .i64 j∧n=.slice sa M sc∧Hid (wq.ownsRow w.heap.size 22 1 (.slice sa M sc) M ((txL lo hi S j).map .string))∧Below w.heap.size w wq) (fun _ i _=>S.length - (intOf i).toNat)
   case atStart=>exact ⟨0,2,_,_,by omega,Lib.hid rfl,by omega,rfl,rfl,HROW,hR⟩
   case round =>
    obtain ⟨wq,rfl⟩:∃ wq:World,wq=wr:=⟨_,rfl⟩
    obtain ⟨j,M,sa,sc,hj,HM,hM1,rfl,rfl,HROW,hBq⟩:=hrel
    have d2:=keep hBq c2
    by_cases hjn:j=S.length
    ·subst hjn
     have HI:Hid (IsStrs wq (.slice sa M sc) (txL lo hi S S.length)):=Lib.hid (strs_row (by rw [txL_length,← HM.out];exact HROW.out))
     have HTL:Hid ((txL lo hi S S.length).length=M):=Lib.hid (by rw [txL_length,HM.out])
     have HN:=Lib.hid hn
     have HP2:Hid ((∀ t ∈ txL lo hi S S.length,t.size≤90)→P):=Lib.hid (fun h=>by rw [← HP.out];exact ⟨HN.out,h⟩)
     generalize txL lo hi S S.length=TL at *
     clear HROW HM HC HP hn hn'
     go_wp2_with fail
     go_loopw [6] (fun i wx=>∃ m:Nat,m≤M∧i=.int .i64 m∧Hid (∀ q (h:q < TL.length),q < m→TL[q].size≤90)∧Below wq.heap.size wq wx) (fun i _=>M - (intOf i).toNat)
     case atStart=>exact ⟨0,by omega,rfl,Lib.hid (fun q _ h=>by omega),bw0 _ _⟩
     case round =>
      obtain ⟨wx,rfl⟩:∃ wx:World,wx=wr:=⟨_,rfl⟩
      obtain ⟨m,hm,rfl,HSM,hBx⟩:=hrel
      by_cases hmM:m=M
      ·subst hmM
       have HPP:=Lib.hid (HP2.out (fun t ht=>by obtain ⟨q,hq,rfl⟩:=List.getElem_of_mem ht;exact HSM.out q hq (by have:=HTL.out;omega)))
       clear HSM
       go_wp2_with fail
       go_roundw
       case rel=>exact ⟨1,by omega,rfl,Lib.hid (fun _=>HPP.out),bw5 hBx hBq⟩
       case measure=>simp [intOf]
      ·have hm1:m < M:=by omega
       have hmT:m < TL.length:=by have:=HTL.out;omega
       obtain ⟨b,off,rfl,hcell⟩:=strs_cells' HI.out (by intro h;rw [h] at hmT;simp at hmT)
       have e0:=keep hBx (hcell m hmT)
       have HT:=Lib.hid (show TL[m].size≤9223372036854775807 from HALL.out _ (List.getElem_mem hmT))
       have HT2:=Lib.hid (fun (h:TL[m].size≤90) q (hq:q < TL.length) (hqm:q < m+1)=>(by
        rcases Nat.lt_or_eq_of_le (Nat.le_of_lt_succ hqm) with h'|rfl
        ·exact HSM.out q hq h'
        ·exact h:TL[q].size≤90))
       generalize TL[m]=t at *
       have hmi:(m:Int) < (M:Int):=by omega
       have hBy:=Lib.hid (bw5 hBx hBq)
       clear hcell HSM hmM HI
       by_cases h40:t.size≤40
       ·have g1:decide ((40:Int) < (t.size:Int))=false:=by simp;omega
        have g2:decide ((90:Int) < (t.size:Int))=false:=by simp;omega
        have HT3:=Lib.hid (HT2.out (by omega))
        clear HT2 h40
        go_wp2_with fail
        go_roundw
        case rel=>exact ⟨m+1,by omega,by go_num,HT3,hBx⟩
        case measure=>simp [intOf];omega
       ·have g1:decide ((40:Int) < (t.size:Int))=true:=by simp;omega
        obtain ⟨bb,hbb⟩:∃ b,isShort t=b:=⟨_,rfl⟩
        have HSH:=Lib.hid (fun W hG=>rshort47_any t W hG HT.out)
        rw [hbb] at HSH
        clear hbb h40
        go_wp2_with fail
        refine (HSH.out _ (HG.out.below hBy.out)).mono ?_
        rintro e wy ⟨rfl,hBz⟩
        have e0':=keep hBz e0
        have hBx':=bw5 hBz hBx
        have hBy':=Lib.hid (bw5 hBx' hBq)
        clear hBz e0 HSH hBy
        cases bb
        ·by_cases h90:t.size≤90
         ·have g2:decide ((90:Int) < (t.size:Int))=false:=by simp;omega
          have HT3:=Lib.hid (HT2.out (by omega))
          clear HT2 h90
          go_wp2_with fail
          go_roundw
          case rel=>exact ⟨m+1,by omega,by go_num,HT3,hBx'⟩
          case measure=>simp [intOf];omega
         ·have g2:decide ((90:Int) < (t.size:Int))=true:=by simp;omega
          clear HT2 h90
          go_wp2_with fail
          go_ret
          exact ⟨true,rfl,Lib.hid (fun h=>by cases h),hBy'.out⟩
        ·clear HT2
         go_wp2_with fail
         go_ret
         exact ⟨true,rfl,Lib.hid (fun h=>by cases h),hBy'.out⟩
    ·have hj1:j < S.length:=by omega
     obtain ⟨b,off,rfl,hbb,hcc⟩:=HC.out (fun h=>by rw [h] at hj1;simp at hj1)
     obtain ⟨q0,q1⟩:=hcc j hj1
     have hji:(j:Int) < (S.length:Int):=by omega
     have HSX:=Lib.hid (txL_succ lo hi S j)
     obtain ⟨u,hu⟩:∃ u,(tx S j).1=u:=⟨_,rfl⟩
     obtain ⟨v,hv⟩:∃ v,(tx S j).2=v:=⟨_,rfl⟩
     rw [hu] at q0 HSX
     rw [hv] at q1 HSX
     have n1:=Lib.hid (show M+2≤maxLen by unfold maxLen;omega)
     have n2:=Lib.hid (show (M+2) * 16≤140737488355328 by omega)
     have hMn:M+2≤142:=by have:=HM.out;omega
     have HOB:=Lib.hid (fun k (hk:(Value.slice sa M sc).ownBlock=some k)=>(by obtain ⟨x,y,e,h⟩:=row_shape HROW.out;cases e;exact h k hk:w.heap.size≤k))
     have hR:Below w.heap.size w wq.drew:=bw3 hBq
     have HROW:Hid (wq.drew.ownsRow w.heap.size 22 1 (.slice sa M sc) M ((txL lo hi S j).map .string)):=HROW
     clear hu hv hcc hBq hjn
     go_wp2_with fail
     refine region_S (F:=[]) (R:=(fun w'=>Below w.heap.size w w')) 22 #[false,false,false,false,false,false,false,false,false,false,false,false,false,false,false,false,false,false,false,false,false,false] (by kernel_rfl) (by kernel_rfl) (by kernel_rfl) (fun _ _ _ _ _ h=>h) (fun Q' hQ' hN=>?_)
     generalize wq.drew=wd at *
     refine tS 58 0 (fw:=5) (hy:=by intro wq hRq;have d2:=keep hRq c2;have d0:=keep hRq q0;have d1:=keep hRq q1;go_simp;(try with_reducible rfl)) ?_
     refine tS 59 1 (fw:=5) (hy:=by intro wq hRq;have d2:=keep hRq c2;have d0:=keep hRq q0;have d1:=keep hRq q1;go_simp;(try with_reducible rfl)) ?_
     refine tS 60 2 (fw:=5) (hy:=by intro wq hRq;have d2:=keep hRq c2;have d0:=keep hRq q0;have d1:=keep hRq q1;go_simp;(try with_reducible rfl)) ?_
     refine tS 61 3 (fw:=5) (hy:=by intro wq hRq;have d2:=keep hRq c2;have d0:=keep hRq q0;have d1:=keep hRq q1;go_simp;(try with_reducible rfl)) ?_
     refine tS 62 4 (fw:=5) (hy:=by intro wq hRq;have d2:=keep hRq c2;have d0:=keep hRq q0;have d1:=keep hRq q1;go_simp;(try with_reducible rfl)) ?_
     refine tS 63 5 (fw:=5) (hy:=by intro wq hRq;have d2:=keep hRq c2;have d0:=keep hRq q0;have d1:=keep hRq q1;go_simp;(try with_reducible rfl)) ?_
     refine tS 64 6 (fw:=5) (hy:=by intro wq hRq;have d2:=keep hRq c2;have d0:=keep hRq q0;have d1:=keep hRq q1;go_simp;(try with_reducible rfl)) ?_
     refine tS 65 7 (fw:=5) (hy:=by intro wq hRq;have d2:=keep hRq c2;have d0:=keep hRq q0;have d1:=keep hRq q1;go_simp;(try with_reducible rfl)) ?_
     refine tS 66 8 (fw:=5) (hy:=by intro wq hRq;have d2:=keep hRq c2;have d0:=keep hRq q0;have d1:=keep hRq q1;go_simp;(try with_reducible rfl)) ?_
     refine tS 67 9 (fw:=5) (hy:=by intro wq hRq;have d2:=keep hRq c2;have d0:=keep hRq q0;have d1:=keep hRq q1;go_simp;(try with_reducible rfl)) ?_
     refine tS 68 10 (fw:=5) (hy:=by intro wq hRq;have d2:=keep hRq c2;have d0:=keep hRq q0;have d1:=keep hRq q1;go_simp;(try with_reducible rfl)) ?_
     refine tS 69 11 (fw:=5) (hy:=by intro wq hRq;have d2:=keep hRq c2;have d0:=keep hRq q0;have d1:=keep hRq q1;go_simp;(try with_reducible rfl)) ?_
     refine tS 70 12 (fw:=5) (hy:=by intro wq hRq;have d2:=keep hRq c2;have d0:=keep hRq q0;have d1:=keep hRq q1;go_simp;(try with_reducible rfl)) ?_
     refine tS 71 13 (fw:=5) (hy:=by intro wq hRq;have d2:=keep hRq c2;have d0:=keep hRq q0;have d1:=keep hRq q1;go_simp;(try with_reducible rfl)) ?_
     refine tS 72 14 (fw:=5) (hy:=by intro wq hRq;have d2:=keep hRq c2;have d0:=keep hRq q0;have d1:=keep hRq q1;go_simp;(try with_reducible rfl)) ?_
     refine tS 73 15 (fw:=5) (hy:=by intro wq hRq;have d2:=keep hRq c2;have d0:=keep hRq q0;have d1:=keep hRq q1;go_simp;(try with_reducible rfl)) ?_
     refine tS 74 16 (fw:=5) (hy:=by intro wq hRq;have d2:=keep hRq c2;have d0:=keep hRq q0;have d1:=keep hRq q1;go_simp;(try with_reducible rfl)) ?_
     refine tS 75 17 (fw:=5) (hy:=by intro wq hRq;have d2:=keep hRq c2;have d0:=keep hRq q0;have d1:=keep hRq q1;go_simp;(try with_reducible rfl)) ?_
     refine tS 76 18 (fw:=5) (hy:=by intro wq hRq;have d2:=keep hRq c2;have d0:=keep hRq q0;have d1:=keep hRq q1;go_simp;(try with_reducible rfl)) ?_
     refine wpAnyS_ready (rs:=[19]) (by kernel_rfl) (by simp) ?_
     refine stepR (i:=19) rfl (by kernel_rfl) (fun K hK=>?_) (AllReadyS.nil)
     go_simp
     refine after_alloc (fun wn hB' hs hz=>?_)
     have HROW:=Lib.hid (rowKeep8 HROW.out (fun j hj hjl=>hB'.block j hjl))
     have hzr:=hR.size
     have hR:Below w.heap.size w wn:=bw5 hB' hR
     have HS:=Lib.hid hs
     clear hs
     refine hK.out _ _ hR ?_
     clear hK K
     (try simp only [Act.put,bw7,bw8,bw9])
     refine wpAnyS_ready (rs:=[20]) (by kernel_rfl) (by simp) ?_
     refine stepR (i:=20) rfl (by kernel_rfl) (fun K hK=>?_) (AllReadyS.nil)
     refine wpS_append _ _ 34 rfl w.heap.size 22 i0 (.string ⟨#[]⟩) 1 16 Tryz.underlying34 hi0 hz0 hz1 hz2 rfl (by decide) _ M _ rfl HROW.out ⟨_,0,none⟩ 2 2 [.string u,.string v] rfl rfl (block_cells' (cs:=[.string u,.string v]) HS.out) (by simp [Value.oneCell']) n1.out n2.out (by have:=hR.size;omega) ?_
     intro y wn2 hown hgrow
     have hR:Below w.heap.size w wn2:=Below.grown hR hgrow hR.size HOB.out
     have HROW2:=Lib.hid hown
     obtain ⟨sa2,sc2,rfl,_⟩:=row_shape hown
     clear hown hgrow HS
     refine hK.out _ _ hR ?_
     clear hK K
     (try simp only [Act.put,bw7,bw8,bw9])
     refine tS 4 21 (fw:=5) (hy:=by intro wq hRq;have d2:=keep hRq c2;have d0:=keep hRq q0;have d1:=keep hRq q1;go_simp;(try with_reducible rfl)) ?_
     refine wpAnyS_done (by kernel_rfl) ?_ _
     refine hN.out _ _ ?_
     have HROW3:Hid (wn2.ownsRow w.heap.size 22 1 (.slice sa2 (M+2) sc2) (M+2) ((txL lo hi S (j+1)).map .string)):=Lib.hid (by rw [HSX.out,List.map_append];exact HROW2.out)
     clear HROW2 HOB
     go_wp2_with fail
     go_roundw
     case rel=>exact ⟨j+1,M+2,sa2,sc2,by omega,Lib.hid (by rw [HM.out];omega),hMn,by go_num,rfl,HROW3,hR⟩
     case measure=>simp [intOf];omega
end Go.Proofs.YteepphiomcedfaaGreatDoor
namespace Go.Proofs.YteepphiomcedfaaGreatDoor
open Go.RowKit
def spareP (n p:Int):Int × Int:=if 0≤n∧n≤1073741824∧0≤p∧p≤100 then (n+(n * p+99) / 100,0) else (0,2)
theorem spareP_ok {n p:Int} (h:0≤n∧n≤1073741824∧0≤p∧p≤100):spareP n p=(n+(n * p+99) / 100,0):=if_pos h
theorem spareP_no {n p:Int} (h:¬ (0≤n∧n≤1073741824∧0≤p∧p≤100)):spareP n p=(0,2):=if_neg h
theorem Spare_any (n p:Int) (w:World):Calls Tryz.prog 12 #[.int .i64 n,.int .i64 p] w (RetB (.tuple #[.int .i64 (spareP n p).1,.int .i64 (spareP n p).2]) w):=by
 by_cases h:0≤n∧n≤1073741824∧0≤p∧p≤100
 ·rw [spareP_ok h]
  obtain ⟨h1,h2,h3,h4⟩:=h
  have b1:n * p≤1073741824 * 100:=Int.mul_le_mul h2 h4 h3 (by omega)
  have b0:0≤n * p:=Int.mul_nonneg h1 h3
  have hq:(n * p+99).tdiv 100=(n * p+99) / 100:=Int.tdiv_eq_ediv_of_nonneg (by omega)
  have d1:decide (n < 0)=false:=by simp;omega
  have d2:decide (1073741824 < n)=false:=by simp;omega
  have d3:decide (p < 0)=false:=by simp;omega
  have d4:decide (100 < p)=false:=by simp;omega
  have w1:IntKind.i64.wrap (n * p)=n * p:=IntWalk.i64_in _ (by omega)
  have w2:IntKind.i64.wrap (n * p+99)=n * p+99:=IntWalk.i64_in _ (by omega)
  have hb:0≤(n * p+99) / 100∧(n * p+99) / 100≤1073741824:=by omega
  generalize (n * p+99) / 100=Q at *
  have w3:IntKind.i64.wrap (n+Q)=n+Q:=IntWalk.i64_in _ (by omega)
  have w4:IntKind.i64.wrap Q=Q:=IntWalk.i64_in _ (by omega)
  go_enter Tryz.func12,Tryz.ntmps12
  go_wp2_with fail
  go_ret2
  exact ⟨rfl,bw0 _ _⟩
 ·rw [spareP_no h]
  by_cases x1:n < 0
  ·clear h
   go_enter Tryz.func12,Tryz.ntmps12
   go_wp2_with fail
   go_ret2
   exact ⟨rfl,bw0 _ _⟩
  have d1:decide (n < 0)=false:=by simp;omega
  by_cases x2:1073741824 < n
  ·clear h x1
   go_enter Tryz.func12,Tryz.ntmps12
   go_wp2_with fail
   go_ret2
   exact ⟨rfl,bw0 _ _⟩
  have d2:decide (1073741824 < n)=false:=by simp;omega
  by_cases x3:p < 0
  ·clear h x1 x2
   go_enter Tryz.func12,Tryz.ntmps12
   go_wp2_with fail
   go_ret2
   exact ⟨rfl,bw0 _ _⟩
  have d3:decide (p < 0)=false:=by simp;omega
  have d4:100 < p:=by omega
  clear h x1 x2 x3
  go_enter Tryz.func12,Tryz.ntmps12
  go_wp2_with fail
  go_ret2
  exact ⟨rfl,bw0 _ _⟩
theorem RSpare_any (n p:Int) (w:World):Calls Tryz.prog 13 #[.int .i64 n,.int .i64 p] w (RetB (.tuple #[.int .i64 (spareP n p).1,.int .i64 (spareP n p).2]) w):=by
 by_cases h:0≤n∧n≤1073741824∧0≤p∧p≤100
 ·rw [spareP_ok h]
  obtain ⟨h1,h2,h3,h4⟩:=h
  have b1:n * p≤1073741824 * 100:=Int.mul_le_mul h2 h4 h3 (by omega)
  have b0:0≤n * p:=Int.mul_nonneg h1 h3
  have hq:(n * p+99).tdiv 100=(n * p+99) / 100:=Int.tdiv_eq_ediv_of_nonneg (by omega)
  have d1:decide (n < 0)=false:=by simp;omega
  have d2:decide (1073741824 < n)=false:=by simp;omega
  have d3:decide (p < 0)=false:=by simp;omega
  have d4:decide (100 < p)=false:=by simp;omega
  have w1:IntKind.i64.wrap (n * p)=n * p:=IntWalk.i64_in _ (by omega)
  have w2:IntKind.i64.wrap (n * p+99)=n * p+99:=IntWalk.i64_in _ (by omega)
  have hb:0≤(n * p+99) / 100∧(n * p+99) / 100≤1073741824:=by omega
  generalize (n * p+99) / 100=Q at *
  have w3:IntKind.i64.wrap (n+Q)=n+Q:=IntWalk.i64_in _ (by omega)
  have w4:IntKind.i64.wrap Q=Q:=IntWalk.i64_in _ (by omega)
  go_enter Tryz.func13,Tryz.ntmps13
  go_wp2_with fail
  go_ret2
  exact ⟨rfl,bw0 _ _⟩
 ·rw [spareP_no h]
  by_cases x1:n < 0
  ·clear h
   go_enter Tryz.func13,Tryz.ntmps13
   go_wp2_with fail
   go_ret2
   exact ⟨rfl,bw0 _ _⟩
  have d1:decide (n < 0)=false:=by simp;omega
  by_cases x2:1073741824 < n
  ·clear h x1
   go_enter Tryz.func13,Tryz.ntmps13
   go_wp2_with fail
   go_ret2
   exact ⟨rfl,bw0 _ _⟩
  have d2:decide (1073741824 < n)=false:=by simp;omega
  by_cases x3:p < 0
  ·clear h x1 x2
   go_enter Tryz.func13,Tryz.ntmps13
   go_wp2_with fail
   go_ret2
   exact ⟨rfl,bw0 _ _⟩
  have d3:decide (p < 0)=false:=by simp;omega
  have d4:100 < p:=by omega
  clear h x1 x2 x3
  go_enter Tryz.func13,Tryz.ntmps13
  go_wp2_with fail
  go_ret2
  exact ⟨rfl,bw0 _ _⟩
end Go.Proofs.YteepphiomcedfaaGreatDoor
namespace Go.Proofs.YteepphiomcedfaaGreatDoor
open Go.RowKit Go.Shelf
theorem awake_good:GoodCourse 0 1 [(0,1000)] where
 slo:=by decide +kernel
 shi:=by decide +kernel
 lt:=by decide +kernel
 right:=by
  refine ⟨fun k h=>?_,fun k h=>?_⟩
  ·obtain rfl:k=0:=by simp at h;omega
   exact ⟨show Small (0:Rat) from by decide +kernel,show Small (1000:Rat) from by decide +kernel,show (0:Rat) < 1000 from by decide +kernel⟩
  ·simp at h
 len:=by decide
 sum:=by decide +kernel
 dif:=fun k h=>by
  obtain rfl:k=0:=by simp at h;omega
  exact show Small (1000 - 0:Rat) from by decide +kernel
 d:=by decide +kernel
 p:=by decide +kernel
theorem awake_steps:GoodSteps [(0,1000)] 300:=fun k h=>by
 obtain rfl:k=0:=by simp at h;omega
 exact ⟨show (0:Rat) < 1000 - 0 from by decide +kernel,show Small ((1000 - 0:Rat) / ((300:Int):Rat)) from by decide +kernel⟩
theorem awake_full:fullTo [(0,1000)] 300 1=3:=by decide +kernel
theorem awake_cut:cutTo [(0,1000)] 300 1=1:=by decide +kernel
theorem awake_to0:StepsTo 0 1000 ((300:Int):Rat) 4:=⟨by decide +kernel,by decide +kernel,by decide +kernel,by decide +kernel,by decide +kernel⟩
theorem awake_to1:StepsTo (0 - ((300:Int):Rat) / 2) 1000 ((300:Int):Rat) 4:=⟨by decide +kernel,by decide +kernel,by decide +kernel,by decide +kernel,by decide +kernel⟩
theorem awake_max (odd:Bool):∀ k,k≤[((0:Rat),(1000:Rat))].length→(offTo [(0,1000)] 300 odd (fun _=>4) k).length≤4000:=by
 intro k hk
 have:k=0∨k=1:=by simp at hk;omega
 rcases this with rfl|rfl<;>cases odd<;>decide +kernel
theorem awake_to (odd:Bool):∀ k (h:k < [((0:Rat),(1000:Rat))].length),StepsTo (firstAt [((0:Rat),(1000:Rat))][k] 300 odd) [((0:Rat),(1000:Rat))][k].2 ((300:Int):Rat) ((fun _=>4) k):=fun k h=>by
 obtain rfl:k=0:=by simp at h;omega
 cases odd
 ·exact awake_to0
 ·exact awake_to1
theorem awake_even:(offTo [(0,1000)] 300 false (fun _=>4) 1).map numS=[⟨#[48]⟩,⟨#[51,48,48]⟩,⟨#[54,48,48]⟩,⟨#[57,48,48]⟩]:=by decide +kernel
theorem awake_odd:(offTo [(0,1000)] 300 true (fun _=>4) 1).map numS=[⟨#[45,49,53,48]⟩,⟨#[49,53,48]⟩,⟨#[52,53,48]⟩,⟨#[55,53,48]⟩]:=by decide +kernel
theorem text_0:ratText 0=[48]:=by decide +kernel
theorem text_1:ratText 1=[49]:=by decide +kernel
theorem text_1000:ratText 1000=[49,48,48,48]:=by decide +kernel
theorem run_max_ok4 {P:Program} (ts:Array TypeId) (t:TypeId) (w:World):(Builtin.max_ ts t #[.int .i64 0,.int .i64 0,.int .i64 0,.int .i64 0]).run P w=.ok (.int .i64 0) w:=by
 simp [Builtin.max_,Builtin.max2]
theorem isStrs_lit4 (w:World) (a b c d:ByteArray) (t:TypeId):IsStrs (w.alloc (.cells #[.string a,.string b,.string c,.string d] t)) (.slice (some ⟨w.heap.size,0,none⟩) 4 4) [a,b,c,d]:=by
 refine ⟨some ⟨w.heap.size,0,none⟩,4,rfl,fun _=>⟨w.heap.size,0,rfl,fun k hk=>?_⟩⟩
 have:k=0∨k=1∨k=2∨k=3:=by simp at hk;omega
 rcases this with rfl|rfl|rfl|rfl<;>simp [go_sem]
theorem awake_ok (w:World) (hG:Glo w):Calls Tryz.prog 9 #[] w (RetB (.bool true) w):=by
 have HG:=Lib.hid hG
 clear hG
 go_enter Tryz.func9,Tryz.ntmps9
 go_wp2_with fail
 have hco:IsCourse ((w.alloc (.cells #[.string ⟨#[48]⟩,.string ⟨#[49,48,48,48]⟩] 77)).alloc (.cells #[.string ⟨#[48]⟩,.string ⟨#[49]⟩,.slice (some ⟨w.heap.size,0,none⟩) 1 1] 25)) (.agg #[.string ⟨#[48]⟩,.string ⟨#[49]⟩,.slice (some ⟨w.heap.size,0,none⟩) 1 1]) 0 1 [(0,1000)]:=by
  refine ⟨_,_,_,rfl,text_0.symm,text_1.symm,_,_,rfl,by decide,fun _=>⟨_,_,rfl,by simp;omega,fun k hk=>?_⟩⟩
  obtain rfl:k=0:=by simp at hk;omega
  exact ⟨⟨#[48]⟩,⟨#[49,48,48,48]⟩,by simp [go_sem],by simp [go_sem],text_0.symm,text_1000.symm⟩
 have HCO:=Lib.hid hco
 clear hco
 refine (Course_ok _ 300 _ (HG.out.below qbl) HCO.out awake_good awake_steps (by omega) (by omega)).mono ?_
 rintro e w1 ⟨rfl,hB1⟩
 have hb1:Below w.heap.size w w1:=qbl
 have c0:w1.cell? ⟨w.heap.size+1,0,none⟩=some (.string ⟨#[48]⟩):=keep hB1 (by simp [go_sem])
 have c1:w1.cell? ⟨w.heap.size+1,1,none⟩=some (.string ⟨#[49]⟩):=keep hB1 (by simp [go_sem])
 have c2:w1.cell? ⟨w.heap.size+1,2,none⟩=some (.slice (some ⟨w.heap.size,0,none⟩) 1 1):=keep hB1 (by simp [go_sem])
 have z1:=lt_of_cell c0
 have HC1:=Lib.hid (HCO.out.below hB1)
 rw [show [((0:Rat),(1000:Rat))].length=1 from rfl,awake_full,awake_cut]
 clear HCO hB1
 go_wp2_with fail
 refine (Offsets_ok _ 300 false _ (HG.out.below hb1) HC1.out awake_good (by omega) (by omega) (fun _=>4) (awake_to false) (awake_max false)).mono ?_
 rintro e w2 ⟨v2,rfl,hr2,hn2,hB2⟩
 have hb2:Below w.heap.size w w2:=qbl
 have d0:=keep hB2 c0
 have d1:=keep hB2 c1
 have d2:=keep hB2 c2
 have z2:=lt_of_cell d0
 have HC2:=Lib.hid (HC1.out.below hB2)
 have S2:=isStrs_row hr2
 rw [show [((0:Rat),(1000:Rat))].length=1 from rfl,awake_even] at S2
 have HS2:=Lib.hid S2
 clear HC1 hB2 hr2 hn2 c0 c1 c2 S2
 go_wp2_with fail
 refine (Offsets_ok _ 300 true _ (HG.out.below hb2) HC2.out awake_good (by omega) (by omega) (fun _=>4) (awake_to true) (awake_max true)).mono ?_
 rintro e w3 ⟨v3,rfl,hr3,hn3,hB3⟩
 have hb3:Below w.heap.size w w3:=qbl
 have S3:=isStrs_row hr3
 rw [show [((0:Rat),(1000:Rat))].length=1 from rfl,awake_odd] at S3
 have HS3:=Lib.hid S3
 have HS2':=Lib.hid (HS2.out.below hB3)
 clear HC2 hr3 hn3 d0 d1 d2 S3 HS2 hB3
 go_wp2_with fail
 refine (Spare_ok 101 10 _ (by omega) (by omega) (by omega) (by omega)).mono ?_
 rintro e w4 ⟨rfl,hB4⟩
 have hb4:Below w.heap.size w w4:=qbl
 have HS3':=Lib.hid (HS3.out.below hB4)
 have HS2'':=Lib.hid (HS2'.out.below hB4)
 have hmx:=@run_max_ok4 Tryz.prog
 clear HS3 HS2' hB4
 go_wp2_with fail
 refine (Equal_any _ _ _ _ _ (HS2''.out.below (bw4 (bw0 _ _) _)) (isStrs_lit4 w4 _ _ _ _ _) (by decide)).mono ?_
 rintro e w5 ⟨rfl,hB5⟩
 have hb5:Below w.heap.size w w5:=qbl
 have HS3'':=Lib.hid ((HS3'.out.below (bw4 (bw0 _ _) _)).below hB5)
 rw [decide_eq_true (by rfl)]
 clear HS3' HS2'' hB5
 go_wp2_with fail
 refine (Equal_any _ _ _ _ _ (HS3''.out.below (bw4 (bw0 _ _) _)) (isStrs_lit4 w5 _ _ _ _ _) (by decide)).mono ?_
 rintro e w6 ⟨rfl,hB6⟩
 have hb6:Below w.heap.size w w6:=qbl
 rw [decide_eq_true (by rfl)]
 clear hB6
 go_wp2_with fail
 go_ret
 exact ⟨rfl,hb6⟩
end Go.Proofs.YteepphiomcedfaaGreatDoor
namespace Go.Proofs.YteepphiomcedfaaGreatDoor
open Go.ChangeShapes Go.WideShapes Go.ChangeAt Go.RowKit Go.Deep
def Roomy (v:Value):Prop:=∃ a n cap,v=.slice a n cap∧n≤cap
def CourseIn (w:World) (c:Value) (lo hi:ByteArray) (S:Texts):Prop:=∃ v,c=.agg #[.string lo,.string hi,v]∧SpansAt w v S∧Roomy v∧lo.size≤maxLen∧hi.size≤maxLen∧∀ k,k < S.length→(tx S k).1.size≤maxLen∧(tx S k).2.size≤maxLen
theorem cellNum':Tryz.prog.cellsOf 22=1:=by kernel_rfl
theorem cellRange:Tryz.prog.cellsOf 77=2:=by kernel_rfl
theorem cellSpans:Tryz.prog.cellsOf 23=1:=by kernel_rfl
theorem tx_map {n k:Nat} (f:Nat→ByteArray × ByteArray) (hk:k < n):tx ((List.range n).map f) k=f k:=by
 unfold tx
 rw [List.getD_eq_getElem?_getD,List.getElem?_map,List.getElem?_range hk]
 rfl
section
variable {H:Type} {enc:TypeId × Value→H} {W:World}
theorem open_spans {n:Nat} {v:Value} {x:DataW H × List MemPlace} (h:DataW.trod enc Tryz.prog W 0 (fun _=>true) true n 23 [v]=some x) :
  ∃ S:Texts,SpansAt W v S∧Roomy v∧∀ k,k < S.length→(tx S k).1.size≤maxLen∧(tx S k).2.size≤maxLen:=by
 rcases open_slice_pairs Tryz.underlying23 Tryz.underlying77 cellRange rfl rfl cellNum' cellNum' h with ⟨hv,_⟩|⟨a,len,cap,m,n',V0,V1,D0,D1,P0,P1,hv,_,hlc,hcm,hm,hx,hel⟩
 ·obtain rfl:v=.slice none 0 0:=by simpa using hv
  exact ⟨[],⟨none,0,rfl,Nat.zero_le _,fun h=>absurd rfl h⟩,⟨_,_,_,rfl,Nat.le_refl _⟩,fun k hk=>by simp at hk⟩
 ·obtain rfl:v=.slice (some a) len cap:=by simpa using hv
  simp only [if_true] at hm
  subst hm
  have each:∀ i,i < m→∃ t:ByteArray × ByteArray,(V0 i=.string t.1∧t.1.size≤maxLen)∧(V1 i=.string t.2∧t.2.size≤maxLen):=by
   intro i hi
   obtain ⟨_,_,h2,h3⟩:=hel i hi
   obtain ⟨s,e1,_,e2⟩:=DataW.trod_string Tryz.underlying22 h2
   obtain ⟨t,e3,_,e4⟩:=DataW.trod_string Tryz.underlying22 h3
   exact ⟨(s,t),⟨by simpa using e1,e2⟩,⟨by simpa using e3,e4⟩⟩
  obtain ⟨T,hT⟩:=choose_lt each
  refine ⟨(List.range len).map T,⟨some a,m,by simp,by simp;omega,fun hl=>?_⟩,⟨_,_,_,rfl,hlc⟩,fun k hk=>?_⟩
  ·have h0:0 < len:=by
    rcases Nat.eq_zero_or_pos len with h0|h0
    ·subst h0;simp at hl
    ·exact h0
   have ha:a=⟨a.block,a.off,none⟩:=at_none (by have:=(hel 0 (by omega)).1;rwa [Nat.zero_mul] at this)
   refine ⟨a.block,a.off,by rw [← ha],?_,fun k hk=>?_⟩
   ·have h1:=(hel 0 (by omega)).1
    rw [add_none h1] at h1
    exact lt_of_cell h1
   ·have hk':k < len:=by simpa using hk
    obtain ⟨h1,h2,_,_⟩:=hel k (by omega)
    rw [tx_map T hk']
    obtain ⟨⟨e1,_⟩,e2,_⟩:=hT k (by omega)
    rw [add_none h1,e1] at h1
    rw [add_none h2,e2] at h2
    exact ⟨h1,by rw [Nat.add_assoc];exact h2⟩
  ·have hk':k < len:=by simpa using hk
   rw [tx_map T hk']
   exact ⟨(hT k (by omega)).1.2,(hT k (by omega)).2.2⟩
theorem open_course {base:Nat} {v:Value} {d:DataW H} {p:List MemPlace}
  (hval:Value.okWide Tryz.prog W .any base 25 v) (h:DataW.Trod enc Tryz.prog W 0 (fun _=>true) true 25 v d p):∃ lo hi S,CourseIn W v lo hi S:=by
 obtain ⟨cs,rfl,hcs⟩:=okWide_struct Tryz.underlying25 hval
 obtain ⟨fuel,hf⟩:=h
 obtain ⟨xs,k,_,hx,hlen,hxl,hfs⟩:=DataW.trod_struct Tryz.underlying25 hf
 have e1:Tryz.prog.cellsOf 25=3:=by kernel_rfl
 rw [e1] at hcs
 obtain ⟨u0,u1,u2,rfl⟩:∃ u0 u1 u2,cs=#[u0,u1,u2]:=by
  match cs,hcs with
  | ⟨[u0,u1,u2]⟩,_=>exact ⟨u0,u1,u2,rfl⟩
 obtain ⟨y0,y1,y2,rfl⟩:∃ y0 y1 y2,xs=[y0,y1,y2]:=by
  match xs,hxl with
  | [y0,y1,y2],_=>exact ⟨y0,y1,y2,rfl⟩
 have g0:DataW.trod enc Tryz.prog W 0 (fun _=>true) true k 22 [u0]=some y0:=by
  have h:DataW.trod enc Tryz.prog W 0 (fun _=>true) true k 22 (([u0,u1,u2].drop 0).take (Tryz.prog.cellsOf 22))=some y0:=hfs 0 _ rfl
  rw [cellNum'] at h
  exact h
 have g1:DataW.trod enc Tryz.prog W 0 (fun _=>true) true k 22 [u1]=some y1:=by
  have h:DataW.trod enc Tryz.prog W 0 (fun _=>true) true k 22 (([u0,u1,u2].drop 1).take (Tryz.prog.cellsOf 22))=some y1:=hfs 1 _ rfl
  rw [cellNum'] at h
  exact h
 have g2:DataW.trod enc Tryz.prog W 0 (fun _=>true) true k 23 [u2]=some y2:=by
  have h:DataW.trod enc Tryz.prog W 0 (fun _=>true) true k 23 (([u0,u1,u2].drop 2).take (Tryz.prog.cellsOf 23))=some y2:=hfs 2 _ rfl
  rw [cellSpans] at h
  exact h
 obtain ⟨s,q0,_,l0⟩:=DataW.trod_string Tryz.underlying22 g0
 obtain ⟨t,q1,_,l1⟩:=DataW.trod_string Tryz.underlying22 g1
 obtain ⟨S,hS,hr,hl⟩:=open_spans g2
 simp only [List.cons.injEq,and_true] at q0 q1
 subst q0 q1
 exact ⟨s,t,S,u2,rfl,hS,hr,l0,l1,hl⟩
end
end Go.Proofs.YteepphiomcedfaaGreatDoor
namespace Go.Proofs.YteepphiomcedfaaGreatDoor
theorem Sz.lt {k:Nat} {q:Rat} (h:Sz k q) : -((10 ^ k:Nat):Rat) < q∧q < ((10 ^ k:Nat):Rat):=by
 obtain ⟨h1,_⟩:=h
 have hd:=q.den_pos
 have h2:10 ^ k≤10 ^ k * q.den:=Nat.le_mul_of_pos_right _ hd
 generalize 10 ^ k=m at *
 have e1:((m:Nat):Rat).num=m:=rfl
 have e2:((m:Nat):Rat).den=1:=rfl
 have e3:(-((m:Nat):Rat)).num=-m:=by rw [Rat.neg_num,e1]
 have e4:(-((m:Nat):Rat)).den=1:=by rw [Rat.neg_den,e2]
 have h3:(m:Int)≤(m:Int) * (q.den:Int):=by exact_mod_cast h2
 constructor
 ·rw [Rat.lt_iff,e3,e4,Int.neg_mul]
  simp only [Int.natCast_one,Int.mul_one]
  omega
 ·rw [Rat.lt_iff,e1,e2]
  simp only [Int.natCast_one,Int.mul_one]
  omega
theorem least_nat {P:Nat→Prop} (h:∃ n,P n):∃ n,P n∧∀ m,m < n→¬ P m:=by
 obtain ⟨n,hn⟩:=h
 induction n using Nat.strongRecOn with
 | _ n ih =>
  by_cases hm:∃ m,m < n∧P m
  ·obtain ⟨m,h1,h2⟩:=hm;exact ih m h1 h2
  ·exact ⟨n,hn,fun m h1 h2=>hm ⟨m,h1,h2⟩⟩
theorem stepsA_of {lo hi f:Rat} {wd:Int} (hlo:Sz 36 lo) (hhi:Sz 36 hi) (hf:Sz 42 f) (hle:lo - 2000≤f) (h1:1≤wd) (h2:wd≤2000) (hw:Sz 4 (wd:Rat)):∃ N,StepsA f hi (wd:Rat) N:=by
 have w1:(1:Rat)≤(wd:Rat):=by exact_mod_cast h1
 have w2:(wd:Rat)≤((2000:Int):Rat):=by rw [Rat.intCast_le_intCast];exact h2
 rw [show ((2000:Int):Rat)=2000 from rfl] at w2
 have l1:=hlo.lt.1
 have l2:=hhi.lt.2
 have h5:(4000:Rat)≤((10 ^ 36:Nat):Rat):=by decide +kernel
 obtain ⟨M,hM,hM'⟩:∃ M:Nat,((M:Nat):Rat)=3 * ((10 ^ 36:Nat):Rat)∧M < 10 ^ 37:=⟨3 * 10 ^ 36,by decide +kernel,by decide⟩
 have hM0:(0:Rat)≤(M:Rat):=by rw [hM];decide +kernel
 generalize ((10 ^ 36:Nat):Rat)=m at *
 obtain ⟨N,hN,hmin⟩:=least_nat (P:=fun n:Nat=>hi≤f+(n:Rat) * (wd:Rat)) ⟨M,by
  have h3:(M:Rat) * 1≤(M:Rat) * (wd:Rat):=Rat.mul_le_mul_of_nonneg_left w1 hM0
  generalize (M:Rat) * (wd:Rat)=y at *
  generalize (M:Rat)=z at *
  grind⟩
 refine ⟨N,fun k hk=>Rat.not_le.1 (hmin k hk),hN,fun k hk=>?_,hhi,hw⟩
 have key:(k:Rat) * (wd:Rat)≤(M:Rat):=by
  rcases Nat.eq_zero_or_pos k with rfl|h0
  ·rw [show ((0:Nat):Rat)=0 from rfl,Rat.zero_mul];exact hM0
  ·have h3:=Rat.not_le.1 (hmin (k - 1) (by omega))
   have e:((k - 1:Nat):Rat)=(k:Rat) - 1:=by
    obtain ⟨j,rfl⟩:∃ j,k=j+1:=⟨k - 1,by omega⟩
    simp [Rat.natCast_add];grind
   rw [e] at h3
   have e2:((k:Rat) - 1) * (wd:Rat)=(k:Rat) * (wd:Rat) - (wd:Rat):=by grind
   rw [e2] at h3
   generalize (k:Rat) * (wd:Rat)=y at *
   generalize (M:Rat)=z at *
   grind
 have e1:(k:Rat) * (wd:Rat)=((k * wd:Int):Rat):=by rw [Rat.intCast_mul];rfl
 have h6:((k * wd:Int):Rat)≤((M:Int):Rat):=by rw [← e1];exact key
 have h7:(k * wd:Int)≤M:=by exact_mod_cast h6
 have h8:(0:Int)≤k * wd:=Int.mul_nonneg (by omega) (by omega)
 have h9:Sz 37 ((k:Rat) * (wd:Rat)):=by
  rw [e1]
  refine ⟨?_,by show 1 < _;decide⟩
  show (k * wd:Int).natAbs < _
  omega
 exact Sz.add hf h9
end Go.Proofs.YteepphiomcedfaaGreatDoor
namespace Go.Proofs.YteepphiomcedfaaGreatDoor
open Go.RowKit
def RetStrs (L:List ByteArray) (k:Int) (w:World) (e:Ending) (w':World):Prop:=∃ v,e=.returned (.tuple #[v,.int .i64 k])∧IsStrs w' v L∧Below w.heap.size w w'
theorem isStrs_nil (w:World):IsStrs w (.slice none 0 0) []:=⟨none,0,rfl,fun h=>absurd rfl h⟩
theorem Offsets_bad (c:Value) (u0 u1 u2:Value) (hcv:c=.agg #[u0,u1,u2]) (h0:u0.oneCell'=true) (h1:u1.oneCell'=true) (h2:u2.oneCell'=true) (wd:Int) (odd:Bool) (k:Int) (w:World) (hk:k≠0) (hri:∀ w':World,Below w.heap.size w w'→Calls Tryz.prog 41 #[c,.int .i64 wd] w' (RetB (.int .i64 k) w')) :
  Calls Tryz.prog 14 #[c,.int .i64 wd,.bool odd] w (RetStrs [] k w):=by
 subst hcv
 have HRI:=Lib.hid hri
 have hkb:(k == 0)=false:=by simpa using hk
 clear hri hk
 refine (callsIn_wide (n:=5)).1 ?_
 refine callsIn_of_wp_marks Tryz.func14 rfl trivial ?_ rfl
 simp only [Tryz.ntmps14,List.size_toArray,List.length_cons,List.length_nil,Nat.reduceAdd,Nat.reduceSub,Array.replicate_succ,Array.replicate_zero,List.push_toArray,List.append_toArray,List.nil_append,List.cons_append]
 gi_wp2
 refine ⟨trivial,?_⟩
 refine (callsIn_wide.2 (HRI.out _ qbl)).mono ?_
 rintro e w1 ⟨rfl,hB1⟩
 have hb1:Below w.heap.size w w1:=qbl
 have c3:w1.cell? ⟨w.heap.size+1,0,none⟩=some (.slice none 0 0):=keep hB1 (by simp [go_sem])
 have c4:w1.cell? ⟨w.heap.size+2,0,none⟩=some (.int .i64 0):=keep hB1 (by simp [go_sem])
 have m3:w1.frozen? ⟨w.heap.size+1,0,none⟩=false:=keepf hB1 (v:=.slice none 0 0) (by simp [go_sem]) (by simp [go_sem])
 have m4:w1.frozen? ⟨w.heap.size+2,0,none⟩=false:=keepf hB1 (v:=.int .i64 0) (by simp [go_sem]) (by simp [go_sem])
 have z3:=lt_of_cell c3
 have z4:=lt_of_cell c4
 clear hB1
 gi_wp2
 refine leaves_marks w.heap.size [] _ (by simp) (fun D hD=>by cases hD) (fun W' hB' hcc=>?_)
 have hW1:W'.cell? ⟨w.heap.size+1,0,none⟩=some (.slice none 0 0):=cell_keeps (by simp [go_sem,c3,c4]) hcc
 have hW2:W'.cell? ⟨w.heap.size+2,0,none⟩=some (.int .i64 k):=cell_keeps (by simp [go_sem,c3,c4]) hcc
 exact ⟨.tuple #[.slice none 0 0,.int .i64 k],by simp [results,Tryz.results14,go_sem,hW1,hW2],_,rfl,isStrs_nil _,((hb1.setCell (by simp) _).setCell (by simp;omega) _).trans hB'⟩
theorem ROffsets_bad (c:Value) (u0 u1 u2:Value) (hcv:c=.agg #[u0,u1,u2]) (h0:u0.oneCell'=true) (h1:u1.oneCell'=true) (h2:u2.oneCell'=true) (wd:Int) (odd:Bool) (k:Int) (w:World) (hk:k≠0) (hri:∀ w':World,Below w.heap.size w w'→Calls Tryz.prog 48 #[c,.int .i64 wd] w' (RetB (.int .i64 k) w')) :
  Calls Tryz.prog 15 #[c,.int .i64 wd,.bool odd] w (RetStrs [] k w):=by
 subst hcv
 have HRI:=Lib.hid hri
 have hkb:(k == 0)=false:=by simpa using hk
 clear hri hk
 go_enter Tryz.func15,Tryz.ntmps15
 go_wp2_with fail
 refine (HRI.out _ qbl).mono ?_
 rintro e w1 ⟨rfl,hB1⟩
 have hb1:Below w.heap.size w w1:=qbl
 clear hB1
 go_wp2_with fail
 go_ret2
 exact ⟨_,rfl,isStrs_nil _,hb1⟩
noncomputable def spQ (S:Texts):List (Rat × Rat):=S.map (fun p=>(qOf p.1,qOf p.2))
theorem spQ_length (S:Texts):(spQ S).length=S.length:=by simp [spQ]
theorem spQ_get (S:Texts) {k:Nat} (h:k < (spQ S).length):(spQ S)[k]=(qOf (tx S k).1,qOf (tx S k).2):=by
 have h':k < S.length:=by rwa [spQ_length] at h
 have e:(S.map (fun p=>(qOf p.1,qOf p.2)))[k]'(by simpa using h')=(qOf (tx S k).1,qOf (tx S k).2):=by
  unfold tx
  rw [List.getElem_map,List.getD_eq_getElem?_getD,List.getElem?_eq_getElem h']
  rfl
 exact e
theorem isCourse_of {w:World} {v:Value} {lo hi:ByteArray} {S:Texts} (h:SpansAt w v S) (hro:Roomy v) (hr:rightB lo hi S=true):IsCourse w (.agg #[.string lo,.string hi,v]) (qOf lo) (qOf hi) (spQ S):=by
 obtain ⟨a,cap,rfl,hm,hc⟩:=h
 obtain ⟨a',n',cap',e,hle⟩:=hro
 cases e
 obtain ⟨s1,s2,-,s4⟩:=rightB_short hr
 refine ⟨lo,hi,_,rfl,(isShort_spec s1).1,(isShort_spec s2).1,a,cap,by rw [spQ_length],by rw [spQ_length];exact hle,fun hn=>?_⟩
 obtain ⟨b,off,e,hb,hcc⟩:=hc (fun h=>hn (by rw [h];rfl))
 refine ⟨b,off,e,hb,fun k hk=>?_⟩
 have hk':k < S.length:=by rwa [spQ_length] at hk
 obtain ⟨c1,c2⟩:=hcc k hk'
 rw [spQ_get S hk]
 exact ⟨_,_,c1,c2,(isShort_spec (s4 k hk').1).1,(isShort_spec (s4 k hk').2).1⟩
theorem both_offsets (lo hi:ByteArray) (S:Texts) (v:Value) (wd:Int) (odd:Bool) (w:World) (hG:Glo w) (hv:SpansAt w v S) (hro:Roomy v) (hlo:lo.size≤1000) (hhi:hi.size≤1000) (hbr:Brief S) :
  ∃ (L:List ByteArray) (k:Int),L.length≤4096∧(∀ W,Below w.heap.size w W→Calls Tryz.prog 14 #[.agg #[.string lo,.string hi,v],.int .i64 wd,.bool odd] W (RetStrs L k W)) ∧
   (∀ W,Below w.heap.size w W→Calls Tryz.prog 15 #[.agg #[.string lo,.string hi,v],.int .i64 wd,.bool odd] W (RetStrs L k W)):=by
 have hc:CourseAt w (.agg #[.string lo,.string hi,v]) lo hi S:=⟨v,rfl,hv,hlo,hhi,hbr⟩
 have h1v:v.oneCell'=true:=by obtain ⟨a,cap,rfl,_⟩:=hv;rfl
 have P1:=fun (W:World) (hB:Below w.heap.size w W)=>tright_any lo hi S _ wd W (hG.below hB) (hc.below hB)
 have P2:=fun (W:World) (hB:Below w.heap.size w W)=>rcheck48_any lo hi S _ wd W (hG.below hB) (hc.below hB)
 by_cases hcd:codeC lo hi S wd=0
 rotate_left
 ·exact ⟨[],codeC lo hi S wd,by simp,fun W hB=>Offsets_bad _ _ _ _ rfl rfl rfl h1v wd odd _ W hcd (fun W' hB'=>P1 W' (below_trans' hB hB')),fun W hB=>ROffsets_bad _ _ _ _ rfl rfl rfl h1v wd odd _ W hcd (fun W' hB'=>P2 W' (below_trans' hB hB'))⟩
 ·obtain ⟨hrt,h1,h2⟩:=codeC_zero hcd
  have hic:=isCourse_of hv hro hrt
  obtain ⟨_,_,h64,hss⟩:=rightB_short hrt
  rw [hcd] at P1 P2
  have hsz:∀ k (h:k < (spQ S).length),Sz 36 (spQ S)[k].1∧Sz 36 (spQ S)[k].2:=fun k h=>by
   rw [spQ_get S h]
   have h':k < S.length:=by rwa [spQ_length] at h
   exact ⟨(isShort_spec (hss k h').1).2,(isShort_spec (hss k h').2).2⟩
  have hst:∀ k (h:k < (spQ S).length),∃ N,StepsA (firstAt (spQ S)[k] wd odd) (spQ S)[k].2 wd N:=fun k h=>by
   obtain ⟨z1,z2⟩:=hsz k h
   have w1:(0:Rat)≤(wd:Rat) / 2:=by
    rw [Rat.div_def];exact Rat.mul_nonneg (by exact_mod_cast (by omega:(0:Int)≤wd)) (by decide +kernel)
   have w2:(wd:Rat) / 2≤2000:=by
    have w3:(wd:Rat)≤((2000:Int):Rat):=by rw [Rat.intCast_le_intCast];exact h2
    rw [show ((2000:Int):Rat)=2000 from rfl] at w3
    have w4:(wd:Rat) / 2=(wd:Rat) * (1 / 2):=by rw [Rat.div_def,Rat.div_def,Rat.one_mul]
    generalize (wd:Rat) / 2=x at *
    grind
   refine stepsA_of (lo:=(spQ S)[k].1) z1 z2 ?_ ?_ h1 h2 (sz4 h1 h2)
   ·unfold firstAt
    cases odd
    ·exact z1.mono (by omega)
    ·exact Sz.sub z1 (sz_half h1 h2)
   ·unfold firstAt
    generalize (spQ S)[k].1=y at *
    generalize (wd:Rat) / 2=x at *
    cases odd
    ·simp only [Bool.false_eq_true,if_false];grind
    ·simp only [if_true];grind
  obtain ⟨Ns,hNs⟩:∃ Ns:Nat→Nat,∀ k (h:k < (spQ S).length),StepsA (firstAt (spQ S)[k] wd odd) (spQ S)[k].2 wd (Ns k):=by
   refine ⟨fun k=>if h:k < (spQ S).length then Classical.choose (hst k h) else 0,fun k h=>?_⟩
   dsimp only
   rw [dif_pos h]
   exact Classical.choose_spec (hst k h)
  have O1:=fun (W:World) (hB:Below w.heap.size w W)=>Offsets_all _ wd odd W (hG.below hB) (hic.below hB) (fun W' hB'=>P1 W' (below_trans' hB hB')) hsz (by rw [spQ_length];exact h64) h1 h2 Ns hNs
  have O2:=fun (W:World) (hB:Below w.heap.size w W)=>ROffsets_all _ wd odd W (hG.below hB) (hic.below hB) (fun W' hB'=>P2 W' (below_trans' hB hB')) hsz (by rw [spQ_length];exact h64) h1 h2 Ns hNs
  generalize offTo (spQ S) wd odd Ns (spQ S).length=l at *
  by_cases hl:l.length≤4096
  ·refine ⟨l.map numS,0,by simpa using hl,fun W hB=>(O1 W hB).mono fun e W' hr=>?_,fun W hB=>(O2 W hB).mono fun e W' hr=>?_⟩
   ·rcases hr with ⟨_,v',rfl,hrow,_,hB'⟩|⟨h,_⟩
    ·exact ⟨v',rfl,isStrs_row hrow,hB'⟩
    ·omega
   ·rcases hr with ⟨_,v',rfl,hi,hB'⟩|⟨h,_⟩
    ·exact ⟨v',rfl,hi,hB'⟩
    ·omega
  ·refine ⟨[],4,by simp,fun W hB=>(O1 W hB).mono fun e W' hr=>?_,fun W hB=>(O2 W hB).mono fun e W' hr=>?_⟩
   ·rcases hr with ⟨h,_⟩|⟨_,rfl,hB'⟩
    ·exact absurd h hl
    ·exact ⟨_,rfl,isStrs_nil _,hB'⟩
   ·rcases hr with ⟨h,_⟩|⟨_,rfl,hB'⟩
    ·exact absurd h hl
    ·exact ⟨_,rfl,isStrs_nil _,hB'⟩
theorem courseR_bds {lo hi:ByteArray} {S:Texts} {wd:Int}:0≤(courseR lo hi S wd).1∧(courseR lo hi S wd).1≤68719476736∧0≤(courseR lo hi S wd).2.1∧(courseR lo hi S wd).2.1≤64:=by
 unfold courseR
 split
 ·rename_i hcd
  obtain ⟨hrt,h1,h2⟩:=codeC_zero hcd
  split
  ·rename_i hf
   have h64:=(rightB_short hrt).2.2.1
   obtain ⟨i1,i2,i3,i4⟩:=fullQ_bds (fun k (hk:k < S.length)=>span_ok hrt h1 h2 hk) hf S.length (Nat.le_refl _)
   refine ⟨i1,by simp only;omega,i3,by simp only;omega⟩
  ·exact ⟨by simp,by simp,by simp,by simp⟩
 ·exact ⟨by simp,by simp,by simp,by simp⟩
theorem coursesLaw (lo hi:ByteArray) (S:Texts) (c:Value) (wd n p:Int) (odd:Bool) (w:World) (hG:Glo w) (hc:CourseIn w c lo hi S) :
  Calls Tryz.prog 3 #[c,.int .i64 wd,.int .i64 n,.int .i64 p,.bool odd] w (RetB (.bool true) w):=by
 obtain ⟨v,rfl,hv,hro,hlo,hhi,hbr⟩:=hc
 obtain ⟨a,cap,rfl,hv'⟩:=id hv
 have HG:=Lib.hid hG
 have HV:=Lib.hid hv
 have HRO:=Lib.hid hro
 have HBR:=Lib.hid hbr
 have HLO:=Lib.hid hlo
 have HHI:=Lib.hid hhi
 obtain ⟨r1,hr1⟩:∃ x,(courseR lo hi S wd).1=x:=⟨_,rfl⟩
 obtain ⟨r2,hr2⟩:∃ x,(courseR lo hi S wd).2.1=x:=⟨_,rfl⟩
 obtain ⟨r3,hr3⟩:∃ x,(courseR lo hi S wd).2.2=x:=⟨_,rfl⟩
 obtain ⟨s1,hs1⟩:∃ x,(spareP n p).1=x:=⟨_,rfl⟩
 obtain ⟨s2,hs2⟩:∃ x,(spareP n p).2=x:=⟨_,rfl⟩
 obtain ⟨d1,d2,d3,d4⟩:=courseR_bds (lo:=lo) (hi:=hi) (S:=S) (wd:=wd)
 rw [hr1] at d1 d2
 rw [hr2] at d3 d4
 have hwr:IntKind.i64.wrap (r1+r2)=r1+r2:=IntWalk.i64_in _ (by omega)
 have HAT:=Lib.hid (fun (h:SmallC lo hi S) W (hB:Below w.heap.size w W)=>(by
  have h':=txL_mem (p:=fun t=>t.size≤90) h.2
  exact ⟨_,rfl,hv.below hB,by omega,by omega,fun k hk=>⟨by have:=(h'.2.2 k hk).1;omega,by have:=(h'.2.2 k hk).2;omega⟩⟩:CourseAt W (.agg #[.string lo,.string hi,.slice a S.length cap]) lo hi S))
 have C1:=Lib.hid (fun (h:SmallC lo hi S) W (hB:Below w.heap.size w W)=>Course_any lo hi S _ wd W (hG.below hB) (HAT.out h W hB))
 have C2:=Lib.hid (fun (h:SmallC lo hi S) W (hB:Below w.heap.size w W)=>RCourse48_any lo hi S _ wd W (hG.below hB) (HAT.out h W hB))
 rw [hr1,hr2,hr3] at C1 C2
 have P1:=Lib.hid (Spare_any n p)
 have P2:=Lib.hid (RSpare_any n p)
 rw [hs1,hs2] at P1 P2
 have BO:=Lib.hid (fun (h:SmallC lo hi S) W (hB:Below w.heap.size w W)=>both_offsets lo hi S (.slice a S.length cap) wd odd W (hG.below hB) (hv.below hB) hro
  (by have:=(txL_mem (p:=fun t=>t.size≤90) h.2).1;omega) (by have:=(txL_mem (p:=fun t=>t.size≤90) h.2).2.1;omega)
  (fun k hk=>⟨by have:=((txL_mem (p:=fun t=>t.size≤90) h.2).2.2 k hk).1;omega,by have:=((txL_mem (p:=fun t=>t.size≤90) h.2).2.2 k hk).2;omega⟩))
 have HAW:=Lib.hid (fun W (hB:Below w.heap.size w W)=>awake_ok W (hG.below hB))
 clear hG hv hro hbr hlo hhi hv' hr1 hr2 hr3 hs1 hs2 HAT
 go_enter Tryz.func3,Tryz.ntmps3
 go_wp2_with fail
 refine (rgreat47 (w.heap.size+1) 0 1 lo hi S _ _ (HG.out.below qbl) (by simp [go_sem]) (by simp [go_sem]) (by simp [go_sem]) (HV.out.below qbl) HLO.out HHI.out HBR.out).mono ?_
 rintro e w1 ⟨g,rfl,hg,hB1⟩
 have hb1:Below w.heap.size w w1:=qbl
 have k0:w1.cell? ⟨w.heap.size,0,none⟩=some (.string lo):=keep hB1 (by simp [go_sem])
 have k1:w1.cell? ⟨w.heap.size,1,none⟩=some (.string hi):=keep hB1 (by simp [go_sem])
 have k2:w1.cell? ⟨w.heap.size,2,none⟩=some (.slice a S.length cap):=keep hB1 (by simp [go_sem])
 clear hB1
 cases g
 rotate_left
 ·clear hg
  go_wp2_with fail
  refine (HAW.out _ hb1).mono ?_
  rintro e w2 ⟨rfl,hB2⟩
  have hb2:=below_trans' hb1 hB2
  clear hB2
  go_wp2_with fail
  go_ret
  exact ⟨rfl,hb2⟩
 have HS:=Lib.hid (hg.out rfl)
 clear hg
 go_wp2_with fail
 refine (C1.out HS.out _ hb1).mono ?_
 rintro e w2 ⟨rfl,hB2⟩
 have hb2:=below_trans' hb1 hB2
 have k0:=keep hB2 k0
 have k1:=keep hB2 k1
 have k2:=keep hB2 k2
 clear hB2 hb1 C1
 go_wp2_with fail
 refine (C2.out HS.out _ hb2).mono ?_
 rintro e w3 ⟨rfl,hB3⟩
 have hb3:=below_trans' hb2 hB3
 have k0:=keep hB3 k0
 have k1:=keep hB3 k1
 have k2:=keep hB3 k2
 clear hB3 hb2 C2
 go_wp2_with fail
 refine (P1.out _).mono ?_
 rintro e w4 ⟨rfl,hB4⟩
 have hb4:=below_trans' hb3 hB4
 have k0:=keep hB4 k0
 have k1:=keep hB4 k1
 have k2:=keep hB4 k2
 clear hB4 hb3 P1
 go_wp2_with fail
 refine (P2.out _).mono ?_
 rintro e w5 ⟨rfl,hB5⟩
 have hb5:=below_trans' hb4 hB5
 have k0:=keep hB5 k0
 have k1:=keep hB5 k1
 have k2:=keep hB5 k2
 clear hB5 hb4 P2
 by_cases hxy:100 < r1+r2
 ·have hxb:decide (100 < r1+r2)=true:=by simpa using hxy
  go_wp2_with fail
  refine (HAW.out _ hb5).mono ?_
  rintro e w6 ⟨rfl,hB6⟩
  have hb6:=below_trans' hb5 hB6
  clear hB6
  go_wp2_with fail
  go_ret
  exact ⟨rfl,hb6⟩
 have hxb:decide (100 < r1+r2)=false:=by simpa using hxy
 obtain ⟨L,q,hL,O1,O2⟩:=BO.out HS.out w5 hb5
 have O1:=Lib.hid (O1 w5 (bw0 _ _))
 have O2:=Lib.hid O2
 clear hxy BO
 go_wp2_with fail
 refine O1.out.mono ?_
 rintro e w6 ⟨v6,rfl,hv6,hB6⟩
 have hb6:=below_trans' hb5 hB6
 have k0:=keep hB6 k0
 have k1:=keep hB6 k1
 have k2:=keep hB6 k2
 have HV6:=Lib.hid hv6
 have O2:=Lib.hid (O2.out w6 hB6)
 clear hB6 hv6 O1 hb5
 go_wp2_with fail
 refine O2.out.mono ?_
 rintro e w7 ⟨v7,rfl,hv7,hB7⟩
 have hb7:=below_trans' hb6 hB7
 have HV6:=Lib.hid (HV6.out.below hB7)
 have HV7:=Lib.hid hv7
 clear hB7 hv7 O2 hb6 k0 k1 k2
 go_wp2_with fail
 refine (Equal_any _ _ _ _ _ HV6.out HV7.out (by omega)).mono ?_
 rintro e w8 ⟨rfl,hB8⟩
 have hb8:=below_trans' hb7 hB8
 rw [decide_eq_true rfl]
 clear hB8 hb7
 go_wp2_with fail
 refine (HAW.out _ hb8).mono ?_
 rintro e w9 ⟨rfl,hB9⟩
 have hb9:=below_trans' hb8 hB9
 clear hB9
 go_wp2_with fail
 go_ret
 exact ⟨rfl,hb9⟩
end Go.Proofs.YteepphiomcedfaaGreatDoor
