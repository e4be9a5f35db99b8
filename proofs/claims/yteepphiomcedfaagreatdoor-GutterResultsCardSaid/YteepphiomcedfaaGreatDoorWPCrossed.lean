/- Walks: plan.crossed. -/
import Derived.Test.YteepphiomcedfaaGreatDoorJ12
set_option maxRecDepth 100000
set_option linter.unusedVariables false
set_option linter.unusedSimpArgs false
set_option maxHeartbeats 6400000
namespace Go.Proofs.YteepphiomcedfaaGreatDoor
open Go.RowKit Go.Shelf
attribute [local go_sem] Oper.semAt_some
theorem pcrossed_ok (P:List Ring) (v:Value) (w:World) (hv:IsRings w v P) (hval:Valid P) :
  Calls Tryz.prog 160 #[v] w (RetB (.bool false) w):=by
 obtain ⟨a,cap,rfl,h⟩:=hv
 have hP0:0 < P.length:=List.length_pos_iff.2 hval.ne
 have hP1:P.length≤24:=by have:=rings_le hval.nes P.length (Nat.le_refl _);have:=hval.tot;omega
 obtain ⟨b,off,rfl,hc⟩:=h hval.ne
 have HL:=Lib.hid (fun r (hr:r < P.length)=>(show (rg P r).length≤1000 by have:=len_le hr;have:=hval.tot;omega))
 have HV:=Lib.hid hval
 have HC:=Lib.hid hc
 have htot:=hval.tot
 obtain ⟨i3,hi3,hz30,hz31,hz32⟩:=info_parts Tryz.infoBox
 obtain ⟨i4,hi4,hz40,hz41,hz42⟩:=info_parts Tryz.infoPlace
 clear h hc hval
 refine (callsIn_wide (n:=5)).1 ?_
 refine callsIn_of_wp_marks Tryz.func160 rfl trivial ?_ rfl
 simp only [Tryz.ntmps160,List.size_toArray,List.length_cons,List.length_nil,Nat.reduceAdd,Nat.reduceSub,Array.replicate_succ,Array.replicate_zero,List.push_toArray,List.append_toArray,List.nil_append,List.cons_append]
 gi_wp2
 refine wpIn_loop_ghost_k (fun (g:Nat) (a':Act) (w':World)=>∃ (Ds:List Nat) (r:Nat) (z16:Value),(r≤P.length∧g=P.length - r∧z16=.int .i64 r∧(∃ v3 v4,LInv P w (pls P r) v3 v4 w')∧Ds.Nodup∧(∀ D ∈ Ds,w.heap.size+2≤D∧w'.heap[D]?=some (.deferred (some []))))∧a'={ tmps:=#[.slice (some ⟨b,off,none⟩) P.length cap,undef,.bool false,.pointer (some ⟨w.heap.size,0,none⟩),.pointer (some ⟨w.heap.size+1,0,none⟩),a'.tmps.getD 5 undef,a'.tmps.getD 6 undef,a'.tmps.getD 7 undef,a'.tmps.getD 8 undef,a'.tmps.getD 9 undef,a'.tmps.getD 10 undef,a'.tmps.getD 11 undef,a'.tmps.getD 12 undef,a'.tmps.getD 13 undef,.slice (some ⟨b,off,none⟩) P.length cap,.int .i64 P.length,z16,a'.tmps.getD 17 undef,a'.tmps.getD 18 undef,a'.tmps.getD 19 undef,a'.tmps.getD 20 undef,a'.tmps.getD 21 undef,a'.tmps.getD 22 undef,a'.tmps.getD 23 undef,a'.tmps.getD 24 undef,a'.tmps.getD 25 undef,a'.tmps.getD 26 undef,a'.tmps.getD 27 undef,a'.tmps.getD 28 undef,a'.tmps.getD 29 undef,a'.tmps.getD 30 undef,a'.tmps.getD 31 undef,a'.tmps.getD 32 undef,a'.tmps.getD 33 undef,a'.tmps.getD 34 undef,a'.tmps.getD 35 undef,a'.tmps.getD 36 undef,a'.tmps.getD 37 undef,a'.tmps.getD 38 undef,a'.tmps.getD 39 undef,a'.tmps.getD 40 undef,a'.tmps.getD 41 undef,a'.tmps.getD 42 undef,a'.tmps.getD 43 undef,a'.tmps.getD 44 undef,a'.tmps.getD 45 undef,a'.tmps.getD 46 undef,a'.tmps.getD 47 undef,a'.tmps.getD 48 undef,a'.tmps.getD 49 undef,a'.tmps.getD 50 undef,a'.tmps.getD 51 undef,a'.tmps.getD 52 undef,a'.tmps.getD 53 undef,a'.tmps.getD 54 undef,a'.tmps.getD 55 undef,a'.tmps.getD 56 undef,a'.tmps.getD 57 undef,a'.tmps.getD 58 undef,a'.tmps.getD 59 undef,a'.tmps.getD 60 undef,a'.tmps.getD 61 undef,a'.tmps.getD 62 undef,a'.tmps.getD 63 undef,a'.tmps.getD 64 undef,a'.tmps.getD 65 undef,a'.tmps.getD 66 undef,a'.tmps.getD 67 undef,a'.tmps.getD 68 undef,a'.tmps.getD 69 undef,a'.tmps.getD 70 undef,a'.tmps.getD 71 undef,a'.tmps.getD 72 undef,a'.tmps.getD 73 undef,a'.tmps.getD 74 undef,a'.tmps.getD 75 undef,a'.tmps.getD 76 undef,a'.tmps.getD 77 undef,a'.tmps.getD 78 undef,a'.tmps.getD 79 undef,a'.tmps.getD 80 undef,a'.tmps.getD 81 undef,a'.tmps.getD 82 undef,a'.tmps.getD 83 undef,a'.tmps.getD 84 undef,a'.tmps.getD 85 undef,a'.tmps.getD 86 undef,a'.tmps.getD 87 undef,a'.tmps.getD 88 undef,a'.tmps.getD 89 undef,a'.tmps.getD 90 undef,a'.tmps.getD 91 undef,a'.tmps.getD 92 undef,a'.tmps.getD 93 undef,a'.tmps.getD 94 undef,a'.tmps.getD 95 undef,a'.tmps.getD 96 undef,a'.tmps.getD 97 undef,a'.tmps.getD 98 undef,a'.tmps.getD 99 undef,a'.tmps.getD 100 undef,a'.tmps.getD 101 undef],defers:=Ds.map markOf }) P.length ?_ ?_
 ·refine ⟨[],0,_,⟨by omega,rfl,rfl,⟨.slice none 0 0,.slice none 0 0,(Boxed.new w _ _).alloc _,?_,World.ownsRow_nil _ _ _ _,World.ownsRow_nil _ _ _ _,qbl,by simp⟩,List.nodup_nil,by simp⟩,rfl⟩
  have h:=Boxed.new (w.alloc (.cells #[.slice none 0 0] 220)) 221 (.slice none 0 0)
  rw [World.size_alloc] at h
  exact h
 ·intro g a' wr hrel0 J K hJ hK
  obtain ⟨Ds,r,z16,⟨hr,rfl,rfl,⟨v3,v4,hI⟩,hnd,hmarks⟩,ha0⟩:=hrel0
  obtain ⟨u,ha⟩:∃ u:Nat→Value,a'={ tmps:=#[.slice (some ⟨b,off,none⟩) P.length cap,undef,.bool false,.pointer (some ⟨w.heap.size,0,none⟩),.pointer (some ⟨w.heap.size+1,0,none⟩),u 5,u 6,u 7,u 8,u 9,u 10,u 11,u 12,u 13,.slice (some ⟨b,off,none⟩) P.length cap,.int .i64 P.length,.int .i64 r,u 17,u 18,u 19,u 20,u 21,u 22,u 23,u 24,u 25,u 26,u 27,u 28,u 29,u 30,u 31,u 32,u 33,u 34,u 35,u 36,u 37,u 38,u 39,u 40,u 41,u 42,u 43,u 44,u 45,u 46,u 47,u 48,u 49,u 50,u 51,u 52,u 53,u 54,u 55,u 56,u 57,u 58,u 59,u 60,u 61,u 62,u 63,u 64,u 65,u 66,u 67,u 68,u 69,u 70,u 71,u 72,u 73,u 74,u 75,u 76,u 77,u 78,u 79,u 80,u 81,u 82,u 83,u 84,u 85,u 86,u 87,u 88,u 89,u 90,u 91,u 92,u 93,u 94,u 95,u 96,u 97,u 98,u 99,u 100,u 101],defers:=Ds.map markOf }:=⟨fun k=>a'.tmps.getD k undef,ha0⟩
  clear ha0
  subst ha
  by_cases hrP:r=P.length
  ·subst hrP
   have hpl:=pls_length P P.length
   have hpos:0 < (pls P P.length).length:=by rw [hpl];have:=rings_le HV.out.nes P.length (Nat.le_refl _);omega
   have hpne:pls P P.length≠[]:=List.length_pos_iff.1 hpos
   obtain ⟨g3,c3,g4,c4,hLs⟩:=lists_of hI hpne
   have hN:(pls P P.length).length≤24:=by rw [hpl];exact htot
   have k3:=hLs.b3
   have HAP:=Lib.hid (fun i k hi hk=>@apart P HV.out.crs i k hi hk _ _ rfl rfl)
   have HMEM:=Lib.hid (fun i (hi:i < (pls P P.length).length)=>pls_mem (List.getElem_mem hi))
   clear hpl
   gi_wp2
   refine wpIn_loop_ghost_k (fun (g:Nat) (a':Act) (w':World)=>∃ (i:Nat) (z39:Value),(i≤(pls P P.length).length∧g=(pls P P.length).length - i∧z39=.int .i64 i∧Below wr.heap.size wr w')∧a'={ tmps:=#[.slice (some ⟨b,off,none⟩) P.length cap,undef,.bool false,.pointer (some ⟨w.heap.size,0,none⟩),.pointer (some ⟨w.heap.size+1,0,none⟩),a'.tmps.getD 5 undef,a'.tmps.getD 6 undef,a'.tmps.getD 7 undef,a'.tmps.getD 8 undef,a'.tmps.getD 9 undef,a'.tmps.getD 10 undef,a'.tmps.getD 11 undef,a'.tmps.getD 12 undef,a'.tmps.getD 13 undef,.slice (some ⟨b,off,none⟩) P.length cap,.int .i64 P.length,a'.tmps.getD 16 undef,a'.tmps.getD 17 undef,a'.tmps.getD 18 undef,a'.tmps.getD 19 undef,a'.tmps.getD 20 undef,a'.tmps.getD 21 undef,a'.tmps.getD 22 undef,a'.tmps.getD 23 undef,a'.tmps.getD 24 undef,a'.tmps.getD 25 undef,a'.tmps.getD 26 undef,a'.tmps.getD 27 undef,a'.tmps.getD 28 undef,a'.tmps.getD 29 undef,a'.tmps.getD 30 undef,a'.tmps.getD 31 undef,a'.tmps.getD 32 undef,a'.tmps.getD 33 undef,a'.tmps.getD 34 undef,a'.tmps.getD 35 undef,a'.tmps.getD 36 undef,.slice (some ⟨g3,0,none⟩) (pls P P.length).length c3,.int .i64 (pls P P.length).length,z39,a'.tmps.getD 40 undef,a'.tmps.getD 41 undef,a'.tmps.getD 42 undef,a'.tmps.getD 43 undef,a'.tmps.getD 44 undef,a'.tmps.getD 45 undef,a'.tmps.getD 46 undef,a'.tmps.getD 47 undef,a'.tmps.getD 48 undef,a'.tmps.getD 49 undef,a'.tmps.getD 50 undef,a'.tmps.getD 51 undef,a'.tmps.getD 52 undef,a'.tmps.getD 53 undef,a'.tmps.getD 54 undef,a'.tmps.getD 55 undef,a'.tmps.getD 56 undef,a'.tmps.getD 57 undef,a'.tmps.getD 58 undef,a'.tmps.getD 59 undef,a'.tmps.getD 60 undef,a'.tmps.getD 61 undef,a'.tmps.getD 62 undef,a'.tmps.getD 63 undef,a'.tmps.getD 64 undef,a'.tmps.getD 65 undef,a'.tmps.getD 66 undef,a'.tmps.getD 67 undef,a'.tmps.getD 68 undef,a'.tmps.getD 69 undef,a'.tmps.getD 70 undef,a'.tmps.getD 71 undef,a'.tmps.getD 72 undef,a'.tmps.getD 73 undef,a'.tmps.getD 74 undef,a'.tmps.getD 75 undef,a'.tmps.getD 76 undef,a'.tmps.getD 77 undef,a'.tmps.getD 78 undef,a'.tmps.getD 79 undef,a'.tmps.getD 80 undef,a'.tmps.getD 81 undef,a'.tmps.getD 82 undef,a'.tmps.getD 83 undef,a'.tmps.getD 84 undef,a'.tmps.getD 85 undef,a'.tmps.getD 86 undef,a'.tmps.getD 87 undef,a'.tmps.getD 88 undef,a'.tmps.getD 89 undef,a'.tmps.getD 90 undef,a'.tmps.getD 91 undef,a'.tmps.getD 92 undef,a'.tmps.getD 93 undef,a'.tmps.getD 94 undef,a'.tmps.getD 95 undef,a'.tmps.getD 96 undef,a'.tmps.getD 97 undef,a'.tmps.getD 98 undef,a'.tmps.getD 99 undef,a'.tmps.getD 100 undef,a'.tmps.getD 101 undef],defers:=Ds.map markOf }) (pls P P.length).length ?_ ?_
   ·exact ⟨0,_,⟨by omega,rfl,rfl,bw0 _ _⟩,rfl⟩
   ·intro g a' w2 hrel0 J2 K2 hJ2 hK2
    obtain ⟨i,z39,⟨hi,rfl,rfl,hB2⟩,ha0⟩:=hrel0
    obtain ⟨u2,ha⟩:∃ u2:Nat→Value,a'={ tmps:=#[.slice (some ⟨b,off,none⟩) P.length cap,undef,.bool false,.pointer (some ⟨w.heap.size,0,none⟩),.pointer (some ⟨w.heap.size+1,0,none⟩),u2 5,u2 6,u2 7,u2 8,u2 9,u2 10,u2 11,u2 12,u2 13,.slice (some ⟨b,off,none⟩) P.length cap,.int .i64 P.length,u2 16,u2 17,u2 18,u2 19,u2 20,u2 21,u2 22,u2 23,u2 24,u2 25,u2 26,u2 27,u2 28,u2 29,u2 30,u2 31,u2 32,u2 33,u2 34,u2 35,u2 36,.slice (some ⟨g3,0,none⟩) (pls P P.length).length c3,.int .i64 (pls P P.length).length,.int .i64 i,u2 40,u2 41,u2 42,u2 43,u2 44,u2 45,u2 46,u2 47,u2 48,u2 49,u2 50,u2 51,u2 52,u2 53,u2 54,u2 55,u2 56,u2 57,u2 58,u2 59,u2 60,u2 61,u2 62,u2 63,u2 64,u2 65,u2 66,u2 67,u2 68,u2 69,u2 70,u2 71,u2 72,u2 73,u2 74,u2 75,u2 76,u2 77,u2 78,u2 79,u2 80,u2 81,u2 82,u2 83,u2 84,u2 85,u2 86,u2 87,u2 88,u2 89,u2 90,u2 91,u2 92,u2 93,u2 94,u2 95,u2 96,u2 97,u2 98,u2 99,u2 100,u2 101],defers:=Ds.map markOf }:=⟨fun k=>a'.tmps.getD k undef,ha0⟩
    clear ha0
    subst ha
    by_cases hiN:i=(pls P P.length).length
    ·have hlt:¬ (i:Int) < ((pls P P.length).length:Int):=by omega
     have hlt2:¬ i < (pls P P.length).length:=by omega
     clear hiN
     gi_wp2
     refine leaves_marks (w.heap.size+2) Ds _ hnd (marks_below hmarks hB2) (fun W' hB' hcc=>?_)
     exact ⟨_,results_tmp rfl _ _ _,rfl,(hI.below.trans (hB2.mono hI.below.size)).trans (hB'.mono (by omega))⟩
    ·have hi1:i < (pls P P.length).length:=by omega
     have hii:(i:Int) < ((pls P P.length).length:Int):=by omega
     obtain ⟨pa,hpa⟩:∃ a,(pls P P.length)[i]=a:=⟨_,rfl⟩
     gi_wp2
     refine wpIn_loop_ghost_k (fun (g:Nat) (a':Act) (w':World)=>∃ (k:Nat) (z43:Value),(k≤i∧g=i - k∧z43=.int .i64 k∧Below wr.heap.size wr w')∧a'={ tmps:=#[.slice (some ⟨b,off,none⟩) P.length cap,undef,.bool false,.pointer (some ⟨w.heap.size,0,none⟩),.pointer (some ⟨w.heap.size+1,0,none⟩),a'.tmps.getD 5 undef,a'.tmps.getD 6 undef,a'.tmps.getD 7 undef,a'.tmps.getD 8 undef,.int .i64 i,a'.tmps.getD 10 undef,a'.tmps.getD 11 undef,a'.tmps.getD 12 undef,a'.tmps.getD 13 undef,.slice (some ⟨b,off,none⟩) P.length cap,.int .i64 P.length,a'.tmps.getD 16 undef,a'.tmps.getD 17 undef,a'.tmps.getD 18 undef,a'.tmps.getD 19 undef,a'.tmps.getD 20 undef,a'.tmps.getD 21 undef,a'.tmps.getD 22 undef,a'.tmps.getD 23 undef,a'.tmps.getD 24 undef,a'.tmps.getD 25 undef,a'.tmps.getD 26 undef,a'.tmps.getD 27 undef,a'.tmps.getD 28 undef,a'.tmps.getD 29 undef,a'.tmps.getD 30 undef,a'.tmps.getD 31 undef,a'.tmps.getD 32 undef,a'.tmps.getD 33 undef,a'.tmps.getD 34 undef,a'.tmps.getD 35 undef,a'.tmps.getD 36 undef,.slice (some ⟨g3,0,none⟩) (pls P P.length).length c3,.int .i64 (pls P P.length).length,.int .i64 i,a'.tmps.getD 40 undef,a'.tmps.getD 41 undef,.int .i64 i,z43,a'.tmps.getD 44 undef,a'.tmps.getD 45 undef,a'.tmps.getD 46 undef,a'.tmps.getD 47 undef,a'.tmps.getD 48 undef,a'.tmps.getD 49 undef,a'.tmps.getD 50 undef,a'.tmps.getD 51 undef,a'.tmps.getD 52 undef,a'.tmps.getD 53 undef,a'.tmps.getD 54 undef,a'.tmps.getD 55 undef,a'.tmps.getD 56 undef,a'.tmps.getD 57 undef,a'.tmps.getD 58 undef,a'.tmps.getD 59 undef,a'.tmps.getD 60 undef,a'.tmps.getD 61 undef,a'.tmps.getD 62 undef,a'.tmps.getD 63 undef,a'.tmps.getD 64 undef,a'.tmps.getD 65 undef,a'.tmps.getD 66 undef,a'.tmps.getD 67 undef,a'.tmps.getD 68 undef,a'.tmps.getD 69 undef,a'.tmps.getD 70 undef,a'.tmps.getD 71 undef,a'.tmps.getD 72 undef,a'.tmps.getD 73 undef,a'.tmps.getD 74 undef,a'.tmps.getD 75 undef,a'.tmps.getD 76 undef,a'.tmps.getD 77 undef,a'.tmps.getD 78 undef,a'.tmps.getD 79 undef,a'.tmps.getD 80 undef,a'.tmps.getD 81 undef,a'.tmps.getD 82 undef,a'.tmps.getD 83 undef,a'.tmps.getD 84 undef,a'.tmps.getD 85 undef,a'.tmps.getD 86 undef,a'.tmps.getD 87 undef,a'.tmps.getD 88 undef,a'.tmps.getD 89 undef,a'.tmps.getD 90 undef,a'.tmps.getD 91 undef,a'.tmps.getD 92 undef,a'.tmps.getD 93 undef,a'.tmps.getD 94 undef,a'.tmps.getD 95 undef,a'.tmps.getD 96 undef,a'.tmps.getD 97 undef,a'.tmps.getD 98 undef,a'.tmps.getD 99 undef,a'.tmps.getD 100 undef,a'.tmps.getD 101 undef],defers:=Ds.map markOf }) i ?_ ?_
     ·exact ⟨0,_,⟨by omega,rfl,rfl,hB2⟩,rfl⟩
     ·intro g a' w3 hrel0 J3 K3 hJ3 hK3
      obtain ⟨k,z43,⟨hk,rfl,rfl,hB3⟩,ha0⟩:=hrel0
      obtain ⟨u3,ha⟩:∃ u3:Nat→Value,a'={ tmps:=#[.slice (some ⟨b,off,none⟩) P.length cap,undef,.bool false,.pointer (some ⟨w.heap.size,0,none⟩),.pointer (some ⟨w.heap.size+1,0,none⟩),u3 5,u3 6,u3 7,u3 8,.int .i64 i,u3 10,u3 11,u3 12,u3 13,.slice (some ⟨b,off,none⟩) P.length cap,.int .i64 P.length,u3 16,u3 17,u3 18,u3 19,u3 20,u3 21,u3 22,u3 23,u3 24,u3 25,u3 26,u3 27,u3 28,u3 29,u3 30,u3 31,u3 32,u3 33,u3 34,u3 35,u3 36,.slice (some ⟨g3,0,none⟩) (pls P P.length).length c3,.int .i64 (pls P P.length).length,.int .i64 i,u3 40,u3 41,.int .i64 i,.int .i64 k,u3 44,u3 45,u3 46,u3 47,u3 48,u3 49,u3 50,u3 51,u3 52,u3 53,u3 54,u3 55,u3 56,u3 57,u3 58,u3 59,u3 60,u3 61,u3 62,u3 63,u3 64,u3 65,u3 66,u3 67,u3 68,u3 69,u3 70,u3 71,u3 72,u3 73,u3 74,u3 75,u3 76,u3 77,u3 78,u3 79,u3 80,u3 81,u3 82,u3 83,u3 84,u3 85,u3 86,u3 87,u3 88,u3 89,u3 90,u3 91,u3 92,u3 93,u3 94,u3 95,u3 96,u3 97,u3 98,u3 99,u3 100,u3 101],defers:=Ds.map markOf }:=⟨fun k=>a'.tmps.getD k undef,ha0⟩
      clear ha0
      subst ha
      by_cases hki:k=i
      ·have hlt:¬ (k:Int) < (i:Int):=by omega
       have hlt2:¬ k < i:=by omega
       gi_wp2
       refine Handed.intro ((pls P P.length).length - (i+1)) (by omega) ?_
       first|gi_step|go_step
       exact ⟨i+1,_,⟨by omega,rfl,by go_num,hB3⟩,rfl⟩
      ·have hk1:k < i:=by omega
       have hkk:(k:Int) < (i:Int):=by omega
       have hk2:k < (pls P P.length).length:=by omega
       obtain ⟨pb,hpb⟩:∃ a,(pls P P.length)[k]=a:=⟨_,rfl⟩
       have hap:=HAP.out i k hi1 hk1
       rw [hpa,hpb] at hap
       obtain ⟨ma1,ma2⟩:=HMEM.out i hi1
       obtain ⟨mb1,mb2⟩:=HMEM.out k hk2
       rw [hpa] at ma1 ma2
       rw [hpb] at mb1 mb2
       have hla:=HL.out pa.1 ma1
       have hlb:=HL.out pb.1 mb1
       obtain ⟨ua,ca,hua⟩:=HC.out pa.1 ma1
       have ca':=keep (hI.below.trans (hB3.mono hI.below.size)) ca
       obtain ⟨aa,capa,rfl,_⟩:=hua
       have HPA:Hid (∀ w':World,Lists P w g3 c3 g4 c4 w'→(w'.cell? ⟨w.heap.size,0,none⟩=some (.slice (some ⟨g3,0,none⟩) (pls P P.length).length c3)∧w'.cell? ⟨w.heap.size+1,0,none⟩=some (.slice (some ⟨g4,0,none⟩) (pls P P.length).length c4))∧(w'.cell? ⟨g4,i * 2,none⟩=some (.int .i64 (pa.1:Nat))∧w'.cell? ⟨g4,i * 2+1,none⟩=some (.int .i64 (pa.2:Nat)))∧(w'.cell? ⟨g4,k * 2,none⟩=some (.int .i64 (pb.1:Nat))∧w'.cell? ⟨g4,k * 2+1,none⟩=some (.int .i64 (pb.2:Nat))) ∧
         (w'.cell? ⟨g3,i * 4,none⟩=some (.int .i64 (min (sd (rg P pa.1) pa.2).x (nx (rg P pa.1) pa.2).x))∧w'.cell? ⟨g3,i * 4+1,none⟩=some (.int .i64 (min (sd (rg P pa.1) pa.2).y (nx (rg P pa.1) pa.2).y))∧w'.cell? ⟨g3,i * 4+2,none⟩=some (.int .i64 (max (sd (rg P pa.1) pa.2).x (nx (rg P pa.1) pa.2).x))∧w'.cell? ⟨g3,i * 4+3,none⟩=some (.int .i64 (max (sd (rg P pa.1) pa.2).y (nx (rg P pa.1) pa.2).y))) ∧
         (w'.cell? ⟨g3,k * 4,none⟩=some (.int .i64 (min (sd (rg P pb.1) pb.2).x (nx (rg P pb.1) pb.2).x))∧w'.cell? ⟨g3,k * 4+1,none⟩=some (.int .i64 (min (sd (rg P pb.1) pb.2).y (nx (rg P pb.1) pb.2).y))∧w'.cell? ⟨g3,k * 4+2,none⟩=some (.int .i64 (max (sd (rg P pb.1) pb.2).x (nx (rg P pb.1) pb.2).x))∧w'.cell? ⟨g3,k * 4+3,none⟩=some (.int .i64 (max (sd (rg P pb.1) pb.2).y (nx (rg P pb.1) pb.2).y)))):=Lib.hid (fun w' h=>by
        have p1:=h.pl i hi1
        have p2:=h.pl k hk2
        have q1:=h.bx i hi1
        have q2:=h.bx k hk2
        rw [hpa] at p1 q1
        rw [hpb] at p2 q2
        exact ⟨⟨h.b3,h.b4⟩,p1,p2,⟨q1 0 _ rfl,q1 1 _ rfl,q1 2 _ rfl,q1 3 _ rfl⟩,⟨q2 0 _ rfl,q2 1 _ rfl,q2 2 _ rfl,q2 3 _ rfl⟩⟩)
       have HMT:=Lib.hid (meets_any (sd (rg P pa.1) pa.2) (nx (rg P pa.1) pa.2) (sd (rg P pb.1) pb.2) (nx (rg P pb.1) pb.2))
       have hL3:=hLs.below hB3
       obtain ⟨⟨x3,x4⟩,⟨xa1,xa2⟩,_⟩:=HPA.out _ hL3
       unfold boxV at HMT
       have hcase:((pa.1≠pb.1∨(pa.1=pb.1∧(pa.2:Int) - pb.2≠1∧(pa.2:Int) - pb.2≠((rg P pa.1).length:Int) - 1))∧touchB (sd (rg P pa.1) pa.2) (nx (rg P pa.1) pa.2) (sd (rg P pb.1) pb.2) (nx (rg P pb.1) pb.2)=false)∨(pa.1=pb.1∧(pa.2:Int) - pb.2=1)∨(pa.1=pb.1∧(pa.2:Int) - pb.2≠1∧(pa.2:Int) - pb.2=((rg P pa.1).length:Int) - 1):=by
        by_cases hn:pa.1=pb.1∧((pa.2:Int) - pb.2=1∨(pa.2:Int) - pb.2=((rg P pa.1).length:Int) - 1)
        ·by_cases h1:(pa.2:Int) - pb.2=1
         ·exact .inr (.inl ⟨hn.1,h1⟩)
         ·exact .inr (.inr ⟨hn.1,h1,by rcases hn.2 with h|h;exact absurd h h1;exact h⟩)
        ·refine .inl ⟨?_,?_⟩
         ·by_cases h1:pa.1=pb.1
          ·exact .inr ⟨h1,fun h=>hn ⟨h1,.inl h⟩,fun h=>hn ⟨h1,.inr h⟩⟩
          ·exact .inl h1
         ·rcases hap with h|h
          ·exact absurd h hn
          ·rw [touch_comm,← touchB_iff] at h
           simpa using h
       have HCASE:=Lib.hid hcase
       clear hcase hap
       have hw1:IntKind.i64.wrap ((pa.2:Int) - (pb.2:Int))=(pa.2:Int) - (pb.2:Int):=IntWalk.i64_in _ (by omega)
       have hw2:IntKind.i64.wrap (((rg P pa.1).length:Int) - 1)=((rg P pa.1).length:Int) - 1:=IntWalk.i64_in _ (by omega)
       gi_wp2
       have hR:Lists P w g3 c3 g4 c4 w3.drew∧Below wr.heap.size wr w3.drew:=⟨hL3.below (bw0 _ _).drew,hB3.trans ((bw0 _ _).drew.mono hB3.size)⟩
       clear x3 x4 xa1 xa2 ca ca'
       refine region_J (L:=[]) (R:=(fun w'=>Lists P w g3 c3 g4 c4 w'∧Below wr.heap.size wr w')) 12 #[false,false,false,false,false,false,false,false,false,false,false,false] (by kernel_rfl) (by kernel_rfl) (by kernel_rfl) (fun Q' hQ' hN=>?_)
       generalize w3.drew=wx at *
       refine tkI 55 (i:=0) (v:=?_) (fw:=3) hQ' hR rfl (fun _=>rfl) ?_ ?_;rotate_left;(focus (intro wq hRq;obtain ⟨⟨y3,y4⟩,⟨a1,a2⟩,⟨b1,b2⟩,⟨m1,m2,m3,m4⟩,⟨n1,n2,n3,n4⟩⟩:=HPA.out _ hRq.1;go_simp;(try with_reducible rfl)));(try simp only [Act.put,bw7,bw8,bw9])
       refine tkI 56 (i:=1) (v:=?_) (fw:=3) hQ' hR rfl (fun _=>rfl) ?_ ?_;rotate_left;(focus (intro wq hRq;obtain ⟨⟨y3,y4⟩,⟨a1,a2⟩,⟨b1,b2⟩,⟨m1,m2,m3,m4⟩,⟨n1,n2,n3,n4⟩⟩:=HPA.out _ hRq.1;go_simp;(try with_reducible rfl)));(try simp only [Act.put,bw7,bw8,bw9])
       refine tkI 57 (i:=2) (v:=?_) (fw:=3) hQ' hR rfl (fun _=>rfl) ?_ ?_;rotate_left;(focus (intro wq hRq;obtain ⟨⟨y3,y4⟩,⟨a1,a2⟩,⟨b1,b2⟩,⟨m1,m2,m3,m4⟩,⟨n1,n2,n3,n4⟩⟩:=HPA.out _ hRq.1;go_simp;(try with_reducible rfl)));(try simp only [Act.put,bw7,bw8,bw9])
       refine tkI 58 (i:=3) (v:=?_) (fw:=3) hQ' hR rfl (fun _=>rfl) ?_ ?_;rotate_left;(focus (intro wq hRq;obtain ⟨⟨y3,y4⟩,⟨a1,a2⟩,⟨b1,b2⟩,⟨m1,m2,m3,m4⟩,⟨n1,n2,n3,n4⟩⟩:=HPA.out _ hRq.1;go_simp;(try with_reducible rfl)));(try simp only [Act.put,bw7,bw8,bw9])
       refine tkI 59 (i:=4) (v:=?_) (fw:=3) hQ' hR rfl (fun _=>rfl) ?_ ?_;rotate_left;(focus (intro wq hRq;obtain ⟨⟨y3,y4⟩,⟨a1,a2⟩,⟨b1,b2⟩,⟨m1,m2,m3,m4⟩,⟨n1,n2,n3,n4⟩⟩:=HPA.out _ hRq.1;go_simp;(try with_reducible rfl)));(try simp only [Act.put,bw7,bw8,bw9])
       refine tkI 60 (i:=5) (v:=?_) (fw:=3) hQ' hR rfl (fun _=>rfl) ?_ ?_;rotate_left;(focus (intro wq hRq;obtain ⟨⟨y3,y4⟩,⟨a1,a2⟩,⟨b1,b2⟩,⟨m1,m2,m3,m4⟩,⟨n1,n2,n3,n4⟩⟩:=HPA.out _ hRq.1;go_simp;(try with_reducible rfl)));(try simp only [Act.put,bw7,bw8,bw9])
       refine tkI 61 (i:=6) (v:=?_) (fw:=3) hQ' hR rfl (fun _=>rfl) ?_ ?_;rotate_left;(focus (intro wq hRq;obtain ⟨⟨y3,y4⟩,⟨a1,a2⟩,⟨b1,b2⟩,⟨m1,m2,m3,m4⟩,⟨n1,n2,n3,n4⟩⟩:=HPA.out _ hRq.1;go_simp;(try with_reducible rfl)));(try simp only [Act.put,bw7,bw8,bw9])
       refine tkI 62 (i:=7) (v:=?_) (fw:=3) hQ' hR rfl (fun _=>rfl) ?_ ?_;rotate_left;(focus (intro wq hRq;obtain ⟨⟨y3,y4⟩,⟨a1,a2⟩,⟨b1,b2⟩,⟨m1,m2,m3,m4⟩,⟨n1,n2,n3,n4⟩⟩:=HPA.out _ hRq.1;go_simp;(try with_reducible rfl)));(try simp only [Act.put,bw7,bw8,bw9])
       refine tkI 63 (i:=8) (v:=?_) (fw:=3) hQ' hR rfl (fun _=>rfl) ?_ ?_;rotate_left;(focus (intro wq hRq;obtain ⟨⟨y3,y4⟩,⟨a1,a2⟩,⟨b1,b2⟩,⟨m1,m2,m3,m4⟩,⟨n1,n2,n3,n4⟩⟩:=HPA.out _ hRq.1;go_simp;(try with_reducible rfl)));(try simp only [Act.put,bw7,bw8,bw9])
       refine tkI 64 (i:=9) (v:=?_) (fw:=3) hQ' hR rfl (fun _=>rfl) ?_ ?_;rotate_left;(focus (intro wq hRq;obtain ⟨⟨y3,y4⟩,⟨a1,a2⟩,⟨b1,b2⟩,⟨m1,m2,m3,m4⟩,⟨n1,n2,n3,n4⟩⟩:=HPA.out _ hRq.1;go_simp;(try with_reducible rfl)));(try simp only [Act.put,bw7,bw8,bw9])
       refine tkI 65 (i:=10) (v:=?_) (fw:=3) hQ' hR rfl (fun _=>rfl) ?_ ?_;rotate_left;(focus (intro wq hRq;obtain ⟨⟨y3,y4⟩,⟨a1,a2⟩,⟨b1,b2⟩,⟨m1,m2,m3,m4⟩,⟨n1,n2,n3,n4⟩⟩:=HPA.out _ hRq.1;go_simp;(try with_reducible rfl)));(try simp only [Act.put,bw7,bw8,bw9])
       refine tkI 12 (i:=11) (v:=?_) (fw:=3) hQ' hR rfl (fun _=>rfl) ?_ ?_;rotate_left;(focus (intro wq hRq;obtain ⟨⟨y3,y4⟩,⟨a1,a2⟩,⟨b1,b2⟩,⟨m1,m2,m3,m4⟩,⟨n1,n2,n3,n4⟩⟩:=HPA.out _ hRq.1;go_simp;(try with_reducible rfl)));(try simp only [Act.put,bw7,bw8,bw9])
       refine wpAnyI_done (by kernel_rfl) ?_ _
       refine hN.out _ _ ?_
       gi_wp2
       have hR:Lists P w g3 c3 g4 c4 wx.drew∧Below wr.heap.size wr wx.drew:=⟨hR.1.below (bw0 _ _).drew,hR.2.trans ((bw0 _ _).drew.mono hR.2.size)⟩
       rcases HCASE.out with ⟨h1|⟨h1,h2,h3⟩,htb⟩|⟨h1,h2⟩|⟨h1,h2,h3⟩
       ·have d1:((pa.1:Int) == (pb.1:Int))=false:=by simp;omega
        have d1':(pa.1 == pb.1)=false:=by simpa using h1
        clear h1
        refine region_J (L:=[]) (R:=(fun w'=>Lists P w g3 c3 g4 c4 w'∧Below wr.heap.size wr w')) 22 #[false,false,false,false,false,false,false,false,false,false,false,false,false,false,false,false,false,false,false,false,false,false] (by kernel_rfl) (by kernel_rfl) (by kernel_rfl) (fun Q' hQ' hN=>?_)
        generalize wx.drew=wy at *
        refine tkI 66 (i:=0) (v:=?_) (fw:=3) hQ' hR rfl (fun _=>rfl) ?_ ?_;rotate_left;(focus (intro wq hRq;obtain ⟨⟨y3,y4⟩,⟨a1,a2⟩,⟨b1,b2⟩,⟨m1,m2,m3,m4⟩,⟨n1,n2,n3,n4⟩⟩:=HPA.out _ hRq.1;go_simp;(try with_reducible rfl)));(try simp only [Act.put,bw7,bw8,bw9])
        refine tkI 67 (i:=1) (v:=?_) (fw:=3) hQ' hR rfl (fun _=>rfl) ?_ ?_;rotate_left;(focus (intro wq hRq;obtain ⟨⟨y3,y4⟩,⟨a1,a2⟩,⟨b1,b2⟩,⟨m1,m2,m3,m4⟩,⟨n1,n2,n3,n4⟩⟩:=HPA.out _ hRq.1;go_simp;(try with_reducible rfl)));(try simp only [Act.put,bw7,bw8,bw9])
        refine tkI 68 (i:=2) (v:=?_) (fw:=3) hQ' hR rfl (fun _=>rfl) ?_ ?_;rotate_left;(focus (intro wq hRq;obtain ⟨⟨y3,y4⟩,⟨a1,a2⟩,⟨b1,b2⟩,⟨m1,m2,m3,m4⟩,⟨n1,n2,n3,n4⟩⟩:=HPA.out _ hRq.1;go_simp;(try with_reducible rfl)));(try simp only [Act.put,bw7,bw8,bw9])
        refine tkI 69 (i:=3) (v:=?_) (fw:=3) hQ' hR rfl (fun _=>rfl) ?_ ?_;rotate_left;(focus (intro wq hRq;obtain ⟨⟨y3,y4⟩,⟨a1,a2⟩,⟨b1,b2⟩,⟨m1,m2,m3,m4⟩,⟨n1,n2,n3,n4⟩⟩:=HPA.out _ hRq.1;go_simp;(try with_reducible rfl)));(try simp only [Act.put,bw7,bw8,bw9])
        refine tkI 70 (i:=4) (v:=?_) (fw:=3) hQ' hR rfl (fun _=>rfl) ?_ ?_;rotate_left;(focus (intro wq hRq;obtain ⟨⟨y3,y4⟩,⟨a1,a2⟩,⟨b1,b2⟩,⟨m1,m2,m3,m4⟩,⟨n1,n2,n3,n4⟩⟩:=HPA.out _ hRq.1;go_simp;(try with_reducible rfl)));(try simp only [Act.put,bw7,bw8,bw9])
        refine tkI 71 (i:=5) (v:=?_) (fw:=3) hQ' hR rfl (fun _=>rfl) ?_ ?_;rotate_left;(focus (intro wq hRq;obtain ⟨⟨y3,y4⟩,⟨a1,a2⟩,⟨b1,b2⟩,⟨m1,m2,m3,m4⟩,⟨n1,n2,n3,n4⟩⟩:=HPA.out _ hRq.1;go_simp;(try with_reducible rfl)));(try simp only [Act.put,bw7,bw8,bw9])
        refine tkI 72 (i:=6) (v:=?_) (fw:=3) hQ' hR rfl (fun _=>rfl) ?_ ?_;rotate_left;(focus (intro wq hRq;obtain ⟨⟨y3,y4⟩,⟨a1,a2⟩,⟨b1,b2⟩,⟨m1,m2,m3,m4⟩,⟨n1,n2,n3,n4⟩⟩:=HPA.out _ hRq.1;go_simp;(try with_reducible rfl)));(try simp only [Act.put,bw7,bw8,bw9])
        refine tkI 73 (i:=7) (v:=?_) (fw:=3) hQ' hR rfl (fun _=>rfl) ?_ ?_;rotate_left;(focus (intro wq hRq;obtain ⟨⟨y3,y4⟩,⟨a1,a2⟩,⟨b1,b2⟩,⟨m1,m2,m3,m4⟩,⟨n1,n2,n3,n4⟩⟩:=HPA.out _ hRq.1;go_simp;(try with_reducible rfl)));(try simp only [Act.put,bw7,bw8,bw9])
        refine tkI 74 (i:=8) (v:=?_) (fw:=3) hQ' hR rfl (fun _=>rfl) ?_ ?_;rotate_left;(focus (intro wq hRq;obtain ⟨⟨y3,y4⟩,⟨a1,a2⟩,⟨b1,b2⟩,⟨m1,m2,m3,m4⟩,⟨n1,n2,n3,n4⟩⟩:=HPA.out _ hRq.1;go_simp;(try with_reducible rfl)));(try simp only [Act.put,bw7,bw8,bw9])
        refine tkI 75 (i:=9) (v:=?_) (fw:=3) hQ' hR rfl (fun _=>rfl) ?_ ?_;rotate_left;(focus (intro wq hRq;obtain ⟨⟨y3,y4⟩,⟨a1,a2⟩,⟨b1,b2⟩,⟨m1,m2,m3,m4⟩,⟨n1,n2,n3,n4⟩⟩:=HPA.out _ hRq.1;go_simp;(try with_reducible rfl)));(try simp only [Act.put,bw7,bw8,bw9])
        refine tkI 76 (i:=10) (v:=?_) (fw:=3) hQ' hR rfl (fun _=>rfl) ?_ ?_;rotate_left;(focus (intro wq hRq;obtain ⟨⟨y3,y4⟩,⟨a1,a2⟩,⟨b1,b2⟩,⟨m1,m2,m3,m4⟩,⟨n1,n2,n3,n4⟩⟩:=HPA.out _ hRq.1;go_simp;(try with_reducible rfl)));(try simp only [Act.put,bw7,bw8,bw9])
        refine tkI 77 (i:=11) (v:=?_) (fw:=3) hQ' hR rfl (fun _=>rfl) ?_ ?_;rotate_left;(focus (intro wq hRq;obtain ⟨⟨y3,y4⟩,⟨a1,a2⟩,⟨b1,b2⟩,⟨m1,m2,m3,m4⟩,⟨n1,n2,n3,n4⟩⟩:=HPA.out _ hRq.1;go_simp;(try with_reducible rfl)));(try simp only [Act.put,bw7,bw8,bw9])
        refine skipI 78 (i:=12) (fw:=3) hQ' hR rfl (by kernel_rfl) (by kernel_rfl) (by kernel_rfl) (by kernel_rfl) (by kernel_rfl) (by kernel_rfl) (fun _=>rfl) ?_;(try simp only [Act.put,bw7,bw8,bw9])
        refine skipI 79 (i:=13) (fw:=3) hQ' hR rfl (by kernel_rfl) (by kernel_rfl) (by kernel_rfl) (by kernel_rfl) (by kernel_rfl) (by kernel_rfl) (fun _=>rfl) ?_;(try simp only [Act.put,bw7,bw8,bw9])
        refine skipI 80 (i:=14) (fw:=3) hQ' hR rfl (by kernel_rfl) (by kernel_rfl) (by kernel_rfl) (by kernel_rfl) (by kernel_rfl) (by kernel_rfl) (fun _=>rfl) ?_;(try simp only [Act.put,bw7,bw8,bw9])
        refine skipI 81 (i:=15) (fw:=3) hQ' hR rfl (by kernel_rfl) (by kernel_rfl) (by kernel_rfl) (by kernel_rfl) (by kernel_rfl) (by kernel_rfl) (fun _=>rfl) ?_;(try simp only [Act.put,bw7,bw8,bw9])
        refine skipI 82 (i:=16) (fw:=3) hQ' hR rfl (by kernel_rfl) (by kernel_rfl) (by kernel_rfl) (by kernel_rfl) (by kernel_rfl) (by kernel_rfl) (fun _=>rfl) ?_;(try simp only [Act.put,bw7,bw8,bw9])
        refine skipI 83 (i:=17) (fw:=3) hQ' hR rfl (by kernel_rfl) (by kernel_rfl) (by kernel_rfl) (by kernel_rfl) (by kernel_rfl) (by kernel_rfl) (fun _=>rfl) ?_;(try simp only [Act.put,bw7,bw8,bw9])
        refine skipI 84 (i:=18) (fw:=3) hQ' hR rfl (by kernel_rfl) (by kernel_rfl) (by kernel_rfl) (by kernel_rfl) (by kernel_rfl) (by kernel_rfl) (fun _=>rfl) ?_;(try simp only [Act.put,bw7,bw8,bw9])
        refine skipI 85 (i:=19) (fw:=3) hQ' hR rfl (by kernel_rfl) (by kernel_rfl) (by kernel_rfl) (by kernel_rfl) (by kernel_rfl) (by kernel_rfl) (fun _=>rfl) ?_;(try simp only [Act.put,bw7,bw8,bw9])
        refine tkI 86 (i:=20) (v:=?_) (fw:=3) hQ' hR rfl (fun _=>rfl) ?_ ?_;rotate_left;(focus (intro wq hRq;obtain ⟨⟨y3,y4⟩,⟨a1,a2⟩,⟨b1,b2⟩,⟨m1,m2,m3,m4⟩,⟨n1,n2,n3,n4⟩⟩:=HPA.out _ hRq.1;go_simp;(try with_reducible rfl)));(try simp only [Act.put,bw7,bw8,bw9])
        refine tkI 13 (i:=21) (v:=?_) (fw:=3) hQ' hR rfl (fun _=>rfl) ?_ ?_;rotate_left;(focus (intro wq hRq;obtain ⟨⟨y3,y4⟩,⟨a1,a2⟩,⟨b1,b2⟩,⟨m1,m2,m3,m4⟩,⟨n1,n2,n3,n4⟩⟩:=HPA.out _ hRq.1;go_simp;(try with_reducible rfl)));(try simp only [Act.put,bw7,bw8,bw9])
        refine wpAnyI_done (by kernel_rfl) ?_ _
        refine hN.out _ _ ?_
        gi_wp2
        have hR:Lists P w g3 c3 g4 c4 wy.drew∧Below wr.heap.size wr wy.drew:=⟨hR.1.below (bw0 _ _).drew,hR.2.trans ((bw0 _ _).drew.mono hR.2.size)⟩
        refine region_J (L:=[]) (R:=(fun w'=>Lists P w g3 c3 g4 c4 w'∧Below wr.heap.size wr w')) 13 #[false,false,false,false,false,false,false,false,false,false,false,false,false] (by kernel_rfl) (by kernel_rfl) (by kernel_rfl) (fun Q' hQ' hN=>?_)
        generalize wy.drew=wz at *
        refine tkI 87 (i:=0) (v:=?_) (fw:=3) hQ' hR rfl (fun _=>rfl) ?_ ?_;rotate_left;(focus (intro wq hRq;obtain ⟨⟨y3,y4⟩,⟨a1,a2⟩,⟨b1,b2⟩,⟨m1,m2,m3,m4⟩,⟨n1,n2,n3,n4⟩⟩:=HPA.out _ hRq.1;go_simp;(try with_reducible rfl)));(try simp only [Act.put,bw7,bw8,bw9])
        refine tkI 88 (i:=1) (v:=?_) (fw:=3) hQ' hR rfl (fun _=>rfl) ?_ ?_;rotate_left;(focus (intro wq hRq;obtain ⟨⟨y3,y4⟩,⟨a1,a2⟩,⟨b1,b2⟩,⟨m1,m2,m3,m4⟩,⟨n1,n2,n3,n4⟩⟩:=HPA.out _ hRq.1;go_simp;(try with_reducible rfl)));(try simp only [Act.put,bw7,bw8,bw9])
        refine tkI 89 (i:=2) (v:=?_) (fw:=3) hQ' hR rfl (fun _=>rfl) ?_ ?_;rotate_left;(focus (intro wq hRq;obtain ⟨⟨y3,y4⟩,⟨a1,a2⟩,⟨b1,b2⟩,⟨m1,m2,m3,m4⟩,⟨n1,n2,n3,n4⟩⟩:=HPA.out _ hRq.1;go_simp;(try with_reducible rfl)));(try simp only [Act.put,bw7,bw8,bw9])
        refine tkI 90 (i:=3) (v:=?_) (fw:=3) hQ' hR rfl (fun _=>rfl) ?_ ?_;rotate_left;(focus (intro wq hRq;obtain ⟨⟨y3,y4⟩,⟨a1,a2⟩,⟨b1,b2⟩,⟨m1,m2,m3,m4⟩,⟨n1,n2,n3,n4⟩⟩:=HPA.out _ hRq.1;go_simp;(try with_reducible rfl)));(try simp only [Act.put,bw7,bw8,bw9])
        refine tkI 91 (i:=4) (v:=?_) (fw:=3) hQ' hR rfl (fun _=>rfl) ?_ ?_;rotate_left;(focus (intro wq hRq;obtain ⟨⟨y3,y4⟩,⟨a1,a2⟩,⟨b1,b2⟩,⟨m1,m2,m3,m4⟩,⟨n1,n2,n3,n4⟩⟩:=HPA.out _ hRq.1;go_simp;(try with_reducible rfl)));(try simp only [Act.put,bw7,bw8,bw9])
        refine tkI 92 (i:=5) (v:=?_) (fw:=3) hQ' hR rfl (fun _=>rfl) ?_ ?_;rotate_left;(focus (intro wq hRq;obtain ⟨⟨y3,y4⟩,⟨a1,a2⟩,⟨b1,b2⟩,⟨m1,m2,m3,m4⟩,⟨n1,n2,n3,n4⟩⟩:=HPA.out _ hRq.1;go_simp;(try with_reducible rfl)));(try simp only [Act.put,bw7,bw8,bw9])
        refine tkI 93 (i:=6) (v:=?_) (fw:=3) hQ' hR rfl (fun _=>rfl) ?_ ?_;rotate_left;(focus (intro wq hRq;obtain ⟨⟨y3,y4⟩,⟨a1,a2⟩,⟨b1,b2⟩,⟨m1,m2,m3,m4⟩,⟨n1,n2,n3,n4⟩⟩:=HPA.out _ hRq.1;go_simp;(try with_reducible rfl)));(try simp only [Act.put,bw7,bw8,bw9])
        refine tkI 94 (i:=7) (v:=?_) (fw:=3) hQ' hR rfl (fun _=>rfl) ?_ ?_;rotate_left;(focus (intro wq hRq;obtain ⟨⟨y3,y4⟩,⟨a1,a2⟩,⟨b1,b2⟩,⟨m1,m2,m3,m4⟩,⟨n1,n2,n3,n4⟩⟩:=HPA.out _ hRq.1;go_simp;(try with_reducible rfl)));(try simp only [Act.put,bw7,bw8,bw9])
        refine tkI 95 (i:=8) (v:=?_) (fw:=3) hQ' hR rfl (fun _=>rfl) ?_ ?_;rotate_left;(focus (intro wq hRq;obtain ⟨⟨y3,y4⟩,⟨a1,a2⟩,⟨b1,b2⟩,⟨m1,m2,m3,m4⟩,⟨n1,n2,n3,n4⟩⟩:=HPA.out _ hRq.1;go_simp;(try with_reducible rfl)));(try simp only [Act.put,bw7,bw8,bw9])
        refine tkI 96 (i:=9) (v:=?_) (fw:=3) hQ' hR rfl (fun _=>rfl) ?_ ?_;rotate_left;(focus (intro wq hRq;obtain ⟨⟨y3,y4⟩,⟨a1,a2⟩,⟨b1,b2⟩,⟨m1,m2,m3,m4⟩,⟨n1,n2,n3,n4⟩⟩:=HPA.out _ hRq.1;go_simp;(try with_reducible rfl)));(try simp only [Act.put,bw7,bw8,bw9])
        refine tkI 97 (i:=10) (v:=?_) (fw:=3) hQ' hR rfl (fun _=>rfl) ?_ ?_;rotate_left;(focus (intro wq hRq;obtain ⟨⟨y3,y4⟩,⟨a1,a2⟩,⟨b1,b2⟩,⟨m1,m2,m3,m4⟩,⟨n1,n2,n3,n4⟩⟩:=HPA.out _ hRq.1;go_simp;(try with_reducible rfl)));(try simp only [Act.put,bw7,bw8,bw9])
        refine wpAnyI_ready (rs:=[11]) (by kernel_rfl) (by simp) ?_
        refine stepRI (i:=11) rfl (by kernel_rfl) (fun K hK=>?_) (AllReadyI.nil)
        go_simp
        refine ⟨trivial,?_⟩
        refine (callsIn_wide.2 (HMT.out _)).mono ?_
        rw [htb]
        rintro e wn ⟨rfl,hB'⟩
        have hR:Lists P w g3 c3 g4 c4 wn∧Below wr.heap.size wr wn:=⟨hR.1.below hB',below_trans' hR.2 hB'⟩
        refine hK.out _ _ hR ?_
        clear hK K
        (try simp only [Act.put,bw7,bw8,bw9])
        refine tkI 99 (i:=12) (v:=?_) (fw:=3) hQ' hR rfl (fun _=>rfl) ?_ ?_;rotate_left;(focus (intro wq hRq;obtain ⟨⟨y3,y4⟩,⟨a1,a2⟩,⟨b1,b2⟩,⟨m1,m2,m3,m4⟩,⟨n1,n2,n3,n4⟩⟩:=HPA.out _ hRq.1;go_simp;(try with_reducible rfl)));(try simp only [Act.put,bw7,bw8,bw9])
        refine wpAnyI_done (by kernel_rfl) ?_ _
        refine hN.out _ _ ?_
        gi_wp2
        refine Handed.intro (i - (k+1)) (by omega) ?_
        first|gi_step|go_step
        exact ⟨k+1,_,⟨by omega,rfl,by go_num,hR.2⟩,rfl⟩
       ·have d1:((pa.1:Int) == (pb.1:Int))=true:=by simp;omega
        have d1':(pa.1 == pb.1)=true:=by simpa using h1
        have d2:(((pa.2:Int) - (pb.2:Int)) == 1)=false:=by simpa using h2
        have d3:(((pa.2:Int) - (pb.2:Int)) == ((rg P pa.1).length:Int) - 1)=false:=by simpa using h3
        clear h1 h2 h3
        refine region_J (L:=[]) (R:=(fun w'=>Lists P w g3 c3 g4 c4 w'∧Below wr.heap.size wr w')) 22 #[false,false,false,false,false,false,false,false,false,false,false,false,false,false,false,false,false,false,false,false,false,false] (by kernel_rfl) (by kernel_rfl) (by kernel_rfl) (fun Q' hQ' hN=>?_)
        generalize wx.drew=wy at *
        refine tkI 66 (i:=0) (v:=?_) (fw:=3) hQ' hR rfl (fun _=>rfl) ?_ ?_;rotate_left;(focus (intro wq hRq;obtain ⟨⟨y3,y4⟩,⟨a1,a2⟩,⟨b1,b2⟩,⟨m1,m2,m3,m4⟩,⟨n1,n2,n3,n4⟩⟩:=HPA.out _ hRq.1;go_simp;(try with_reducible rfl)));(try simp only [Act.put,bw7,bw8,bw9])
        refine tkI 67 (i:=1) (v:=?_) (fw:=3) hQ' hR rfl (fun _=>rfl) ?_ ?_;rotate_left;(focus (intro wq hRq;obtain ⟨⟨y3,y4⟩,⟨a1,a2⟩,⟨b1,b2⟩,⟨m1,m2,m3,m4⟩,⟨n1,n2,n3,n4⟩⟩:=HPA.out _ hRq.1;go_simp;(try with_reducible rfl)));(try simp only [Act.put,bw7,bw8,bw9])
        refine tkI 68 (i:=2) (v:=?_) (fw:=3) hQ' hR rfl (fun _=>rfl) ?_ ?_;rotate_left;(focus (intro wq hRq;obtain ⟨⟨y3,y4⟩,⟨a1,a2⟩,⟨b1,b2⟩,⟨m1,m2,m3,m4⟩,⟨n1,n2,n3,n4⟩⟩:=HPA.out _ hRq.1;go_simp;(try with_reducible rfl)));(try simp only [Act.put,bw7,bw8,bw9])
        refine tkI 69 (i:=3) (v:=?_) (fw:=3) hQ' hR rfl (fun _=>rfl) ?_ ?_;rotate_left;(focus (intro wq hRq;obtain ⟨⟨y3,y4⟩,⟨a1,a2⟩,⟨b1,b2⟩,⟨m1,m2,m3,m4⟩,⟨n1,n2,n3,n4⟩⟩:=HPA.out _ hRq.1;go_simp;(try with_reducible rfl)));(try simp only [Act.put,bw7,bw8,bw9])
        refine tkI 70 (i:=4) (v:=?_) (fw:=3) hQ' hR rfl (fun _=>rfl) ?_ ?_;rotate_left;(focus (intro wq hRq;obtain ⟨⟨y3,y4⟩,⟨a1,a2⟩,⟨b1,b2⟩,⟨m1,m2,m3,m4⟩,⟨n1,n2,n3,n4⟩⟩:=HPA.out _ hRq.1;go_simp;(try with_reducible rfl)));(try simp only [Act.put,bw7,bw8,bw9])
        refine tkI 71 (i:=5) (v:=?_) (fw:=3) hQ' hR rfl (fun _=>rfl) ?_ ?_;rotate_left;(focus (intro wq hRq;obtain ⟨⟨y3,y4⟩,⟨a1,a2⟩,⟨b1,b2⟩,⟨m1,m2,m3,m4⟩,⟨n1,n2,n3,n4⟩⟩:=HPA.out _ hRq.1;go_simp;(try with_reducible rfl)));(try simp only [Act.put,bw7,bw8,bw9])
        refine tkI 72 (i:=6) (v:=?_) (fw:=3) hQ' hR rfl (fun _=>rfl) ?_ ?_;rotate_left;(focus (intro wq hRq;obtain ⟨⟨y3,y4⟩,⟨a1,a2⟩,⟨b1,b2⟩,⟨m1,m2,m3,m4⟩,⟨n1,n2,n3,n4⟩⟩:=HPA.out _ hRq.1;go_simp;(try with_reducible rfl)));(try simp only [Act.put,bw7,bw8,bw9])
        refine tkI 73 (i:=7) (v:=?_) (fw:=3) hQ' hR rfl (fun _=>rfl) ?_ ?_;rotate_left;(focus (intro wq hRq;obtain ⟨⟨y3,y4⟩,⟨a1,a2⟩,⟨b1,b2⟩,⟨m1,m2,m3,m4⟩,⟨n1,n2,n3,n4⟩⟩:=HPA.out _ hRq.1;go_simp;(try with_reducible rfl)));(try simp only [Act.put,bw7,bw8,bw9])
        refine tkI 74 (i:=8) (v:=?_) (fw:=3) hQ' hR rfl (fun _=>rfl) ?_ ?_;rotate_left;(focus (intro wq hRq;obtain ⟨⟨y3,y4⟩,⟨a1,a2⟩,⟨b1,b2⟩,⟨m1,m2,m3,m4⟩,⟨n1,n2,n3,n4⟩⟩:=HPA.out _ hRq.1;go_simp;(try with_reducible rfl)));(try simp only [Act.put,bw7,bw8,bw9])
        refine tkI 75 (i:=9) (v:=?_) (fw:=3) hQ' hR rfl (fun _=>rfl) ?_ ?_;rotate_left;(focus (intro wq hRq;obtain ⟨⟨y3,y4⟩,⟨a1,a2⟩,⟨b1,b2⟩,⟨m1,m2,m3,m4⟩,⟨n1,n2,n3,n4⟩⟩:=HPA.out _ hRq.1;go_simp;(try with_reducible rfl)));(try simp only [Act.put,bw7,bw8,bw9])
        refine tkI 76 (i:=10) (v:=?_) (fw:=3) hQ' hR rfl (fun _=>rfl) ?_ ?_;rotate_left;(focus (intro wq hRq;obtain ⟨⟨y3,y4⟩,⟨a1,a2⟩,⟨b1,b2⟩,⟨m1,m2,m3,m4⟩,⟨n1,n2,n3,n4⟩⟩:=HPA.out _ hRq.1;go_simp;(try with_reducible rfl)));(try simp only [Act.put,bw7,bw8,bw9])
        refine tkI 77 (i:=11) (v:=?_) (fw:=3) hQ' hR rfl (fun _=>rfl) ?_ ?_;rotate_left;(focus (intro wq hRq;obtain ⟨⟨y3,y4⟩,⟨a1,a2⟩,⟨b1,b2⟩,⟨m1,m2,m3,m4⟩,⟨n1,n2,n3,n4⟩⟩:=HPA.out _ hRq.1;go_simp;(try with_reducible rfl)));(try simp only [Act.put,bw7,bw8,bw9])
        refine tkI 78 (i:=12) (v:=?_) (fw:=3) hQ' hR rfl (fun _=>rfl) ?_ ?_;rotate_left;(focus (intro wq hRq;obtain ⟨⟨y3,y4⟩,⟨a1,a2⟩,⟨b1,b2⟩,⟨m1,m2,m3,m4⟩,⟨n1,n2,n3,n4⟩⟩:=HPA.out _ hRq.1;go_simp;(try with_reducible rfl)));(try simp only [Act.put,bw7,bw8,bw9])
        refine tkI 79 (i:=13) (v:=?_) (fw:=3) hQ' hR rfl (fun _=>rfl) ?_ ?_;rotate_left;(focus (intro wq hRq;obtain ⟨⟨y3,y4⟩,⟨a1,a2⟩,⟨b1,b2⟩,⟨m1,m2,m3,m4⟩,⟨n1,n2,n3,n4⟩⟩:=HPA.out _ hRq.1;go_simp;(try with_reducible rfl)));(try simp only [Act.put,bw7,bw8,bw9])
        refine tkI 80 (i:=14) (v:=?_) (fw:=3) hQ' hR rfl (fun _=>rfl) ?_ ?_;rotate_left;(focus (intro wq hRq;obtain ⟨⟨y3,y4⟩,⟨a1,a2⟩,⟨b1,b2⟩,⟨m1,m2,m3,m4⟩,⟨n1,n2,n3,n4⟩⟩:=HPA.out _ hRq.1;go_simp;(try with_reducible rfl)));(try simp only [Act.put,bw7,bw8,bw9])
        refine tkI 81 (i:=15) (v:=?_) (fw:=3) hQ' hR rfl (fun _=>rfl) ?_ ?_;rotate_left;(focus (intro wq hRq;obtain ⟨⟨y3,y4⟩,⟨a1,a2⟩,⟨b1,b2⟩,⟨m1,m2,m3,m4⟩,⟨n1,n2,n3,n4⟩⟩:=HPA.out _ hRq.1;go_simp;(try with_reducible rfl)));(try simp only [Act.put,bw7,bw8,bw9])
        refine tkI 82 (i:=16) (v:=?_) (fw:=3) hQ' hR rfl (fun _=>rfl) ?_ ?_;rotate_left;(focus (intro wq hRq;obtain ⟨⟨y3,y4⟩,⟨a1,a2⟩,⟨b1,b2⟩,⟨m1,m2,m3,m4⟩,⟨n1,n2,n3,n4⟩⟩:=HPA.out _ hRq.1;go_simp;(try with_reducible rfl)));(try simp only [Act.put,bw7,bw8,bw9])
        refine tkI 83 (i:=17) (v:=?_) (fw:=3) hQ' hR rfl (fun _=>rfl) ?_ ?_;rotate_left;(focus (intro wq hRq;obtain ⟨⟨y3,y4⟩,⟨a1,a2⟩,⟨b1,b2⟩,⟨m1,m2,m3,m4⟩,⟨n1,n2,n3,n4⟩⟩:=HPA.out _ hRq.1;go_simp;(try with_reducible rfl)));(try simp only [Act.put,bw7,bw8,bw9])
        refine tkI 84 (i:=18) (v:=?_) (fw:=3) hQ' hR rfl (fun _=>rfl) ?_ ?_;rotate_left;(focus (intro wq hRq;obtain ⟨⟨y3,y4⟩,⟨a1,a2⟩,⟨b1,b2⟩,⟨m1,m2,m3,m4⟩,⟨n1,n2,n3,n4⟩⟩:=HPA.out _ hRq.1;go_simp;(try with_reducible rfl)));(try simp only [Act.put,bw7,bw8,bw9])
        refine tkI 85 (i:=19) (v:=?_) (fw:=3) hQ' hR rfl (fun _=>rfl) ?_ ?_;rotate_left;(focus (intro wq hRq;obtain ⟨⟨y3,y4⟩,⟨a1,a2⟩,⟨b1,b2⟩,⟨m1,m2,m3,m4⟩,⟨n1,n2,n3,n4⟩⟩:=HPA.out _ hRq.1;go_simp;(try with_reducible rfl)));(try simp only [Act.put,bw7,bw8,bw9])
        refine tkI 86 (i:=20) (v:=?_) (fw:=3) hQ' hR rfl (fun _=>rfl) ?_ ?_;rotate_left;(focus (intro wq hRq;obtain ⟨⟨y3,y4⟩,⟨a1,a2⟩,⟨b1,b2⟩,⟨m1,m2,m3,m4⟩,⟨n1,n2,n3,n4⟩⟩:=HPA.out _ hRq.1;go_simp;(try with_reducible rfl)));(try simp only [Act.put,bw7,bw8,bw9])
        refine tkI 13 (i:=21) (v:=?_) (fw:=3) hQ' hR rfl (fun _=>rfl) ?_ ?_;rotate_left;(focus (intro wq hRq;obtain ⟨⟨y3,y4⟩,⟨a1,a2⟩,⟨b1,b2⟩,⟨m1,m2,m3,m4⟩,⟨n1,n2,n3,n4⟩⟩:=HPA.out _ hRq.1;go_simp;(try with_reducible rfl)));(try simp only [Act.put,bw7,bw8,bw9])
        refine wpAnyI_done (by kernel_rfl) ?_ _
        refine hN.out _ _ ?_
        gi_wp2
        have hR:Lists P w g3 c3 g4 c4 wy.drew∧Below wr.heap.size wr wy.drew:=⟨hR.1.below (bw0 _ _).drew,hR.2.trans ((bw0 _ _).drew.mono hR.2.size)⟩
        refine region_J (L:=[]) (R:=(fun w'=>Lists P w g3 c3 g4 c4 w'∧Below wr.heap.size wr w')) 13 #[false,false,false,false,false,false,false,false,false,false,false,false,false] (by kernel_rfl) (by kernel_rfl) (by kernel_rfl) (fun Q' hQ' hN=>?_)
        generalize wy.drew=wz at *
        refine tkI 87 (i:=0) (v:=?_) (fw:=3) hQ' hR rfl (fun _=>rfl) ?_ ?_;rotate_left;(focus (intro wq hRq;obtain ⟨⟨y3,y4⟩,⟨a1,a2⟩,⟨b1,b2⟩,⟨m1,m2,m3,m4⟩,⟨n1,n2,n3,n4⟩⟩:=HPA.out _ hRq.1;go_simp;(try with_reducible rfl)));(try simp only [Act.put,bw7,bw8,bw9])
        refine tkI 88 (i:=1) (v:=?_) (fw:=3) hQ' hR rfl (fun _=>rfl) ?_ ?_;rotate_left;(focus (intro wq hRq;obtain ⟨⟨y3,y4⟩,⟨a1,a2⟩,⟨b1,b2⟩,⟨m1,m2,m3,m4⟩,⟨n1,n2,n3,n4⟩⟩:=HPA.out _ hRq.1;go_simp;(try with_reducible rfl)));(try simp only [Act.put,bw7,bw8,bw9])
        refine tkI 89 (i:=2) (v:=?_) (fw:=3) hQ' hR rfl (fun _=>rfl) ?_ ?_;rotate_left;(focus (intro wq hRq;obtain ⟨⟨y3,y4⟩,⟨a1,a2⟩,⟨b1,b2⟩,⟨m1,m2,m3,m4⟩,⟨n1,n2,n3,n4⟩⟩:=HPA.out _ hRq.1;go_simp;(try with_reducible rfl)));(try simp only [Act.put,bw7,bw8,bw9])
        refine tkI 90 (i:=3) (v:=?_) (fw:=3) hQ' hR rfl (fun _=>rfl) ?_ ?_;rotate_left;(focus (intro wq hRq;obtain ⟨⟨y3,y4⟩,⟨a1,a2⟩,⟨b1,b2⟩,⟨m1,m2,m3,m4⟩,⟨n1,n2,n3,n4⟩⟩:=HPA.out _ hRq.1;go_simp;(try with_reducible rfl)));(try simp only [Act.put,bw7,bw8,bw9])
        refine tkI 91 (i:=4) (v:=?_) (fw:=3) hQ' hR rfl (fun _=>rfl) ?_ ?_;rotate_left;(focus (intro wq hRq;obtain ⟨⟨y3,y4⟩,⟨a1,a2⟩,⟨b1,b2⟩,⟨m1,m2,m3,m4⟩,⟨n1,n2,n3,n4⟩⟩:=HPA.out _ hRq.1;go_simp;(try with_reducible rfl)));(try simp only [Act.put,bw7,bw8,bw9])
        refine tkI 92 (i:=5) (v:=?_) (fw:=3) hQ' hR rfl (fun _=>rfl) ?_ ?_;rotate_left;(focus (intro wq hRq;obtain ⟨⟨y3,y4⟩,⟨a1,a2⟩,⟨b1,b2⟩,⟨m1,m2,m3,m4⟩,⟨n1,n2,n3,n4⟩⟩:=HPA.out _ hRq.1;go_simp;(try with_reducible rfl)));(try simp only [Act.put,bw7,bw8,bw9])
        refine tkI 93 (i:=6) (v:=?_) (fw:=3) hQ' hR rfl (fun _=>rfl) ?_ ?_;rotate_left;(focus (intro wq hRq;obtain ⟨⟨y3,y4⟩,⟨a1,a2⟩,⟨b1,b2⟩,⟨m1,m2,m3,m4⟩,⟨n1,n2,n3,n4⟩⟩:=HPA.out _ hRq.1;go_simp;(try with_reducible rfl)));(try simp only [Act.put,bw7,bw8,bw9])
        refine tkI 94 (i:=7) (v:=?_) (fw:=3) hQ' hR rfl (fun _=>rfl) ?_ ?_;rotate_left;(focus (intro wq hRq;obtain ⟨⟨y3,y4⟩,⟨a1,a2⟩,⟨b1,b2⟩,⟨m1,m2,m3,m4⟩,⟨n1,n2,n3,n4⟩⟩:=HPA.out _ hRq.1;go_simp;(try with_reducible rfl)));(try simp only [Act.put,bw7,bw8,bw9])
        refine tkI 95 (i:=8) (v:=?_) (fw:=3) hQ' hR rfl (fun _=>rfl) ?_ ?_;rotate_left;(focus (intro wq hRq;obtain ⟨⟨y3,y4⟩,⟨a1,a2⟩,⟨b1,b2⟩,⟨m1,m2,m3,m4⟩,⟨n1,n2,n3,n4⟩⟩:=HPA.out _ hRq.1;go_simp;(try with_reducible rfl)));(try simp only [Act.put,bw7,bw8,bw9])
        refine tkI 96 (i:=9) (v:=?_) (fw:=3) hQ' hR rfl (fun _=>rfl) ?_ ?_;rotate_left;(focus (intro wq hRq;obtain ⟨⟨y3,y4⟩,⟨a1,a2⟩,⟨b1,b2⟩,⟨m1,m2,m3,m4⟩,⟨n1,n2,n3,n4⟩⟩:=HPA.out _ hRq.1;go_simp;(try with_reducible rfl)));(try simp only [Act.put,bw7,bw8,bw9])
        refine tkI 97 (i:=10) (v:=?_) (fw:=3) hQ' hR rfl (fun _=>rfl) ?_ ?_;rotate_left;(focus (intro wq hRq;obtain ⟨⟨y3,y4⟩,⟨a1,a2⟩,⟨b1,b2⟩,⟨m1,m2,m3,m4⟩,⟨n1,n2,n3,n4⟩⟩:=HPA.out _ hRq.1;go_simp;(try with_reducible rfl)));(try simp only [Act.put,bw7,bw8,bw9])
        refine wpAnyI_ready (rs:=[11]) (by kernel_rfl) (by simp) ?_
        refine stepRI (i:=11) rfl (by kernel_rfl) (fun K hK=>?_) (AllReadyI.nil)
        go_simp
        refine ⟨trivial,?_⟩
        refine (callsIn_wide.2 (HMT.out _)).mono ?_
        rw [htb]
        rintro e wn ⟨rfl,hB'⟩
        have hR:Lists P w g3 c3 g4 c4 wn∧Below wr.heap.size wr wn:=⟨hR.1.below hB',below_trans' hR.2 hB'⟩
        refine hK.out _ _ hR ?_
        clear hK K
        (try simp only [Act.put,bw7,bw8,bw9])
        refine tkI 99 (i:=12) (v:=?_) (fw:=3) hQ' hR rfl (fun _=>rfl) ?_ ?_;rotate_left;(focus (intro wq hRq;obtain ⟨⟨y3,y4⟩,⟨a1,a2⟩,⟨b1,b2⟩,⟨m1,m2,m3,m4⟩,⟨n1,n2,n3,n4⟩⟩:=HPA.out _ hRq.1;go_simp;(try with_reducible rfl)));(try simp only [Act.put,bw7,bw8,bw9])
        refine wpAnyI_done (by kernel_rfl) ?_ _
        refine hN.out _ _ ?_
        gi_wp2
        refine Handed.intro (i - (k+1)) (by omega) ?_
        first|gi_step|go_step
        exact ⟨k+1,_,⟨by omega,rfl,by go_num,hR.2⟩,rfl⟩
       ·have d1:((pa.1:Int) == (pb.1:Int))=true:=by simp;omega
        have d1':(pa.1 == pb.1)=true:=by simpa using h1
        have d2:(((pa.2:Int) - (pb.2:Int)) == 1)=true:=by simpa using h2
        clear h1 h2
        refine region_J (L:=[]) (R:=(fun w'=>Lists P w g3 c3 g4 c4 w'∧Below wr.heap.size wr w')) 22 #[false,false,false,false,false,false,false,false,false,false,false,false,false,false,false,false,false,false,false,false,false,false] (by kernel_rfl) (by kernel_rfl) (by kernel_rfl) (fun Q' hQ' hN=>?_)
        generalize wx.drew=wy at *
        refine tkI 66 (i:=0) (v:=?_) (fw:=3) hQ' hR rfl (fun _=>rfl) ?_ ?_;rotate_left;(focus (intro wq hRq;obtain ⟨⟨y3,y4⟩,⟨a1,a2⟩,⟨b1,b2⟩,⟨m1,m2,m3,m4⟩,⟨n1,n2,n3,n4⟩⟩:=HPA.out _ hRq.1;go_simp;(try with_reducible rfl)));(try simp only [Act.put,bw7,bw8,bw9])
        refine tkI 67 (i:=1) (v:=?_) (fw:=3) hQ' hR rfl (fun _=>rfl) ?_ ?_;rotate_left;(focus (intro wq hRq;obtain ⟨⟨y3,y4⟩,⟨a1,a2⟩,⟨b1,b2⟩,⟨m1,m2,m3,m4⟩,⟨n1,n2,n3,n4⟩⟩:=HPA.out _ hRq.1;go_simp;(try with_reducible rfl)));(try simp only [Act.put,bw7,bw8,bw9])
        refine tkI 68 (i:=2) (v:=?_) (fw:=3) hQ' hR rfl (fun _=>rfl) ?_ ?_;rotate_left;(focus (intro wq hRq;obtain ⟨⟨y3,y4⟩,⟨a1,a2⟩,⟨b1,b2⟩,⟨m1,m2,m3,m4⟩,⟨n1,n2,n3,n4⟩⟩:=HPA.out _ hRq.1;go_simp;(try with_reducible rfl)));(try simp only [Act.put,bw7,bw8,bw9])
        refine tkI 69 (i:=3) (v:=?_) (fw:=3) hQ' hR rfl (fun _=>rfl) ?_ ?_;rotate_left;(focus (intro wq hRq;obtain ⟨⟨y3,y4⟩,⟨a1,a2⟩,⟨b1,b2⟩,⟨m1,m2,m3,m4⟩,⟨n1,n2,n3,n4⟩⟩:=HPA.out _ hRq.1;go_simp;(try with_reducible rfl)));(try simp only [Act.put,bw7,bw8,bw9])
        refine tkI 70 (i:=4) (v:=?_) (fw:=3) hQ' hR rfl (fun _=>rfl) ?_ ?_;rotate_left;(focus (intro wq hRq;obtain ⟨⟨y3,y4⟩,⟨a1,a2⟩,⟨b1,b2⟩,⟨m1,m2,m3,m4⟩,⟨n1,n2,n3,n4⟩⟩:=HPA.out _ hRq.1;go_simp;(try with_reducible rfl)));(try simp only [Act.put,bw7,bw8,bw9])
        refine tkI 71 (i:=5) (v:=?_) (fw:=3) hQ' hR rfl (fun _=>rfl) ?_ ?_;rotate_left;(focus (intro wq hRq;obtain ⟨⟨y3,y4⟩,⟨a1,a2⟩,⟨b1,b2⟩,⟨m1,m2,m3,m4⟩,⟨n1,n2,n3,n4⟩⟩:=HPA.out _ hRq.1;go_simp;(try with_reducible rfl)));(try simp only [Act.put,bw7,bw8,bw9])
        refine tkI 72 (i:=6) (v:=?_) (fw:=3) hQ' hR rfl (fun _=>rfl) ?_ ?_;rotate_left;(focus (intro wq hRq;obtain ⟨⟨y3,y4⟩,⟨a1,a2⟩,⟨b1,b2⟩,⟨m1,m2,m3,m4⟩,⟨n1,n2,n3,n4⟩⟩:=HPA.out _ hRq.1;go_simp;(try with_reducible rfl)));(try simp only [Act.put,bw7,bw8,bw9])
        refine tkI 73 (i:=7) (v:=?_) (fw:=3) hQ' hR rfl (fun _=>rfl) ?_ ?_;rotate_left;(focus (intro wq hRq;obtain ⟨⟨y3,y4⟩,⟨a1,a2⟩,⟨b1,b2⟩,⟨m1,m2,m3,m4⟩,⟨n1,n2,n3,n4⟩⟩:=HPA.out _ hRq.1;go_simp;(try with_reducible rfl)));(try simp only [Act.put,bw7,bw8,bw9])
        refine tkI 74 (i:=8) (v:=?_) (fw:=3) hQ' hR rfl (fun _=>rfl) ?_ ?_;rotate_left;(focus (intro wq hRq;obtain ⟨⟨y3,y4⟩,⟨a1,a2⟩,⟨b1,b2⟩,⟨m1,m2,m3,m4⟩,⟨n1,n2,n3,n4⟩⟩:=HPA.out _ hRq.1;go_simp;(try with_reducible rfl)));(try simp only [Act.put,bw7,bw8,bw9])
        refine tkI 75 (i:=9) (v:=?_) (fw:=3) hQ' hR rfl (fun _=>rfl) ?_ ?_;rotate_left;(focus (intro wq hRq;obtain ⟨⟨y3,y4⟩,⟨a1,a2⟩,⟨b1,b2⟩,⟨m1,m2,m3,m4⟩,⟨n1,n2,n3,n4⟩⟩:=HPA.out _ hRq.1;go_simp;(try with_reducible rfl)));(try simp only [Act.put,bw7,bw8,bw9])
        refine tkI 76 (i:=10) (v:=?_) (fw:=3) hQ' hR rfl (fun _=>rfl) ?_ ?_;rotate_left;(focus (intro wq hRq;obtain ⟨⟨y3,y4⟩,⟨a1,a2⟩,⟨b1,b2⟩,⟨m1,m2,m3,m4⟩,⟨n1,n2,n3,n4⟩⟩:=HPA.out _ hRq.1;go_simp;(try with_reducible rfl)));(try simp only [Act.put,bw7,bw8,bw9])
        refine tkI 77 (i:=11) (v:=?_) (fw:=3) hQ' hR rfl (fun _=>rfl) ?_ ?_;rotate_left;(focus (intro wq hRq;obtain ⟨⟨y3,y4⟩,⟨a1,a2⟩,⟨b1,b2⟩,⟨m1,m2,m3,m4⟩,⟨n1,n2,n3,n4⟩⟩:=HPA.out _ hRq.1;go_simp;(try with_reducible rfl)));(try simp only [Act.put,bw7,bw8,bw9])
        refine tkI 78 (i:=12) (v:=?_) (fw:=3) hQ' hR rfl (fun _=>rfl) ?_ ?_;rotate_left;(focus (intro wq hRq;obtain ⟨⟨y3,y4⟩,⟨a1,a2⟩,⟨b1,b2⟩,⟨m1,m2,m3,m4⟩,⟨n1,n2,n3,n4⟩⟩:=HPA.out _ hRq.1;go_simp;(try with_reducible rfl)));(try simp only [Act.put,bw7,bw8,bw9])
        refine tkI 79 (i:=13) (v:=?_) (fw:=3) hQ' hR rfl (fun _=>rfl) ?_ ?_;rotate_left;(focus (intro wq hRq;obtain ⟨⟨y3,y4⟩,⟨a1,a2⟩,⟨b1,b2⟩,⟨m1,m2,m3,m4⟩,⟨n1,n2,n3,n4⟩⟩:=HPA.out _ hRq.1;go_simp;(try with_reducible rfl)));(try simp only [Act.put,bw7,bw8,bw9])
        refine tkI 80 (i:=14) (v:=?_) (fw:=3) hQ' hR rfl (fun _=>rfl) ?_ ?_;rotate_left;(focus (intro wq hRq;obtain ⟨⟨y3,y4⟩,⟨a1,a2⟩,⟨b1,b2⟩,⟨m1,m2,m3,m4⟩,⟨n1,n2,n3,n4⟩⟩:=HPA.out _ hRq.1;go_simp;(try with_reducible rfl)));(try simp only [Act.put,bw7,bw8,bw9])
        refine skipI 81 (i:=15) (fw:=3) hQ' hR rfl (by kernel_rfl) (by kernel_rfl) (by kernel_rfl) (by kernel_rfl) (by kernel_rfl) (by kernel_rfl) (fun _=>rfl) ?_;(try simp only [Act.put,bw7,bw8,bw9])
        refine skipI 82 (i:=16) (fw:=3) hQ' hR rfl (by kernel_rfl) (by kernel_rfl) (by kernel_rfl) (by kernel_rfl) (by kernel_rfl) (by kernel_rfl) (fun _=>rfl) ?_;(try simp only [Act.put,bw7,bw8,bw9])
        refine skipI 83 (i:=17) (fw:=3) hQ' hR rfl (by kernel_rfl) (by kernel_rfl) (by kernel_rfl) (by kernel_rfl) (by kernel_rfl) (by kernel_rfl) (fun _=>rfl) ?_;(try simp only [Act.put,bw7,bw8,bw9])
        refine skipI 84 (i:=18) (fw:=3) hQ' hR rfl (by kernel_rfl) (by kernel_rfl) (by kernel_rfl) (by kernel_rfl) (by kernel_rfl) (by kernel_rfl) (fun _=>rfl) ?_;(try simp only [Act.put,bw7,bw8,bw9])
        refine tkI 85 (i:=19) (v:=?_) (fw:=3) hQ' hR rfl (fun _=>rfl) ?_ ?_;rotate_left;(focus (intro wq hRq;obtain ⟨⟨y3,y4⟩,⟨a1,a2⟩,⟨b1,b2⟩,⟨m1,m2,m3,m4⟩,⟨n1,n2,n3,n4⟩⟩:=HPA.out _ hRq.1;go_simp;(try with_reducible rfl)));(try simp only [Act.put,bw7,bw8,bw9])
        refine tkI 86 (i:=20) (v:=?_) (fw:=3) hQ' hR rfl (fun _=>rfl) ?_ ?_;rotate_left;(focus (intro wq hRq;obtain ⟨⟨y3,y4⟩,⟨a1,a2⟩,⟨b1,b2⟩,⟨m1,m2,m3,m4⟩,⟨n1,n2,n3,n4⟩⟩:=HPA.out _ hRq.1;go_simp;(try with_reducible rfl)));(try simp only [Act.put,bw7,bw8,bw9])
        refine tkI 13 (i:=21) (v:=?_) (fw:=3) hQ' hR rfl (fun _=>rfl) ?_ ?_;rotate_left;(focus (intro wq hRq;obtain ⟨⟨y3,y4⟩,⟨a1,a2⟩,⟨b1,b2⟩,⟨m1,m2,m3,m4⟩,⟨n1,n2,n3,n4⟩⟩:=HPA.out _ hRq.1;go_simp;(try with_reducible rfl)));(try simp only [Act.put,bw7,bw8,bw9])
        refine wpAnyI_done (by kernel_rfl) ?_ _
        refine hN.out _ _ ?_
        gi_wp2
        have hR:Lists P w g3 c3 g4 c4 wy.drew∧Below wr.heap.size wr wy.drew:=⟨hR.1.below (bw0 _ _).drew,hR.2.trans ((bw0 _ _).drew.mono hR.2.size)⟩
        refine region_J (L:=[]) (R:=(fun w'=>Lists P w g3 c3 g4 c4 w'∧Below wr.heap.size wr w')) 13 #[false,false,false,false,false,false,false,false,false,false,false,false,false] (by kernel_rfl) (by kernel_rfl) (by kernel_rfl) (fun Q' hQ' hN=>?_)
        generalize wy.drew=wz at *
        refine tkI 87 (i:=0) (v:=?_) (fw:=3) hQ' hR rfl (fun _=>rfl) ?_ ?_;rotate_left;(focus (intro wq hRq;obtain ⟨⟨y3,y4⟩,⟨a1,a2⟩,⟨b1,b2⟩,⟨m1,m2,m3,m4⟩,⟨n1,n2,n3,n4⟩⟩:=HPA.out _ hRq.1;go_simp;(try with_reducible rfl)));(try simp only [Act.put,bw7,bw8,bw9])
        refine tkI 88 (i:=1) (v:=?_) (fw:=3) hQ' hR rfl (fun _=>rfl) ?_ ?_;rotate_left;(focus (intro wq hRq;obtain ⟨⟨y3,y4⟩,⟨a1,a2⟩,⟨b1,b2⟩,⟨m1,m2,m3,m4⟩,⟨n1,n2,n3,n4⟩⟩:=HPA.out _ hRq.1;go_simp;(try with_reducible rfl)));(try simp only [Act.put,bw7,bw8,bw9])
        refine tkI 89 (i:=2) (v:=?_) (fw:=3) hQ' hR rfl (fun _=>rfl) ?_ ?_;rotate_left;(focus (intro wq hRq;obtain ⟨⟨y3,y4⟩,⟨a1,a2⟩,⟨b1,b2⟩,⟨m1,m2,m3,m4⟩,⟨n1,n2,n3,n4⟩⟩:=HPA.out _ hRq.1;go_simp;(try with_reducible rfl)));(try simp only [Act.put,bw7,bw8,bw9])
        refine skipI 90 (i:=3) (fw:=3) hQ' hR rfl (by kernel_rfl) (by kernel_rfl) (by kernel_rfl) (by kernel_rfl) (by kernel_rfl) (by kernel_rfl) (fun _=>rfl) ?_;(try simp only [Act.put,bw7,bw8,bw9])
        refine skipI 91 (i:=4) (fw:=3) hQ' hR rfl (by kernel_rfl) (by kernel_rfl) (by kernel_rfl) (by kernel_rfl) (by kernel_rfl) (by kernel_rfl) (fun _=>rfl) ?_;(try simp only [Act.put,bw7,bw8,bw9])
        refine skipI 92 (i:=5) (fw:=3) hQ' hR rfl (by kernel_rfl) (by kernel_rfl) (by kernel_rfl) (by kernel_rfl) (by kernel_rfl) (by kernel_rfl) (fun _=>rfl) ?_;(try simp only [Act.put,bw7,bw8,bw9])
        refine skipI 93 (i:=6) (fw:=3) hQ' hR rfl (by kernel_rfl) (by kernel_rfl) (by kernel_rfl) (by kernel_rfl) (by kernel_rfl) (by kernel_rfl) (fun _=>rfl) ?_;(try simp only [Act.put,bw7,bw8,bw9])
        refine skipI 94 (i:=7) (fw:=3) hQ' hR rfl (by kernel_rfl) (by kernel_rfl) (by kernel_rfl) (by kernel_rfl) (by kernel_rfl) (by kernel_rfl) (fun _=>rfl) ?_;(try simp only [Act.put,bw7,bw8,bw9])
        refine skipI 95 (i:=8) (fw:=3) hQ' hR rfl (by kernel_rfl) (by kernel_rfl) (by kernel_rfl) (by kernel_rfl) (by kernel_rfl) (by kernel_rfl) (fun _=>rfl) ?_;(try simp only [Act.put,bw7,bw8,bw9])
        refine skipI 96 (i:=9) (fw:=3) hQ' hR rfl (by kernel_rfl) (by kernel_rfl) (by kernel_rfl) (by kernel_rfl) (by kernel_rfl) (by kernel_rfl) (fun _=>rfl) ?_;(try simp only [Act.put,bw7,bw8,bw9])
        refine skipI 97 (i:=10) (fw:=3) hQ' hR rfl (by kernel_rfl) (by kernel_rfl) (by kernel_rfl) (by kernel_rfl) (by kernel_rfl) (by kernel_rfl) (fun _=>rfl) ?_;(try simp only [Act.put,bw7,bw8,bw9])
        refine wpAnyI_ready (rs:=[11]) (by kernel_rfl) (by simp) ?_
        refine stepNI (i:=11) rfl (by kernel_rfl) (fun _=>trivial) hR ?_ AllReadyI.nil
        (try simp only [Act.put,bw7,bw8,bw9])
        refine tkI 99 (i:=12) (v:=?_) (fw:=3) hQ' hR rfl (fun _=>rfl) ?_ ?_;rotate_left;(focus (intro wq hRq;obtain ⟨⟨y3,y4⟩,⟨a1,a2⟩,⟨b1,b2⟩,⟨m1,m2,m3,m4⟩,⟨n1,n2,n3,n4⟩⟩:=HPA.out _ hRq.1;go_simp;(try with_reducible rfl)));(try simp only [Act.put,bw7,bw8,bw9])
        refine wpAnyI_done (by kernel_rfl) ?_ _
        refine hN.out _ _ ?_
        gi_wp2
        refine Handed.intro (i - (k+1)) (by omega) ?_
        first|gi_step|go_step
        exact ⟨k+1,_,⟨by omega,rfl,by go_num,hR.2⟩,rfl⟩
       ·have d1:((pa.1:Int) == (pb.1:Int))=true:=by simp;omega
        have d1':(pa.1 == pb.1)=true:=by simpa using h1
        have d2:(((pa.2:Int) - (pb.2:Int)) == 1)=false:=by simpa using h2
        have d3:(((pa.2:Int) - (pb.2:Int)) == ((rg P pa.1).length:Int) - 1)=true:=by simpa using h3
        clear h1 h2 h3
        refine region_J (L:=[]) (R:=(fun w'=>Lists P w g3 c3 g4 c4 w'∧Below wr.heap.size wr w')) 22 #[false,false,false,false,false,false,false,false,false,false,false,false,false,false,false,false,false,false,false,false,false,false] (by kernel_rfl) (by kernel_rfl) (by kernel_rfl) (fun Q' hQ' hN=>?_)
        generalize wx.drew=wy at *
        refine tkI 66 (i:=0) (v:=?_) (fw:=3) hQ' hR rfl (fun _=>rfl) ?_ ?_;rotate_left;(focus (intro wq hRq;obtain ⟨⟨y3,y4⟩,⟨a1,a2⟩,⟨b1,b2⟩,⟨m1,m2,m3,m4⟩,⟨n1,n2,n3,n4⟩⟩:=HPA.out _ hRq.1;go_simp;(try with_reducible rfl)));(try simp only [Act.put,bw7,bw8,bw9])
        refine tkI 67 (i:=1) (v:=?_) (fw:=3) hQ' hR rfl (fun _=>rfl) ?_ ?_;rotate_left;(focus (intro wq hRq;obtain ⟨⟨y3,y4⟩,⟨a1,a2⟩,⟨b1,b2⟩,⟨m1,m2,m3,m4⟩,⟨n1,n2,n3,n4⟩⟩:=HPA.out _ hRq.1;go_simp;(try with_reducible rfl)));(try simp only [Act.put,bw7,bw8,bw9])
        refine tkI 68 (i:=2) (v:=?_) (fw:=3) hQ' hR rfl (fun _=>rfl) ?_ ?_;rotate_left;(focus (intro wq hRq;obtain ⟨⟨y3,y4⟩,⟨a1,a2⟩,⟨b1,b2⟩,⟨m1,m2,m3,m4⟩,⟨n1,n2,n3,n4⟩⟩:=HPA.out _ hRq.1;go_simp;(try with_reducible rfl)));(try simp only [Act.put,bw7,bw8,bw9])
        refine tkI 69 (i:=3) (v:=?_) (fw:=3) hQ' hR rfl (fun _=>rfl) ?_ ?_;rotate_left;(focus (intro wq hRq;obtain ⟨⟨y3,y4⟩,⟨a1,a2⟩,⟨b1,b2⟩,⟨m1,m2,m3,m4⟩,⟨n1,n2,n3,n4⟩⟩:=HPA.out _ hRq.1;go_simp;(try with_reducible rfl)));(try simp only [Act.put,bw7,bw8,bw9])
        refine tkI 70 (i:=4) (v:=?_) (fw:=3) hQ' hR rfl (fun _=>rfl) ?_ ?_;rotate_left;(focus (intro wq hRq;obtain ⟨⟨y3,y4⟩,⟨a1,a2⟩,⟨b1,b2⟩,⟨m1,m2,m3,m4⟩,⟨n1,n2,n3,n4⟩⟩:=HPA.out _ hRq.1;go_simp;(try with_reducible rfl)));(try simp only [Act.put,bw7,bw8,bw9])
        refine tkI 71 (i:=5) (v:=?_) (fw:=3) hQ' hR rfl (fun _=>rfl) ?_ ?_;rotate_left;(focus (intro wq hRq;obtain ⟨⟨y3,y4⟩,⟨a1,a2⟩,⟨b1,b2⟩,⟨m1,m2,m3,m4⟩,⟨n1,n2,n3,n4⟩⟩:=HPA.out _ hRq.1;go_simp;(try with_reducible rfl)));(try simp only [Act.put,bw7,bw8,bw9])
        refine tkI 72 (i:=6) (v:=?_) (fw:=3) hQ' hR rfl (fun _=>rfl) ?_ ?_;rotate_left;(focus (intro wq hRq;obtain ⟨⟨y3,y4⟩,⟨a1,a2⟩,⟨b1,b2⟩,⟨m1,m2,m3,m4⟩,⟨n1,n2,n3,n4⟩⟩:=HPA.out _ hRq.1;go_simp;(try with_reducible rfl)));(try simp only [Act.put,bw7,bw8,bw9])
        refine tkI 73 (i:=7) (v:=?_) (fw:=3) hQ' hR rfl (fun _=>rfl) ?_ ?_;rotate_left;(focus (intro wq hRq;obtain ⟨⟨y3,y4⟩,⟨a1,a2⟩,⟨b1,b2⟩,⟨m1,m2,m3,m4⟩,⟨n1,n2,n3,n4⟩⟩:=HPA.out _ hRq.1;go_simp;(try with_reducible rfl)));(try simp only [Act.put,bw7,bw8,bw9])
        refine tkI 74 (i:=8) (v:=?_) (fw:=3) hQ' hR rfl (fun _=>rfl) ?_ ?_;rotate_left;(focus (intro wq hRq;obtain ⟨⟨y3,y4⟩,⟨a1,a2⟩,⟨b1,b2⟩,⟨m1,m2,m3,m4⟩,⟨n1,n2,n3,n4⟩⟩:=HPA.out _ hRq.1;go_simp;(try with_reducible rfl)));(try simp only [Act.put,bw7,bw8,bw9])
        refine tkI 75 (i:=9) (v:=?_) (fw:=3) hQ' hR rfl (fun _=>rfl) ?_ ?_;rotate_left;(focus (intro wq hRq;obtain ⟨⟨y3,y4⟩,⟨a1,a2⟩,⟨b1,b2⟩,⟨m1,m2,m3,m4⟩,⟨n1,n2,n3,n4⟩⟩:=HPA.out _ hRq.1;go_simp;(try with_reducible rfl)));(try simp only [Act.put,bw7,bw8,bw9])
        refine tkI 76 (i:=10) (v:=?_) (fw:=3) hQ' hR rfl (fun _=>rfl) ?_ ?_;rotate_left;(focus (intro wq hRq;obtain ⟨⟨y3,y4⟩,⟨a1,a2⟩,⟨b1,b2⟩,⟨m1,m2,m3,m4⟩,⟨n1,n2,n3,n4⟩⟩:=HPA.out _ hRq.1;go_simp;(try with_reducible rfl)));(try simp only [Act.put,bw7,bw8,bw9])
        refine tkI 77 (i:=11) (v:=?_) (fw:=3) hQ' hR rfl (fun _=>rfl) ?_ ?_;rotate_left;(focus (intro wq hRq;obtain ⟨⟨y3,y4⟩,⟨a1,a2⟩,⟨b1,b2⟩,⟨m1,m2,m3,m4⟩,⟨n1,n2,n3,n4⟩⟩:=HPA.out _ hRq.1;go_simp;(try with_reducible rfl)));(try simp only [Act.put,bw7,bw8,bw9])
        refine tkI 78 (i:=12) (v:=?_) (fw:=3) hQ' hR rfl (fun _=>rfl) ?_ ?_;rotate_left;(focus (intro wq hRq;obtain ⟨⟨y3,y4⟩,⟨a1,a2⟩,⟨b1,b2⟩,⟨m1,m2,m3,m4⟩,⟨n1,n2,n3,n4⟩⟩:=HPA.out _ hRq.1;go_simp;(try with_reducible rfl)));(try simp only [Act.put,bw7,bw8,bw9])
        refine tkI 79 (i:=13) (v:=?_) (fw:=3) hQ' hR rfl (fun _=>rfl) ?_ ?_;rotate_left;(focus (intro wq hRq;obtain ⟨⟨y3,y4⟩,⟨a1,a2⟩,⟨b1,b2⟩,⟨m1,m2,m3,m4⟩,⟨n1,n2,n3,n4⟩⟩:=HPA.out _ hRq.1;go_simp;(try with_reducible rfl)));(try simp only [Act.put,bw7,bw8,bw9])
        refine tkI 80 (i:=14) (v:=?_) (fw:=3) hQ' hR rfl (fun _=>rfl) ?_ ?_;rotate_left;(focus (intro wq hRq;obtain ⟨⟨y3,y4⟩,⟨a1,a2⟩,⟨b1,b2⟩,⟨m1,m2,m3,m4⟩,⟨n1,n2,n3,n4⟩⟩:=HPA.out _ hRq.1;go_simp;(try with_reducible rfl)));(try simp only [Act.put,bw7,bw8,bw9])
        refine tkI 81 (i:=15) (v:=?_) (fw:=3) hQ' hR rfl (fun _=>rfl) ?_ ?_;rotate_left;(focus (intro wq hRq;obtain ⟨⟨y3,y4⟩,⟨a1,a2⟩,⟨b1,b2⟩,⟨m1,m2,m3,m4⟩,⟨n1,n2,n3,n4⟩⟩:=HPA.out _ hRq.1;go_simp;(try with_reducible rfl)));(try simp only [Act.put,bw7,bw8,bw9])
        refine tkI 82 (i:=16) (v:=?_) (fw:=3) hQ' hR rfl (fun _=>rfl) ?_ ?_;rotate_left;(focus (intro wq hRq;obtain ⟨⟨y3,y4⟩,⟨a1,a2⟩,⟨b1,b2⟩,⟨m1,m2,m3,m4⟩,⟨n1,n2,n3,n4⟩⟩:=HPA.out _ hRq.1;go_simp;(try with_reducible rfl)));(try simp only [Act.put,bw7,bw8,bw9])
        refine tkI 83 (i:=17) (v:=?_) (fw:=3) hQ' hR rfl (fun _=>rfl) ?_ ?_;rotate_left;(focus (intro wq hRq;obtain ⟨⟨y3,y4⟩,⟨a1,a2⟩,⟨b1,b2⟩,⟨m1,m2,m3,m4⟩,⟨n1,n2,n3,n4⟩⟩:=HPA.out _ hRq.1;go_simp;(try with_reducible rfl)));(try simp only [Act.put,bw7,bw8,bw9])
        refine tkI 84 (i:=18) (v:=?_) (fw:=3) hQ' hR rfl (fun _=>rfl) ?_ ?_;rotate_left;(focus (intro wq hRq;obtain ⟨⟨y3,y4⟩,⟨a1,a2⟩,⟨b1,b2⟩,⟨m1,m2,m3,m4⟩,⟨n1,n2,n3,n4⟩⟩:=HPA.out _ hRq.1;go_simp;(try with_reducible rfl)));(try simp only [Act.put,bw7,bw8,bw9])
        refine tkI 85 (i:=19) (v:=?_) (fw:=3) hQ' hR rfl (fun _=>rfl) ?_ ?_;rotate_left;(focus (intro wq hRq;obtain ⟨⟨y3,y4⟩,⟨a1,a2⟩,⟨b1,b2⟩,⟨m1,m2,m3,m4⟩,⟨n1,n2,n3,n4⟩⟩:=HPA.out _ hRq.1;go_simp;(try with_reducible rfl)));(try simp only [Act.put,bw7,bw8,bw9])
        refine tkI 86 (i:=20) (v:=?_) (fw:=3) hQ' hR rfl (fun _=>rfl) ?_ ?_;rotate_left;(focus (intro wq hRq;obtain ⟨⟨y3,y4⟩,⟨a1,a2⟩,⟨b1,b2⟩,⟨m1,m2,m3,m4⟩,⟨n1,n2,n3,n4⟩⟩:=HPA.out _ hRq.1;go_simp;(try with_reducible rfl)));(try simp only [Act.put,bw7,bw8,bw9])
        refine tkI 13 (i:=21) (v:=?_) (fw:=3) hQ' hR rfl (fun _=>rfl) ?_ ?_;rotate_left;(focus (intro wq hRq;obtain ⟨⟨y3,y4⟩,⟨a1,a2⟩,⟨b1,b2⟩,⟨m1,m2,m3,m4⟩,⟨n1,n2,n3,n4⟩⟩:=HPA.out _ hRq.1;go_simp;(try with_reducible rfl)));(try simp only [Act.put,bw7,bw8,bw9])
        refine wpAnyI_done (by kernel_rfl) ?_ _
        refine hN.out _ _ ?_
        gi_wp2
        have hR:Lists P w g3 c3 g4 c4 wy.drew∧Below wr.heap.size wr wy.drew:=⟨hR.1.below (bw0 _ _).drew,hR.2.trans ((bw0 _ _).drew.mono hR.2.size)⟩
        refine region_J (L:=[]) (R:=(fun w'=>Lists P w g3 c3 g4 c4 w'∧Below wr.heap.size wr w')) 13 #[false,false,false,false,false,false,false,false,false,false,false,false,false] (by kernel_rfl) (by kernel_rfl) (by kernel_rfl) (fun Q' hQ' hN=>?_)
        generalize wy.drew=wz at *
        refine tkI 87 (i:=0) (v:=?_) (fw:=3) hQ' hR rfl (fun _=>rfl) ?_ ?_;rotate_left;(focus (intro wq hRq;obtain ⟨⟨y3,y4⟩,⟨a1,a2⟩,⟨b1,b2⟩,⟨m1,m2,m3,m4⟩,⟨n1,n2,n3,n4⟩⟩:=HPA.out _ hRq.1;go_simp;(try with_reducible rfl)));(try simp only [Act.put,bw7,bw8,bw9])
        refine tkI 88 (i:=1) (v:=?_) (fw:=3) hQ' hR rfl (fun _=>rfl) ?_ ?_;rotate_left;(focus (intro wq hRq;obtain ⟨⟨y3,y4⟩,⟨a1,a2⟩,⟨b1,b2⟩,⟨m1,m2,m3,m4⟩,⟨n1,n2,n3,n4⟩⟩:=HPA.out _ hRq.1;go_simp;(try with_reducible rfl)));(try simp only [Act.put,bw7,bw8,bw9])
        refine tkI 89 (i:=2) (v:=?_) (fw:=3) hQ' hR rfl (fun _=>rfl) ?_ ?_;rotate_left;(focus (intro wq hRq;obtain ⟨⟨y3,y4⟩,⟨a1,a2⟩,⟨b1,b2⟩,⟨m1,m2,m3,m4⟩,⟨n1,n2,n3,n4⟩⟩:=HPA.out _ hRq.1;go_simp;(try with_reducible rfl)));(try simp only [Act.put,bw7,bw8,bw9])
        refine skipI 90 (i:=3) (fw:=3) hQ' hR rfl (by kernel_rfl) (by kernel_rfl) (by kernel_rfl) (by kernel_rfl) (by kernel_rfl) (by kernel_rfl) (fun _=>rfl) ?_;(try simp only [Act.put,bw7,bw8,bw9])
        refine skipI 91 (i:=4) (fw:=3) hQ' hR rfl (by kernel_rfl) (by kernel_rfl) (by kernel_rfl) (by kernel_rfl) (by kernel_rfl) (by kernel_rfl) (fun _=>rfl) ?_;(try simp only [Act.put,bw7,bw8,bw9])
        refine skipI 92 (i:=5) (fw:=3) hQ' hR rfl (by kernel_rfl) (by kernel_rfl) (by kernel_rfl) (by kernel_rfl) (by kernel_rfl) (by kernel_rfl) (fun _=>rfl) ?_;(try simp only [Act.put,bw7,bw8,bw9])
        refine skipI 93 (i:=6) (fw:=3) hQ' hR rfl (by kernel_rfl) (by kernel_rfl) (by kernel_rfl) (by kernel_rfl) (by kernel_rfl) (by kernel_rfl) (fun _=>rfl) ?_;(try simp only [Act.put,bw7,bw8,bw9])
        refine skipI 94 (i:=7) (fw:=3) hQ' hR rfl (by kernel_rfl) (by kernel_rfl) (by kernel_rfl) (by kernel_rfl) (by kernel_rfl) (by kernel_rfl) (fun _=>rfl) ?_;(try simp only [Act.put,bw7,bw8,bw9])
        refine skipI 95 (i:=8) (fw:=3) hQ' hR rfl (by kernel_rfl) (by kernel_rfl) (by kernel_rfl) (by kernel_rfl) (by kernel_rfl) (by kernel_rfl) (fun _=>rfl) ?_;(try simp only [Act.put,bw7,bw8,bw9])
        refine skipI 96 (i:=9) (fw:=3) hQ' hR rfl (by kernel_rfl) (by kernel_rfl) (by kernel_rfl) (by kernel_rfl) (by kernel_rfl) (by kernel_rfl) (fun _=>rfl) ?_;(try simp only [Act.put,bw7,bw8,bw9])
        refine skipI 97 (i:=10) (fw:=3) hQ' hR rfl (by kernel_rfl) (by kernel_rfl) (by kernel_rfl) (by kernel_rfl) (by kernel_rfl) (by kernel_rfl) (fun _=>rfl) ?_;(try simp only [Act.put,bw7,bw8,bw9])
        refine wpAnyI_ready (rs:=[11]) (by kernel_rfl) (by simp) ?_
        refine stepNI (i:=11) rfl (by kernel_rfl) (fun _=>trivial) hR ?_ AllReadyI.nil
        (try simp only [Act.put,bw7,bw8,bw9])
        refine tkI 99 (i:=12) (v:=?_) (fw:=3) hQ' hR rfl (fun _=>rfl) ?_ ?_;rotate_left;(focus (intro wq hRq;obtain ⟨⟨y3,y4⟩,⟨a1,a2⟩,⟨b1,b2⟩,⟨m1,m2,m3,m4⟩,⟨n1,n2,n3,n4⟩⟩:=HPA.out _ hRq.1;go_simp;(try with_reducible rfl)));(try simp only [Act.put,bw7,bw8,bw9])
        refine wpAnyI_done (by kernel_rfl) ?_ _
        refine hN.out _ _ ?_
        gi_wp2
        refine Handed.intro (i - (k+1)) (by omega) ?_
        first|gi_step|go_step
        exact ⟨k+1,_,⟨by omega,rfl,by go_num,hR.2⟩,rfl⟩
  ·have hr1:r < P.length:=by omega
   have hri:(r:Int) < (P.length:Int):=by omega
   obtain ⟨ur,cr,hur⟩:=HC.out r hr1
   have cr':=keep hI.below cr
   have hne:=HV.out.nes r hr1
   have hl0:0 < (rg P r).length:=List.length_pos_iff.2 hne
   obtain ⟨br,offr,capr,rfl,hcr⟩:=hur.nonempty hne
   have hbw:br < w.heap.size:=lt_of_cell (hcr 0 hl0).1
   have HCR:=Lib.hid hcr
   have hlen:=HL.out r hr1
   clear hcr hur cr
   gi_wp2
   refine ⟨trivial,?_⟩
   refine (callsIn_wide.2 (psides_any _ _ _ _)).mono ?_
   rintro e w1 ⟨rfl,rfl⟩
   gi_wp2
   have hx5:Boxed ((wr.alloc (.cells #[.int .i64 r] 3)).alloc (.cells #[.slice (some ⟨br,offr,none⟩) (rg P r).length capr] 66)) wr.heap.size 3 (.int .i64 r):=(Boxed.new wr _ _).alloc _
   have hx1:Boxed ((wr.alloc (.cells #[.int .i64 r] 3)).alloc (.cells #[.slice (some ⟨br,offr,none⟩) (rg P r).length capr] 66)) (wr.heap.size+1) 66 (.slice (some ⟨br,offr,none⟩) (rg P r).length capr):=by have h:=Boxed.new (wr.alloc (.cells #[.int .i64 r] 3)) 66 (.slice (some ⟨br,offr,none⟩) (rg P r).length capr);rw [World.size_alloc] at h;exact h
   have hbr:Below wr.heap.size wr ((wr.alloc (.cells #[.int .i64 r] 3)).alloc (.cells #[.slice (some ⟨br,offr,none⟩) (rg P r).length capr] 66)):=qbl
   have hsz:((wr.alloc (.cells #[.int .i64 r] 3)).alloc (.cells #[.slice (some ⟨br,offr,none⟩) (rg P r).length capr] 66)).heap.size=wr.heap.size+2:=by simp
   have hmk:∀ D ∈ Ds,w.heap.size+2≤D∧((wr.alloc (.cells #[.int .i64 r] 3)).alloc (.cells #[.slice (some ⟨br,offr,none⟩) (rg P r).length capr] 66)).heap[D]?=some (.deferred (some [])):=fun D hD=>⟨(hmarks D hD).1,(hbr.block D (Array.getElem?_eq_some_iff.1 (hmarks D hD).2).1).trans (hmarks D hD).2⟩
   have hmlt:∀ D ∈ Ds,D < wr.heap.size:=fun D hD=>(Array.getElem?_eq_some_iff.1 (hmarks D hD).2).1
   have hI0:=hI.below' hbr
   have hzI:=hI.size
   generalize ((wr.alloc (.cells #[.int .i64 r] 3)).alloc (.cells #[.slice (some ⟨br,offr,none⟩) (rg P r).length capr] 66))=W0 at *
   have HPL:Hid (∀ pre:List (Fin (rg P r).length),∀ x,pls P r++(pre++[x]).map (plc r)=(pls P r++pre.map (plc r))++[(r,x.1)]):=Lib.hid (by simp [plc])
   have HPN:Hid (pls P (r+1)=pls P r++(List.finRange (rg P r).length).map (plc r)):=Lib.hid (plc_all P r)
   have HTL:Hid ((pls P r).length+(rg P r).length≤24):=Lib.hid (by rw [pls_length];have:=total_lt hr1;omega)
   have HPB:Hid (∀ i,pbox P (r,i)=boxVals (sd (rg P r) i) (nx (rg P r) i)):=Lib.hid (fun i=>rfl)
   refine wpIn_rangeFunc_ownH rfl (by omega) (gf:=254) (lb:=#[.pointer (some ⟨wr.heap.size+1,0,none⟩)]) rfl trivial (enters_of Tryz.func254 (by kernel_rfl) rfl)
    (sides_stops (rg P r) _ (by omega) (wr.heap.size+1) w.heap.size br offr capr hlen hl0 W0 hbw hI0.below.size hx1.cell (fun k hk=>(HCR.out k hk).below hI0.below)) KpR.t (KpR.b hI0.below.size (by omega)) (bw0 _ _) (fun _=>rfl)
    (fun pre W=>(((∃ v3 v4,LInv P w (pls P r++pre.map (plc r)) v3 v4 W)∧Boxed W wr.heap.size 3 (.int .i64 r))∧Boxed W (wr.heap.size+1) 66 (.slice (some ⟨br,offr,none⟩) (rg P r).length capr))∧(W0.heap.size≤W.heap.size∧(∀ D ∈ Ds,w.heap.size+2≤D∧W.heap[D]?=some (.deferred (some [])))))
    (fun _ _ _=>False)
    (OwnFrom.and (OwnFrom.and (OwnFrom.and (lInv_own (by omega) (fun pre=>pls P r++pre.map (plc r))) (Own.from (boxed_own _ _ _) _)) (Own.from (boxed_own _ _ _) _)) (OwnFrom.and (fun s A B row hs hg hr=>Nat.le_trans hs hg.size) (marks_own (fun D hD=>by have:=hmlt D hD;omega))))
    (fun _ _ _ _ _ hs _ _=>hs)
    ⟨⟨⟨⟨v3,v4,by simpa using hI0⟩,hx5⟩,hx1⟩,Nat.le_refl _,hmk⟩
    (fun x a' W=>∃ Bx,wr.heap.size+1 < Bx∧BoxA W Bx (pv (rg P r) x.1) (sd (rg P r) x.1) (nx (rg P r) x.1)∧a'={ tmps:=#[.slice (some ⟨b,off,none⟩) P.length cap,undef,.bool false,.pointer (some ⟨w.heap.size,0,none⟩),.pointer (some ⟨w.heap.size+1,0,none⟩),.pointer (some ⟨wr.heap.size,0,none⟩),.slice (some ⟨br,offr,none⟩) (rg P r).length capr,.int .i64 x.1,.pointer (some ⟨Bx,0,none⟩),u 9,u 10,u 11,u 12,u 13,.slice (some ⟨b,off,none⟩) P.length cap,.int .i64 P.length,.int .i64 r,.bool true,.int .i64 r,.pointer (some ⟨b,off+r,none⟩),.slice (some ⟨br,offr,none⟩) (rg P r).length capr,.slice (some ⟨br,offr,none⟩) (rg P r).length capr,.func (.func 254) #[] #[.pointer (some ⟨wr.heap.size+1,0,none⟩)],.int .i64 x.1,aroundV (pv (rg P r) x.1) (sd (rg P r) x.1) (nx (rg P r) x.1),u 25,u 26,u 27,u 28,u 29,u 30,u 31,u 32,u 33,u 34,u 35,u 36,u 37,u 38,u 39,u 40,u 41,u 42,u 43,u 44,u 45,u 46,u 47,u 48,u 49,u 50,u 51,u 52,u 53,u 54,u 55,u 56,u 57,u 58,u 59,u 60,u 61,u 62,u 63,u 64,u 65,u 66,u 67,u 68,u 69,u 70,u 71,u 72,u 73,u 74,u 75,u 76,u 77,u 78,u 79,u 80,u 81,u 82,u 83,u 84,u 85,u 86,u 87,u 88,u 89,u 90,u 91,u 92,u 93,u 94,u 95,u 96,u 97,u 98,u 99,u 100,u 101],defers:=[] })
    (fun x a' _ X Y row hs hg hr=>by obtain ⟨Bx,h1,h2,h3⟩:=hs;exact ⟨Bx,h1,boxA_own () X Y row h2 hg hr,h3⟩)
    ?assign ?body ?done ?stop
   case assign =>
    rintro l1 pre x W K' ⟨⟨⟨⟨x3,x4,hL⟩,b5⟩,bR⟩,hz,hM⟩ hK'
    unfold encS
    gi_wp2_with (refine wpListIn_store21 rfl _ _ rfl _ _ rfl (pv (rg P r) x.1) (sd (rg P r) x.1) (nx (rg P r) x.1) rfl rfl ?_)
    exact hK' _ _ ((KeepsOthers.alloc _ _).from _) ⟨(bw0 _ W).alloc hL.below.size _,Below.heap_alloc _ _ _ bR.lt⟩ ⟨⟨⟨⟨x3,x4,hL.below' (bw4 (bw0 _ _) _)⟩,b5.alloc _⟩,bR.alloc _⟩,by simp;omega,fun D hD=>⟨(hM D hD).1,(Below.heap_alloc W _ D (Array.getElem?_eq_some_iff.1 (hM D hD).2).1).trans (hM D hD).2⟩⟩ ⟨W.heap.size,bR.lt,boxA_new,rfl⟩
   case body =>
    rintro l1 pre x a' W hl1 ⟨rr,hrr⟩ ⟨⟨⟨⟨x3,x4,hL⟩,b5⟩,bR⟩,hz,hM⟩ ⟨Bx,hBx,bX,rfl⟩ hlt
    have HBX:=Lib.hid (boxOf_any (pv (rg P r) x.1) (sd (rg P r) x.1) (nx (rg P r) x.1))
    have hlx:=(hL.r3.1)
    have HXS:=Lib.hid (HPL.out pre x)
    have HBV:=Lib.hid (HPB.out x.1)
    have hxl:(pls P r++pre.map (plc r)).length < 24:=by have:=HTL.out;simp;omega
    have row3:=hL.r3
    have row4:=hL.r4
    have hR:RR w.heap.size x3 x4 wr.heap.size r Bx (pv (rg P r) x.1) (sd (rg P r) x.1) (nx (rg P r) x.1) W.drew:=⟨hL.b3,hL.b4,b5,bX⟩
    have KK:Kept2 x3 x4 W W.drew:=Kept2.of_below (bw0 _ _).drew
    have hzW:W.heap.size≤W.drew.heap.size:=Nat.le_refl _
    have row3d:W.drew.ownsRow w.heap.size 223 4 x3 (pls P r++pre.map (plc r)).length (boxCells P (pls P r++pre.map (plc r))):=row3
    have row4d:W.drew.ownsRow w.heap.size 226 2 x4 (pls P r++pre.map (plc r)).length (placeCells (pls P r++pre.map (plc r))):=row4
    have hzn:=hL.below.size
    gi_wp2
    unfold boxV at HBX
    clear row3 row4 hlx
    have row3:=row3d
    have row4:=row4d
    clear row3d row4d
    generalize pv (rg P r) x.1=A at *
    generalize nx (rg P r) x.1=C at *
    generalize sd (rg P r) x.1=S at *
    generalize pls P r++pre.map (plc r)=xs at *
    refine region_I (L:=[11,12]) (R:=(RR w.heap.size x3 x4 wr.heap.size r Bx A S C)) 13 #[false,false,false,false,false,false,false,false,false,false,false,false,false] (by kernel_rfl) (by kernel_rfl) (by kernel_rfl) (fun _ _ _ _ _ h=>h) (fun Q' hQ' hN hLO=>?_)
    generalize W.drew=wd at *
    refine tkI 25 (i:=0) (v:=?_) (fw:=4) hQ' hR rfl (fun _=>rfl) ?_ ?_;rotate_left;(focus (intro wq hRq;obtain ⟨c3,c4,c5,_⟩:=hRq;have c3:=c3.cell;have c4:=c4.cell;have c5:=c5.cell;go_simp;(try with_reducible rfl)));(try simp only [Act.put,bw7,bw8,bw9])
    refine tkI 26 (i:=1) (v:=aroundV A S C) (fw:=4) hQ' hR rfl (fun _=>rfl) (fun wq hRq=>run_load21 rfl rfl hRq.bx.at) ?_;(try simp only [Act.put,bw7,bw8,bw9])
    refine tkI 30 (i:=5) (v:=?_) (fw:=4) hQ' hR rfl (fun _=>rfl) ?_ ?_;rotate_left;(focus (intro wq hRq;obtain ⟨c3,c4,c5,_⟩:=hRq;have c3:=c3.cell;have c4:=c4.cell;have c5:=c5.cell;go_simp;(try with_reducible rfl)));(try simp only [Act.put,bw7,bw8,bw9])
    refine tkI 31 (i:=6) (v:=?_) (fw:=4) hQ' hR rfl (fun _=>rfl) ?_ ?_;rotate_left;(focus (intro wq hRq;obtain ⟨c3,c4,c5,_⟩:=hRq;have c3:=c3.cell;have c4:=c4.cell;have c5:=c5.cell;go_simp;(try with_reducible rfl)));(try simp only [Act.put,bw7,bw8,bw9])
    refine tkI 32 (i:=7) (v:=?_) (fw:=4) hQ' hR rfl (fun _=>rfl) ?_ ?_;rotate_left;(focus (intro wq hRq;obtain ⟨c3,c4,c5,_⟩:=hRq;have c3:=c3.cell;have c4:=c4.cell;have c5:=c5.cell;go_simp;(try with_reducible rfl)));(try simp only [Act.put,bw7,bw8,bw9])
    refine tkI 33 (i:=8) (v:=?_) (fw:=4) hQ' hR rfl (fun _=>rfl) ?_ ?_;rotate_left;(focus (intro wq hRq;obtain ⟨c3,c4,c5,_⟩:=hRq;have c3:=c3.cell;have c4:=c4.cell;have c5:=c5.cell;go_simp;(try with_reducible rfl)));(try simp only [Act.put,bw7,bw8,bw9])
    refine wpAnyI_ready (rs:=[2,9]) (by kernel_rfl) (by simp) ?_
    refine stepRI (i:=2) rfl (by kernel_rfl) (fun K hK=>?_) (stepRI (i:=9) rfl (by kernel_rfl) (fun K hK=>?_) (AllReadyI.nil))
    ·go_simp
     refine ⟨trivial,?_⟩
     refine (CallsIn.inRound l1 (callsIn_wide.2 (HBX.out _))).mono ?_
     rintro e wn ⟨rfl,hB'⟩
     have hz':=hB'.size
     have row4:=row_below row4 hB'
     have row3:=row_below row3 hB'
     have KK:=KK.below' hB'
     have hR:=hR.below hB'
     refine hK.out _ _ hR ?_
     clear hK K
     (try simp only [Act.put,bw7,bw8,bw9])
     refine wpAnyI_ready (rs:=[3,9]) (by kernel_rfl) (by simp) ?_
     refine stepRI (i:=3) rfl (by kernel_rfl) (fun K hK=>?_) (stepRI (i:=9) rfl (by kernel_rfl) (fun K hK=>?_) (AllReadyI.nil))
     ·go_simp
      refine after_alloc (fun wn hB' hs3 hy3=>?_)
      have hz':=hB'.size
      have row4:=row_below row4 hB'
      have row3:=row_below row3 hB'
      have KK:=KK.below' hB'
      have hR:=hR.below hB'
      refine hK.out _ _ hR ?_
      clear hK K
      (try simp only [Act.put,bw7,bw8,bw9])
      refine wpAnyI_ready (rs:=[4,9]) (by kernel_rfl) (by simp) ?_
      refine stepRI (i:=4) rfl (by kernel_rfl) (fun K hK=>?_) (stepRI (i:=9) rfl (by kernel_rfl) (fun K hK=>?_) (AllReadyI.nil))
      ·refine wpO_append _ _ _ 220 rfl w.heap.size 223 i3 (.agg #[.int .i64 0,.int .i64 0,.int .i64 0,.int .i64 0]) 4 32 Tryz.underlying220 hi3 hz30 hz31 hz32 rfl (by decide) x3 xs.length (boxCells P xs) rfl row3 ⟨_,0,none⟩ 1 1 (boxVals S C) rfl rfl (block_cells (cs:=boxVals S C) hs3) (by simp [boxVals,Value.oneCell']) (by unfold maxLen;omega) (by omega) (by have:=hR.b4.lt;omega) ?_
       intro y3 wn hown hgrow
       have row4:=row_keep row4 row3 (by decide) hgrow
       have hR:=hR.grow3 row3 hgrow
       have KK:=KK.grow3 hgrow
       have hz':=hgrow.size
       have row3:=hown
       clear hown hgrow
       obtain ⟨sa3,sc3,rfl,_⟩:=row_shape row3
       refine hK.out _ _ hR ?_
       clear hK K
       (try simp only [Act.put,bw7,bw8,bw9])
       refine wpAnyI_ready (rs:=[9]) (by kernel_rfl) (by simp) ?_
       refine stepRI (i:=9) rfl (by kernel_rfl) (fun K hK=>?_) (AllReadyI.nil)
       go_simp
       refine after_alloc (fun wn hB' hs4 hy4=>?_)
       have hz':=hB'.size
       have row4:=row_below row4 hB'
       have row3:=row_below row3 hB'
       have KK:=KK.below' hB'
       have hR:=hR.below hB'
       refine hK.out _ _ hR ?_
       clear hK K
       (try simp only [Act.put,bw7,bw8,bw9])
       refine wpAnyI_ready (rs:=[10]) (by kernel_rfl) (by simp) ?_
       refine stepRI (i:=10) rfl (by kernel_rfl) (fun K hK=>?_) (AllReadyI.nil)
       refine wpO_append _ _ _ 221 rfl w.heap.size 226 i4 (.agg #[.int .i64 0,.int .i64 0]) 2 16 Tryz.underlying221 hi4 hz40 hz41 hz42 rfl (by decide) x4 xs.length (placeCells xs) rfl row4 ⟨_,0,none⟩ 1 1 [.int .i64 r,.int .i64 x.1] rfl rfl (block_cells (cs:=[.int .i64 r,.int .i64 x.1]) hs4) (by simp [Value.oneCell']) (by unfold maxLen;omega) (by omega) (by have:=hR.b4.lt;omega) ?_
       intro y4 wn hown hgrow
       have row3:=row_keep row3 row4 (by decide) hgrow
       have hR:=hR.grow4 row4 hgrow
       have KK:=KK.grow4 hgrow
       have hz':=hgrow.size
       have row4:=hown
       clear hown hgrow
       obtain ⟨sa4,sc4,rfl,_⟩:=row_shape row4
       refine hK.out _ _ hR ?_
       clear hK K
       (try simp only [Act.put,bw7,bw8,bw9])
       refine wpAnyI_ready (rs:=[11]) (by kernel_rfl) (by simp) ?_
       refine stepFI (i:=11) rfl (by kernel_rfl) (by kernel_rfl) (fun K hK=>?_) (AllReadyI.nil)
       have f3:=hR.b3.cell
       have g3:=hR.b3.frozen
       go_simp
       have row3:=row_setCell (u:=.slice sa3 (xs.length+1) sc3) row3 hR.b3 (by decide)
       have row4:=row_setCell (u:=.slice sa3 (xs.length+1) sc3) row4 hR.b3 (by decide)
       have nb3:=hR.b3.set (.slice sa3 (xs.length+1) sc3)
       have nb4:=hR.b4.other (B':=w.heap.size) (by omega) (.slice sa3 (xs.length+1) sc3)
       have f4:=nb4.cell
       have g4:=nb4.frozen
       refine hK.out _ _ ?_
       clear hK K
       (try simp only [Act.put,bw7,bw8,bw9])
       refine wpAnyI_ready (rs:=[12]) (by kernel_rfl) (by simp) ?_
       refine stepFI (i:=12) rfl (by kernel_rfl) (by kernel_rfl) (fun K hK=>?_) (AllReadyI.nil)
       go_simp
       refine hK.out _ _ ?_
       clear hK K
       (try simp only [Act.put,bw7,bw8,bw9])
       refine wpAnyI_done (by kernel_rfl) ?_ _
       refine hN.out _ _ ?_
       clear f3 g3 f4 g4
       gi_wp2
       have hfin:=cross_fin (x:=(r,x.1)) (m:=W0.heap.size) hL KK (by rw [HBV.out];exact row3) row4 nb3 nb4 b5 bR hz hM
       rw [← HXS.out] at hfin
       exact hfin
      ·go_simp
       refine after_alloc (fun wn hB' hs4 hy4=>?_)
       have hz':=hB'.size
       have row4:=row_below row4 hB'
       have row3:=row_below row3 hB'
       have KK:=KK.below' hB'
       have hR:=hR.below hB'
       have hs3:=heap_below hs3 hB'
       refine hK.out _ _ hR ?_
       clear hK K
       (try simp only [Act.put,bw7,bw8,bw9])
       refine wpAnyI_ready (rs:=[4]) (by kernel_rfl) (by simp) ?_
       refine stepRI (i:=4) rfl (by kernel_rfl) (fun K hK=>?_) (AllReadyI.nil)
       refine wpO_append _ _ _ 220 rfl w.heap.size 223 i3 (.agg #[.int .i64 0,.int .i64 0,.int .i64 0,.int .i64 0]) 4 32 Tryz.underlying220 hi3 hz30 hz31 hz32 rfl (by decide) x3 xs.length (boxCells P xs) rfl row3 ⟨_,0,none⟩ 1 1 (boxVals S C) rfl rfl (block_cells (cs:=boxVals S C) hs3) (by simp [boxVals,Value.oneCell']) (by unfold maxLen;omega) (by omega) (by have:=hR.b4.lt;omega) ?_
       intro y3 wn hown hgrow
       have hs4:=grown_keep hgrow hs4 (row_apart row3 hs4 (by decide))
       have row4:=row_keep row4 row3 (by decide) hgrow
       have hR:=hR.grow3 row3 hgrow
       have KK:=KK.grow3 hgrow
       have hz':=hgrow.size
       have row3:=hown
       clear hown hgrow
       obtain ⟨sa3,sc3,rfl,_⟩:=row_shape row3
       refine hK.out _ _ hR ?_
       clear hK K
       (try simp only [Act.put,bw7,bw8,bw9])
       refine wpAnyI_ready (rs:=[10]) (by kernel_rfl) (by simp) ?_
       refine stepRI (i:=10) rfl (by kernel_rfl) (fun K hK=>?_) (AllReadyI.nil)
       refine wpO_append _ _ _ 221 rfl w.heap.size 226 i4 (.agg #[.int .i64 0,.int .i64 0]) 2 16 Tryz.underlying221 hi4 hz40 hz41 hz42 rfl (by decide) x4 xs.length (placeCells xs) rfl row4 ⟨_,0,none⟩ 1 1 [.int .i64 r,.int .i64 x.1] rfl rfl (block_cells (cs:=[.int .i64 r,.int .i64 x.1]) hs4) (by simp [Value.oneCell']) (by unfold maxLen;omega) (by omega) (by have:=hR.b4.lt;omega) ?_
       intro y4 wn hown hgrow
       have row3:=row_keep row3 row4 (by decide) hgrow
       have hR:=hR.grow4 row4 hgrow
       have KK:=KK.grow4 hgrow
       have hz':=hgrow.size
       have row4:=hown
       clear hown hgrow
       obtain ⟨sa4,sc4,rfl,_⟩:=row_shape row4
       refine hK.out _ _ hR ?_
       clear hK K
       (try simp only [Act.put,bw7,bw8,bw9])
       refine wpAnyI_ready (rs:=[11]) (by kernel_rfl) (by simp) ?_
       refine stepFI (i:=11) rfl (by kernel_rfl) (by kernel_rfl) (fun K hK=>?_) (AllReadyI.nil)
       have f3:=hR.b3.cell
       have g3:=hR.b3.frozen
       go_simp
       have row3:=row_setCell (u:=.slice sa3 (xs.length+1) sc3) row3 hR.b3 (by decide)
       have row4:=row_setCell (u:=.slice sa3 (xs.length+1) sc3) row4 hR.b3 (by decide)
       have nb3:=hR.b3.set (.slice sa3 (xs.length+1) sc3)
       have nb4:=hR.b4.other (B':=w.heap.size) (by omega) (.slice sa3 (xs.length+1) sc3)
       have f4:=nb4.cell
       have g4:=nb4.frozen
       refine hK.out _ _ ?_
       clear hK K
       (try simp only [Act.put,bw7,bw8,bw9])
       refine wpAnyI_ready (rs:=[12]) (by kernel_rfl) (by simp) ?_
       refine stepFI (i:=12) rfl (by kernel_rfl) (by kernel_rfl) (fun K hK=>?_) (AllReadyI.nil)
       go_simp
       refine hK.out _ _ ?_
       clear hK K
       (try simp only [Act.put,bw7,bw8,bw9])
       refine wpAnyI_done (by kernel_rfl) ?_ _
       refine hN.out _ _ ?_
       clear f3 g3 f4 g4
       gi_wp2
       have hfin:=cross_fin (x:=(r,x.1)) (m:=W0.heap.size) hL KK (by rw [HBV.out];exact row3) row4 nb3 nb4 b5 bR hz hM
       rw [← HXS.out] at hfin
       exact hfin
     ·go_simp
      refine after_alloc (fun wn hB' hs4 hy4=>?_)
      have hz':=hB'.size
      have row4:=row_below row4 hB'
      have row3:=row_below row3 hB'
      have KK:=KK.below' hB'
      have hR:=hR.below hB'
      refine hK.out _ _ hR ?_
      clear hK K
      (try simp only [Act.put,bw7,bw8,bw9])
      refine wpAnyI_ready (rs:=[3]) (by kernel_rfl) (by simp) ?_
      refine stepRI (i:=3) rfl (by kernel_rfl) (fun K hK=>?_) (AllReadyI.nil)
      go_simp
      refine after_alloc (fun wn hB' hs3 hy3=>?_)
      have hz':=hB'.size
      have row4:=row_below row4 hB'
      have row3:=row_below row3 hB'
      have KK:=KK.below' hB'
      have hR:=hR.below hB'
      have hs4:=heap_below hs4 hB'
      refine hK.out _ _ hR ?_
      clear hK K
      (try simp only [Act.put,bw7,bw8,bw9])
      refine wpAnyI_ready (rs:=[4]) (by kernel_rfl) (by simp) ?_
      refine stepRI (i:=4) rfl (by kernel_rfl) (fun K hK=>?_) (AllReadyI.nil)
      refine wpO_append _ _ _ 220 rfl w.heap.size 223 i3 (.agg #[.int .i64 0,.int .i64 0,.int .i64 0,.int .i64 0]) 4 32 Tryz.underlying220 hi3 hz30 hz31 hz32 rfl (by decide) x3 xs.length (boxCells P xs) rfl row3 ⟨_,0,none⟩ 1 1 (boxVals S C) rfl rfl (block_cells (cs:=boxVals S C) hs3) (by simp [boxVals,Value.oneCell']) (by unfold maxLen;omega) (by omega) (by have:=hR.b4.lt;omega) ?_
      intro y3 wn hown hgrow
      have hs4:=grown_keep hgrow hs4 (row_apart row3 hs4 (by decide))
      have row4:=row_keep row4 row3 (by decide) hgrow
      have hR:=hR.grow3 row3 hgrow
      have KK:=KK.grow3 hgrow
      have hz':=hgrow.size
      have row3:=hown
      clear hown hgrow
      obtain ⟨sa3,sc3,rfl,_⟩:=row_shape row3
      refine hK.out _ _ hR ?_
      clear hK K
      (try simp only [Act.put,bw7,bw8,bw9])
      refine wpAnyI_ready (rs:=[10]) (by kernel_rfl) (by simp) ?_
      refine stepRI (i:=10) rfl (by kernel_rfl) (fun K hK=>?_) (AllReadyI.nil)
      refine wpO_append _ _ _ 221 rfl w.heap.size 226 i4 (.agg #[.int .i64 0,.int .i64 0]) 2 16 Tryz.underlying221 hi4 hz40 hz41 hz42 rfl (by decide) x4 xs.length (placeCells xs) rfl row4 ⟨_,0,none⟩ 1 1 [.int .i64 r,.int .i64 x.1] rfl rfl (block_cells (cs:=[.int .i64 r,.int .i64 x.1]) hs4) (by simp [Value.oneCell']) (by unfold maxLen;omega) (by omega) (by have:=hR.b4.lt;omega) ?_
      intro y4 wn hown hgrow
      have row3:=row_keep row3 row4 (by decide) hgrow
      have hR:=hR.grow4 row4 hgrow
      have KK:=KK.grow4 hgrow
      have hz':=hgrow.size
      have row4:=hown
      clear hown hgrow
      obtain ⟨sa4,sc4,rfl,_⟩:=row_shape row4
      refine hK.out _ _ hR ?_
      clear hK K
      (try simp only [Act.put,bw7,bw8,bw9])
      refine wpAnyI_ready (rs:=[11]) (by kernel_rfl) (by simp) ?_
      refine stepFI (i:=11) rfl (by kernel_rfl) (by kernel_rfl) (fun K hK=>?_) (AllReadyI.nil)
      have f3:=hR.b3.cell
      have g3:=hR.b3.frozen
      go_simp
      have row3:=row_setCell (u:=.slice sa3 (xs.length+1) sc3) row3 hR.b3 (by decide)
      have row4:=row_setCell (u:=.slice sa3 (xs.length+1) sc3) row4 hR.b3 (by decide)
      have nb3:=hR.b3.set (.slice sa3 (xs.length+1) sc3)
      have nb4:=hR.b4.other (B':=w.heap.size) (by omega) (.slice sa3 (xs.length+1) sc3)
      have f4:=nb4.cell
      have g4:=nb4.frozen
      refine hK.out _ _ ?_
      clear hK K
      (try simp only [Act.put,bw7,bw8,bw9])
      refine wpAnyI_ready (rs:=[12]) (by kernel_rfl) (by simp) ?_
      refine stepFI (i:=12) rfl (by kernel_rfl) (by kernel_rfl) (fun K hK=>?_) (AllReadyI.nil)
      go_simp
      refine hK.out _ _ ?_
      clear hK K
      (try simp only [Act.put,bw7,bw8,bw9])
      refine wpAnyI_done (by kernel_rfl) ?_ _
      refine hN.out _ _ ?_
      clear f3 g3 f4 g4
      gi_wp2
      have hfin:=cross_fin (x:=(r,x.1)) (m:=W0.heap.size) hL KK (by rw [HBV.out];exact row3) row4 nb3 nb4 b5 bR hz hM
      rw [← HXS.out] at hfin
      exact hfin
    ·go_simp
     refine after_alloc (fun wn hB' hs4 hy4=>?_)
     have hz':=hB'.size
     have row4:=row_below row4 hB'
     have row3:=row_below row3 hB'
     have KK:=KK.below' hB'
     have hR:=hR.below hB'
     refine hK.out _ _ hR ?_
     clear hK K
     (try simp only [Act.put,bw7,bw8,bw9])
     refine wpAnyI_ready (rs:=[2]) (by kernel_rfl) (by simp) ?_
     refine stepRI (i:=2) rfl (by kernel_rfl) (fun K hK=>?_) (AllReadyI.nil)
     go_simp
     refine ⟨trivial,?_⟩
     refine (CallsIn.inRound l1 (callsIn_wide.2 (HBX.out _))).mono ?_
     rintro e wn ⟨rfl,hB'⟩
     have hz':=hB'.size
     have row4:=row_below row4 hB'
     have row3:=row_below row3 hB'
     have KK:=KK.below' hB'
     have hR:=hR.below hB'
     have hs4:=heap_below hs4 hB'
     refine hK.out _ _ hR ?_
     clear hK K
     (try simp only [Act.put,bw7,bw8,bw9])
     refine wpAnyI_ready (rs:=[3]) (by kernel_rfl) (by simp) ?_
     refine stepRI (i:=3) rfl (by kernel_rfl) (fun K hK=>?_) (AllReadyI.nil)
     go_simp
     refine after_alloc (fun wn hB' hs3 hy3=>?_)
     have hz':=hB'.size
     have row4:=row_below row4 hB'
     have row3:=row_below row3 hB'
     have KK:=KK.below' hB'
     have hR:=hR.below hB'
     have hs4:=heap_below hs4 hB'
     refine hK.out _ _ hR ?_
     clear hK K
     (try simp only [Act.put,bw7,bw8,bw9])
     refine wpAnyI_ready (rs:=[4]) (by kernel_rfl) (by simp) ?_
     refine stepRI (i:=4) rfl (by kernel_rfl) (fun K hK=>?_) (AllReadyI.nil)
     refine wpO_append _ _ _ 220 rfl w.heap.size 223 i3 (.agg #[.int .i64 0,.int .i64 0,.int .i64 0,.int .i64 0]) 4 32 Tryz.underlying220 hi3 hz30 hz31 hz32 rfl (by decide) x3 xs.length (boxCells P xs) rfl row3 ⟨_,0,none⟩ 1 1 (boxVals S C) rfl rfl (block_cells (cs:=boxVals S C) hs3) (by simp [boxVals,Value.oneCell']) (by unfold maxLen;omega) (by omega) (by have:=hR.b4.lt;omega) ?_
     intro y3 wn hown hgrow
     have hs4:=grown_keep hgrow hs4 (row_apart row3 hs4 (by decide))
     have row4:=row_keep row4 row3 (by decide) hgrow
     have hR:=hR.grow3 row3 hgrow
     have KK:=KK.grow3 hgrow
     have hz':=hgrow.size
     have row3:=hown
     clear hown hgrow
     obtain ⟨sa3,sc3,rfl,_⟩:=row_shape row3
     refine hK.out _ _ hR ?_
     clear hK K
     (try simp only [Act.put,bw7,bw8,bw9])
     refine wpAnyI_ready (rs:=[10]) (by kernel_rfl) (by simp) ?_
     refine stepRI (i:=10) rfl (by kernel_rfl) (fun K hK=>?_) (AllReadyI.nil)
     refine wpO_append _ _ _ 221 rfl w.heap.size 226 i4 (.agg #[.int .i64 0,.int .i64 0]) 2 16 Tryz.underlying221 hi4 hz40 hz41 hz42 rfl (by decide) x4 xs.length (placeCells xs) rfl row4 ⟨_,0,none⟩ 1 1 [.int .i64 r,.int .i64 x.1] rfl rfl (block_cells (cs:=[.int .i64 r,.int .i64 x.1]) hs4) (by simp [Value.oneCell']) (by unfold maxLen;omega) (by omega) (by have:=hR.b4.lt;omega) ?_
     intro y4 wn hown hgrow
     have row3:=row_keep row3 row4 (by decide) hgrow
     have hR:=hR.grow4 row4 hgrow
     have KK:=KK.grow4 hgrow
     have hz':=hgrow.size
     have row4:=hown
     clear hown hgrow
     obtain ⟨sa4,sc4,rfl,_⟩:=row_shape row4
     refine hK.out _ _ hR ?_
     clear hK K
     (try simp only [Act.put,bw7,bw8,bw9])
     refine wpAnyI_ready (rs:=[11]) (by kernel_rfl) (by simp) ?_
     refine stepFI (i:=11) rfl (by kernel_rfl) (by kernel_rfl) (fun K hK=>?_) (AllReadyI.nil)
     have f3:=hR.b3.cell
     have g3:=hR.b3.frozen
     go_simp
     have row3:=row_setCell (u:=.slice sa3 (xs.length+1) sc3) row3 hR.b3 (by decide)
     have row4:=row_setCell (u:=.slice sa3 (xs.length+1) sc3) row4 hR.b3 (by decide)
     have nb3:=hR.b3.set (.slice sa3 (xs.length+1) sc3)
     have nb4:=hR.b4.other (B':=w.heap.size) (by omega) (.slice sa3 (xs.length+1) sc3)
     have f4:=nb4.cell
     have g4:=nb4.frozen
     refine hK.out _ _ ?_
     clear hK K
     (try simp only [Act.put,bw7,bw8,bw9])
     refine wpAnyI_ready (rs:=[12]) (by kernel_rfl) (by simp) ?_
     refine stepFI (i:=12) rfl (by kernel_rfl) (by kernel_rfl) (fun K hK=>?_) (AllReadyI.nil)
     go_simp
     refine hK.out _ _ ?_
     clear hK K
     (try simp only [Act.put,bw7,bw8,bw9])
     refine wpAnyI_done (by kernel_rfl) ?_ _
     refine hN.out _ _ ?_
     clear f3 g3 f4 g4
     gi_wp2
     have hfin:=cross_fin (x:=(r,x.1)) (m:=W0.heap.size) hL KK (by rw [HBV.out];exact row3) row4 nb3 nb4 b5 bR hz hM
     rw [← HXS.out] at hfin
     exact hfin
   case done =>
    rintro D ys W hD rfl ⟨⟨⟨⟨x3,x4,hL⟩,b5⟩,bR⟩,hz,hM⟩ hKd
    gi_wp2
    refine Handed.intro (P.length - (r+1)) (by omega) ?_
    first|gi_step|go_step
    refine ⟨D::Ds,r+1,_,⟨by omega,rfl,by go_num,⟨x3,x4,?_⟩,?_,?_⟩,rfl⟩
    ·rw [HPN.out];exact hL
    ·refine List.nodup_cons.2 ⟨fun hDD=>?_,hnd⟩
     have:=hmlt D hDD
     omega
    ·intro E hE
     rcases List.mem_cons.1 hE with rfl|hE
     ·exact ⟨by omega,hKd⟩
     ·exact hM E hE
   case stop =>
    rintro D c pre W _ _ h _
    exact h.elim
end Go.Proofs.YteepphiomcedfaaGreatDoor
