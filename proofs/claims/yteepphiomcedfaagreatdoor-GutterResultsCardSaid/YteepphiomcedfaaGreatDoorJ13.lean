/- Joined texts: WPCheck, WPFind, WPNeigh, WEaves. -/
import Derived.Test.YteepphiomcedfaaGreatDoorJ11
import Derived.Test.YteepphiomcedfaaGreatDoorWPCrossed
import Derived.Test.YteepphiomcedfaaGreatDoorJ08
import Derived.Test.YteepphiomcedfaaGreatDoorJ10
import Derived.BigQuiet
set_option maxRecDepth 100000
set_option linter.unusedVariables false
set_option linter.unusedSimpArgs false
set_option maxHeartbeats 6400000
namespace Go.Proofs.YteepphiomcedfaaGreatDoor
open Go.RowKit
theorem run_enter {f : FuncId} {fn : Func} {c : Code} (hf : Tryz.prog.funcs[f]? = some fn) (hname : (fn.name == "runtime.NumGoroutine") = false) (hb : fn.body = some c) (args : Array Value) (w : World) :
  (callFunc f args).run Tryz.prog w=.ok (.enter f args) w:=by
 have hn : ¬ fn.name = "runtime.NumGoroutine" := by simpa using hname
 simp [callFunc,hf,hn,hb]
theorem Valid.flat_ran {P:List Ring} (h:Valid P):∀ k,k < (flat P).length→RSide (sd (flat P) k):=by
 intro k hk
 have hs:sd (flat P) k ∈ flat P:=by
  unfold sd
  rw [List.getD_eq_getElem?_getD,List.getElem?_eq_getElem hk]
  exact List.getElem_mem hk
 obtain ⟨l,hl,hm⟩:=List.mem_flatten.1 hs
 obtain ⟨r,hr,e⟩:=List.getElem_of_mem hl
 obtain ⟨i,hi,e2⟩:=List.getElem_of_mem hm
 have:=h.ran r hr i (by rw [rg_eq hr,e];exact hi)
 rw [rg_eq hr,e] at this
 unfold sd at this
 rw [List.getD_eq_getElem?_getD,List.getElem?_eq_getElem hi] at this
 simp only [Option.getD_some] at this
 rw [e2] at this
 exact this
theorem pcheck_ok (P:List Ring) (v:Value) (w:World) (hv:IsPlan w v P) (hval:Valid P) :
  Calls Tryz.prog 92 #[v] w (RetB (.int .i64 0) w):=by
 have hP1:P.length≤24:=by have:=rings_le hval.nes P.length (Nat.le_refl _);have:=hval.tot;omega
 have hT0:0 < total P P.length:=by have:=rings_le hval.nes P.length (Nat.le_refl _);have:=List.length_pos_iff.2 hval.ne;omega
 have hT1:=hval.tot
 have hLR:∀ r,r < P.length→(rg P r).length≤1000:=fun r hr=>by have:=len_le hr;omega
 obtain ⟨u,rfl,hu⟩:=hv
 have HC1:=Lib.hid (fun W (hB:Below w.heap.size w W)=>concat_ok P u W (hu.below hB) hval)
 have HC2:=Lib.hid (fun W v' (hr:IsRing W v' (flat P))=>containsSide_none 155 #[] (flat P) v' W hr (by rw [flat_len];omega) (run_enter Tryz.func155 (by kernel_rfl) rfl) (fun k hk W' hB=>notRanged_ok _ _ (hval.flat_ran k hk)))
 have HC3:=Lib.hid (fun W (hB:Below w.heap.size w W)=>containsRing_none 158 #[] P u W (hu.below hB) (by omega) (fun r hr=>by have:=hLR r hr;omega) (run_enter Tryz.func158 (by kernel_rfl) rfl) (fun k hk W' u' hB hur=>notShaped_ok _ _ _ hur (hLR k hk) (hval.ran k hk) (hval.shp k hk)))
 have HC4:=Lib.hid (fun W (hB:Below w.heap.size w W)=>pcrossed_ok P u W (hu.below hB) hval)
 have HC5:=Lib.hid (fun W (hB:Below w.heap.size w W)=>pplaced_ok P u W (hu.below hB) hval)
 have HC6:=Lib.hid (fun W (hB:Below w.heap.size w W)=>pjoined_ok P u W (hu.below hB) hval)
 obtain ⟨a,cap,rfl,h⟩:=hu
 obtain ⟨b,off,rfl,hc⟩:=h hval.ne
 have HCC:=Lib.hid hc
 have HV:=Lib.hid hval
 have HTS:=Lib.hid (total_succ P)
 have HTL:=Lib.hid (fun r (hr:r < P.length)=>total_lt (P:=P) hr)
 have h0:(((total P P.length:Nat):Int) == 0)=false:=by simp;omega
 clear h hc hval hLR
 go_enter Tryz.func92,Tryz.ntmps92
 go_wp2_with fail
 go_loopw [3,9] (fun s i wr=>∃ r:Nat,r≤P.length∧i=.int .i64 r∧s=.int .i64 (total P r:Nat)∧wr=w.alloc (.cells #[.slice (some ⟨b,off,none⟩) P.length cap] 58)) (fun _ i _=>P.length - (intOf i).toNat)
 case atStart=>exact ⟨0,by omega,rfl,rfl,rfl⟩
 case round =>
  obtain ⟨r,hr,rfl,rfl,hw⟩:=hrel
  subst wr
  by_cases hrP:r < P.length
  ·obtain ⟨ur,cr,hur⟩:=HCC.out r hrP
   obtain ⟨ar,capr,rfl,hcr⟩:=hur
   have cr':=keep (bw4 (bw0 _ _) (.cells #[.slice (some ⟨b,off,none⟩) P.length cap] 58)) cr
   have zr:=lt_of_cell cr
   have htr:=HTL.out r hrP
   have hts:=Lib.hid (HTS.out r)
   have h1':(((rg P r).length:Int) == 0)=false:=by simp;exact HV.out.nes r hrP
   clear hcr cr
   generalize (rg P r).length=n at *
   go_wp2_with fail
   go_roundw
   case rel=>exact ⟨r+1,by omega,by go_num,ret_i64 (by rw [hts.out];omega),by trivial⟩
   case measure=>simp [intOf];omega
  ·have e:r=P.length:=by omega
   subst e
   have hB1:Below w.heap.size w (w.alloc (.cells #[.slice (some ⟨b,off,none⟩) P.length cap] 58)):=bw4 (bw0 _ _) _
   have k1:(w.alloc (.cells #[.slice (some ⟨b,off,none⟩) P.length cap] 58)).cell? ⟨w.heap.size,0,none⟩=some (.slice (some ⟨b,off,none⟩) P.length cap):=by simp [go_sem]
   generalize w.alloc (.cells #[.slice (some ⟨b,off,none⟩) P.length cap] 58)=w1 at *
   go_wp2_with fail
   refine (HC1.out _ hB1).mono ?_
   rintro e w2 ⟨v2,rfl,hr2,hB2'⟩
   have k2:=keep hB2' k1
   have hB2:Below w.heap.size w w2:=below_trans' hB1 hB2'
   have HC2':=Lib.hid (HC2.out w2 v2 hr2)
   obtain ⟨a2,cap2,rfl,hr2⟩:=hr2
   clear hr2 hB2' k1 hB1
   go_wp2_with fail
   refine HC2'.out.mono ?_
   rintro e w3 ⟨rfl,hB3'⟩
   have k3:=keep hB3' k2
   have hB3:Below w.heap.size w w3:=below_trans' hB2 hB3'
   clear hB3' k2 hB2
   go_wp2_with fail
   refine (HC3.out _ hB3).mono ?_
   rintro e w4 ⟨rfl,hB4'⟩
   have k4:=keep hB4' k3
   have hB4:Below w.heap.size w w4:=below_trans' hB3 hB4'
   clear hB4' k3 hB3
   go_wp2_with fail
   refine (HC4.out _ hB4).mono ?_
   rintro e w5 ⟨rfl,hB5'⟩
   have k5:=keep hB5' k4
   have hB5:Below w.heap.size w w5:=below_trans' hB4 hB5'
   clear hB5' k4 hB4
   go_wp2_with fail
   refine (HC5.out _ hB5).mono ?_
   rintro e w6 ⟨rfl,hB6'⟩
   have k6:=keep hB6' k5
   have hB6:Below w.heap.size w w6:=below_trans' hB5 hB6'
   clear hB6' k5 hB5
   go_wp2_with fail
   refine (HC6.out _ hB6).mono ?_
   rintro e w7 ⟨rfl,hB7'⟩
   have k7:=keep hB7' k6
   have hB7:Below w.heap.size w w7:=below_trans' hB6 hB7'
   clear hB7' k6 hB6
   go_wp2_with fail
   go_ret
   exact ⟨rfl,hB7⟩
theorem psides_ok (P:List Ring) (v:Value) (w:World) (hv:IsPlan w v P) (hval:Valid P) :
  Calls Tryz.prog 150 #[v] w (RetRing (flat P) 0 w):=by
 have HC:=Lib.hid (fun W (hB:Below w.heap.size w W)=>pcheck_ok P v W (hv.below hB) hval)
 obtain ⟨u,rfl,hu⟩:=hv
 have HC1:=Lib.hid (fun W (hB:Below w.heap.size w W)=>concat_ok P u W (hu.below hB) hval)
 obtain ⟨a,cap,rfl,h⟩:=hu
 clear h hval
 go_enter Tryz.func150,Tryz.ntmps150
 go_wp2_with fail
 refine (HC.out _ qbl).mono ?_
 rintro e w1 ⟨rfl,hB1⟩
 have k1:w1.cell? ⟨w.heap.size,0,none⟩=some (.slice a P.length cap):=keep hB1 (by simp [go_sem])
 have hB2:Below w.heap.size w w1:=qbl
 clear hB1
 go_wp2_with fail
 refine (HC1.out _ hB2).mono ?_
 rintro e w2 ⟨v2,rfl,hr2,hB3⟩
 have hB4:Below w.heap.size w w2:=below_trans' hB2 hB3
 have HR:=Lib.hid hr2
 obtain ⟨a2,cap2,rfl,_⟩:=hr2
 clear hB3
 go_wp2_with fail
 go_ret2
 exact ⟨_,rfl,HR.out,hB4⟩
end Go.Proofs.YteepphiomcedfaaGreatDoor
namespace Go.Proofs.YteepphiomcedfaaGreatDoor
open Go.RowKit Go.Shelf
attribute [local go_sem] Oper.semAt_some
def S0:Side:=⟨0,0,0,0,false,0,0⟩
theorem place_inj {P:List Ring} {r i r0 i0:Nat} (hr:r < P.length) (hi:i < (rg P r).length) (hr0:r0 < P.length) (hi0:i0 < (rg P r0).length) (h:total P r+i=total P r0+i0):r=r0∧i=i0:=by
 have key:∀ {a c x y:Nat},a < c→c < P.length→x < (rg P a).length→total P a+x=total P c+y→False:=by
  intro a c x y hac hc hx he
  have h1:total P (a+1)≤total P c:=total_le hac
  have h2:total P (a+1)=total P a+(rg P a).length:=rfl
  omega
 have e:r=r0:=by
  rcases Nat.lt_trichotomy r r0 with hlt|he|hlt
  ·exact (key hlt hr0 hi h).elim
  ·exact he
  ·exact (key hlt hr hi0 h.symm).elim
 subst e
 exact ⟨rfl,by omega⟩
theorem BoxA.but {W W':World} {b c:Nat} {A B C:Side} (h:BoxA W b A B C) (hs:SameBut c W W') (hne:b≠c):BoxA W' b A B C:=(hs.block b hne).trans h
theorem Boxed.but {W W':World} {b c:Nat} {t:TypeId} {v:Value} (h:Boxed W b t v) (hs:SameBut c W W') (hne:b≠c):Boxed W' b t v:=(hs.block b hne).trans h
theorem setRow_sameBut (w:World) (b:Nat) (c:Array Value):SameBut b w (w.setRow b c):=⟨rfl,rfl,rfl,by simp [World.setRow],fun k hk=>by
 show (w.heap.modify b _)[k]?=_
 rw [Array.getElem?_modify,if_neg (Ne.symm hk)]⟩
theorem setRow_at {w:World} {b:Nat} {c c':Array Value} {t:TypeId} (h:w.heap[b]?=some (.cells c t (0,0))):(w.setRow b c').heap[b]?=some (.cells c' t (0,0)):=by
 show (w.heap.modify b _)[b]?=_
 rw [Array.getElem?_modify,if_pos rfl,h]
 rfl
theorem wpIn_store21 {F:Fence} {n:Nat} {o:Oper} {a:Act} {Q:Exit→Act→World→Prop} {K:Act→World→Prop} (p x:Operand) (ho:o.op=.store 207 p x) {w:World} {b:Nat} {A0 B0 C0:Side} (A B C:Side) (hA:BoxA w b A0 B0 C0)
  (hp:a.eval p=.pointer (some ⟨b,0,none⟩)) (hx:a.eval x=aroundV A B C) (h:∀ W,SameBut b w W→BoxA W b A B C→K (a.put o.dst undef) W) :
  Oper.wpIn F n Tryz.prog o a w K Q:=by
 have hrow:=run_storeVar_row (P:=Tryz.prog) w b 207 207 (aroundArr A0 B0 C0) (aroundArr A B C) hA Tryz.infoAround rfl (by simp [aroundArr,Value.oneCell'])
 unfold Oper.wpIn
 refine ⟨by simp [Oper.about,ho],?_⟩
 rw [Oper.semAt_plain F _ _ (by rw [ho];intro c hc';cases hc')]
 have he:(execOp a.eval o).run Tryz.prog w=.ok .skip (w.setRow b (aroundArr A B C)):=by
  unfold execOp
  rw [ho]
  have e:aroundV A B C=.agg (aroundArr A B C):=rfl
  simp only [hp,hx,Sem.run_bind,e,Instr.storeAt,Instr.sureAddr,Sem.run_pure,Result.andThen_ok,hrow]
 rw [he]
 exact h _ (setRow_sameBut _ _ _) (setRow_at hA)
theorem keepsFrom_but {m b:Nat} {W W':World} (h:SameBut b W W') (hb:b < m):KeepsFrom m W W':=⟨Nat.le_of_eq h.size.symm,fun k o hk ho _=>(h.block k (by omega)).trans ho⟩
theorem keepsFrom_below {m:Nat} {W W':World} (hB:Below W.heap.size W W'):KeepsFrom m W W':=⟨hB.size,fun k o hk ho _=>(hB.block k (Array.getElem?_eq_some_iff.1 ho).1).trans ho⟩
theorem results_cell3 {fn:Func} {p q r:Tmp} {tp tq tr:TypeId} (h:fn.results=#[.cell p tp,.cell q tq,.cell r tr]) {tmps:Array Value} {P:Program} {w:World} {a b c:Addr} {x y z:Value}
  (ha:tmps.getD p undef=.pointer (some a)) (hb:tmps.getD q undef=.pointer (some b)) (hc:tmps.getD r undef=.pointer (some c)) (l1:(loadVar tp a).run P w=.ok x w) (l2:(loadVar tq b).run P w=.ok y w) (l3:(loadVar tr c).run P w=.ok z w) :
  (results fn tmps).run P w=.ok (.tuple #[x,y,z]) w:=by
 have e:∀ a,(asAddr (.pointer (some a))).run P w=.ok a w:=fun _=>rfl
 rw [Array.getD_eq_getD_getElem?] at ha hb hc
 simp only [results,h]
 simp [Sem.run_bind,Result.andThen,ha,hb,hc,e,l1,l2,l3]
theorem boxed_new' {X:World} {n:Nat} {t:TypeId} {v:Value} (h:X.heap.size=n):Boxed (X.alloc (.cells #[v] t)) n t v:=by subst h;exact Boxed.new _ _ _
theorem boxA_new' {X:World} {n:Nat} {A B C:Side} (h:X.heap.size=n):BoxA (X.alloc (.cells (aroundArr A B C) 207)) n A B C:=by subst h;exact boxA_new
structure FInv (P:List Ring) (N:Int) (r Z:Nat) (sl:Value) (w:World) (Ds:List Nat) (W:World):Prop where
 pl:Boxed W w.heap.size 58 sl
 n:Boxed W (w.heap.size+1) 3 (.int .i64 N)
 res1:Boxed W (w.heap.size+2) 3 (.int .i64 0)
 res2:BoxA W (w.heap.size+3) S0 S0 S0
 res3:Boxed W (w.heap.size+4) 29 (.int .i64 0)
 first:Boxed W Z 3 (.int .i64 (total P r:Nat))
 below:Below w.heap.size w W
 size:Z+1≤W.heap.size
 nodup:Ds.Nodup
 marks:∀ D ∈ Ds,Z+1≤D∧W.heap[D]?=Option.some (.deferred (Option.some []))
theorem pfind_ok (P:List Ring) (v:Value) (w:World) (r0 i0:Nat) (N:Int) (hv:IsPlan w v P) (hval:Valid P) (hr0:r0 < P.length) (hi0:i0 < (rg P r0).length) (hN:N=((total P r0+i0:Nat):Int)) :
  Calls Tryz.prog 204 #[v,.int .i64 N] w (RetB (.tuple #[.int .i64 (total P r0:Nat),aroundV (pv (rg P r0) i0) (sd (rg P r0) i0) (nx (rg P r0) i0),.int .i64 0]) w):=by
 have HCK:=Lib.hid (fun W (hB:Below w.heap.size w W)=>pcheck_ok P v W (hv.below hB) hval)
 obtain ⟨u,rfl,hu⟩:=hv
 obtain ⟨a,cap,rfl,h⟩:=hu
 have hP0:0 < P.length:=List.length_pos_iff.2 hval.ne
 have hP1:P.length≤24:=by have:=rings_le hval.nes P.length (Nat.le_refl _);have:=hval.tot;omega
 obtain ⟨b,off,rfl,hc⟩:=h hval.ne
 have HL:=Lib.hid (fun r (hr:r < P.length)=>(show total P r+(rg P r).length≤24 by have:=total_lt hr;have:=hval.tot;omega))
 have HV:=Lib.hid hval
 have HC:=Lib.hid hc
 have HPI:=Lib.hid (fun r i (hr:r < P.length) (hi:i < (rg P r).length)=>place_inj hr hi hr0 hi0)
 have HI0:=Lib.hid hi0
 have HN:=Lib.hid hN
 clear h hc hval hi0 hN
 refine (callsIn_wide (n:=5)).1 ?_
 refine callsIn_of_wp_marks Tryz.func204 rfl trivial ?_ rfl
 simp only [Tryz.ntmps204,List.size_toArray,List.length_cons,List.length_nil,Nat.reduceAdd,Nat.reduceSub,Array.replicate_succ,Array.replicate_zero,List.push_toArray,List.append_toArray,List.nil_append,List.cons_append]
 gi_wp2
 have hb0:Below w.heap.size w (((((w.alloc (.cells #[.slice (some ⟨b,off,none⟩) P.length cap] 58)).alloc (.cells #[.int .i64 N] 3)).alloc (.cells #[.int .i64 0] 3)).alloc (.cells (aroundArr S0 S0 S0) 207)).alloc (.cells #[.int .i64 0] 29)):=qbl
 have x0:Boxed (((((w.alloc (.cells #[.slice (some ⟨b,off,none⟩) P.length cap] 58)).alloc (.cells #[.int .i64 N] 3)).alloc (.cells #[.int .i64 0] 3)).alloc (.cells (aroundArr S0 S0 S0) 207)).alloc (.cells #[.int .i64 0] 29)) w.heap.size 58 (.slice (some ⟨b,off,none⟩) P.length cap):=((((Boxed.new w _ _).alloc _).alloc _).alloc _).alloc _
 have x1:Boxed (((((w.alloc (.cells #[.slice (some ⟨b,off,none⟩) P.length cap] 58)).alloc (.cells #[.int .i64 N] 3)).alloc (.cells #[.int .i64 0] 3)).alloc (.cells (aroundArr S0 S0 S0) 207)).alloc (.cells #[.int .i64 0] 29)) (w.heap.size+1) 3 (.int .i64 N):=(((boxed_new' (by simp)).alloc _).alloc _).alloc _
 have x2:Boxed (((((w.alloc (.cells #[.slice (some ⟨b,off,none⟩) P.length cap] 58)).alloc (.cells #[.int .i64 N] 3)).alloc (.cells #[.int .i64 0] 3)).alloc (.cells (aroundArr S0 S0 S0) 207)).alloc (.cells #[.int .i64 0] 29)) (w.heap.size+2) 3 (.int .i64 0):=((boxed_new' (by simp)).alloc _).alloc _
 have x3:BoxA (((((w.alloc (.cells #[.slice (some ⟨b,off,none⟩) P.length cap] 58)).alloc (.cells #[.int .i64 N] 3)).alloc (.cells #[.int .i64 0] 3)).alloc (.cells (aroundArr S0 S0 S0) 207)).alloc (.cells #[.int .i64 0] 29)) (w.heap.size+3) S0 S0 S0:=(boxA_new' (by simp)).below (bw4 (bw0 _ _) _)
 have x4:Boxed (((((w.alloc (.cells #[.slice (some ⟨b,off,none⟩) P.length cap] 58)).alloc (.cells #[.int .i64 N] 3)).alloc (.cells #[.int .i64 0] 3)).alloc (.cells (aroundArr S0 S0 S0) 207)).alloc (.cells #[.int .i64 0] 29)) (w.heap.size+4) 29 (.int .i64 0):=boxed_new' (by simp)
 have hsA:(((((w.alloc (.cells #[.slice (some ⟨b,off,none⟩) P.length cap] 58)).alloc (.cells #[.int .i64 N] 3)).alloc (.cells #[.int .i64 0] 3)).alloc (.cells (aroundArr S0 S0 S0) 207)).alloc (.cells #[.int .i64 0] 29)).heap.size=w.heap.size+5:=by simp
 refine ⟨trivial,?_⟩
 refine (callsIn_wide.2 (HCK.out _ hb0)).mono ?_
 generalize hWA:(((((w.alloc (.cells #[.slice (some ⟨b,off,none⟩) P.length cap] 58)).alloc (.cells #[.int .i64 N] 3)).alloc (.cells #[.int .i64 0] 3)).alloc (.cells (aroundArr S0 S0 S0) 207)).alloc (.cells #[.int .i64 0] 29))=wA at *
 rintro e w1 ⟨rfl,hB1⟩
 have hb1:Below w.heap.size w w1:=below_trans' hb0 hB1
 have x0:=boxed_below x0 hB1
 have x1:=boxed_below x1 hB1
 have x2:=boxed_below x2 hB1
 have x3:=x3.below hB1
 have x4:=boxed_below x4 hB1
 have hs1:w.heap.size+5≤w1.heap.size:=by have:=hB1.size;omega
 clear hB1 hWA hb0 hsA
 have k1:(w1.alloc (.cells #[.int .i64 0] 3)).cell? ⟨w.heap.size,0,none⟩=some (.slice (some ⟨b,off,none⟩) P.length cap):=(x0.alloc _).cell
 gi_wp2
 clear k1
 refine wpIn_loop_ghost_k (fun (g:Nat) (a':Act) (w':World)=>∃ (Ds:List Nat) (u9 u10 u11 u19 u20 u21 u22 u23 u24 u25 u26 u27 u28 u29 u30 u31 u32 u33 u34 u35 u36 u37 u38 u39:Value),(∃ r:Nat,r≤r0∧g=P.length - r∧u19=.int .i64 r∧FInv P N r w1.heap.size (.slice (some ⟨b,off,none⟩) P.length cap) w Ds w')∧a'={ tmps:=#[.agg #[.slice (some ⟨b,off,none⟩) P.length cap],.int .i64 N,.pointer (some ⟨w.heap.size,0,none⟩),.pointer (some ⟨w.heap.size+1,0,none⟩),.pointer (some ⟨w.heap.size+2,0,none⟩),.pointer (some ⟨w.heap.size+3,0,none⟩),.pointer (some ⟨w.heap.size+4,0,none⟩),.pointer (some ⟨w1.heap.size,0,none⟩),undef,u9,u10,u11,.agg #[.slice (some ⟨b,off,none⟩) P.length cap],.int .i64 0,.bool false,undef,.pointer (some ⟨w.heap.size,0,none⟩),.slice (some ⟨b,off,none⟩) P.length cap,.int .i64 P.length,u19,u20,u21,u22,u23,u24,u25,u26,u27,u28,u29,u30,u31,u32,u33,u34,u35,u36,u37,u38,u39],defers:=Ds.map markOf }) P.length ?_ ?_
 ·exact ⟨[],_,_,_,_,_,_,_,_,_,_,_,_,_,_,_,_,_,_,_,_,_,_,_,_,⟨0,by omega,rfl,rfl,⟨x0.alloc _,x1.alloc _,x2.alloc _,x3.below (bw4 (bw0 _ _) _),x4.alloc _,Boxed.new _ _ _,hb1.alloc hb1.size _,by simp,List.nodup_nil,by simp⟩⟩,rfl⟩
 ·rintro g _ wr ⟨Ds,u9,u10,u11,u19,u20,u21,u22,u23,u24,u25,u26,u27,u28,u29,u30,u31,u32,u33,u34,u35,u36,u37,u38,u39,hrel,rfl⟩ J K hJ hK
  obtain ⟨r,hr,rfl,rfl,hI⟩:=hrel
  have hr1:r < P.length:=by omega
  have hri:(r:Int) < (P.length:Int):=by omega
  have cF:=hI.first.cell
  have fF:=hI.first.frozen
  obtain ⟨ur,cr,hur⟩:=HC.out r hr1
  have cr':=keep hI.below cr
  have hne:=HV.out.nes r hr1
  have hl0:0 < (rg P r).length:=List.length_pos_iff.2 hne
  obtain ⟨br,offr,capr,rfl,hcr⟩:=hur.nonempty hne
  have hbw:br < w.heap.size:=lt_of_cell (hcr 0 hl0).1
  have HCR:=Lib.hid hcr
  have hlen:=HL.out r hr1
  have HPL:=Lib.hid (fun i (hi:i < (rg P r).length)=>HPI.out r i hr1 hi)
  clear hcr hur cr
  gi_wp2
  refine ⟨trivial,?_⟩
  refine (callsIn_wide.2 (psides_any _ _ _ _)).mono ?_
  rintro e w2 ⟨rfl,rfl⟩
  gi_wp2
  have hx1:=Boxed.new wr 66 (.slice (some ⟨br,offr,none⟩) (rg P r).length capr)
  have hb2:Below w.heap.size w (wr.alloc (.cells #[.slice (some ⟨br,offr,none⟩) (rg P r).length capr] 66)):=hI.below.alloc hI.below.size _
  have hbr:Below wr.heap.size wr (wr.alloc (.cells #[.slice (some ⟨br,offr,none⟩) (rg P r).length capr] 66)):=bw4 (bw0 _ _) _
  have hsz:(wr.alloc (.cells #[.slice (some ⟨br,offr,none⟩) (rg P r).length capr] 66)).heap.size=wr.heap.size+1:=by simp
  have hmk:∀ D ∈ Ds,w1.heap.size+1≤D∧(wr.alloc (.cells #[.slice (some ⟨br,offr,none⟩) (rg P r).length capr] 66)).heap[D]?=some (.deferred (some [])):=fun D hD=>⟨(hI.marks D hD).1,(hbr.block D (Array.getElem?_eq_some_iff.1 (hI.marks D hD).2).1).trans (hI.marks D hD).2⟩
  have hmlt:∀ D ∈ Ds,D < wr.heap.size:=fun D hD=>(Array.getElem?_eq_some_iff.1 (hI.marks D hD).2).1
  have y0:=boxed_below hI.pl hbr
  have y1:=boxed_below hI.n hbr
  have y2:=boxed_below hI.res1 hbr
  have y3:=hI.res2.below hbr
  have y4:=boxed_below hI.res3 hbr
  have y5:=boxed_below hI.first hbr
  generalize wr.alloc (.cells #[.slice (some ⟨br,offr,none⟩) (rg P r).length capr] 66)=W0 at *
  have hzI:=hI.size
  have HTS:Hid (total P (r+1)=total P r+(rg P r).length):=Lib.hid rfl
  have HRR:Hid (rg P r0=rg P r0):=Lib.hid rfl
  have HLR:Hid (r=r0→rg P r=rg P r0):=Lib.hid (fun h=>by rw [h])
  have HTR:Hid (r=r0→total P r=total P r0):=Lib.hid (fun h=>by rw [h])
  generalize total P r=T at *
  generalize rg P r=l at *
  refine wpIn_rangeFunc_ownH rfl (by omega) (gf:=254) (lb:=#[.pointer (some ⟨wr.heap.size,0,none⟩)]) rfl trivial (enters_of Tryz.func254 (by kernel_rfl) rfl)
   (sides_stops l _ (by omega) wr.heap.size w.heap.size br offr capr (by omega) hl0 W0 hbw hb2.size hx1.cell (fun k hk=>(HCR.out k hk).below hb2)) KpR.t (KpR.b hb2.size (by omega)) (bw0 _ _) (fun _=>rfl)
   (fun pre W=>(((((((Boxed W w.heap.size 58 (.slice (some ⟨b,off,none⟩) P.length cap)∧Boxed W (w.heap.size+1) 3 (.int .i64 N))∧Boxed W (w.heap.size+2) 3 (.int .i64 0))∧BoxA W (w.heap.size+3) S0 S0 S0)∧Boxed W (w.heap.size+4) 29 (.int .i64 0))∧Boxed W w1.heap.size 3 (.int .i64 T))∧Boxed W wr.heap.size 66 (.slice (some ⟨br,offr,none⟩) l.length capr))∧(Below w.heap.size w W∧W0.heap.size≤W.heap.size)∧(∀ D ∈ Ds,w1.heap.size+1≤D∧W.heap[D]?=some (.deferred (some []))))∧(r=r0→∀ x ∈ pre,x.1≠i0))
   (fun c pre W=>(((((Boxed W (w.heap.size+2) 3 (.int .i64 (total P r0:Nat))∧BoxA W (w.heap.size+3) (pv (rg P r0) i0) (sd (rg P r0) i0) (nx (rg P r0) i0))∧Boxed W (w.heap.size+4) 29 (.int .i64 0))∧(Below w.heap.size w W∧W0.heap.size≤W.heap.size))∧(∀ D ∈ Ds,w1.heap.size+1≤D∧W.heap[D]?=some (.deferred (some []))))∧c=.ret))
   (OwnFrom.and (OwnFrom.and (OwnFrom.and (OwnFrom.and (OwnFrom.and (OwnFrom.and (OwnFrom.and (OwnFrom.and (Own.from (boxed_own _ _ _) _) (Own.from (boxed_own _ _ _) _)) (Own.from (boxed_own _ _ _) _)) boxA_own) (Own.from (boxed_own _ _ _) _)) (Own.from (boxed_own _ _ _) _)) (Own.from (boxed_own _ _ _) _)) (OwnFrom.and (OwnFrom.and (ownFrom_below (Nat.le_refl _) (by omega)) (fun s A B row hs hg hr=>Nat.le_trans hs hg.size)) (marks_own (fun D hD=>by have:=hmlt D hD;omega)))) (fun _ _ _ _ hs _ _=>hs))
   (fun c=>OwnFrom.and (OwnFrom.and (OwnFrom.and (OwnFrom.and (OwnFrom.and (Own.from (boxed_own _ _ _) _) boxA_own) (Own.from (boxed_own _ _ _) _)) (OwnFrom.and (ownFrom_below (Nat.le_refl _) (by omega)) (fun s A B row hs hg hr=>Nat.le_trans hs hg.size))) (marks_own (fun D hD=>by have:=hmlt D hD;omega))) (fun _ _ _ _ hs _ _=>hs))
   ⟨⟨⟨⟨⟨⟨⟨⟨y0,y1⟩,y2⟩,y3⟩,y4⟩,y5⟩,hx1⟩,⟨hb2,Nat.le_refl _⟩,hmk⟩,fun _ x hx=>by cases hx⟩
   (fun x a' W=>∃ Bx,wr.heap.size < Bx∧BoxA W Bx (pv l x.1) (sd l x.1) (nx l x.1)∧a'={ tmps:=#[.agg #[.slice (some ⟨b,off,none⟩) P.length cap],.int .i64 N,.pointer (some ⟨w.heap.size,0,none⟩),.pointer (some ⟨w.heap.size+1,0,none⟩),.pointer (some ⟨w.heap.size+2,0,none⟩),.pointer (some ⟨w.heap.size+3,0,none⟩),.pointer (some ⟨w.heap.size+4,0,none⟩),.pointer (some ⟨w1.heap.size,0,none⟩),undef,.slice (some ⟨br,offr,none⟩) l.length capr,.int .i64 x.1,.pointer (some ⟨Bx,0,none⟩),.agg #[.slice (some ⟨b,off,none⟩) P.length cap],.int .i64 0,.bool false,undef,.pointer (some ⟨w.heap.size,0,none⟩),.slice (some ⟨b,off,none⟩) P.length cap,.int .i64 P.length,.int .i64 r,.bool true,.pointer (some ⟨b,off+r,none⟩),.slice (some ⟨br,offr,none⟩) l.length capr,.slice (some ⟨br,offr,none⟩) l.length capr,.func (.func 254) #[] #[.pointer (some ⟨wr.heap.size,0,none⟩)],.int .i64 x.1,aroundV (pv l x.1) (sd l x.1) (nx l x.1),u27,u28,u29,u30,u31,u32,u33,u34,u35,u36,u37,u38,u39],defers:=[] })
   (fun x a' _ X Y row hs hg hr=>by obtain ⟨Bx,h1,h2,h3⟩:=hs;exact ⟨Bx,h1,boxA_own () X Y row h2 hg hr,h3⟩)
   ?assign ?body ?done ?stop
  case assign =>
   rintro l1 pre x W K' ⟨⟨⟨⟨⟨⟨⟨⟨b0,b1⟩,b2⟩,b3⟩,b4⟩,b5⟩,bR⟩,⟨hB,hz⟩,hM⟩,hne'⟩ hK'
   unfold encS
   gi_wp2_with (refine wpListIn_store21 rfl _ _ rfl _ _ rfl (pv l x.1) (sd l x.1) (nx l x.1) rfl rfl ?_)
   exact hK' _ _ ((KeepsOthers.alloc _ _).from _) ⟨(bw0 _ W).alloc hB.size _,Below.heap_alloc _ _ _ bR.lt⟩ ⟨⟨⟨⟨⟨⟨⟨⟨b0.alloc _,b1.alloc _⟩,b2.alloc _⟩,b3.below (bw4 (bw0 _ _) _)⟩,b4.alloc _⟩,b5.alloc _⟩,bR.alloc _⟩,⟨hB.alloc hB.size _,by simp;omega⟩,fun D hD=>⟨(hM D hD).1,(Below.heap_alloc W _ D (Array.getElem?_eq_some_iff.1 (hM D hD).2).1).trans (hM D hD).2⟩⟩,hne'⟩ ⟨W.heap.size,bR.lt,boxA_new,rfl⟩
  case body =>
   rintro l1 pre x a' W hl1 ⟨rr,hrr⟩ ⟨⟨⟨⟨⟨⟨⟨⟨b0,b1⟩,b2⟩,b3⟩,b4⟩,b5⟩,bR⟩,⟨hB,hz⟩,hM⟩,hne'⟩ ⟨Bx,hBx,bX,rfl⟩ hlt
   have c1:=b1.cell
   have c5:=b5.cell
   have hw:IntKind.i64.wrap ((T:Int)+(x.1:Int))=(T:Int)+(x.1:Int):=IntWalk.i64_in _ (by have:=x.2;omega)
   by_cases hxe:T+x.1=total P r0+i0
   ·obtain ⟨er,ex⟩:=HPL.out x.1 x.2 hxe
    have el:=HLR.out er
    have eT:=HTR.out er
    have hcmp:((T:Int)+(x.1:Int) == N)=true:=by rw [HN.out];simp;omega
    have HPV:Hid ((pv l x.1=pv (rg P r0) i0∧sd l x.1=sd (rg P r0) i0∧nx l x.1=nx (rg P r0) i0)∧T=total P r0):=Lib.hid (by rw [ex,el,eT];exact ⟨⟨rfl,rfl,rfl⟩,rfl⟩)
    clear el ex eT er hxe
    have hR:AroundAt W.drew Bx (pv l x.1) (sd l x.1) (nx l x.1)∧Boxed W.drew w1.heap.size 3 (.int .i64 T):=⟨bX.at.below (bw0 _ _).drew,boxed_below b5 (bw0 _ _).drew⟩
    have hdr:Below W.heap.size W W.drew:=(bw0 _ _).drew
    have d2:=boxed_below b2 hdr
    have d3:=b3.below hdr
    have d4:=boxed_below b4 hdr
    gi_wp2
    generalize pv l x.1=A at *
    generalize nx l x.1=C at *
    generalize sd l x.1=S at *
    refine region_I (L:=[3,4]) (R:=(fun w'=>AroundAt w' Bx A S C∧Boxed w' w1.heap.size 3 (.int .i64 T))) 5 #[false,false,false,false,false] (by kernel_rfl) (by kernel_rfl) (by kernel_rfl) (fun _ _ _ _ _ h=>h) (fun Q' hQ' hN hLO=>?_)
    generalize W.drew=wd at *
    refine tkI 32 (i:=0) (v:=?_) (fw:=4) hQ' hR rfl (fun _=>rfl) ?_ ?_;rotate_left;(focus (intro wq hRq;obtain ⟨hra,hrb⟩:=hRq;have hrb:=hrb.cell;go_simp;(try with_reducible rfl)));(try simp only [Act.put,bw7,bw8,bw9])
    refine tkI 33 (i:=1) (v:=aroundV A S C) (fw:=4) hQ' hR rfl (fun _=>rfl) (fun wq hRq=>run_load21 rfl rfl hRq.1) ?_;(try simp only [Act.put,bw7,bw8,bw9])
    refine wpAnyI_ready (rs:=[2]) (by kernel_rfl) (by simp) ?_
    refine stepRI (i:=2) rfl (by kernel_rfl) (fun K hK=>?_) (AllReadyI.nil)
    have f2:=d2.cell
    have g2:=d2.frozen
    go_simp
    refine after_set1 d2 (fun W2 hS2 e2=>?_)
    clear f2 g2
    have hR2:AroundAt W2 Bx A S C∧Boxed W2 w1.heap.size 3 (.int .i64 T):=⟨hR.1.but hS2 (by omega),Boxed.but hR.2 hS2 (by omega)⟩
    refine hK.out _ _ hR2 ?_
    clear hK K
    (try simp only [Act.put,bw7,bw8,bw9])
    refine wpAnyI_ready (rs:=[3]) (by kernel_rfl) (by simp) ?_
    refine stepFI (i:=3) rfl (by kernel_rfl) (by kernel_rfl) (fun K hK=>?_) (AllReadyI.nil)
    refine wpIn_store21 _ _ rfl A S C (BoxA.but d3 hS2 (by omega)) rfl rfl (fun W3 hS3 e3=>?_)
    refine hK.out _ _ ?_
    clear hK K
    (try simp only [Act.put,bw7,bw8,bw9])
    refine wpAnyI_ready (rs:=[4]) (by kernel_rfl) (by simp) ?_
    refine stepFI (i:=4) rfl (by kernel_rfl) (by kernel_rfl) (fun K hK=>?_) (AllReadyI.nil)
    have d4':=Boxed.but (Boxed.but d4 hS2 (by omega)) hS3 (by omega)
    have f4:=d4'.cell
    have g4:=d4'.frozen
    go_simp
    refine after_set1 d4' (fun W4 hS4 e4=>?_)
    clear f4 g4
    refine hK.out _ _ ?_
    clear hK K
    (try simp only [Act.put,bw7,bw8,bw9])
    refine wpAnyI_done (by kernel_rfl) ?_ _
    refine hN.out _ _ ?_
    gi_wp2
    have hq:A=pv (rg P r0) i0∧S=sd (rg P r0) i0∧C=nx (rg P r0) i0:=HPV.out.1
    have hqT:T=total P r0:=HPV.out.2
    refine ⟨(keepsFrom_below hdr).trans ((keepsFrom_but hS2 (by omega)).trans ((keepsFrom_but hS3 (by omega)).trans (keepsFrom_but hS4 (by omega)))),⟨⟨⟨⟨⟨?_,?_⟩,?_⟩,⟨?_,?_⟩⟩,?_⟩,rfl⟩⟩
    ·rw [← hqT];exact Boxed.but (Boxed.but e2 hS3 (by omega)) hS4 (by omega)
    ·rw [← hq.1,← hq.2.1,← hq.2.2];exact BoxA.but e3 hS4 (by omega)
    ·exact e4
    ·exact hS4.below (hS3.below (hS2.below (hB.trans (hdr.mono hB.size)) (by omega)) (by omega)) (by omega)
    ·have:=hS4.size;have:=hS3.size;have:=hS2.size;have:=hdr.size;omega
    ·exact fun D hD=>⟨(hM D hD).1,(hS4.block D (by have:=(hM D hD).1;omega)).trans ((hS3.block D (by have:=(hM D hD).1;omega)).trans ((hS2.block D (by have:=(hM D hD).1;omega)).trans ((hdr.block D (Array.getElem?_eq_some_iff.1 (hM D hD).2).1).trans (hM D hD).2)))⟩
   ·have hcmp:((T:Int)+(x.1:Int) == N)=false:=by rw [HN.out];simp;omega
    gi_wp2
    exact ⟨KeepsFrom.refl _ _,⟨bw0 _ _ |>.mono hB.size,rfl⟩,⟨⟨⟨⟨⟨⟨⟨⟨b0,b1⟩,b2⟩,b3⟩,b4⟩,b5⟩,bR⟩,⟨hB,by omega⟩,hM⟩,fun he y hy=>by
     rcases List.mem_append.1 hy with hy|hy
     ·exact hne' he y hy
     ·have:y=x:=by simpa using hy
      subst this
      have:=HTR.out he
      omega⟩⟩
  case done =>
   rintro D ys W hD rfl ⟨⟨⟨⟨⟨⟨⟨⟨b0,b1⟩,b2⟩,b3⟩,b4⟩,b5⟩,bR⟩,⟨hB,hz⟩,hM⟩,hne'⟩ hKd
   have hrr:r < r0:=by
    by_cases e:r=r0
    ·exact absurd rfl (hne' e ⟨i0,by rw [HLR.out e];exact HI0.out⟩ (List.mem_finRange _))
    ·omega
   have c5:=b5.cell
   have f5:=b5.frozen
   have hw:IntKind.i64.wrap ((T:Int)+(l.length:Int))=(T:Int)+(l.length:Int):=IntWalk.i64_in _ (by omega)
   gi_wp2
   refine Handed.intro (P.length - (r+1)) (by omega) ?_
   first|gi_step|go_step
   have hS:=sameBut_setCell W w1.heap.size 0 (.int .i64 ((T:Int)+(l.length:Int)))
   refine ⟨D::Ds,_,_,_,_,_,_,_,_,_,_,_,_,_,_,_,_,_,_,_,_,_,_,_,_,?_,rfl⟩
   refine ⟨r+1,by omega,rfl,by go_num,⟨Boxed.but b0 hS (by omega),Boxed.but b1 hS (by omega),Boxed.but b2 hS (by omega),BoxA.but b3 hS (by omega),Boxed.but b4 hS (by omega),?_,hS.below hB (by omega),by rw [hS.size];omega,?_,?_⟩⟩
   ·rw [HTS.out,Int.natCast_add];exact b5.set _
   ·refine List.nodup_cons.2 ⟨fun hDD=>?_,hI.nodup⟩
    have:=hmlt D hDD
    omega
   ·intro E hE
    rcases List.mem_cons.1 hE with rfl|hE
    ·exact ⟨by omega,(hS.block _ (by omega)).trans hKd⟩
    ·exact ⟨(hM E hE).1,(hS.block _ (by have:=(hM E hE).1;omega)).trans (hM E hE).2⟩
  case stop =>
   rintro D c pre W hD _ ⟨⟨⟨⟨⟨q2,q3⟩,q4⟩,hB,hz⟩,hM⟩,rfl⟩ hKd
   gi_wp2
   refine leaves_marks (w1.heap.size+1) (D::Ds) _ ?_ (fun E hE=>?_) (fun W' hB' hcc=>?_)
   ·refine List.nodup_cons.2 ⟨fun hDD=>?_,hI.nodup⟩
    have:=hmlt D hDD
    omega
   ·rcases List.mem_cons.1 hE with rfl|hE
    ·exact ⟨by omega,hKd⟩
    ·exact hM E hE
   ·have z2:W'.cell? ⟨w.heap.size+2,0,none⟩=some (.int .i64 (total P r0:Nat)):=cell_keeps q2.cell hcc
    have z3:BoxA W' (w.heap.size+3) (pv (rg P r0) i0) (sd (rg P r0) i0) (nx (rg P r0) i0):=hcc _ _ q3 rfl
    have z4:W'.cell? ⟨w.heap.size+4,0,none⟩=some (.int .i64 0):=cell_keeps q4.cell hcc
    have hl:=around_load (P:=Tryz.prog) z3.at
    have ha:=Tryz.isAgg207
    have hz:=Tryz.sizeOf207
    have l2:(loadVar 3 ⟨w.heap.size+2,0,none⟩).run Tryz.prog W'=.ok (.int .i64 (total P r0:Nat)) W':=by simp [go_sem,z2]
    have l4:(loadVar 29 ⟨w.heap.size+4,0,none⟩).run Tryz.prog W'=.ok (.int .i64 0) W':=by simp [go_sem,z4]
    have l3:(loadVar 207 ⟨w.heap.size+3,0,none⟩).run Tryz.prog W'=.ok (aroundV (pv (rg P r0) i0) (sd (rg P r0) i0) (nx (rg P r0) i0)) W':=by
     simp only [loadVar,loadCells,Sem.run_bind,ha,hz,hl,Result.andThen_ok,Sem.run_pure,if_true,Sem.run_ite]
     rfl
    exact ⟨_,results_cell3 Tryz.results204 rfl rfl rfl l2 l3 l4,rfl,hB.trans (hB'.mono (by omega))⟩
end Go.Proofs.YteepphiomcedfaaGreatDoor
namespace Go.Proofs.YteepphiomcedfaaGreatDoor
open Go.RowKit Go.Shelf
theorem wpList_store21 {ops:Array Oper} {rest:List Oper} {o:Oper} {a:Act} {Q:Exit→Act→World→Prop} (hg:o.guard=none) (p x:Operand) (ho:o.op=.store 207 p x) (w:World) (c:Array Value) (hcs:c.size=21) (A B C:Side)
  (hp:a.eval p=.pointer (some ⟨w.heap.size,0,none⟩)) (hx:a.eval x=aroundV A B C) (h:wpList Tryz.prog ops Q rest (a.put o.dst undef) (w.alloc (.cells (aroundArr A B C) 207))) :
  wpList Tryz.prog ops Q (o::rest) a (w.alloc (.cells c 207)):=by
 refine wpList_plain hg fun K hK=>?_
 have hrun:=run_storeAt_new (P:=Tryz.prog) w 207 c (aroundArr A B C) Tryz.infoAround (by rw [hcs];rfl) (by simp [aroundArr,Value.oneCell'])
 have e:aroundV A B C=.agg (aroundArr A B C):=rfl
 unfold Oper.wp execOp
 rw [ho]
 simp only [hp,hx,Sem.run_bind,e,hrun,Result.andThen_ok,Sem.run_pure]
 exact hK _ _ h
def Ret3 (a b c:Int) (w:World) (e:Ending) (w':World):Prop:=e=.returned (.tuple #[.int .i64 a,.int .i64 b,.int .i64 c])∧Below w.heap.size w w'
theorem pneigh_ok (P:List Ring) (v:Value) (w:World) (r0 i0:Nat) (N:Int) (hv:IsPlan w v P) (hval:Valid P) (hr0:r0 < P.length) (hi0:i0 < (rg P r0).length) (hN:N=((total P r0+i0:Nat):Int)) :
  Calls Tryz.prog 151 #[v,.int .i64 N] w (Ret3 ((total P r0+pvi (rg P r0).length i0:Nat):Int) ((total P r0+nxi (rg P r0).length i0:Nat):Int) 0 w):=by
 have HFD:=Lib.hid (fun W (hB:Below w.heap.size w W)=>pfind_ok P v W r0 i0 N (hv.below hB) hval hr0 hi0 hN)
 obtain ⟨u,rfl,hu⟩:=hv
 obtain ⟨a,cap,rfl,h⟩:=hu
 have hP0:0 < P.length:=List.length_pos_iff.2 hval.ne
 have hP1:P.length≤24:=by have:=rings_le hval.nes P.length (Nat.le_refl _);have:=hval.tot;omega
 obtain ⟨b,off,rfl,hc⟩:=h hval.ne
 have HL:=Lib.hid (fun r (hr:r < P.length)=>(show total P r+(rg P r).length≤24 by have:=total_lt hr;have:=hval.tot;omega))
 have HLT:=Lib.hid (fun r (hr:r < r0)=>(show total P r < total P r0 by
  have h1:total P (r+1)≤total P r0:=total_le hr
  have h2:total P (r+1)=total P r+(rg P r).length:=rfl
  have:=List.length_pos_iff.2 (hval.nes r (by omega))
  omega))
 have HTS:=Lib.hid (total_succ P)
 have HC:=Lib.hid hc
 have HN:=Lib.hid hN
 have HI0:=Lib.hid hi0
 clear h hc hval hN hi0
 go_enter Tryz.func151,Tryz.ntmps151
 go_wp2_with fail
 refine (HFD.out _ qbl).mono ?_
 rintro e w1 ⟨rfl,hB1⟩
 have k1:w1.cell? ⟨w.heap.size,0,none⟩=some (.slice (some ⟨b,off,none⟩) P.length cap):=keep hB1 (by simp [go_sem])
 have hB2:Below w.heap.size w w1:=qbl
 clear hB1
 obtain ⟨A,hA⟩:∃ A,pv (rg P r0) i0=A:=⟨_,rfl⟩
 obtain ⟨B,hB⟩:∃ B,sd (rg P r0) i0=B:=⟨_,rfl⟩
 obtain ⟨C,hC⟩:∃ C,nx (rg P r0) i0=C:=⟨_,rfl⟩
 rw [hA,hB,hC]
 clear hA hB hC HFD
 have k2:(w1.alloc (.cells (aroundArr A B C) 207)).cell? ⟨w.heap.size,0,none⟩=some (.slice (some ⟨b,off,none⟩) P.length cap):=keep (bw4 (bw0 _ _) _) k1
 have hB3:Below w.heap.size w (w1.alloc (.cells (aroundArr A B C) 207)):=hB2.alloc hB2.size _
 go_wp2_with (refine wpList_store21 rfl _ _ rfl _ _ rfl A B C rfl rfl ?_)
 clear k1 hB2
 generalize w1.alloc (.cells (aroundArr A B C) 207)=w3 at *
 go_loopw [10,26] (fun s i wr=>∃ r:Nat,r≤r0∧i=.int .i64 r∧s=.int .i64 (total P r:Nat)∧wr=w3) (fun _ i _=>P.length - (intOf i).toNat)
 case atStart=>exact ⟨0,by omega,rfl,rfl,rfl⟩
 case round =>
  obtain ⟨r,hr,rfl,rfl,hw⟩:=hrel
  subst wr
  have hr1:r < P.length:=by omega
  have hri:(r:Int) < (P.length:Int):=by omega
  obtain ⟨ur,cr,hur⟩:=HC.out r hr1
  have cr':=keep hB3 cr
  obtain ⟨ar,capr,rfl,hcr⟩:=hur
  have hlr:=HL.out r hr1
  clear hcr cr
  by_cases hrr:r=r0
  ·subst hrr
   have hi0:=HI0.out
   have hN:=HN.out
   have hcmp:(((total P r:Nat):Int) == ((total P r:Nat):Int))=true:=by simp
   generalize (rg P r).length=n at *
   generalize total P r=T at *
   have hp:=pvi_lt hi0
   have hx:=nxi_lt hi0
   have hw1:IntKind.i64.wrap (N - (T:Int))=(i0:Int):=by rw [IntWalk.i64_in _ (by omega)];omega
   have hw2:IntKind.i64.wrap ((i0:Int)+(n:Int))=(i0:Int)+(n:Int):=IntWalk.i64_in _ (by omega)
   have hw3:IntKind.i64.wrap ((i0:Int)+(n:Int) - 1)=(i0:Int)+(n:Int) - 1:=IntWalk.i64_in _ (by omega)
   have hw4:IntKind.i64.wrap ((i0:Int)+1)=(i0:Int)+1:=IntWalk.i64_in _ (by omega)
   have hn0:¬ (n:Int)=0:=by omega
   have ht1:((i0:Int)+(n:Int) - 1).tmod (n:Int)=((pvi n i0:Nat):Int):=by
    rw [Int.tmod_eq_emod_of_nonneg (by omega)]
    unfold pvi
    rw [Int.natCast_emod,show ((i0+n - 1:Nat):Int)=(i0:Int)+(n:Int) - 1 by omega]
   have ht2:((i0:Int)+1).tmod (n:Int)=((nxi n i0:Nat):Int):=by
    rw [Int.tmod_eq_emod_of_nonneg (by omega)]
    simp [nxi]
   generalize pvi n i0=kp at *
   generalize nxi n i0=kn at *
   have hw5:IntKind.i64.wrap ((T:Int)+(kp:Int))=((T+kp:Nat):Int):=by rw [IntWalk.i64_in _ (by omega)];omega
   have hw6:IntKind.i64.wrap ((T:Int)+(kn:Int))=((T+kn:Nat):Int):=by rw [IntWalk.i64_in _ (by omega)];omega
   clear hN
   go_wp2_with fail
   go_quiet (fail)
   go_wp2_with fail
   go_ret3
   exact ⟨rfl,bw2 hB3 _⟩
  ·have hlt:=HLT.out r (by omega)
   have hcmp:(((total P r:Nat):Int) == ((total P r0:Nat):Int))=false:=by simp;omega
   have hts:=Lib.hid (HTS.out r)
   generalize (rg P r).length=n at *
   go_wp2_with fail
   go_roundw
   case rel=>exact ⟨r+1,by omega,by go_num,ret_i64 (by rw [hts.out];omega),by trivial⟩
   case measure=>simp [intOf];omega
end Go.Proofs.YteepphiomcedfaaGreatDoor
namespace Go.Proofs.YteepphiomcedfaaGreatDoor
open Go.RowKit Go.Shelf
def BoxS (W:World) (b:Nat) (s:Side):Prop:=W.heap[b]?=some (.cells (sideCells s).toArray 71 (0,0))
theorem BoxS.lt {W:World} {b:Nat} {s:Side} (h:BoxS W b s):b < W.heap.size:=(Array.getElem?_eq_some_iff.1 h).1
theorem BoxS.below {w w':World} {b:Nat} {s:Side} (h:BoxS w b s) (hB:Below w.heap.size w w'):BoxS w' b s:=(hB.block b h.lt).trans h
theorem BoxS.but {w w':World} {b c:Nat} {s:Side} (h:BoxS w b s) (hs:SameBut c w w') (hne:b≠c):BoxS w' b s:=(hs.block b hne).trans h
theorem BoxS.at {W:World} {b:Nat} {s:Side} (h:BoxS W b s):SideAt W b 0 s:=by
 have key:∀ o,W.cell? ⟨b,o,none⟩=(sideCells s).toArray[o]?:=by
  intro o
  simp only [World.cell?,show W.heap[b]?=_ from h]
  rfl
 exact ⟨key 0,key 1,key 2,key 3,key 4,key 5,key 6⟩
theorem BoxS.xy {W:World} {b:Nat} {s:Side} (h:BoxS W b s):W.cell? ⟨b,0,none⟩=some (.int .i64 s.x)∧W.cell? ⟨b,1,none⟩=some (.int .i64 s.y):=⟨h.at.1,h.at.2.1⟩
theorem SideAt.but {w w':World} {b c o:Nat} {s:Side} (h:SideAt w b o s) (hs:SameBut c w w') (hne:b≠c):SideAt w' b o s:=by
 have hc:∀ o,w'.cell? ⟨b,o,none⟩=w.cell? ⟨b,o,none⟩:=fun o=>World.cell?_of_block (hs.block b hne)
 unfold SideAt at *
 simpa only [hc] using h
theorem Tryz.infoSide7:(Tryz.prog.info? 71).map (·.size)=some 7:=by kernel_rfl
theorem wp_store7 {o:Oper} {a:Act} {Q:Exit→Act→World→Prop} {K:Act→World→Prop} (p x:Operand) (ho:o.op=.store 71 p x) {w:World} {b:Nat} {s0:Side} (s:Side) (hA:BoxS w b s0)
  (hp:a.eval p=.pointer (some ⟨b,0,none⟩)) (hx:a.eval x=sideV s) (h:∀ W,SameBut b w W→BoxS W b s→K (a.put o.dst undef) W) :
  o.wp Tryz.prog a w K Q:=by
 have hrow:=run_storeVar_row (P:=Tryz.prog) w b 71 71 (sideCells s0).toArray (sideCells s).toArray hA Tryz.infoSide7 rfl (by simp [sideCells,Value.oneCell'])
 have e:sideV s=.agg (sideCells s).toArray:=rfl
 unfold Oper.wp execOp
 rw [ho]
 simp only [hp,hx,Sem.run_bind,e,Instr.storeAt,Instr.sureAddr,Sem.run_pure,Result.andThen_ok,hrow]
 exact h _ (setRow_sameBut _ _ _) (setRow_at hA)
def eLo (B C:Side):Int:=if B.x=C.x then min B.y C.y else min B.x C.x
def eHi (B C:Side):Int:=if B.x=C.x then max B.y C.y else max B.x C.x
theorem eaves_ok (P:List Ring) (v:Value) (w:World) (r0 i0 n:Nat) (hv:IsPlan w v P) (hval:Valid P) (hr0:r0 < P.length) (hi0:i0 < (rg P r0).length) (hn:n=total P r0+i0) (hg:(sd (rg P r0) i0).gable=false) :
  Calls Tryz.prog 86 #[v,.int .i64 n,.bool true] w (Ret3 (eLo (sd (rg P r0) i0) (nx (rg P r0) i0)) (eHi (sd (rg P r0) i0) (nx (rg P r0) i0)) 0 w):=by
 have hx0:=nxi_lt hi0
 have htl:=total_lt hr0
 have hfl:=flat_len P
 have hT:=hval.tot
 have hsB:=sd_flat hr0 hi0
 have hsC:sd (flat P) (total P r0+nxi (rg P r0).length i0)=nx (rg P r0) i0:=sd_flat hr0 hx0
 have HS:=Lib.hid (fun W (hB:Below w.heap.size w W)=>psides_ok P v W (hv.below hB) hval)
 have HNB:=Lib.hid (fun W (hB:Below w.heap.size w W)=>pneigh_ok P v W r0 i0 n (hv.below hB) hval hr0 hi0 (by rw [hn]))
 have hfn:flat P≠[]:=by intro h;rw [h] at hfl;simp at hfl;omega
 obtain ⟨u,rfl,hu⟩:=hv
 obtain ⟨a,cap,rfl,h⟩:=hu
 clear h hval
 obtain ⟨m,hm⟩:∃ m,total P r0+nxi (rg P r0).length i0=m:=⟨_,rfl⟩
 obtain ⟨pm,hpm⟩:∃ m,total P r0+pvi (rg P r0).length i0=m:=⟨_,rfl⟩
 rw [← hn] at hsB
 rw [hm] at hsC HNB
 rw [hpm] at HNB
 have hn1:n < (flat P).length:=by omega
 have hm1:m < (flat P).length:=by omega
 have hl1:(flat P).length≤24:=by omega
 rw [← hsB,← hsC]
 rw [← hsB] at hg
 clear hsB hsC hm hpm hn hx0 htl hfl hT hi0 hr0
 generalize flat P=l at *
 have HL:=Lib.hid (fun W v' (hr:IsRing W v' l)=>hr.nonempty hfn)
 clear hfn
 go_enter Tryz.func86,Tryz.ntmps86
 go_wp2_with fail
 refine (HS.out _ qbl).mono ?_
 rintro e w1 ⟨v1,rfl,hr1,hB1⟩
 have k1:w1.cell? ⟨w.heap.size,0,none⟩=some (.slice a P.length cap):=keep hB1 (by simp [go_sem])
 have hB2:Below w.heap.size w w1:=qbl
 clear hB1
 obtain ⟨bs,os,cs,rfl,hc1⟩:=HL.out _ _ hr1
 have hbs:bs < w1.heap.size:=lt_of_cell (hc1 n hn1).1
 have hsn:=hc1 n hn1
 have hsm:=hc1 m hm1
 have cg:=hsn.2.2.2.2.1
 rw [hg] at cg
 have hnl:((n:Nat):Int) < (l.length:Int):=by omega
 clear hc1 hr1
 go_wp2_with fail
 refine (HNB.out _ hB2).mono ?_
 rintro e w2 ⟨rfl,hB3'⟩
 have hB3:Below w.heap.size w w2:=below_trans' hB2 hB3'
 have hsn:=hsn.below hB3'
 have hsm:=hsm.below hB3'
 have hbs2:bs < w2.heap.size:=Nat.lt_of_lt_of_le hbs hB3'.size
 clear hB3' cg k1 hB2 hbs HNB HS
 have hml:((m:Nat):Int) < (l.length:Int):=by omega
 clear hn1 hm1 hl1
 generalize sd l n=B at *
 generalize sd l m=C at *
 generalize l.length=ln at *
 have hR:SideAt w2.drew bs (os+n * 7) B∧SideAt w2.drew bs (os+m * 7) C∧Below w.heap.size w w2.drew∧bs < w2.drew.heap.size:=⟨hsn.below (bw0 _ _).drew,hsm.below (bw0 _ _).drew,hB3.trans ((bw0 _ _).drew.mono hB3.size),hbs2⟩
 go_wp2_with fail
 clear hsn hsm hB3 hbs2 hg
 refine region_S (F:=[11]) (R:=(fun w'=>SideAt w' bs (os+n * 7) B∧SideAt w' bs (os+m * 7) C∧Below w.heap.size w w'∧bs < w'.heap.size)) 12 #[false,false,false,false,false,false,false,false,false,false,false,false] (by kernel_rfl) (by kernel_rfl) (by kernel_rfl) (fun _ _ _ _ _ h=>h) (fun Q' hQ' hN=>?_)
 generalize w2.drew=wd at *
 refine tkS 50 (i:=0) (v:=?_) (fw:=4) hQ' hR rfl ?_ ?_;rotate_left;(focus (intro wq hRq;obtain ⟨⟨d0,d1,d2,d3,d4,d5,d6⟩,⟨e0,e1,e2,e3,e4,e5,e6⟩,_,_⟩:=hRq;go_simp;(try with_reducible rfl)));(try simp only [Act.put,bw7,bw8,bw9])
 refine tkS 51 (i:=1) (v:=?_) (fw:=4) hQ' hR rfl ?_ ?_;rotate_left;(focus (intro wq hRq;obtain ⟨⟨d0,d1,d2,d3,d4,d5,d6⟩,⟨e0,e1,e2,e3,e4,e5,e6⟩,_,_⟩:=hRq;go_simp;(try with_reducible rfl)));(try simp only [Act.put,bw7,bw8,bw9])
 refine tkS 52 (i:=2) (v:=?_) (fw:=4) hQ' hR rfl ?_ ?_;rotate_left;(focus (intro wq hRq;obtain ⟨⟨d0,d1,d2,d3,d4,d5,d6⟩,⟨e0,e1,e2,e3,e4,e5,e6⟩,_,_⟩:=hRq;go_simp;(try with_reducible rfl)));(try simp only [Act.put,bw7,bw8,bw9])
 refine tkS 53 (i:=3) (v:=?_) (fw:=4) hQ' hR rfl ?_ ?_;rotate_left;(focus (intro wq hRq;obtain ⟨⟨d0,d1,d2,d3,d4,d5,d6⟩,⟨e0,e1,e2,e3,e4,e5,e6⟩,_,_⟩:=hRq;go_simp;(try with_reducible rfl)));(try simp only [Act.put,bw7,bw8,bw9])
 refine tkS 54 (i:=4) (v:=?_) (fw:=4) hQ' hR rfl ?_ ?_;rotate_left;(focus (intro wq hRq;obtain ⟨⟨d0,d1,d2,d3,d4,d5,d6⟩,⟨e0,e1,e2,e3,e4,e5,e6⟩,_,_⟩:=hRq;go_simp;(try with_reducible rfl)));(try simp only [Act.put,bw7,bw8,bw9])
 refine tkS 55 (i:=5) (v:=?_) (fw:=4) hQ' hR rfl ?_ ?_;rotate_left;(focus (intro wq hRq;obtain ⟨⟨d0,d1,d2,d3,d4,d5,d6⟩,⟨e0,e1,e2,e3,e4,e5,e6⟩,_,_⟩:=hRq;go_simp;(try with_reducible rfl)));(try simp only [Act.put,bw7,bw8,bw9])
 refine tkS 56 (i:=6) (v:=?_) (fw:=4) hQ' hR rfl ?_ ?_;rotate_left;(focus (intro wq hRq;obtain ⟨⟨d0,d1,d2,d3,d4,d5,d6⟩,⟨e0,e1,e2,e3,e4,e5,e6⟩,_,_⟩:=hRq;go_simp;(try with_reducible rfl)));(try simp only [Act.put,bw7,bw8,bw9])
 refine tkS 57 (i:=7) (v:=?_) (fw:=4) hQ' hR rfl ?_ ?_;rotate_left;(focus (intro wq hRq;obtain ⟨⟨d0,d1,d2,d3,d4,d5,d6⟩,⟨e0,e1,e2,e3,e4,e5,e6⟩,_,_⟩:=hRq;go_simp;(try with_reducible rfl)));(try simp only [Act.put,bw7,bw8,bw9])
 refine wpAnyS_ready (rs:=[8,9]) (by kernel_rfl) (by simp) ?_
 refine stepR (i:=8) rfl (by kernel_rfl) (fun K hK=>?_) (stepR (i:=9) rfl (by kernel_rfl) (fun K hK=>?_) (AllReadyS.nil))
 ·have hq14:=hR.2.2.2
  have hh14:=hR.2.2.1.size
  go_simp
  refine after_alloc (fun w14 hB' hb14 hz14=>?_)
  have hb14:BoxS w14 _ S0:=hb14
  have hR:SideAt w14 bs (os+n * 7) B∧SideAt w14 bs (os+m * 7) C∧Below w.heap.size w w14∧bs < w14.heap.size:=⟨hR.1.below hB',hR.2.1.below hB',below_trans' hR.2.2.1 hB',Nat.lt_of_lt_of_le hR.2.2.2 hB'.size⟩
  clear hB'
  refine hK.out _ _ hR ?_
  clear hK K
  (try simp only [Act.put,bw7,bw8,bw9])
  refine wpAnyS_ready (rs:=[9]) (by kernel_rfl) (by simp) ?_
  refine stepR (i:=9) rfl (by kernel_rfl) (fun K hK=>?_) (AllReadyS.nil)
  have hq15:=hR.2.2.2
  have hh15:=hR.2.2.1.size
  go_simp
  refine after_alloc (fun w15 hB' hb15 hz15=>?_)
  have hb15:BoxS w15 _ S0:=hb15
  have hb14:=hb14.below hB'
  have hR:SideAt w15 bs (os+n * 7) B∧SideAt w15 bs (os+m * 7) C∧Below w.heap.size w w15∧bs < w15.heap.size:=⟨hR.1.below hB',hR.2.1.below hB',below_trans' hR.2.2.1 hB',Nat.lt_of_lt_of_le hR.2.2.2 hB'.size⟩
  clear hB'
  refine hK.out _ _ hR ?_
  clear hK K
  (try simp only [Act.put,bw7,bw8,bw9])
  refine wpAnyS_ready (rs:=[10]) (by kernel_rfl) (by simp) ?_
  refine stepR (i:=10) rfl (by kernel_rfl) (fun K hK=>?_) (AllReadyS.nil)
  refine wp_store7 _ _ rfl B hb14 rfl rfl (fun wx hS hb14=>?_)
  have hb15:=hb15.but hS (by omega)
  have hR:SideAt wx bs (os+n * 7) B∧SideAt wx bs (os+m * 7) C∧Below w.heap.size w wx∧bs < wx.heap.size:=⟨hR.1.but hS (by omega),hR.2.1.but hS (by omega),hS.below hR.2.2.1 (by omega),by rw [hS.size];exact hR.2.2.2⟩
  clear hS
  refine hK.out _ _ hR ?_
  clear hK K
  (try simp only [Act.put,bw7,bw8,bw9])
  refine wpAnyS_ready (rs:=[11]) (by kernel_rfl) (by simp) ?_
  refine stepF (i:=11) rfl (by kernel_rfl) (by kernel_rfl) (fun K hK=>?_) (AllReadyS.nil)
  refine wp_store7 _ _ rfl C hb15 rfl rfl (fun wy hS hb15=>?_)
  have hb14:=hb14.but hS (by omega)
  have hBn:=hS.below hR.2.2.1 (by omega)
  clear hS
  refine hK.out _ _ ?_
  clear hK K
  (try simp only [Act.put,bw7,bw8,bw9])
  refine wpAnyS_done (by kernel_rfl) ?_ _
  refine hN.out _ _ ?_
  obtain ⟨x14,y14⟩:=hb14.xy
  obtain ⟨x15,y15⟩:=hb15.xy
  clear hR
  by_cases hx:B.x=C.x
  ·have hxb:(B.x == C.x)=true:=by simp [hx]
   have HE:=Lib.hid (show eLo B C=min B.y C.y∧eHi B C=max B.y C.y from ⟨if_pos hx,if_pos hx⟩)
   clear hx
   have hR:(wy.drew.cell? ⟨wd.heap.size,0,none⟩=some (.int .i64 B.x)∧wy.drew.cell? ⟨wd.heap.size,1,none⟩=some (.int .i64 B.y)∧wy.drew.cell? ⟨w14.heap.size,0,none⟩=some (.int .i64 C.x)∧wy.drew.cell? ⟨w14.heap.size,1,none⟩=some (.int .i64 C.y))∧Below w.heap.size w wy.drew:=⟨⟨x14,y14,x15,y15⟩,hBn.trans ((bw0 _ _).drew.mono hBn.size)⟩
   go_wp2_with fail
   refine region_S (F:=[]) (R:=(fun w'=>(w'.cell? ⟨wd.heap.size,0,none⟩=some (.int .i64 B.x)∧w'.cell? ⟨wd.heap.size,1,none⟩=some (.int .i64 B.y)∧w'.cell? ⟨w14.heap.size,0,none⟩=some (.int .i64 C.x)∧w'.cell? ⟨w14.heap.size,1,none⟩=some (.int .i64 C.y))∧Below w.heap.size w w')) 13 #[false,false,false,false,false,false,false,false,false,false,false,false,false] (by kernel_rfl) (by kernel_rfl) (by kernel_rfl) (fun _ _ _ _ _ h=>h) (fun Q' hQ' hN=>?_)
   generalize wy.drew=wz at *
   refine tkS 63 (i:=0) (v:=?_) (fw:=3) hQ' hR rfl ?_ ?_;rotate_left;(focus (intro wq hRq;obtain ⟨⟨c0,c1,c2,c3⟩,_⟩:=hRq;go_simp;(try with_reducible rfl)));(try simp only [Act.put,bw7,bw8,bw9])
   refine tkS 64 (i:=1) (v:=?_) (fw:=3) hQ' hR rfl ?_ ?_;rotate_left;(focus (intro wq hRq;obtain ⟨⟨c0,c1,c2,c3⟩,_⟩:=hRq;go_simp;(try with_reducible rfl)));(try simp only [Act.put,bw7,bw8,bw9])
   refine tkS 65 (i:=2) (v:=?_) (fw:=3) hQ' hR rfl ?_ ?_;rotate_left;(focus (intro wq hRq;obtain ⟨⟨c0,c1,c2,c3⟩,_⟩:=hRq;go_simp;(try with_reducible rfl)));(try simp only [Act.put,bw7,bw8,bw9])
   refine tkS 66 (i:=3) (v:=?_) (fw:=3) hQ' hR rfl ?_ ?_;rotate_left;(focus (intro wq hRq;obtain ⟨⟨c0,c1,c2,c3⟩,_⟩:=hRq;go_simp;(try with_reducible rfl)));(try simp only [Act.put,bw7,bw8,bw9])
   refine tkS 67 (i:=4) (v:=?_) (fw:=3) hQ' hR rfl ?_ ?_;rotate_left;(focus (intro wq hRq;obtain ⟨⟨c0,c1,c2,c3⟩,_⟩:=hRq;go_simp;(try with_reducible rfl)));(try simp only [Act.put,bw7,bw8,bw9])
   refine tkS 68 (i:=5) (v:=?_) (fw:=3) hQ' hR rfl ?_ ?_;rotate_left;(focus (intro wq hRq;obtain ⟨⟨c0,c1,c2,c3⟩,_⟩:=hRq;go_simp;(try with_reducible rfl)));(try simp only [Act.put,bw7,bw8,bw9])
   refine tkS 69 (i:=6) (v:=?_) (fw:=3) hQ' hR rfl ?_ ?_;rotate_left;(focus (intro wq hRq;obtain ⟨⟨c0,c1,c2,c3⟩,_⟩:=hRq;go_simp;(try with_reducible rfl)));(try simp only [Act.put,bw7,bw8,bw9])
   refine tkS 70 (i:=7) (v:=?_) (fw:=3) hQ' hR rfl ?_ ?_;rotate_left;(focus (intro wq hRq;obtain ⟨⟨c0,c1,c2,c3⟩,_⟩:=hRq;go_simp;(try with_reducible rfl)));(try simp only [Act.put,bw7,bw8,bw9])
   refine tkS 71 (i:=8) (v:=?_) (fw:=3) hQ' hR rfl ?_ ?_;rotate_left;(focus (intro wq hRq;obtain ⟨⟨c0,c1,c2,c3⟩,_⟩:=hRq;go_simp;(try with_reducible rfl)));(try simp only [Act.put,bw7,bw8,bw9])
   refine tkS 72 (i:=9) (v:=?_) (fw:=3) hQ' hR rfl ?_ ?_;rotate_left;(focus (intro wq hRq;obtain ⟨⟨c0,c1,c2,c3⟩,_⟩:=hRq;go_simp;(try with_reducible rfl)));(try simp only [Act.put,bw7,bw8,bw9])
   refine tkS 6 (i:=10) (v:=?_) (fw:=3) hQ' hR rfl ?_ ?_;rotate_left;(focus (intro wq hRq;obtain ⟨⟨c0,c1,c2,c3⟩,_⟩:=hRq;go_simp;(try with_reducible rfl)));(try simp only [Act.put,bw7,bw8,bw9])
   refine tkS 7 (i:=11) (v:=?_) (fw:=3) hQ' hR rfl ?_ ?_;rotate_left;(focus (intro wq hRq;obtain ⟨⟨c0,c1,c2,c3⟩,_⟩:=hRq;go_simp;(try with_reducible rfl)));(try simp only [Act.put,bw7,bw8,bw9])
   refine tkS 8 (i:=12) (v:=?_) (fw:=3) hQ' hR rfl ?_ ?_;rotate_left;(focus (intro wq hRq;obtain ⟨⟨c0,c1,c2,c3⟩,_⟩:=hRq;go_simp;(try with_reducible rfl)));(try simp only [Act.put,bw7,bw8,bw9])
   refine wpAnyS_done (by kernel_rfl) ?_ _
   refine hN.out _ _ ?_
   go_wp2_with fail
   go_ret3
   exact ⟨by rw [HE.out.1,HE.out.2];rfl,hR.2⟩
  ·have hxb:(B.x == C.x)=false:=by simp [hx]
   have HE:=Lib.hid (show eLo B C=min B.x C.x∧eHi B C=max B.x C.x from ⟨if_neg hx,if_neg hx⟩)
   clear hx
   have hR:(wy.drew.cell? ⟨wd.heap.size,0,none⟩=some (.int .i64 B.x)∧wy.drew.cell? ⟨wd.heap.size,1,none⟩=some (.int .i64 B.y)∧wy.drew.cell? ⟨w14.heap.size,0,none⟩=some (.int .i64 C.x)∧wy.drew.cell? ⟨w14.heap.size,1,none⟩=some (.int .i64 C.y))∧Below w.heap.size w wy.drew:=⟨⟨x14,y14,x15,y15⟩,hBn.trans ((bw0 _ _).drew.mono hBn.size)⟩
   go_wp2_with fail
   refine region_S (F:=[]) (R:=(fun w'=>(w'.cell? ⟨wd.heap.size,0,none⟩=some (.int .i64 B.x)∧w'.cell? ⟨wd.heap.size,1,none⟩=some (.int .i64 B.y)∧w'.cell? ⟨w14.heap.size,0,none⟩=some (.int .i64 C.x)∧w'.cell? ⟨w14.heap.size,1,none⟩=some (.int .i64 C.y))∧Below w.heap.size w w')) 13 #[false,false,false,false,false,false,false,false,false,false,false,false,false] (by kernel_rfl) (by kernel_rfl) (by kernel_rfl) (fun _ _ _ _ _ h=>h) (fun Q' hQ' hN=>?_)
   generalize wy.drew=wz at *
   refine tkS 73 (i:=0) (v:=?_) (fw:=3) hQ' hR rfl ?_ ?_;rotate_left;(focus (intro wq hRq;obtain ⟨⟨c0,c1,c2,c3⟩,_⟩:=hRq;go_simp;(try with_reducible rfl)));(try simp only [Act.put,bw7,bw8,bw9])
   refine tkS 74 (i:=1) (v:=?_) (fw:=3) hQ' hR rfl ?_ ?_;rotate_left;(focus (intro wq hRq;obtain ⟨⟨c0,c1,c2,c3⟩,_⟩:=hRq;go_simp;(try with_reducible rfl)));(try simp only [Act.put,bw7,bw8,bw9])
   refine tkS 75 (i:=2) (v:=?_) (fw:=3) hQ' hR rfl ?_ ?_;rotate_left;(focus (intro wq hRq;obtain ⟨⟨c0,c1,c2,c3⟩,_⟩:=hRq;go_simp;(try with_reducible rfl)));(try simp only [Act.put,bw7,bw8,bw9])
   refine tkS 76 (i:=3) (v:=?_) (fw:=3) hQ' hR rfl ?_ ?_;rotate_left;(focus (intro wq hRq;obtain ⟨⟨c0,c1,c2,c3⟩,_⟩:=hRq;go_simp;(try with_reducible rfl)));(try simp only [Act.put,bw7,bw8,bw9])
   refine tkS 77 (i:=4) (v:=?_) (fw:=3) hQ' hR rfl ?_ ?_;rotate_left;(focus (intro wq hRq;obtain ⟨⟨c0,c1,c2,c3⟩,_⟩:=hRq;go_simp;(try with_reducible rfl)));(try simp only [Act.put,bw7,bw8,bw9])
   refine tkS 78 (i:=5) (v:=?_) (fw:=3) hQ' hR rfl ?_ ?_;rotate_left;(focus (intro wq hRq;obtain ⟨⟨c0,c1,c2,c3⟩,_⟩:=hRq;go_simp;(try with_reducible rfl)));(try simp only [Act.put,bw7,bw8,bw9])
   refine tkS 79 (i:=6) (v:=?_) (fw:=3) hQ' hR rfl ?_ ?_;rotate_left;(focus (intro wq hRq;obtain ⟨⟨c0,c1,c2,c3⟩,_⟩:=hRq;go_simp;(try with_reducible rfl)));(try simp only [Act.put,bw7,bw8,bw9])
   refine tkS 80 (i:=7) (v:=?_) (fw:=3) hQ' hR rfl ?_ ?_;rotate_left;(focus (intro wq hRq;obtain ⟨⟨c0,c1,c2,c3⟩,_⟩:=hRq;go_simp;(try with_reducible rfl)));(try simp only [Act.put,bw7,bw8,bw9])
   refine tkS 81 (i:=8) (v:=?_) (fw:=3) hQ' hR rfl ?_ ?_;rotate_left;(focus (intro wq hRq;obtain ⟨⟨c0,c1,c2,c3⟩,_⟩:=hRq;go_simp;(try with_reducible rfl)));(try simp only [Act.put,bw7,bw8,bw9])
   refine tkS 82 (i:=9) (v:=?_) (fw:=3) hQ' hR rfl ?_ ?_;rotate_left;(focus (intro wq hRq;obtain ⟨⟨c0,c1,c2,c3⟩,_⟩:=hRq;go_simp;(try with_reducible rfl)));(try simp only [Act.put,bw7,bw8,bw9])
   refine tkS 6 (i:=10) (v:=?_) (fw:=3) hQ' hR rfl ?_ ?_;rotate_left;(focus (intro wq hRq;obtain ⟨⟨c0,c1,c2,c3⟩,_⟩:=hRq;go_simp;(try with_reducible rfl)));(try simp only [Act.put,bw7,bw8,bw9])
   refine tkS 7 (i:=11) (v:=?_) (fw:=3) hQ' hR rfl ?_ ?_;rotate_left;(focus (intro wq hRq;obtain ⟨⟨c0,c1,c2,c3⟩,_⟩:=hRq;go_simp;(try with_reducible rfl)));(try simp only [Act.put,bw7,bw8,bw9])
   refine tkS 8 (i:=12) (v:=?_) (fw:=3) hQ' hR rfl ?_ ?_;rotate_left;(focus (intro wq hRq;obtain ⟨⟨c0,c1,c2,c3⟩,_⟩:=hRq;go_simp;(try with_reducible rfl)));(try simp only [Act.put,bw7,bw8,bw9])
   refine wpAnyS_done (by kernel_rfl) ?_ _
   refine hN.out _ _ ?_
   go_wp2_with fail
   go_ret3
   exact ⟨by rw [HE.out.1,HE.out.2];rfl,hR.2⟩
 ·have hq15:=hR.2.2.2
  have hh15:=hR.2.2.1.size
  go_simp
  refine after_alloc (fun w15 hB' hb15 hz15=>?_)
  have hb15:BoxS w15 _ S0:=hb15
  have hR:SideAt w15 bs (os+n * 7) B∧SideAt w15 bs (os+m * 7) C∧Below w.heap.size w w15∧bs < w15.heap.size:=⟨hR.1.below hB',hR.2.1.below hB',below_trans' hR.2.2.1 hB',Nat.lt_of_lt_of_le hR.2.2.2 hB'.size⟩
  clear hB'
  refine hK.out _ _ hR ?_
  clear hK K
  (try simp only [Act.put,bw7,bw8,bw9])
  refine wpAnyS_ready (rs:=[8]) (by kernel_rfl) (by simp) ?_
  refine stepR (i:=8) rfl (by kernel_rfl) (fun K hK=>?_) (AllReadyS.nil)
  have hq14:=hR.2.2.2
  have hh14:=hR.2.2.1.size
  go_simp
  refine after_alloc (fun w14 hB' hb14 hz14=>?_)
  have hb14:BoxS w14 _ S0:=hb14
  have hb15:=hb15.below hB'
  have hR:SideAt w14 bs (os+n * 7) B∧SideAt w14 bs (os+m * 7) C∧Below w.heap.size w w14∧bs < w14.heap.size:=⟨hR.1.below hB',hR.2.1.below hB',below_trans' hR.2.2.1 hB',Nat.lt_of_lt_of_le hR.2.2.2 hB'.size⟩
  clear hB'
  refine hK.out _ _ hR ?_
  clear hK K
  (try simp only [Act.put,bw7,bw8,bw9])
  refine wpAnyS_ready (rs:=[10]) (by kernel_rfl) (by simp) ?_
  refine stepR (i:=10) rfl (by kernel_rfl) (fun K hK=>?_) (AllReadyS.nil)
  refine wp_store7 _ _ rfl B hb14 rfl rfl (fun wx hS hb14=>?_)
  have hb15:=hb15.but hS (by omega)
  have hR:SideAt wx bs (os+n * 7) B∧SideAt wx bs (os+m * 7) C∧Below w.heap.size w wx∧bs < wx.heap.size:=⟨hR.1.but hS (by omega),hR.2.1.but hS (by omega),hS.below hR.2.2.1 (by omega),by rw [hS.size];exact hR.2.2.2⟩
  clear hS
  refine hK.out _ _ hR ?_
  clear hK K
  (try simp only [Act.put,bw7,bw8,bw9])
  refine wpAnyS_ready (rs:=[11]) (by kernel_rfl) (by simp) ?_
  refine stepF (i:=11) rfl (by kernel_rfl) (by kernel_rfl) (fun K hK=>?_) (AllReadyS.nil)
  refine wp_store7 _ _ rfl C hb15 rfl rfl (fun wy hS hb15=>?_)
  have hb14:=hb14.but hS (by omega)
  have hBn:=hS.below hR.2.2.1 (by omega)
  clear hS
  refine hK.out _ _ ?_
  clear hK K
  (try simp only [Act.put,bw7,bw8,bw9])
  refine wpAnyS_done (by kernel_rfl) ?_ _
  refine hN.out _ _ ?_
  obtain ⟨x14,y14⟩:=hb14.xy
  obtain ⟨x15,y15⟩:=hb15.xy
  clear hR
  by_cases hx:B.x=C.x
  ·have hxb:(B.x == C.x)=true:=by simp [hx]
   have HE:=Lib.hid (show eLo B C=min B.y C.y∧eHi B C=max B.y C.y from ⟨if_pos hx,if_pos hx⟩)
   clear hx
   have hR:(wy.drew.cell? ⟨w15.heap.size,0,none⟩=some (.int .i64 B.x)∧wy.drew.cell? ⟨w15.heap.size,1,none⟩=some (.int .i64 B.y)∧wy.drew.cell? ⟨wd.heap.size,0,none⟩=some (.int .i64 C.x)∧wy.drew.cell? ⟨wd.heap.size,1,none⟩=some (.int .i64 C.y))∧Below w.heap.size w wy.drew:=⟨⟨x14,y14,x15,y15⟩,hBn.trans ((bw0 _ _).drew.mono hBn.size)⟩
   go_wp2_with fail
   refine region_S (F:=[]) (R:=(fun w'=>(w'.cell? ⟨w15.heap.size,0,none⟩=some (.int .i64 B.x)∧w'.cell? ⟨w15.heap.size,1,none⟩=some (.int .i64 B.y)∧w'.cell? ⟨wd.heap.size,0,none⟩=some (.int .i64 C.x)∧w'.cell? ⟨wd.heap.size,1,none⟩=some (.int .i64 C.y))∧Below w.heap.size w w')) 13 #[false,false,false,false,false,false,false,false,false,false,false,false,false] (by kernel_rfl) (by kernel_rfl) (by kernel_rfl) (fun _ _ _ _ _ h=>h) (fun Q' hQ' hN=>?_)
   generalize wy.drew=wz at *
   refine tkS 63 (i:=0) (v:=?_) (fw:=3) hQ' hR rfl ?_ ?_;rotate_left;(focus (intro wq hRq;obtain ⟨⟨c0,c1,c2,c3⟩,_⟩:=hRq;go_simp;(try with_reducible rfl)));(try simp only [Act.put,bw7,bw8,bw9])
   refine tkS 64 (i:=1) (v:=?_) (fw:=3) hQ' hR rfl ?_ ?_;rotate_left;(focus (intro wq hRq;obtain ⟨⟨c0,c1,c2,c3⟩,_⟩:=hRq;go_simp;(try with_reducible rfl)));(try simp only [Act.put,bw7,bw8,bw9])
   refine tkS 65 (i:=2) (v:=?_) (fw:=3) hQ' hR rfl ?_ ?_;rotate_left;(focus (intro wq hRq;obtain ⟨⟨c0,c1,c2,c3⟩,_⟩:=hRq;go_simp;(try with_reducible rfl)));(try simp only [Act.put,bw7,bw8,bw9])
   refine tkS 66 (i:=3) (v:=?_) (fw:=3) hQ' hR rfl ?_ ?_;rotate_left;(focus (intro wq hRq;obtain ⟨⟨c0,c1,c2,c3⟩,_⟩:=hRq;go_simp;(try with_reducible rfl)));(try simp only [Act.put,bw7,bw8,bw9])
   refine tkS 67 (i:=4) (v:=?_) (fw:=3) hQ' hR rfl ?_ ?_;rotate_left;(focus (intro wq hRq;obtain ⟨⟨c0,c1,c2,c3⟩,_⟩:=hRq;go_simp;(try with_reducible rfl)));(try simp only [Act.put,bw7,bw8,bw9])
   refine tkS 68 (i:=5) (v:=?_) (fw:=3) hQ' hR rfl ?_ ?_;rotate_left;(focus (intro wq hRq;obtain ⟨⟨c0,c1,c2,c3⟩,_⟩:=hRq;go_simp;(try with_reducible rfl)));(try simp only [Act.put,bw7,bw8,bw9])
   refine tkS 69 (i:=6) (v:=?_) (fw:=3) hQ' hR rfl ?_ ?_;rotate_left;(focus (intro wq hRq;obtain ⟨⟨c0,c1,c2,c3⟩,_⟩:=hRq;go_simp;(try with_reducible rfl)));(try simp only [Act.put,bw7,bw8,bw9])
   refine tkS 70 (i:=7) (v:=?_) (fw:=3) hQ' hR rfl ?_ ?_;rotate_left;(focus (intro wq hRq;obtain ⟨⟨c0,c1,c2,c3⟩,_⟩:=hRq;go_simp;(try with_reducible rfl)));(try simp only [Act.put,bw7,bw8,bw9])
   refine tkS 71 (i:=8) (v:=?_) (fw:=3) hQ' hR rfl ?_ ?_;rotate_left;(focus (intro wq hRq;obtain ⟨⟨c0,c1,c2,c3⟩,_⟩:=hRq;go_simp;(try with_reducible rfl)));(try simp only [Act.put,bw7,bw8,bw9])
   refine tkS 72 (i:=9) (v:=?_) (fw:=3) hQ' hR rfl ?_ ?_;rotate_left;(focus (intro wq hRq;obtain ⟨⟨c0,c1,c2,c3⟩,_⟩:=hRq;go_simp;(try with_reducible rfl)));(try simp only [Act.put,bw7,bw8,bw9])
   refine tkS 6 (i:=10) (v:=?_) (fw:=3) hQ' hR rfl ?_ ?_;rotate_left;(focus (intro wq hRq;obtain ⟨⟨c0,c1,c2,c3⟩,_⟩:=hRq;go_simp;(try with_reducible rfl)));(try simp only [Act.put,bw7,bw8,bw9])
   refine tkS 7 (i:=11) (v:=?_) (fw:=3) hQ' hR rfl ?_ ?_;rotate_left;(focus (intro wq hRq;obtain ⟨⟨c0,c1,c2,c3⟩,_⟩:=hRq;go_simp;(try with_reducible rfl)));(try simp only [Act.put,bw7,bw8,bw9])
   refine tkS 8 (i:=12) (v:=?_) (fw:=3) hQ' hR rfl ?_ ?_;rotate_left;(focus (intro wq hRq;obtain ⟨⟨c0,c1,c2,c3⟩,_⟩:=hRq;go_simp;(try with_reducible rfl)));(try simp only [Act.put,bw7,bw8,bw9])
   refine wpAnyS_done (by kernel_rfl) ?_ _
   refine hN.out _ _ ?_
   go_wp2_with fail
   go_ret3
   exact ⟨by rw [HE.out.1,HE.out.2];rfl,hR.2⟩
  ·have hxb:(B.x == C.x)=false:=by simp [hx]
   have HE:=Lib.hid (show eLo B C=min B.x C.x∧eHi B C=max B.x C.x from ⟨if_neg hx,if_neg hx⟩)
   clear hx
   have hR:(wy.drew.cell? ⟨w15.heap.size,0,none⟩=some (.int .i64 B.x)∧wy.drew.cell? ⟨w15.heap.size,1,none⟩=some (.int .i64 B.y)∧wy.drew.cell? ⟨wd.heap.size,0,none⟩=some (.int .i64 C.x)∧wy.drew.cell? ⟨wd.heap.size,1,none⟩=some (.int .i64 C.y))∧Below w.heap.size w wy.drew:=⟨⟨x14,y14,x15,y15⟩,hBn.trans ((bw0 _ _).drew.mono hBn.size)⟩
   go_wp2_with fail
   refine region_S (F:=[]) (R:=(fun w'=>(w'.cell? ⟨w15.heap.size,0,none⟩=some (.int .i64 B.x)∧w'.cell? ⟨w15.heap.size,1,none⟩=some (.int .i64 B.y)∧w'.cell? ⟨wd.heap.size,0,none⟩=some (.int .i64 C.x)∧w'.cell? ⟨wd.heap.size,1,none⟩=some (.int .i64 C.y))∧Below w.heap.size w w')) 13 #[false,false,false,false,false,false,false,false,false,false,false,false,false] (by kernel_rfl) (by kernel_rfl) (by kernel_rfl) (fun _ _ _ _ _ h=>h) (fun Q' hQ' hN=>?_)
   generalize wy.drew=wz at *
   refine tkS 73 (i:=0) (v:=?_) (fw:=3) hQ' hR rfl ?_ ?_;rotate_left;(focus (intro wq hRq;obtain ⟨⟨c0,c1,c2,c3⟩,_⟩:=hRq;go_simp;(try with_reducible rfl)));(try simp only [Act.put,bw7,bw8,bw9])
   refine tkS 74 (i:=1) (v:=?_) (fw:=3) hQ' hR rfl ?_ ?_;rotate_left;(focus (intro wq hRq;obtain ⟨⟨c0,c1,c2,c3⟩,_⟩:=hRq;go_simp;(try with_reducible rfl)));(try simp only [Act.put,bw7,bw8,bw9])
   refine tkS 75 (i:=2) (v:=?_) (fw:=3) hQ' hR rfl ?_ ?_;rotate_left;(focus (intro wq hRq;obtain ⟨⟨c0,c1,c2,c3⟩,_⟩:=hRq;go_simp;(try with_reducible rfl)));(try simp only [Act.put,bw7,bw8,bw9])
   refine tkS 76 (i:=3) (v:=?_) (fw:=3) hQ' hR rfl ?_ ?_;rotate_left;(focus (intro wq hRq;obtain ⟨⟨c0,c1,c2,c3⟩,_⟩:=hRq;go_simp;(try with_reducible rfl)));(try simp only [Act.put,bw7,bw8,bw9])
   refine tkS 77 (i:=4) (v:=?_) (fw:=3) hQ' hR rfl ?_ ?_;rotate_left;(focus (intro wq hRq;obtain ⟨⟨c0,c1,c2,c3⟩,_⟩:=hRq;go_simp;(try with_reducible rfl)));(try simp only [Act.put,bw7,bw8,bw9])
   refine tkS 78 (i:=5) (v:=?_) (fw:=3) hQ' hR rfl ?_ ?_;rotate_left;(focus (intro wq hRq;obtain ⟨⟨c0,c1,c2,c3⟩,_⟩:=hRq;go_simp;(try with_reducible rfl)));(try simp only [Act.put,bw7,bw8,bw9])
   refine tkS 79 (i:=6) (v:=?_) (fw:=3) hQ' hR rfl ?_ ?_;rotate_left;(focus (intro wq hRq;obtain ⟨⟨c0,c1,c2,c3⟩,_⟩:=hRq;go_simp;(try with_reducible rfl)));(try simp only [Act.put,bw7,bw8,bw9])
   refine tkS 80 (i:=7) (v:=?_) (fw:=3) hQ' hR rfl ?_ ?_;rotate_left;(focus (intro wq hRq;obtain ⟨⟨c0,c1,c2,c3⟩,_⟩:=hRq;go_simp;(try with_reducible rfl)));(try simp only [Act.put,bw7,bw8,bw9])
   refine tkS 81 (i:=8) (v:=?_) (fw:=3) hQ' hR rfl ?_ ?_;rotate_left;(focus (intro wq hRq;obtain ⟨⟨c0,c1,c2,c3⟩,_⟩:=hRq;go_simp;(try with_reducible rfl)));(try simp only [Act.put,bw7,bw8,bw9])
   refine tkS 82 (i:=9) (v:=?_) (fw:=3) hQ' hR rfl ?_ ?_;rotate_left;(focus (intro wq hRq;obtain ⟨⟨c0,c1,c2,c3⟩,_⟩:=hRq;go_simp;(try with_reducible rfl)));(try simp only [Act.put,bw7,bw8,bw9])
   refine tkS 6 (i:=10) (v:=?_) (fw:=3) hQ' hR rfl ?_ ?_;rotate_left;(focus (intro wq hRq;obtain ⟨⟨c0,c1,c2,c3⟩,_⟩:=hRq;go_simp;(try with_reducible rfl)));(try simp only [Act.put,bw7,bw8,bw9])
   refine tkS 7 (i:=11) (v:=?_) (fw:=3) hQ' hR rfl ?_ ?_;rotate_left;(focus (intro wq hRq;obtain ⟨⟨c0,c1,c2,c3⟩,_⟩:=hRq;go_simp;(try with_reducible rfl)));(try simp only [Act.put,bw7,bw8,bw9])
   refine tkS 8 (i:=12) (v:=?_) (fw:=3) hQ' hR rfl ?_ ?_;rotate_left;(focus (intro wq hRq;obtain ⟨⟨c0,c1,c2,c3⟩,_⟩:=hRq;go_simp;(try with_reducible rfl)));(try simp only [Act.put,bw7,bw8,bw9])
   refine wpAnyS_done (by kernel_rfl) ?_ _
   refine hN.out _ _ ?_
   go_wp2_with fail
   go_ret3
   exact ⟨by rw [HE.out.1,HE.out.2];rfl,hR.2⟩
end Go.Proofs.YteepphiomcedfaaGreatDoor
