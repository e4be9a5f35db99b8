/- Joined texts: WRebuild. -/
import Derived.Test.YtbbclfbpllbbbaaGreatDoorJ12
import Derived.Test.YtbbclfbpllbbbaaGreatDoorJ03
set_option maxRecDepth 100000
set_option linter.unusedVariables false
set_option linter.unusedSimpArgs false
set_option maxHeartbeats 12800000
namespace Go.Proofs.YtbbclfbpllbbbaaGreatDoor
open Go.RowKit Go.Shelf
attribute [local go_sem] Oper.semAt_some
theorem RetN.b {q:Rat} {w:World} {e:Ending} {w':World} (h:RetN q w e w'):RetB (.tuple #[.string (numS q),.int .i64 0]) w e w':=by
 obtain ⟨r,hr,he,hB⟩:=h
 obtain rfl:=numS_of hr
 exact ⟨he,hB⟩
def BoxT3 (t:TypeId) (W:World) (b:Nat) (x y z:Value):Prop:=W.heap[b]?=some (.cells #[x,y,z] t (0,0))
theorem BoxT3.lt {t:TypeId} {W:World} {b:Nat} {x y z:Value} (h:BoxT3 t W b x y z):b < W.heap.size:=(Array.getElem?_eq_some_iff.1 h).1
theorem BoxT3.below {t:TypeId} {w w':World} {b:Nat} {x y z:Value} (h:BoxT3 t w b x y z) (hB:Below w.heap.size w w'):BoxT3 t w' b x y z:=(hB.block b h.lt).trans h
theorem BoxT3.c0 {t:TypeId} {W:World} {b:Nat} {x y z:Value} (h:BoxT3 t W b x y z):W.cell? ⟨b,0,none⟩=some x:=by simp only [World.cell?,show W.heap[b]?=_ from h];rfl
theorem BoxT3.c1 {t:TypeId} {W:World} {b:Nat} {x y z:Value} (h:BoxT3 t W b x y z):W.cell? ⟨b,1,none⟩=some y:=by simp only [World.cell?,show W.heap[b]?=_ from h];rfl
theorem BoxT3.c2 {t:TypeId} {W:World} {b:Nat} {x y z:Value} (h:BoxT3 t W b x y z):W.cell? ⟨b,2,none⟩=some z:=by simp only [World.cell?,show W.heap[b]?=_ from h];rfl
theorem BoxT3.new {t:TypeId} {X:World} {n:Nat} {x y z:Value} (h:X.heap.size=n):BoxT3 t (X.alloc (.cells #[x,y,z] t)) n x y z:=by subst h;exact World.alloc_heap_new _ _
theorem BoxT3.but {t:TypeId} {W W':World} {b c:Nat} {x y z:Value} (h:BoxT3 t W b x y z) (hs:SameBut c W W') (hne:b≠c):BoxT3 t W' b x y z:=(hs.block b hne).trans h
theorem wp_store3 {P:Program} {o:Oper} {a:Act} {Q:Exit→Act→World→Prop} {K:Act→World→Prop} (ty:TypeId) (p x:Operand) (ho:o.op=.store ty p x) {w:World} {b:Nat} {x0 y0 z0 x1 y1 z1:Value} (hA:BoxT3 ty w b x0 y0 z0)
  (hi:(P.info? ty).map (·.size)=some 3) (h1:x1.oneCell'=true) (h2:y1.oneCell'=true) (h3:z1.oneCell'=true) (hp:a.eval p=.pointer (some ⟨b,0,none⟩)) (hx:a.eval x=.agg #[x1,y1,z1]) (h:∀ W,SameBut b w W→BoxT3 ty W b x1 y1 z1→K (a.put o.dst undef) W):o.wp P a w K Q:=by
 have hrow:=run_storeVar_row (P:=P) w b ty ty #[x0,y0,z0] #[x1,y1,z1] hA hi rfl (by simp [h1,h2,h3])
 unfold Oper.wp execOp
 rw [ho]
 simp only [hp,hx,Sem.run_bind,Instr.storeAt,Instr.sureAddr,Sem.run_pure,Result.andThen_ok,hrow]
 exact h _ (setRow_sameBut _ _ _) (setRow_at hA)
theorem wpList_store3 {P:Program} {ops:Array Oper} {rest:List Oper} {o:Oper} {a:Act} {w:World} {Q:Exit→Act→World→Prop} (hgd:o.guard=none) (ty:TypeId) (p x:Operand) (ho:o.op=.store ty p x)
  {b:Nat} {x0 y0 z0 x1 y1 z1:Value} (hA:BoxT3 ty w b x0 y0 z0) (hi:(P.info? ty).map (·.size)=some 3) (h1:x1.oneCell'=true) (h2:y1.oneCell'=true) (h3:z1.oneCell'=true) (hp:a.eval p=.pointer (some ⟨b,0,none⟩)) (hx:a.eval x=.agg #[x1,y1,z1])
  (h:∀ W,SameBut b w W→BoxT3 ty W b x1 y1 z1→wpList P ops Q rest (a.put o.dst undef) W):wpList P ops Q (o::rest) a w :=
 wpList_plain hgd fun _ hK=>wp_store3 ty p x ho hA hi h1 h2 h3 hp hx fun W h2 h3=>hK _ _ (h W h2 h3)
theorem Tryz.infoMark:(Tryz.prog.info? 41).map (·.size)=some 3:=by kernel_rfl
theorem IsTerms.butM {w w':World} {v:Value} {L:TTexts} {b:Nat} {t:TypeId} {a1 a2 a3:Option Addr} {n1 n2 n3 c1 c2 c3:Nat} (h:IsTerms w v L) (hb:BoxT3 t w b (.slice a1 n1 c1) (.slice a2 n2 c2) (.slice a3 n3 c3)) (hs:SameBut b w w'):IsTerms w' v L:=by
 obtain ⟨a,cap,e,hc,hk⟩:=h
 refine ⟨a,cap,e,hc,fun hn=>?_⟩
 obtain ⟨g,off,e2,hcell⟩:=hk hn
 have hL:0 < L.length:=List.length_pos_iff.2 hn
 have hne:g≠b:=by
  rintro rfl
  have h1:=(hcell 0 hL).1
  simp only [World.cell?,show w.heap[g]?=_ from hb] at h1
  simp only [Option.isSome_none,Bool.false_eq_true,if_false] at h1
  have h2:off+0 * 2=0∨off+0 * 2=1∨off+0 * 2=2∨3≤off+0 * 2:=by omega
  rcases h2 with h2|h2|h2|h2
  ·rw [h2] at h1;simp at h1
  ·rw [h2] at h1;simp at h1
  ·rw [h2] at h1;simp at h1
  ·rw [Array.getElem?_eq_none (by simpa using h2)] at h1;cases h1
 refine ⟨g,off,e2,fun k hk=>?_⟩
 obtain ⟨d0,d1⟩:=hcell k hk
 exact ⟨(World.cell?_of_block (hs.block g hne)).trans d0,(World.cell?_of_block (hs.block g hne)).trans d1⟩
theorem rb_end {w w11 wn wx:World} {cb rb bx:Nat} {x y z:Value} {X Y Z:TTexts} (hb:Below w.heap.size w w11) (hR:Below w11.heap.size w11 wn) (xc:CBox wn cb) (x2:BoxT3 41 wn rb (.slice none 0 0) (.slice none 0 0) (.slice none 0 0)) (hS:SameBut bx wn wx)
  (hbx:BoxT3 41 wn bx (.slice none 0 0) (.slice none 0 0) (.slice none 0 0)) (hbw:w11.heap.size≤bx) (hc:cb < w11.heap.size) (hr:rb < w11.heap.size) (hx:IsTerms wn x X) (hy:IsTerms wn y Y) (hz:IsTerms wn z Z) :
  Below w.heap.size w wx∧CBox wx cb∧BoxT3 41 wx rb (.slice none 0 0) (.slice none 0 0) (.slice none 0 0)∧IsTerms wx x X∧IsTerms wx y Y∧IsTerms wx z Z:=by
 have h1:=hb.size
 exact ⟨hS.below (below_trans' hb hR) (by omega),BoxT1.but xc hS (by omega),x2.but hS (by omega),hx.butM hbx hS,hy.butM hbx hS,hz.butM hbx hS⟩
def RetMk (X Y Z:TTexts) (w:World) (e:Ending) (w':World):Prop:=∃ x y z,e=.returned (.tuple #[.agg #[x,y,z],.int .i64 0])∧IsTerms w' x X∧IsTerms w' y Y∧IsTerms w' z Z∧Below w.heap.size w w'
theorem rebuild_walk (fx fy fz ax ay az sc sr s2 s3 sq s4 sxx syy sh:ByteArray) (L M LW LH LR LF LX1 LX LY1 LY LZ1 LZ:TTexts) (u v:Value) (w:World) (hu:IsTerms w u L) (hv:IsTerms w v M) (hM:M.length≤1)
  (HST:Calls Tryz.prog 47 #[.agg #[.string fx,.string fy,.string fz],.agg #[.string ax,.string ay,.string az],u,v] ((w.alloc (.cells #[.string fx,.string fy,.string fz] 37)).alloc (.cells #[.string ax,.string ay,.string az] 37) |>.alloc (.cells #[.slice none 0 0,.slice none 0 0,.slice none 0 0] 41)) (RetB (.int .i64 0) ((w.alloc (.cells #[.string fx,.string fy,.string fz] 37)).alloc (.cells #[.string ax,.string ay,.string az] 37) |>.alloc (.cells #[.slice none 0 0,.slice none 0 0,.slice none 0 0] 41))))
  (HM0:M.length=0→sq=⟨#[48]⟩) (HM1:M.length=1→tt M 0=(sc,sr)∧sq=s3)
  (H38:∀ W,Below w.heap.size w W→Calls Tryz.prog 49 #[.string sc,.string sc] W (RetB (.tuple #[.string s2,.int .i64 0]) W))
  (H46:∀ W,Below w.heap.size w W→Calls Tryz.prog 49 #[.string s2,.string sr] W (RetB (.tuple #[.string s3,.int .i64 0]) W))
  (H51:∀ W,Below w.heap.size w W→Calls Tryz.prog 51 #[.string ⟨#[49]⟩,.string sq] W (RetB (.tuple #[.string s4,.int .i64 0]) W))
  (HRW:∀ W b,Below w.heap.size w W→CBox W b→Calls Tryz.prog 50 #[.pointer (some ⟨b,0,none⟩),.string s4] W (RetT1 LW W))
  (H60:∀ W,Below w.heap.size w W→Calls Tryz.prog 49 #[.string ax,.string ax] W (RetB (.tuple #[.string sxx,.int .i64 0]) W))
  (H68:∀ W,Below w.heap.size w W→Calls Tryz.prog 49 #[.string ay,.string ay] W (RetB (.tuple #[.string syy,.int .i64 0]) W))
  (H72:∀ W,Below w.heap.size w W→Calls Tryz.prog 51 #[.string sxx,.string syy] W (RetB (.tuple #[.string sh,.int .i64 0]) W))
  (HRH:∀ W b,Below w.heap.size w W→CBox W b→Calls Tryz.prog 50 #[.pointer (some ⟨b,0,none⟩),.string sh] W (RetT1 LH W))
  (H79:∀ W x y,Below w.heap.size w W→IsTerms W x L→IsTerms W y LW→Calls Tryz.prog 53 #[x,y] W (RetSd LR W))
  (H85:∀ W x y,Below w.heap.size w W→IsTerms W x LR→IsTerms W y LH→Calls Tryz.prog 53 #[x,y] W (RetSd LF W))
  (H94:∀ W x,Below w.heap.size w W→IsTerms W x LF→Calls Tryz.prog 18 #[x,.string ax] W (RetSd LX1 W))
  (H98:∀ W b x,Below w.heap.size w W→CBox W b→IsTerms W x LX1→Calls Tryz.prog 54 #[.pointer (some ⟨b,0,none⟩),.string fx,x] W (RetT1 LX W))
  (H104:∀ W x,Below w.heap.size w W→IsTerms W x LF→Calls Tryz.prog 18 #[x,.string ay] W (RetSd LY1 W))
  (H108:∀ W b x,Below w.heap.size w W→CBox W b→IsTerms W x LY1→Calls Tryz.prog 54 #[.pointer (some ⟨b,0,none⟩),.string fy,x] W (RetT1 LY W))
  (H113:∀ W x y,Below w.heap.size w W→IsTerms W x LR→IsTerms W y M→Calls Tryz.prog 53 #[x,y] W (RetSd LZ1 W))
  (H117:∀ W b x,Below w.heap.size w W→CBox W b→IsTerms W x LZ1→Calls Tryz.prog 54 #[.pointer (some ⟨b,0,none⟩),.string fz,x] W (RetT1 LZ W)) :
  Calls Tryz.prog 17 #[.agg #[.string fx,.string fy,.string fz],.agg #[.string ax,.string ay,.string az],u,v] w (RetMk LX LY LZ w):=by
 have HKE:=Lib.hid (fun b a n c W hc=>keep_ok b a n c W hc)
 have HNU:=Lib.hid (fun b s W hc=>num_ok b s W hc)
 replace HST:=Lib.hid HST
 replace HM0:=Lib.hid HM0
 replace HM1:=Lib.hid HM1
 replace H38:=Lib.hid H38
 replace H46:=Lib.hid H46
 replace H51:=Lib.hid H51
 replace HRW:=Lib.hid HRW
 replace H60:=Lib.hid H60
 replace H68:=Lib.hid H68
 replace H72:=Lib.hid H72
 replace HRH:=Lib.hid HRH
 replace H79:=Lib.hid H79
 replace H85:=Lib.hid H85
 replace H94:=Lib.hid H94
 replace H98:=Lib.hid H98
 replace H104:=Lib.hid H104
 replace H108:=Lib.hid H108
 replace H113:=Lib.hid H113
 replace H117:=Lib.hid H117
 have HU:=Lib.hid hu
 have HV:=Lib.hid hv
 obtain ⟨ua,uc,rfl,_,_⟩:=hu
 obtain ⟨va,vc,rfl,_,hvc⟩:=hv
 have HVC:=Lib.hid hvc
 clear hvc
 go_enter Tryz.func17,Tryz.ntmps17
 go_wp2_with fail
 have hb0:Below w.heap.size w (((w.alloc (.cells #[.string fx,.string fy,.string fz] 37)).alloc (.cells #[.string ax,.string ay,.string az] 37)).alloc (.cells #[.slice none 0 0,.slice none 0 0,.slice none 0 0] 41)):=qbl
 have x0:BoxT3 37 (((w.alloc (.cells #[.string fx,.string fy,.string fz] 37)).alloc (.cells #[.string ax,.string ay,.string az] 37)).alloc (.cells #[.slice none 0 0,.slice none 0 0,.slice none 0 0] 41)) w.heap.size (.string fx) (.string fy) (.string fz):=((BoxT3.new rfl).below (bw4 (bw0 _ _) _)).below (bw4 (bw0 _ _) _)
 have x1:BoxT3 37 (((w.alloc (.cells #[.string fx,.string fy,.string fz] 37)).alloc (.cells #[.string ax,.string ay,.string az] 37)).alloc (.cells #[.slice none 0 0,.slice none 0 0,.slice none 0 0] 41)) (w.heap.size+1) (.string ax) (.string ay) (.string az):=(BoxT3.new (by simp)).below (bw4 (bw0 _ _) _)
 have x2:BoxT3 41 (((w.alloc (.cells #[.string fx,.string fy,.string fz] 37)).alloc (.cells #[.string ax,.string ay,.string az] 37)).alloc (.cells #[.slice none 0 0,.slice none 0 0,.slice none 0 0] 41)) (w.heap.size+2) (.slice none 0 0) (.slice none 0 0) (.slice none 0 0):=BoxT3.new (by simp)
 generalize (((w.alloc (.cells #[.string fx,.string fy,.string fz] 37)).alloc (.cells #[.string ax,.string ay,.string az] 37)).alloc (.cells #[.slice none 0 0,.slice none 0 0,.slice none 0 0] 41))=WA at *
 refine HST.out.mono ?_
 rintro e w1 ⟨rfl,hB1⟩
 have hb1:=below_trans' hb0 hB1
 replace x0:=x0.below hB1
 replace x1:=x1.below hB1
 replace x2:=x2.below hB1
 clear hB1 hb0 HST
 go_upto_if 29 with fail
 have hB2:Below w1.heap.size w1 (w1.alloc (.cells #[.bool false] 103)):=bw4 (bw0 _ _) _
 have hb2:=below_trans' hb1 hB2
 replace x0:=x0.below hB2
 replace x1:=x1.below hB2
 replace x2:=x2.below hB2
 have xc:CBox (w1.alloc (.cells #[.bool false] 103)) w1.heap.size:=BoxT1.new rfl
 clear hB2 hb1
 generalize w1.alloc (.cells #[.bool false] 103)=W0 at *
 generalize w1.heap.size=cb at *
 go_cut [12] (fun t wx=>t=.string sq∧Below W0.heap.size W0 wx)
 case first =>
  by_cases hm1:M.length=1
  ·obtain ⟨g1,g2⟩:=HM1.out hm1
   obtain ⟨b,off,rfl,hcell⟩:=HVC.out (fun h=>by rw [h] at hm1;cases hm1)
   obtain ⟨d0,d1⟩:=(hcell 0 (by omega)).below (w':=W0) hb2
   rw [g1] at d0 d1
   have d0':W0.cell? ⟨b,off,none⟩=some (.string sc):=by simpa using d0
   have d1':W0.cell? ⟨b,off+1,none⟩=some (.string sr):=by simpa using d1
   have hmb:((M.length:Int) == 1)=true:=by rw [hm1];decide
   have hmi:0 < M.length:=by omega
   have HG2:=Lib.hid g2
   clear hcell d0 d1 g1 hm1 hM HM0 HM1 g2
   go_wp2_with fail
   have hR:Below W0.heap.size W0 W0.drew:=(bw0 _ _).drew
   refine region_S (F:=[]) (R:=(fun w'=>Below W0.heap.size W0 w')) 21 #[false,false,false,false,false,false,false,false,false,false,false,false,false,false,false,false,false,false,false,false,false] (by kernel_rfl) (by kernel_rfl) (by kernel_rfl) (fun _ _ _ _ _ h=>h) (fun Q' hQ' hN=>?_)
   generalize W0.drew=wd at *
   refine tkS 30 (i:=0) (v:=?_) (fw:=5) hQ' hR rfl ?_ ?_;rotate_left;(focus (intro wq hRq;have e0:=keep hRq d0';have e1:=keep hRq d1';go_simp;(try with_reducible rfl)));(try simp only [Act.put,bw7,bw8,bw9])
   refine tkS 31 (i:=1) (v:=?_) (fw:=5) hQ' hR rfl ?_ ?_;rotate_left;(focus (intro wq hRq;have e0:=keep hRq d0';have e1:=keep hRq d1';go_simp;(try with_reducible rfl)));(try simp only [Act.put,bw7,bw8,bw9])
   refine tkS 32 (i:=2) (v:=?_) (fw:=5) hQ' hR rfl ?_ ?_;rotate_left;(focus (intro wq hRq;have e0:=keep hRq d0';have e1:=keep hRq d1';go_simp;(try with_reducible rfl)));(try simp only [Act.put,bw7,bw8,bw9])
   refine tkS 33 (i:=3) (v:=?_) (fw:=5) hQ' hR rfl ?_ ?_;rotate_left;(focus (intro wq hRq;have e0:=keep hRq d0';have e1:=keep hRq d1';go_simp;(try with_reducible rfl)));(try simp only [Act.put,bw7,bw8,bw9])
   refine tkS 34 (i:=4) (v:=?_) (fw:=5) hQ' hR rfl ?_ ?_;rotate_left;(focus (intro wq hRq;have e0:=keep hRq d0';have e1:=keep hRq d1';go_simp;(try with_reducible rfl)));(try simp only [Act.put,bw7,bw8,bw9])
   refine tkS 35 (i:=5) (v:=?_) (fw:=5) hQ' hR rfl ?_ ?_;rotate_left;(focus (intro wq hRq;have e0:=keep hRq d0';have e1:=keep hRq d1';go_simp;(try with_reducible rfl)));(try simp only [Act.put,bw7,bw8,bw9])
   refine tkS 36 (i:=6) (v:=?_) (fw:=5) hQ' hR rfl ?_ ?_;rotate_left;(focus (intro wq hRq;have e0:=keep hRq d0';have e1:=keep hRq d1';go_simp;(try with_reducible rfl)));(try simp only [Act.put,bw7,bw8,bw9])
   refine tkS 37 (i:=7) (v:=?_) (fw:=5) hQ' hR rfl ?_ ?_;rotate_left;(focus (intro wq hRq;have e0:=keep hRq d0';have e1:=keep hRq d1';go_simp;(try with_reducible rfl)));(try simp only [Act.put,bw7,bw8,bw9])
   refine tkS 42 (i:=12) (v:=?_) (fw:=5) hQ' hR rfl ?_ ?_;rotate_left;(focus (intro wq hRq;have e0:=keep hRq d0';have e1:=keep hRq d1';go_simp;(try with_reducible rfl)));(try simp only [Act.put,bw7,bw8,bw9])
   refine tkS 43 (i:=13) (v:=?_) (fw:=5) hQ' hR rfl ?_ ?_;rotate_left;(focus (intro wq hRq;have e0:=keep hRq d0';have e1:=keep hRq d1';go_simp;(try with_reducible rfl)));(try simp only [Act.put,bw7,bw8,bw9])
   refine tkS 44 (i:=14) (v:=?_) (fw:=5) hQ' hR rfl ?_ ?_;rotate_left;(focus (intro wq hRq;have e0:=keep hRq d0';have e1:=keep hRq d1';go_simp;(try with_reducible rfl)));(try simp only [Act.put,bw7,bw8,bw9])
   refine tkS 45 (i:=15) (v:=?_) (fw:=5) hQ' hR rfl ?_ ?_;rotate_left;(focus (intro wq hRq;have e0:=keep hRq d0';have e1:=keep hRq d1';go_simp;(try with_reducible rfl)));(try simp only [Act.put,bw7,bw8,bw9])
   refine wpAnyS_ready (rs:=[8]) (by kernel_rfl) (by simp) ?_
   refine stepR (i:=8) rfl (by kernel_rfl) (fun K hK=>?_) (AllReadyS.nil)
   go_simp
   refine (H38.out _ (below_trans' hb2 hR)).mono ?_
   rintro e wn ⟨rfl,hB'⟩
   replace hR:=below_trans' hR hB'
   clear hB'
   refine hK.out _ _ hR ?_
   clear hK K
   (try simp only [Act.put,bw7,bw8,bw9])
   refine tkS 39 (i:=9) (v:=?_) (fw:=5) hQ' hR rfl ?_ ?_;rotate_left;(focus (intro wq hRq;have e0:=keep hRq d0';have e1:=keep hRq d1';go_simp;(try with_reducible rfl)));(try simp only [Act.put,bw7,bw8,bw9])
   refine tkS 40 (i:=10) (v:=?_) (fw:=5) hQ' hR rfl ?_ ?_;rotate_left;(focus (intro wq hRq;have e0:=keep hRq d0';have e1:=keep hRq d1';go_simp;(try with_reducible rfl)));(try simp only [Act.put,bw7,bw8,bw9])
   refine wpAnyS_ready (rs:=[11]) (by kernel_rfl) (by simp) ?_
   refine stepR (i:=11) rfl (by kernel_rfl) (fun K hK=>?_) (AllReadyS.nil)
   go_simp
   refine (HNU.out cb _ _ (xc.below hR)).mono ?_
   rintro e wn ⟨rfl,hB'⟩
   replace hR:=below_trans' hR hB'
   clear hB'
   refine hK.out _ _ hR ?_
   clear hK K
   (try simp only [Act.put,bw7,bw8,bw9])
   refine wpAnyS_ready (rs:=[16]) (by kernel_rfl) (by simp) ?_
   refine stepR (i:=16) rfl (by kernel_rfl) (fun K hK=>?_) (AllReadyS.nil)
   go_simp
   refine (H46.out _ (below_trans' hb2 hR)).mono ?_
   rintro e wn ⟨rfl,hB'⟩
   replace hR:=below_trans' hR hB'
   clear hB'
   refine hK.out _ _ hR ?_
   clear hK K
   (try simp only [Act.put,bw7,bw8,bw9])
   refine tkS 47 (i:=17) (v:=?_) (fw:=5) hQ' hR rfl ?_ ?_;rotate_left;(focus (intro wq hRq;have e0:=keep hRq d0';have e1:=keep hRq d1';go_simp;(try with_reducible rfl)));(try simp only [Act.put,bw7,bw8,bw9])
   refine tkS 48 (i:=18) (v:=?_) (fw:=5) hQ' hR rfl ?_ ?_;rotate_left;(focus (intro wq hRq;have e0:=keep hRq d0';have e1:=keep hRq d1';go_simp;(try with_reducible rfl)));(try simp only [Act.put,bw7,bw8,bw9])
   refine wpAnyS_ready (rs:=[19]) (by kernel_rfl) (by simp) ?_
   refine stepR (i:=19) rfl (by kernel_rfl) (fun K hK=>?_) (AllReadyS.nil)
   go_simp
   refine (HNU.out cb _ _ (xc.below hR)).mono ?_
   rintro e wn ⟨rfl,hB'⟩
   replace hR:=below_trans' hR hB'
   clear hB'
   refine hK.out _ _ hR ?_
   clear hK K
   (try simp only [Act.put,bw7,bw8,bw9])
   refine tkS 12 (i:=20) (v:=?_) (fw:=5) hQ' hR rfl ?_ ?_;rotate_left;(focus (intro wq hRq;have e0:=keep hRq d0';have e1:=keep hRq d1';go_simp;(try with_reducible rfl)));(try simp only [Act.put,bw7,bw8,bw9])
   refine wpAnyS_done (by kernel_rfl) ?_ _
   refine hN.out _ _ ?_
   go_wp2_with fail
   go_meet
   exact ⟨by rw [HG2.out],hR⟩
  ·have hm0:M.length=0:=by omega
   have hmb:((M.length:Int) == 1)=false:=by rw [hm0];decide
   have HS0:=Lib.hid (HM0.out hm0)
   clear hm0 hm1 HM0 HM1
   go_wp2_with fail
   go_meet
   exact ⟨by rw [HS0.out],bw0 _ _⟩
 case rest =>
  obtain ⟨rfl,hBx⟩:=hcut
  have hb3:=below_trans' hb2 hBx
  replace x0:=x0.below hBx
  replace x1:=x1.below hBx
  replace x2:=x2.below hBx
  replace xc:=xc.below hBx
  clear hBx hb2 HM0 HM1 HVC
  go_wp2_with fail
  refine (H51.out _ hb3).mono ?_
  rintro e w4 ⟨rfl,hB4⟩
  have hb4:=below_trans' hb3 hB4
  replace x0:=x0.below hB4
  replace x1:=x1.below hB4
  replace x2:=x2.below hB4
  replace xc:=xc.below hB4
  clear hB4 hb3 H51
  go_wp2_with fail
  refine (HNU.out cb _ _ xc).mono ?_
  rintro e w5 ⟨rfl,hB5⟩
  have hb5:=below_trans' hb4 hB5
  replace x0:=x0.below hB5
  replace x1:=x1.below hB5
  replace x2:=x2.below hB5
  replace xc:=xc.below hB5
  clear hB5 hb4
  go_wp2_with fail
  refine (HRW.out _ cb hb5 xc).mono ?_
  rintro e w6 ⟨lw,rfl,hlw,hB6⟩
  have hb6:=below_trans' hb5 hB6
  replace x0:=x0.below hB6
  replace x1:=x1.below hB6
  replace x2:=x2.below hB6
  replace xc:=xc.below hB6
  have HLW:=Lib.hid hlw
  obtain ⟨lwa,lwc,rfl,_⟩:=hlw
  clear hB6 hb5 HRW
  go_wp2_with fail
  have hR:Below w6.heap.size w6 w6.drew:=(bw0 _ _).drew
  refine region_S (F:=[]) (R:=(fun w'=>Below w6.heap.size w6 w')) 22 #[false,false,false,false,false,false,false,false,false,false,false,false,false,false,false,false,false,false,false,false,false,false] (by kernel_rfl) (by kernel_rfl) (by kernel_rfl) (fun _ _ _ _ _ h=>h) (fun Q' hQ' hN=>?_)
  generalize w6.drew=wd at *
  refine tkS 56 (i:=0) (v:=?_) (fw:=5) hQ' hR rfl ?_ ?_;rotate_left;(focus (intro wq hRq;have e0:=(x1.below hRq).c0;have e1:=(x1.below hRq).c1;go_simp;(try with_reducible rfl)));(try simp only [Act.put,bw7,bw8,bw9])
  refine tkS 57 (i:=1) (v:=?_) (fw:=5) hQ' hR rfl ?_ ?_;rotate_left;(focus (intro wq hRq;have e0:=(x1.below hRq).c0;have e1:=(x1.below hRq).c1;go_simp;(try with_reducible rfl)));(try simp only [Act.put,bw7,bw8,bw9])
  refine tkS 58 (i:=2) (v:=?_) (fw:=5) hQ' hR rfl ?_ ?_;rotate_left;(focus (intro wq hRq;have e0:=(x1.below hRq).c0;have e1:=(x1.below hRq).c1;go_simp;(try with_reducible rfl)));(try simp only [Act.put,bw7,bw8,bw9])
  refine tkS 59 (i:=3) (v:=?_) (fw:=5) hQ' hR rfl ?_ ?_;rotate_left;(focus (intro wq hRq;have e0:=(x1.below hRq).c0;have e1:=(x1.below hRq).c1;go_simp;(try with_reducible rfl)));(try simp only [Act.put,bw7,bw8,bw9])
  refine tkS 64 (i:=8) (v:=?_) (fw:=5) hQ' hR rfl ?_ ?_;rotate_left;(focus (intro wq hRq;have e0:=(x1.below hRq).c0;have e1:=(x1.below hRq).c1;go_simp;(try with_reducible rfl)));(try simp only [Act.put,bw7,bw8,bw9])
  refine tkS 65 (i:=9) (v:=?_) (fw:=5) hQ' hR rfl ?_ ?_;rotate_left;(focus (intro wq hRq;have e0:=(x1.below hRq).c0;have e1:=(x1.below hRq).c1;go_simp;(try with_reducible rfl)));(try simp only [Act.put,bw7,bw8,bw9])
  refine tkS 66 (i:=10) (v:=?_) (fw:=5) hQ' hR rfl ?_ ?_;rotate_left;(focus (intro wq hRq;have e0:=(x1.below hRq).c0;have e1:=(x1.below hRq).c1;go_simp;(try with_reducible rfl)));(try simp only [Act.put,bw7,bw8,bw9])
  refine tkS 67 (i:=11) (v:=?_) (fw:=5) hQ' hR rfl ?_ ?_;rotate_left;(focus (intro wq hRq;have e0:=(x1.below hRq).c0;have e1:=(x1.below hRq).c1;go_simp;(try with_reducible rfl)));(try simp only [Act.put,bw7,bw8,bw9])
  refine wpAnyS_ready (rs:=[4]) (by kernel_rfl) (by simp) ?_
  refine stepR (i:=4) rfl (by kernel_rfl) (fun K hK=>?_) (AllReadyS.nil)
  go_simp
  refine (H60.out _ (below_trans' hb6 hR)).mono ?_
  rintro e wn ⟨rfl,hB'⟩
  replace hR:=below_trans' hR hB'
  clear hB'
  refine hK.out _ _ hR ?_
  clear hK K
  (try simp only [Act.put,bw7,bw8,bw9])
  refine tkS 61 (i:=5) (v:=?_) (fw:=5) hQ' hR rfl ?_ ?_;rotate_left;(focus (intro wq hRq;have e0:=(x1.below hRq).c0;have e1:=(x1.below hRq).c1;go_simp;(try with_reducible rfl)));(try simp only [Act.put,bw7,bw8,bw9])
  refine tkS 62 (i:=6) (v:=?_) (fw:=5) hQ' hR rfl ?_ ?_;rotate_left;(focus (intro wq hRq;have e0:=(x1.below hRq).c0;have e1:=(x1.below hRq).c1;go_simp;(try with_reducible rfl)));(try simp only [Act.put,bw7,bw8,bw9])
  refine wpAnyS_ready (rs:=[7]) (by kernel_rfl) (by simp) ?_
  refine stepR (i:=7) rfl (by kernel_rfl) (fun K hK=>?_) (AllReadyS.nil)
  go_simp
  refine (HNU.out cb _ _ (xc.below hR)).mono ?_
  rintro e wn ⟨rfl,hB'⟩
  replace hR:=below_trans' hR hB'
  clear hB'
  refine hK.out _ _ hR ?_
  clear hK K
  (try simp only [Act.put,bw7,bw8,bw9])
  refine wpAnyS_ready (rs:=[12]) (by kernel_rfl) (by simp) ?_
  refine stepR (i:=12) rfl (by kernel_rfl) (fun K hK=>?_) (AllReadyS.nil)
  go_simp
  refine (H68.out _ (below_trans' hb6 hR)).mono ?_
  rintro e wn ⟨rfl,hB'⟩
  replace hR:=below_trans' hR hB'
  clear hB'
  refine hK.out _ _ hR ?_
  clear hK K
  (try simp only [Act.put,bw7,bw8,bw9])
  refine tkS 69 (i:=13) (v:=?_) (fw:=5) hQ' hR rfl ?_ ?_;rotate_left;(focus (intro wq hRq;have e0:=(x1.below hRq).c0;have e1:=(x1.below hRq).c1;go_simp;(try with_reducible rfl)));(try simp only [Act.put,bw7,bw8,bw9])
  refine tkS 70 (i:=14) (v:=?_) (fw:=5) hQ' hR rfl ?_ ?_;rotate_left;(focus (intro wq hRq;have e0:=(x1.below hRq).c0;have e1:=(x1.below hRq).c1;go_simp;(try with_reducible rfl)));(try simp only [Act.put,bw7,bw8,bw9])
  refine wpAnyS_ready (rs:=[15]) (by kernel_rfl) (by simp) ?_
  refine stepR (i:=15) rfl (by kernel_rfl) (fun K hK=>?_) (AllReadyS.nil)
  go_simp
  refine (HNU.out cb _ _ (xc.below hR)).mono ?_
  rintro e wn ⟨rfl,hB'⟩
  replace hR:=below_trans' hR hB'
  clear hB'
  refine hK.out _ _ hR ?_
  clear hK K
  (try simp only [Act.put,bw7,bw8,bw9])
  refine wpAnyS_ready (rs:=[16]) (by kernel_rfl) (by simp) ?_
  refine stepR (i:=16) rfl (by kernel_rfl) (fun K hK=>?_) (AllReadyS.nil)
  go_simp
  refine (H72.out _ (below_trans' hb6 hR)).mono ?_
  rintro e wn ⟨rfl,hB'⟩
  replace hR:=below_trans' hR hB'
  clear hB'
  refine hK.out _ _ hR ?_
  clear hK K
  (try simp only [Act.put,bw7,bw8,bw9])
  refine tkS 73 (i:=17) (v:=?_) (fw:=5) hQ' hR rfl ?_ ?_;rotate_left;(focus (intro wq hRq;have e0:=(x1.below hRq).c0;have e1:=(x1.below hRq).c1;go_simp;(try with_reducible rfl)));(try simp only [Act.put,bw7,bw8,bw9])
  refine tkS 74 (i:=18) (v:=?_) (fw:=5) hQ' hR rfl ?_ ?_;rotate_left;(focus (intro wq hRq;have e0:=(x1.below hRq).c0;have e1:=(x1.below hRq).c1;go_simp;(try with_reducible rfl)));(try simp only [Act.put,bw7,bw8,bw9])
  refine wpAnyS_ready (rs:=[19]) (by kernel_rfl) (by simp) ?_
  refine stepR (i:=19) rfl (by kernel_rfl) (fun K hK=>?_) (AllReadyS.nil)
  go_simp
  refine (HNU.out cb _ _ (xc.below hR)).mono ?_
  rintro e wn ⟨rfl,hB'⟩
  replace hR:=below_trans' hR hB'
  clear hB'
  refine hK.out _ _ hR ?_
  clear hK K
  (try simp only [Act.put,bw7,bw8,bw9])
  refine wpAnyS_ready (rs:=[20]) (by kernel_rfl) (by simp) ?_
  refine stepR (i:=20) rfl (by kernel_rfl) (fun K hK=>?_) (AllReadyS.nil)
  go_simp
  refine (HRH.out _ cb (below_trans' hb6 hR) (xc.below hR)).mono ?_
  rintro e wn ⟨lh,rfl,hlh,hB'⟩
  replace hR:=below_trans' hR hB'
  have HLH:=Lib.hid hlh
  obtain ⟨lha,lhc,rfl,_⟩:=hlh
  clear hB'
  refine hK.out _ _ hR ?_
  clear hK K
  (try simp only [Act.put,bw7,bw8,bw9])
  refine tkS 14 (i:=21) (v:=?_) (fw:=5) hQ' hR rfl ?_ ?_;rotate_left;(focus (intro wq hRq;have e0:=(x1.below hRq).c0;have e1:=(x1.below hRq).c1;go_simp;(try with_reducible rfl)));(try simp only [Act.put,bw7,bw8,bw9])
  refine wpAnyS_done (by kernel_rfl) ?_ _
  refine hN.out _ _ ?_
  have hb7:=below_trans' hb6 hR
  replace x0:=x0.below hR
  replace x1:=x1.below hR
  replace x2:=x2.below hR
  replace xc:=xc.below hR
  replace HLW:=Lib.hid (HLW.out.below hR)
  clear hR hb6 H60 H68 H72 HRH
  go_wp2_with fail
  refine (H79.out _ _ _ hb7 (HU.out.below hb7) HLW.out).mono ?_
  rintro e w8 ⟨lr,rfl,hlr,hB'⟩
  have hb8:=below_trans' hb7 hB'
  replace x0:=x0.below hB'
  replace x1:=x1.below hB'
  replace x2:=x2.below hB'
  replace xc:=xc.below hB'
  replace HLH:=Lib.hid (HLH.out.below hB')
  have HLR:=Lib.hid hlr
  obtain ⟨lra,lrc,rfl,_⟩:=hlr
  clear hB' hb7 HLW H79
  go_wp2_with fail
  refine (HKE.out cb _ _ _ _ xc).mono ?_
  rintro e w9 ⟨rfl,hB'⟩
  have hb9:=below_trans' hb8 hB'
  replace x0:=x0.below hB'
  replace x1:=x1.below hB'
  replace x2:=x2.below hB'
  replace xc:=xc.below hB'
  replace HLH:=Lib.hid (HLH.out.below hB')
  replace HLR:=Lib.hid (HLR.out.below hB')
  clear hB' hb8
  go_wp2_with fail
  refine (H85.out _ _ _ hb9 HLR.out HLH.out).mono ?_
  rintro e w10 ⟨lf,rfl,hlf,hB'⟩
  have hb10:=below_trans' hb9 hB'
  replace x0:=x0.below hB'
  replace x1:=x1.below hB'
  replace x2:=x2.below hB'
  replace xc:=xc.below hB'
  replace HLR:=Lib.hid (HLR.out.below hB')
  have HLF:=Lib.hid hlf
  obtain ⟨lfa,lfc,rfl,_⟩:=hlf
  clear hB' hb9 HLH H85
  go_wp2_with fail
  refine (HKE.out cb _ _ _ _ xc).mono ?_
  rintro e w11 ⟨rfl,hB'⟩
  have hb11:=below_trans' hb10 hB'
  replace x0:=x0.below hB'
  replace x1:=x1.below hB'
  replace x2:=x2.below hB'
  replace xc:=xc.below hB'
  replace HLR:=Lib.hid (HLR.out.below hB')
  replace HLF:=Lib.hid (HLF.out.below hB')
  clear hB' hb10
  have d0:=x0.c0
  have d1:=x0.c1
  have d2:=x0.c2
  have e0:=x1.c0
  have e1:=x1.c1
  go_wp2_with fail
  have hR:Below w11.heap.size w11 w11.drew:=(bw0 _ _).drew
  refine region_S (F:=[31]) (R:=(fun w'=>Below w11.heap.size w11 w')) 32 #[false,false,false,false,false,false,false,false,false,false,false,false,false,false,false,false,false,false,false,false,false,false,false,false,false,false,false,false,false,false,false,false] (by kernel_rfl) (by kernel_rfl) (by kernel_rfl) (fun _ _ _ _ _ h=>h) (fun Q' hQ' hN=>?_)
  generalize w11.drew=wd at *
  refine tkS 89 (i:=0) (v:=?_) (fw:=5) hQ' hR rfl ?_ ?_;rotate_left;(focus (intro wq hRq;have q0:=keep hRq d0;have q1:=keep hRq d1;have q2:=keep hRq d2;have q3:=keep hRq e0;have q4:=keep hRq e1;go_simp;(try with_reducible rfl)));(try simp only [Act.put,bw7,bw8,bw9])
  refine tkS 90 (i:=1) (v:=?_) (fw:=5) hQ' hR rfl ?_ ?_;rotate_left;(focus (intro wq hRq;have q0:=keep hRq d0;have q1:=keep hRq d1;have q2:=keep hRq d2;have q3:=keep hRq e0;have q4:=keep hRq e1;go_simp;(try with_reducible rfl)));(try simp only [Act.put,bw7,bw8,bw9])
  refine tkS 91 (i:=2) (v:=?_) (fw:=5) hQ' hR rfl ?_ ?_;rotate_left;(focus (intro wq hRq;have q0:=keep hRq d0;have q1:=keep hRq d1;have q2:=keep hRq d2;have q3:=keep hRq e0;have q4:=keep hRq e1;go_simp;(try with_reducible rfl)));(try simp only [Act.put,bw7,bw8,bw9])
  refine tkS 92 (i:=3) (v:=?_) (fw:=5) hQ' hR rfl ?_ ?_;rotate_left;(focus (intro wq hRq;have q0:=keep hRq d0;have q1:=keep hRq d1;have q2:=keep hRq d2;have q3:=keep hRq e0;have q4:=keep hRq e1;go_simp;(try with_reducible rfl)));(try simp only [Act.put,bw7,bw8,bw9])
  refine tkS 93 (i:=4) (v:=?_) (fw:=5) hQ' hR rfl ?_ ?_;rotate_left;(focus (intro wq hRq;have q0:=keep hRq d0;have q1:=keep hRq d1;have q2:=keep hRq d2;have q3:=keep hRq e0;have q4:=keep hRq e1;go_simp;(try with_reducible rfl)));(try simp only [Act.put,bw7,bw8,bw9])
  refine tkS 99 (i:=10) (v:=?_) (fw:=5) hQ' hR rfl ?_ ?_;rotate_left;(focus (intro wq hRq;have q0:=keep hRq d0;have q1:=keep hRq d1;have q2:=keep hRq d2;have q3:=keep hRq e0;have q4:=keep hRq e1;go_simp;(try with_reducible rfl)));(try simp only [Act.put,bw7,bw8,bw9])
  refine tkS 100 (i:=11) (v:=?_) (fw:=5) hQ' hR rfl ?_ ?_;rotate_left;(focus (intro wq hRq;have q0:=keep hRq d0;have q1:=keep hRq d1;have q2:=keep hRq d2;have q3:=keep hRq e0;have q4:=keep hRq e1;go_simp;(try with_reducible rfl)));(try simp only [Act.put,bw7,bw8,bw9])
  refine tkS 101 (i:=12) (v:=?_) (fw:=5) hQ' hR rfl ?_ ?_;rotate_left;(focus (intro wq hRq;have q0:=keep hRq d0;have q1:=keep hRq d1;have q2:=keep hRq d2;have q3:=keep hRq e0;have q4:=keep hRq e1;go_simp;(try with_reducible rfl)));(try simp only [Act.put,bw7,bw8,bw9])
  refine tkS 102 (i:=13) (v:=?_) (fw:=5) hQ' hR rfl ?_ ?_;rotate_left;(focus (intro wq hRq;have q0:=keep hRq d0;have q1:=keep hRq d1;have q2:=keep hRq d2;have q3:=keep hRq e0;have q4:=keep hRq e1;go_simp;(try with_reducible rfl)));(try simp only [Act.put,bw7,bw8,bw9])
  refine tkS 103 (i:=14) (v:=?_) (fw:=5) hQ' hR rfl ?_ ?_;rotate_left;(focus (intro wq hRq;have q0:=keep hRq d0;have q1:=keep hRq d1;have q2:=keep hRq d2;have q3:=keep hRq e0;have q4:=keep hRq e1;go_simp;(try with_reducible rfl)));(try simp only [Act.put,bw7,bw8,bw9])
  refine tkS 109 (i:=20) (v:=?_) (fw:=5) hQ' hR rfl ?_ ?_;rotate_left;(focus (intro wq hRq;have q0:=keep hRq d0;have q1:=keep hRq d1;have q2:=keep hRq d2;have q3:=keep hRq e0;have q4:=keep hRq e1;go_simp;(try with_reducible rfl)));(try simp only [Act.put,bw7,bw8,bw9])
  refine tkS 110 (i:=21) (v:=?_) (fw:=5) hQ' hR rfl ?_ ?_;rotate_left;(focus (intro wq hRq;have q0:=keep hRq d0;have q1:=keep hRq d1;have q2:=keep hRq d2;have q3:=keep hRq e0;have q4:=keep hRq e1;go_simp;(try with_reducible rfl)));(try simp only [Act.put,bw7,bw8,bw9])
  refine tkS 111 (i:=22) (v:=?_) (fw:=5) hQ' hR rfl ?_ ?_;rotate_left;(focus (intro wq hRq;have q0:=keep hRq d0;have q1:=keep hRq d1;have q2:=keep hRq d2;have q3:=keep hRq e0;have q4:=keep hRq e1;go_simp;(try with_reducible rfl)));(try simp only [Act.put,bw7,bw8,bw9])
  refine tkS 112 (i:=23) (v:=?_) (fw:=5) hQ' hR rfl ?_ ?_;rotate_left;(focus (intro wq hRq;have q0:=keep hRq d0;have q1:=keep hRq d1;have q2:=keep hRq d2;have q3:=keep hRq e0;have q4:=keep hRq e1;go_simp;(try with_reducible rfl)));(try simp only [Act.put,bw7,bw8,bw9])
  refine wpAnyS_ready (rs:=[5,30]) (by kernel_rfl) (by simp) ?_
  refine stepR (i:=5) rfl (by kernel_rfl) (fun K hK=>?_) (stepR (i:=30) rfl (by kernel_rfl) (fun K hK=>?_) (AllReadyS.nil))
  ·have hbq:=below_trans' hb11 hR
   go_simp
   refine (H94.out _ _ hbq (HLF.out.below hR)).mono ?_
   rintro e wn ⟨x1v,rfl,hx1v,hB'⟩
   replace hR:=below_trans' hR hB'
   have HX1:=Lib.hid hx1v
   obtain ⟨x1va,x1vc,rfl,_⟩:=hx1v
   clear hB' hbq
   refine hK.out _ _ hR ?_
   clear hK K
   (try simp only [Act.put,bw7,bw8,bw9])
   refine tkS 95 (i:=6) (v:=?_) (fw:=5) hQ' hR rfl ?_ ?_;rotate_left;(focus (intro wq hRq;have q0:=keep hRq d0;have q1:=keep hRq d1;have q2:=keep hRq d2;have q3:=keep hRq e0;have q4:=keep hRq e1;go_simp;(try with_reducible rfl)));(try simp only [Act.put,bw7,bw8,bw9])
   refine tkS 96 (i:=7) (v:=?_) (fw:=5) hQ' hR rfl ?_ ?_;rotate_left;(focus (intro wq hRq;have q0:=keep hRq d0;have q1:=keep hRq d1;have q2:=keep hRq d2;have q3:=keep hRq e0;have q4:=keep hRq e1;go_simp;(try with_reducible rfl)));(try simp only [Act.put,bw7,bw8,bw9])
   refine wpAnyS_ready (rs:=[8,30]) (by kernel_rfl) (by simp) ?_
   refine stepR (i:=8) rfl (by kernel_rfl) (fun K hK=>?_) (stepR (i:=30) rfl (by kernel_rfl) (fun K hK=>?_) (AllReadyS.nil))
   ·go_simp
    refine (HKE.out cb _ _ _ _ (xc.below hR)).mono ?_
    rintro e wn ⟨rfl,hB'⟩
    replace hR:=below_trans' hR hB'
    replace HX1:=Lib.hid (HX1.out.below hB')
    clear hB'
    refine hK.out _ _ hR ?_
    clear hK K
    (try simp only [Act.put,bw7,bw8,bw9])
    refine wpAnyS_ready (rs:=[9,30]) (by kernel_rfl) (by simp) ?_
    refine stepR (i:=9) rfl (by kernel_rfl) (fun K hK=>?_) (stepR (i:=30) rfl (by kernel_rfl) (fun K hK=>?_) (AllReadyS.nil))
    ·have hbq:=below_trans' hb11 hR
     go_simp
     refine (H98.out _ cb _ hbq (xc.below hR) HX1.out).mono ?_
     rintro e wn ⟨xv,rfl,hxv,hB'⟩
     replace hR:=below_trans' hR hB'
     replace HX1:=Lib.hid (HX1.out.below hB')
     have HX:=Lib.hid hxv
     obtain ⟨xva,xvc,rfl,_⟩:=hxv
     clear hB' hbq
     refine hK.out _ _ hR ?_
     clear hK K
     (try simp only [Act.put,bw7,bw8,bw9])
     refine wpAnyS_ready (rs:=[15,30]) (by kernel_rfl) (by simp) ?_
     refine stepR (i:=15) rfl (by kernel_rfl) (fun K hK=>?_) (stepR (i:=30) rfl (by kernel_rfl) (fun K hK=>?_) (AllReadyS.nil))
     ·have hbq:=below_trans' hb11 hR
      go_simp
      refine (H104.out _ _ hbq (HLF.out.below hR)).mono ?_
      rintro e wn ⟨y1v,rfl,hy1v,hB'⟩
      replace hR:=below_trans' hR hB'
      replace HX:=Lib.hid (HX.out.below hB')
      have HY1:=Lib.hid hy1v
      obtain ⟨y1va,y1vc,rfl,_⟩:=hy1v
      clear hB' hbq
      refine hK.out _ _ hR ?_
      clear hK K
      (try simp only [Act.put,bw7,bw8,bw9])
      refine tkS 105 (i:=16) (v:=?_) (fw:=5) hQ' hR rfl ?_ ?_;rotate_left;(focus (intro wq hRq;have q0:=keep hRq d0;have q1:=keep hRq d1;have q2:=keep hRq d2;have q3:=keep hRq e0;have q4:=keep hRq e1;go_simp;(try with_reducible rfl)));(try simp only [Act.put,bw7,bw8,bw9])
      refine tkS 106 (i:=17) (v:=?_) (fw:=5) hQ' hR rfl ?_ ?_;rotate_left;(focus (intro wq hRq;have q0:=keep hRq d0;have q1:=keep hRq d1;have q2:=keep hRq d2;have q3:=keep hRq e0;have q4:=keep hRq e1;go_simp;(try with_reducible rfl)));(try simp only [Act.put,bw7,bw8,bw9])
      refine wpAnyS_ready (rs:=[18,30]) (by kernel_rfl) (by simp) ?_
      refine stepR (i:=18) rfl (by kernel_rfl) (fun K hK=>?_) (stepR (i:=30) rfl (by kernel_rfl) (fun K hK=>?_) (AllReadyS.nil))
      ·go_simp
       refine (HKE.out cb _ _ _ _ (xc.below hR)).mono ?_
       rintro e wn ⟨rfl,hB'⟩
       replace hR:=below_trans' hR hB'
       replace HX:=Lib.hid (HX.out.below hB')
       replace HY1:=Lib.hid (HY1.out.below hB')
       clear hB'
       refine hK.out _ _ hR ?_
       clear hK K
       (try simp only [Act.put,bw7,bw8,bw9])
       refine wpAnyS_ready (rs:=[19,30]) (by kernel_rfl) (by simp) ?_
       refine stepR (i:=19) rfl (by kernel_rfl) (fun K hK=>?_) (stepR (i:=30) rfl (by kernel_rfl) (fun K hK=>?_) (AllReadyS.nil))
       ·have hbq:=below_trans' hb11 hR
        go_simp
        refine (H108.out _ cb _ hbq (xc.below hR) HY1.out).mono ?_
        rintro e wn ⟨yv,rfl,hyv,hB'⟩
        replace hR:=below_trans' hR hB'
        replace HX:=Lib.hid (HX.out.below hB')
        replace HY1:=Lib.hid (HY1.out.below hB')
        have HY:=Lib.hid hyv
        obtain ⟨yva,yvc,rfl,_⟩:=hyv
        clear hB' hbq
        refine hK.out _ _ hR ?_
        clear hK K
        (try simp only [Act.put,bw7,bw8,bw9])
        refine wpAnyS_ready (rs:=[24,30]) (by kernel_rfl) (by simp) ?_
        refine stepR (i:=24) rfl (by kernel_rfl) (fun K hK=>?_) (stepR (i:=30) rfl (by kernel_rfl) (fun K hK=>?_) (AllReadyS.nil))
        ·have hbq:=below_trans' hb11 hR
         go_simp
         refine (H113.out _ _ _ hbq (HLR.out.below hR) (HV.out.below hbq)).mono ?_
         rintro e wn ⟨z1v,rfl,hz1v,hB'⟩
         replace hR:=below_trans' hR hB'
         replace HX:=Lib.hid (HX.out.below hB')
         replace HY:=Lib.hid (HY.out.below hB')
         have HZ1:=Lib.hid hz1v
         obtain ⟨z1va,z1vc,rfl,_⟩:=hz1v
         clear hB' hbq
         refine hK.out _ _ hR ?_
         clear hK K
         (try simp only [Act.put,bw7,bw8,bw9])
         refine tkS 114 (i:=25) (v:=?_) (fw:=5) hQ' hR rfl ?_ ?_;rotate_left;(focus (intro wq hRq;have q0:=keep hRq d0;have q1:=keep hRq d1;have q2:=keep hRq d2;have q3:=keep hRq e0;have q4:=keep hRq e1;go_simp;(try with_reducible rfl)));(try simp only [Act.put,bw7,bw8,bw9])
         refine tkS 115 (i:=26) (v:=?_) (fw:=5) hQ' hR rfl ?_ ?_;rotate_left;(focus (intro wq hRq;have q0:=keep hRq d0;have q1:=keep hRq d1;have q2:=keep hRq d2;have q3:=keep hRq e0;have q4:=keep hRq e1;go_simp;(try with_reducible rfl)));(try simp only [Act.put,bw7,bw8,bw9])
         refine wpAnyS_ready (rs:=[27,30]) (by kernel_rfl) (by simp) ?_
         refine stepR (i:=27) rfl (by kernel_rfl) (fun K hK=>?_) (stepR (i:=30) rfl (by kernel_rfl) (fun K hK=>?_) (AllReadyS.nil))
         ·go_simp
          refine (HKE.out cb _ _ _ _ (xc.below hR)).mono ?_
          rintro e wn ⟨rfl,hB'⟩
          replace hR:=below_trans' hR hB'
          replace HX:=Lib.hid (HX.out.below hB')
          replace HY:=Lib.hid (HY.out.below hB')
          replace HZ1:=Lib.hid (HZ1.out.below hB')
          clear hB'
          refine hK.out _ _ hR ?_
          clear hK K
          (try simp only [Act.put,bw7,bw8,bw9])
          refine wpAnyS_ready (rs:=[28,30]) (by kernel_rfl) (by simp) ?_
          refine stepR (i:=28) rfl (by kernel_rfl) (fun K hK=>?_) (stepR (i:=30) rfl (by kernel_rfl) (fun K hK=>?_) (AllReadyS.nil))
          ·have hbq:=below_trans' hb11 hR
           go_simp
           refine (H117.out _ cb _ hbq (xc.below hR) HZ1.out).mono ?_
           rintro e wn ⟨zv,rfl,hzv,hB'⟩
           replace hR:=below_trans' hR hB'
           replace HX:=Lib.hid (HX.out.below hB')
           replace HY:=Lib.hid (HY.out.below hB')
           replace HZ1:=Lib.hid (HZ1.out.below hB')
           have HZ:=Lib.hid hzv
           obtain ⟨zva,zvc,rfl,_⟩:=hzv
           clear hB' hbq
           refine hK.out _ _ hR ?_
           clear hK K
           (try simp only [Act.put,bw7,bw8,bw9])
           refine tkS 118 (i:=29) (v:=?_) (fw:=5) hQ' hR rfl ?_ ?_;rotate_left;(focus (intro wq hRq;have q0:=keep hRq d0;have q1:=keep hRq d1;have q2:=keep hRq d2;have q3:=keep hRq e0;have q4:=keep hRq e1;go_simp;(try with_reducible rfl)));(try simp only [Act.put,bw7,bw8,bw9])
           refine wpAnyS_ready (rs:=[30]) (by kernel_rfl) (by simp) ?_
           refine stepR (i:=30) rfl (by kernel_rfl) (fun K hK=>?_) (AllReadyS.nil)
           go_simp
           have hXs:=hR.size
           refine after_alloc (fun wm hB' hvb hzb=>?_)
           obtain ⟨bx,hbe⟩:∃ bx,wn.heap.size=bx:=⟨_,rfl⟩
           rw [hbe] at hvb ⊢
           have hbx:BoxT3 41 wm bx (.slice none 0 0) (.slice none 0 0) (.slice none 0 0):=hvb
           have hbw:w11.heap.size≤bx:=by omega
           replace hR:=below_trans' hR hB'
           replace HX:=Lib.hid (HX.out.below hB')
           replace HY:=Lib.hid (HY.out.below hB')
           replace HZ:=Lib.hid (HZ.out.below hB')
           clear hvb hB' hzb hbe hXs
           refine hK.out _ _ hR ?_
           clear hK K
           (try simp only [Act.put,bw7,bw8,bw9])
           refine wpAnyS_ready (rs:=[31]) (by kernel_rfl) (by simp) ?_
           refine stepF (i:=31) rfl (by kernel_rfl) (by kernel_rfl) (fun K hK=>?_) (AllReadyS.nil)
           refine wp_store3 _ _ _ rfl hbx Tryz.infoMark rfl rfl rfl rfl rfl (fun wx hS hbx2=>?_)
           have F0:=Lib.hid (rb_end hb11 hR (xc.below hR) (x2.below hR) hS hbx hbw xc.lt x2.lt HX.out HY.out HZ.out)
           refine hK.out _ _ ?_
           clear hK K
           (try simp only [Act.put,bw7,bw8,bw9])
           refine wpAnyS_done (by kernel_rfl) ?_ _
           refine hN.out _ _ ?_
           obtain ⟨hbw2,xc2,x22,hx2,hy2,hz2⟩:=F0.out
           have k0:=BoxT1.c0 xc2
           have f0:=hbx2.c0
           have f1:=hbx2.c1
           have f2:=hbx2.c2
           go_wp2_with (refine wpList_store3 rfl _ _ _ rfl x22 Tryz.infoMark rfl rfl rfl rfl rfl ?_;intro W hS2 hx3;have hbW:=hS2.below hbw2 (by omega);have g0:=hx3.c0;have g1:=hx3.c1;have g2:=hx3.c2;have HFX:=Lib.hid (hx2.butM x22 hS2);have HFY:=Lib.hid (hy2.butM x22 hS2);have HFZ:=Lib.hid (hz2.butM x22 hS2))
           refine bodyPost_ret (v:=.tuple #[.agg #[.slice xva LX.length xvc,.slice yva LY.length yvc,.slice zva LZ.length zvc],.int .i64 0]) (by simp [results,Tryz.results17,go_sem,g0,g1,g2]) rfl ?_
           exact ⟨_,_,_,rfl,HFX.out,HFY.out,HFZ.out,hbW⟩
          ·go_simp
           have hXs:=hR.size
           refine after_alloc (fun wm hB' hvb hzb=>?_)
           obtain ⟨bx,hbe⟩:∃ bx,wn.heap.size=bx:=⟨_,rfl⟩
           rw [hbe] at hvb ⊢
           have hbx:BoxT3 41 wm bx (.slice none 0 0) (.slice none 0 0) (.slice none 0 0):=hvb
           have hbw:w11.heap.size≤bx:=by omega
           replace hR:=below_trans' hR hB'
           replace HX:=Lib.hid (HX.out.below hB')
           replace HY:=Lib.hid (HY.out.below hB')
           replace HZ1:=Lib.hid (HZ1.out.below hB')
           clear hvb hB' hzb hbe hXs
           refine hK.out _ _ hR ?_
           clear hK K
           (try simp only [Act.put,bw7,bw8,bw9])
           refine wpAnyS_ready (rs:=[28]) (by kernel_rfl) (by simp) ?_
           refine stepR (i:=28) rfl (by kernel_rfl) (fun K hK=>?_) (AllReadyS.nil)
           have hbq:=below_trans' hb11 hR
           go_simp
           refine (H117.out _ cb _ hbq (xc.below hR) HZ1.out).mono ?_
           rintro e wn ⟨zv,rfl,hzv,hB'⟩
           replace hR:=below_trans' hR hB'
           replace hbx:=hbx.below hB'
           replace HX:=Lib.hid (HX.out.below hB')
           replace HY:=Lib.hid (HY.out.below hB')
           replace HZ1:=Lib.hid (HZ1.out.below hB')
           have HZ:=Lib.hid hzv
           obtain ⟨zva,zvc,rfl,_⟩:=hzv
           clear hB' hbq
           refine hK.out _ _ hR ?_
           clear hK K
           (try simp only [Act.put,bw7,bw8,bw9])
           refine tkS 118 (i:=29) (v:=?_) (fw:=5) hQ' hR rfl ?_ ?_;rotate_left;(focus (intro wq hRq;have q0:=keep hRq d0;have q1:=keep hRq d1;have q2:=keep hRq d2;have q3:=keep hRq e0;have q4:=keep hRq e1;go_simp;(try with_reducible rfl)));(try simp only [Act.put,bw7,bw8,bw9])
           refine wpAnyS_ready (rs:=[31]) (by kernel_rfl) (by simp) ?_
           refine stepF (i:=31) rfl (by kernel_rfl) (by kernel_rfl) (fun K hK=>?_) (AllReadyS.nil)
           refine wp_store3 _ _ _ rfl hbx Tryz.infoMark rfl rfl rfl rfl rfl (fun wx hS hbx2=>?_)
           have F0:=Lib.hid (rb_end hb11 hR (xc.below hR) (x2.below hR) hS hbx hbw xc.lt x2.lt HX.out HY.out HZ.out)
           refine hK.out _ _ ?_
           clear hK K
           (try simp only [Act.put,bw7,bw8,bw9])
           refine wpAnyS_done (by kernel_rfl) ?_ _
           refine hN.out _ _ ?_
           obtain ⟨hbw2,xc2,x22,hx2,hy2,hz2⟩:=F0.out
           have k0:=BoxT1.c0 xc2
           have f0:=hbx2.c0
           have f1:=hbx2.c1
           have f2:=hbx2.c2
           go_wp2_with (refine wpList_store3 rfl _ _ _ rfl x22 Tryz.infoMark rfl rfl rfl rfl rfl ?_;intro W hS2 hx3;have hbW:=hS2.below hbw2 (by omega);have g0:=hx3.c0;have g1:=hx3.c1;have g2:=hx3.c2;have HFX:=Lib.hid (hx2.butM x22 hS2);have HFY:=Lib.hid (hy2.butM x22 hS2);have HFZ:=Lib.hid (hz2.butM x22 hS2))
           refine bodyPost_ret (v:=.tuple #[.agg #[.slice xva LX.length xvc,.slice yva LY.length yvc,.slice zva LZ.length zvc],.int .i64 0]) (by simp [results,Tryz.results17,go_sem,g0,g1,g2]) rfl ?_
           exact ⟨_,_,_,rfl,HFX.out,HFY.out,HFZ.out,hbW⟩
         ·go_simp
          have hXs:=hR.size
          refine after_alloc (fun wm hB' hvb hzb=>?_)
          obtain ⟨bx,hbe⟩:∃ bx,wn.heap.size=bx:=⟨_,rfl⟩
          rw [hbe] at hvb ⊢
          have hbx:BoxT3 41 wm bx (.slice none 0 0) (.slice none 0 0) (.slice none 0 0):=hvb
          have hbw:w11.heap.size≤bx:=by omega
          replace hR:=below_trans' hR hB'
          replace HX:=Lib.hid (HX.out.below hB')
          replace HY:=Lib.hid (HY.out.below hB')
          replace HZ1:=Lib.hid (HZ1.out.below hB')
          clear hvb hB' hzb hbe hXs
          refine hK.out _ _ hR ?_
          clear hK K
          (try simp only [Act.put,bw7,bw8,bw9])
          refine wpAnyS_ready (rs:=[27]) (by kernel_rfl) (by simp) ?_
          refine stepR (i:=27) rfl (by kernel_rfl) (fun K hK=>?_) (AllReadyS.nil)
          go_simp
          refine (HKE.out cb _ _ _ _ (xc.below hR)).mono ?_
          rintro e wn ⟨rfl,hB'⟩
          replace hR:=below_trans' hR hB'
          replace hbx:=hbx.below hB'
          replace HX:=Lib.hid (HX.out.below hB')
          replace HY:=Lib.hid (HY.out.below hB')
          replace HZ1:=Lib.hid (HZ1.out.below hB')
          clear hB'
          refine hK.out _ _ hR ?_
          clear hK K
          (try simp only [Act.put,bw7,bw8,bw9])
          refine wpAnyS_ready (rs:=[28]) (by kernel_rfl) (by simp) ?_
          refine stepR (i:=28) rfl (by kernel_rfl) (fun K hK=>?_) (AllReadyS.nil)
          have hbq:=below_trans' hb11 hR
          go_simp
          refine (H117.out _ cb _ hbq (xc.below hR) HZ1.out).mono ?_
          rintro e wn ⟨zv,rfl,hzv,hB'⟩
          replace hR:=below_trans' hR hB'
          replace hbx:=hbx.below hB'
          replace HX:=Lib.hid (HX.out.below hB')
          replace HY:=Lib.hid (HY.out.below hB')
          replace HZ1:=Lib.hid (HZ1.out.below hB')
          have HZ:=Lib.hid hzv
          obtain ⟨zva,zvc,rfl,_⟩:=hzv
          clear hB' hbq
          refine hK.out _ _ hR ?_
          clear hK K
          (try simp only [Act.put,bw7,bw8,bw9])
          refine tkS 118 (i:=29) (v:=?_) (fw:=5) hQ' hR rfl ?_ ?_;rotate_left;(focus (intro wq hRq;have q0:=keep hRq d0;have q1:=keep hRq d1;have q2:=keep hRq d2;have q3:=keep hRq e0;have q4:=keep hRq e1;go_simp;(try with_reducible rfl)));(try simp only [Act.put,bw7,bw8,bw9])
          refine wpAnyS_ready (rs:=[31]) (by kernel_rfl) (by simp) ?_
          refine stepF (i:=31) rfl (by kernel_rfl) (by kernel_rfl) (fun K hK=>?_) (AllReadyS.nil)
          refine wp_store3 _ _ _ rfl hbx Tryz.infoMark rfl rfl rfl rfl rfl (fun wx hS hbx2=>?_)
          have F0:=Lib.hid (rb_end hb11 hR (xc.below hR) (x2.below hR) hS hbx hbw xc.lt x2.lt HX.out HY.out HZ.out)
          refine hK.out _ _ ?_
          clear hK K
          (try simp only [Act.put,bw7,bw8,bw9])
          refine wpAnyS_done (by kernel_rfl) ?_ _
          refine hN.out _ _ ?_
          obtain ⟨hbw2,xc2,x22,hx2,hy2,hz2⟩:=F0.out
          have k0:=BoxT1.c0 xc2
          have f0:=hbx2.c0
          have f1:=hbx2.c1
          have f2:=hbx2.c2
          go_wp2_with (refine wpList_store3 rfl _ _ _ rfl x22 Tryz.infoMark rfl rfl rfl rfl rfl ?_;intro W hS2 hx3;have hbW:=hS2.below hbw2 (by omega);have g0:=hx3.c0;have g1:=hx3.c1;have g2:=hx3.c2;have HFX:=Lib.hid (hx2.butM x22 hS2);have HFY:=Lib.hid (hy2.butM x22 hS2);have HFZ:=Lib.hid (hz2.butM x22 hS2))
          refine bodyPost_ret (v:=.tuple #[.agg #[.slice xva LX.length xvc,.slice yva LY.length yvc,.slice zva LZ.length zvc],.int .i64 0]) (by simp [results,Tryz.results17,go_sem,g0,g1,g2]) rfl ?_
          exact ⟨_,_,_,rfl,HFX.out,HFY.out,HFZ.out,hbW⟩
        ·go_simp
         have hXs:=hR.size
         refine after_alloc (fun wm hB' hvb hzb=>?_)
         obtain ⟨bx,hbe⟩:∃ bx,wn.heap.size=bx:=⟨_,rfl⟩
         rw [hbe] at hvb ⊢
         have hbx:BoxT3 41 wm bx (.slice none 0 0) (.slice none 0 0) (.slice none 0 0):=hvb
         have hbw:w11.heap.size≤bx:=by omega
         replace hR:=below_trans' hR hB'
         replace HX:=Lib.hid (HX.out.below hB')
         replace HY:=Lib.hid (HY.out.below hB')
         clear hvb hB' hzb hbe hXs
         refine hK.out _ _ hR ?_
         clear hK K
         (try simp only [Act.put,bw7,bw8,bw9])
         refine wpAnyS_ready (rs:=[24]) (by kernel_rfl) (by simp) ?_
         refine stepR (i:=24) rfl (by kernel_rfl) (fun K hK=>?_) (AllReadyS.nil)
         have hbq:=below_trans' hb11 hR
         go_simp
         refine (H113.out _ _ _ hbq (HLR.out.below hR) (HV.out.below hbq)).mono ?_
         rintro e wn ⟨z1v,rfl,hz1v,hB'⟩
         replace hR:=below_trans' hR hB'
         replace hbx:=hbx.below hB'
         replace HX:=Lib.hid (HX.out.below hB')
         replace HY:=Lib.hid (HY.out.below hB')
         have HZ1:=Lib.hid hz1v
         obtain ⟨z1va,z1vc,rfl,_⟩:=hz1v
         clear hB' hbq
         refine hK.out _ _ hR ?_
         clear hK K
         (try simp only [Act.put,bw7,bw8,bw9])
         refine tkS 114 (i:=25) (v:=?_) (fw:=5) hQ' hR rfl ?_ ?_;rotate_left;(focus (intro wq hRq;have q0:=keep hRq d0;have q1:=keep hRq d1;have q2:=keep hRq d2;have q3:=keep hRq e0;have q4:=keep hRq e1;go_simp;(try with_reducible rfl)));(try simp only [Act.put,bw7,bw8,bw9])
         refine tkS 115 (i:=26) (v:=?_) (fw:=5) hQ' hR rfl ?_ ?_;rotate_left;(focus (intro wq hRq;have q0:=keep hRq d0;have q1:=keep hRq d1;have q2:=keep hRq d2;have q3:=keep hRq e0;have q4:=keep hRq e1;go_simp;(try with_reducible rfl)));(try simp only [Act.put,bw7,bw8,bw9])
         refine wpAnyS_ready (rs:=[27]) (by kernel_rfl) (by simp) ?_
         refine stepR (i:=27) rfl (by kernel_rfl) (fun K hK=>?_) (AllReadyS.nil)
         go_simp
         refine (HKE.out cb _ _ _ _ (xc.below hR)).mono ?_
         rintro e wn ⟨rfl,hB'⟩
         replace hR:=below_trans' hR hB'
         replace hbx:=hbx.below hB'
         replace HX:=Lib.hid (HX.out.below hB')
         replace HY:=Lib.hid (HY.out.below hB')
         replace HZ1:=Lib.hid (HZ1.out.below hB')
         clear hB'
         refine hK.out _ _ hR ?_
         clear hK K
         (try simp only [Act.put,bw7,bw8,bw9])
         refine wpAnyS_ready (rs:=[28]) (by kernel_rfl) (by simp) ?_
         refine stepR (i:=28) rfl (by kernel_rfl) (fun K hK=>?_) (AllReadyS.nil)
         have hbq:=below_trans' hb11 hR
         go_simp
         refine (H117.out _ cb _ hbq (xc.below hR) HZ1.out).mono ?_
         rintro e wn ⟨zv,rfl,hzv,hB'⟩
         replace hR:=below_trans' hR hB'
         replace hbx:=hbx.below hB'
         replace HX:=Lib.hid (HX.out.below hB')
         replace HY:=Lib.hid (HY.out.below hB')
         replace HZ1:=Lib.hid (HZ1.out.below hB')
         have HZ:=Lib.hid hzv
         obtain ⟨zva,zvc,rfl,_⟩:=hzv
         clear hB' hbq
         refine hK.out _ _ hR ?_
         clear hK K
         (try simp only [Act.put,bw7,bw8,bw9])
         refine tkS 118 (i:=29) (v:=?_) (fw:=5) hQ' hR rfl ?_ ?_;rotate_left;(focus (intro wq hRq;have q0:=keep hRq d0;have q1:=keep hRq d1;have q2:=keep hRq d2;have q3:=keep hRq e0;have q4:=keep hRq e1;go_simp;(try with_reducible rfl)));(try simp only [Act.put,bw7,bw8,bw9])
         refine wpAnyS_ready (rs:=[31]) (by kernel_rfl) (by simp) ?_
         refine stepF (i:=31) rfl (by kernel_rfl) (by kernel_rfl) (fun K hK=>?_) (AllReadyS.nil)
         refine wp_store3 _ _ _ rfl hbx Tryz.infoMark rfl rfl rfl rfl rfl (fun wx hS hbx2=>?_)
         have F0:=Lib.hid (rb_end hb11 hR (xc.below hR) (x2.below hR) hS hbx hbw xc.lt x2.lt HX.out HY.out HZ.out)
         refine hK.out _ _ ?_
         clear hK K
         (try simp only [Act.put,bw7,bw8,bw9])
         refine wpAnyS_done (by kernel_rfl) ?_ _
         refine hN.out _ _ ?_
         obtain ⟨hbw2,xc2,x22,hx2,hy2,hz2⟩:=F0.out
         have k0:=BoxT1.c0 xc2
         have f0:=hbx2.c0
         have f1:=hbx2.c1
         have f2:=hbx2.c2
         go_wp2_with (refine wpList_store3 rfl _ _ _ rfl x22 Tryz.infoMark rfl rfl rfl rfl rfl ?_;intro W hS2 hx3;have hbW:=hS2.below hbw2 (by omega);have g0:=hx3.c0;have g1:=hx3.c1;have g2:=hx3.c2;have HFX:=Lib.hid (hx2.butM x22 hS2);have HFY:=Lib.hid (hy2.butM x22 hS2);have HFZ:=Lib.hid (hz2.butM x22 hS2))
         refine bodyPost_ret (v:=.tuple #[.agg #[.slice xva LX.length xvc,.slice yva LY.length yvc,.slice zva LZ.length zvc],.int .i64 0]) (by simp [results,Tryz.results17,go_sem,g0,g1,g2]) rfl ?_
         exact ⟨_,_,_,rfl,HFX.out,HFY.out,HFZ.out,hbW⟩
       ·go_simp
        have hXs:=hR.size
        refine after_alloc (fun wm hB' hvb hzb=>?_)
        obtain ⟨bx,hbe⟩:∃ bx,wn.heap.size=bx:=⟨_,rfl⟩
        rw [hbe] at hvb ⊢
        have hbx:BoxT3 41 wm bx (.slice none 0 0) (.slice none 0 0) (.slice none 0 0):=hvb
        have hbw:w11.heap.size≤bx:=by omega
        replace hR:=below_trans' hR hB'
        replace HX:=Lib.hid (HX.out.below hB')
        replace HY1:=Lib.hid (HY1.out.below hB')
        clear hvb hB' hzb hbe hXs
        refine hK.out _ _ hR ?_
        clear hK K
        (try simp only [Act.put,bw7,bw8,bw9])
        refine wpAnyS_ready (rs:=[19]) (by kernel_rfl) (by simp) ?_
        refine stepR (i:=19) rfl (by kernel_rfl) (fun K hK=>?_) (AllReadyS.nil)
        have hbq:=below_trans' hb11 hR
        go_simp
        refine (H108.out _ cb _ hbq (xc.below hR) HY1.out).mono ?_
        rintro e wn ⟨yv,rfl,hyv,hB'⟩
        replace hR:=below_trans' hR hB'
        replace hbx:=hbx.below hB'
        replace HX:=Lib.hid (HX.out.below hB')
        replace HY1:=Lib.hid (HY1.out.below hB')
        have HY:=Lib.hid hyv
        obtain ⟨yva,yvc,rfl,_⟩:=hyv
        clear hB' hbq
        refine hK.out _ _ hR ?_
        clear hK K
        (try simp only [Act.put,bw7,bw8,bw9])
        refine wpAnyS_ready (rs:=[24]) (by kernel_rfl) (by simp) ?_
        refine stepR (i:=24) rfl (by kernel_rfl) (fun K hK=>?_) (AllReadyS.nil)
        have hbq:=below_trans' hb11 hR
        go_simp
        refine (H113.out _ _ _ hbq (HLR.out.below hR) (HV.out.below hbq)).mono ?_
        rintro e wn ⟨z1v,rfl,hz1v,hB'⟩
        replace hR:=below_trans' hR hB'
        replace hbx:=hbx.below hB'
        replace HX:=Lib.hid (HX.out.below hB')
        replace HY:=Lib.hid (HY.out.below hB')
        have HZ1:=Lib.hid hz1v
        obtain ⟨z1va,z1vc,rfl,_⟩:=hz1v
        clear hB' hbq
        refine hK.out _ _ hR ?_
        clear hK K
        (try simp only [Act.put,bw7,bw8,bw9])
        refine tkS 114 (i:=25) (v:=?_) (fw:=5) hQ' hR rfl ?_ ?_;rotate_left;(focus (intro wq hRq;have q0:=keep hRq d0;have q1:=keep hRq d1;have q2:=keep hRq d2;have q3:=keep hRq e0;have q4:=keep hRq e1;go_simp;(try with_reducible rfl)));(try simp only [Act.put,bw7,bw8,bw9])
        refine tkS 115 (i:=26) (v:=?_) (fw:=5) hQ' hR rfl ?_ ?_;rotate_left;(focus (intro wq hRq;have q0:=keep hRq d0;have q1:=keep hRq d1;have q2:=keep hRq d2;have q3:=keep hRq e0;have q4:=keep hRq e1;go_simp;(try with_reducible rfl)));(try simp only [Act.put,bw7,bw8,bw9])
        refine wpAnyS_ready (rs:=[27]) (by kernel_rfl) (by simp) ?_
        refine stepR (i:=27) rfl (by kernel_rfl) (fun K hK=>?_) (AllReadyS.nil)
        go_simp
        refine (HKE.out cb _ _ _ _ (xc.below hR)).mono ?_
        rintro e wn ⟨rfl,hB'⟩
        replace hR:=below_trans' hR hB'
        replace hbx:=hbx.below hB'
        replace HX:=Lib.hid (HX.out.below hB')
        replace HY:=Lib.hid (HY.out.below hB')
        replace HZ1:=Lib.hid (HZ1.out.below hB')
        clear hB'
        refine hK.out _ _ hR ?_
        clear hK K
        (try simp only [Act.put,bw7,bw8,bw9])
        refine wpAnyS_ready (rs:=[28]) (by kernel_rfl) (by simp) ?_
        refine stepR (i:=28) rfl (by kernel_rfl) (fun K hK=>?_) (AllReadyS.nil)
        have hbq:=below_trans' hb11 hR
        go_simp
        refine (H117.out _ cb _ hbq (xc.below hR) HZ1.out).mono ?_
        rintro e wn ⟨zv,rfl,hzv,hB'⟩
        replace hR:=below_trans' hR hB'
        replace hbx:=hbx.below hB'
        replace HX:=Lib.hid (HX.out.below hB')
        replace HY:=Lib.hid (HY.out.below hB')
        replace HZ1:=Lib.hid (HZ1.out.below hB')
        have HZ:=Lib.hid hzv
        obtain ⟨zva,zvc,rfl,_⟩:=hzv
        clear hB' hbq
        refine hK.out _ _ hR ?_
        clear hK K
        (try simp only [Act.put,bw7,bw8,bw9])
        refine tkS 118 (i:=29) (v:=?_) (fw:=5) hQ' hR rfl ?_ ?_;rotate_left;(focus (intro wq hRq;have q0:=keep hRq d0;have q1:=keep hRq d1;have q2:=keep hRq d2;have q3:=keep hRq e0;have q4:=keep hRq e1;go_simp;(try with_reducible rfl)));(try simp only [Act.put,bw7,bw8,bw9])
        refine wpAnyS_ready (rs:=[31]) (by kernel_rfl) (by simp) ?_
        refine stepF (i:=31) rfl (by kernel_rfl) (by kernel_rfl) (fun K hK=>?_) (AllReadyS.nil)
        refine wp_store3 _ _ _ rfl hbx Tryz.infoMark rfl rfl rfl rfl rfl (fun wx hS hbx2=>?_)
        have F0:=Lib.hid (rb_end hb11 hR (xc.below hR) (x2.below hR) hS hbx hbw xc.lt x2.lt HX.out HY.out HZ.out)
        refine hK.out _ _ ?_
        clear hK K
        (try simp only [Act.put,bw7,bw8,bw9])
        refine wpAnyS_done (by kernel_rfl) ?_ _
        refine hN.out _ _ ?_
        obtain ⟨hbw2,xc2,x22,hx2,hy2,hz2⟩:=F0.out
        have k0:=BoxT1.c0 xc2
        have f0:=hbx2.c0
        have f1:=hbx2.c1
        have f2:=hbx2.c2
        go_wp2_with (refine wpList_store3 rfl _ _ _ rfl x22 Tryz.infoMark rfl rfl rfl rfl rfl ?_;intro W hS2 hx3;have hbW:=hS2.below hbw2 (by omega);have g0:=hx3.c0;have g1:=hx3.c1;have g2:=hx3.c2;have HFX:=Lib.hid (hx2.butM x22 hS2);have HFY:=Lib.hid (hy2.butM x22 hS2);have HFZ:=Lib.hid (hz2.butM x22 hS2))
        refine bodyPost_ret (v:=.tuple #[.agg #[.slice xva LX.length xvc,.slice yva LY.length yvc,.slice zva LZ.length zvc],.int .i64 0]) (by simp [results,Tryz.results17,go_sem,g0,g1,g2]) rfl ?_
        exact ⟨_,_,_,rfl,HFX.out,HFY.out,HFZ.out,hbW⟩
      ·go_simp
       have hXs:=hR.size
       refine after_alloc (fun wm hB' hvb hzb=>?_)
       obtain ⟨bx,hbe⟩:∃ bx,wn.heap.size=bx:=⟨_,rfl⟩
       rw [hbe] at hvb ⊢
       have hbx:BoxT3 41 wm bx (.slice none 0 0) (.slice none 0 0) (.slice none 0 0):=hvb
       have hbw:w11.heap.size≤bx:=by omega
       replace hR:=below_trans' hR hB'
       replace HX:=Lib.hid (HX.out.below hB')
       replace HY1:=Lib.hid (HY1.out.below hB')
       clear hvb hB' hzb hbe hXs
       refine hK.out _ _ hR ?_
       clear hK K
       (try simp only [Act.put,bw7,bw8,bw9])
       refine wpAnyS_ready (rs:=[18]) (by kernel_rfl) (by simp) ?_
       refine stepR (i:=18) rfl (by kernel_rfl) (fun K hK=>?_) (AllReadyS.nil)
       go_simp
       refine (HKE.out cb _ _ _ _ (xc.below hR)).mono ?_
       rintro e wn ⟨rfl,hB'⟩
       replace hR:=below_trans' hR hB'
       replace hbx:=hbx.below hB'
       replace HX:=Lib.hid (HX.out.below hB')
       replace HY1:=Lib.hid (HY1.out.below hB')
       clear hB'
       refine hK.out _ _ hR ?_
       clear hK K
       (try simp only [Act.put,bw7,bw8,bw9])
       refine wpAnyS_ready (rs:=[19]) (by kernel_rfl) (by simp) ?_
       refine stepR (i:=19) rfl (by kernel_rfl) (fun K hK=>?_) (AllReadyS.nil)
       have hbq:=below_trans' hb11 hR
       go_simp
       refine (H108.out _ cb _ hbq (xc.below hR) HY1.out).mono ?_
       rintro e wn ⟨yv,rfl,hyv,hB'⟩
       replace hR:=below_trans' hR hB'
       replace hbx:=hbx.below hB'
       replace HX:=Lib.hid (HX.out.below hB')
       replace HY1:=Lib.hid (HY1.out.below hB')
       have HY:=Lib.hid hyv
       obtain ⟨yva,yvc,rfl,_⟩:=hyv
       clear hB' hbq
       refine hK.out _ _ hR ?_
       clear hK K
       (try simp only [Act.put,bw7,bw8,bw9])
       refine wpAnyS_ready (rs:=[24]) (by kernel_rfl) (by simp) ?_
       refine stepR (i:=24) rfl (by kernel_rfl) (fun K hK=>?_) (AllReadyS.nil)
       have hbq:=below_trans' hb11 hR
       go_simp
       refine (H113.out _ _ _ hbq (HLR.out.below hR) (HV.out.below hbq)).mono ?_
       rintro e wn ⟨z1v,rfl,hz1v,hB'⟩
       replace hR:=below_trans' hR hB'
       replace hbx:=hbx.below hB'
       replace HX:=Lib.hid (HX.out.below hB')
       replace HY:=Lib.hid (HY.out.below hB')
       have HZ1:=Lib.hid hz1v
       obtain ⟨z1va,z1vc,rfl,_⟩:=hz1v
       clear hB' hbq
       refine hK.out _ _ hR ?_
       clear hK K
       (try simp only [Act.put,bw7,bw8,bw9])
       refine tkS 114 (i:=25) (v:=?_) (fw:=5) hQ' hR rfl ?_ ?_;rotate_left;(focus (intro wq hRq;have q0:=keep hRq d0;have q1:=keep hRq d1;have q2:=keep hRq d2;have q3:=keep hRq e0;have q4:=keep hRq e1;go_simp;(try with_reducible rfl)));(try simp only [Act.put,bw7,bw8,bw9])
       refine tkS 115 (i:=26) (v:=?_) (fw:=5) hQ' hR rfl ?_ ?_;rotate_left;(focus (intro wq hRq;have q0:=keep hRq d0;have q1:=keep hRq d1;have q2:=keep hRq d2;have q3:=keep hRq e0;have q4:=keep hRq e1;go_simp;(try with_reducible rfl)));(try simp only [Act.put,bw7,bw8,bw9])
       refine wpAnyS_ready (rs:=[27]) (by kernel_rfl) (by simp) ?_
       refine stepR (i:=27) rfl (by kernel_rfl) (fun K hK=>?_) (AllReadyS.nil)
       go_simp
       refine (HKE.out cb _ _ _ _ (xc.below hR)).mono ?_
       rintro e wn ⟨rfl,hB'⟩
       replace hR:=below_trans' hR hB'
       replace hbx:=hbx.below hB'
       replace HX:=Lib.hid (HX.out.below hB')
       replace HY:=Lib.hid (HY.out.below hB')
       replace HZ1:=Lib.hid (HZ1.out.below hB')
       clear hB'
       refine hK.out _ _ hR ?_
       clear hK K
       (try simp only [Act.put,bw7,bw8,bw9])
       refine wpAnyS_ready (rs:=[28]) (by kernel_rfl) (by simp) ?_
       refine stepR (i:=28) rfl (by kernel_rfl) (fun K hK=>?_) (AllReadyS.nil)
       have hbq:=below_trans' hb11 hR
       go_simp
       refine (H117.out _ cb _ hbq (xc.below hR) HZ1.out).mono ?_
       rintro e wn ⟨zv,rfl,hzv,hB'⟩
       replace hR:=below_trans' hR hB'
       replace hbx:=hbx.below hB'
       replace HX:=Lib.hid (HX.out.below hB')
       replace HY:=Lib.hid (HY.out.below hB')
       replace HZ1:=Lib.hid (HZ1.out.below hB')
       have HZ:=Lib.hid hzv
       obtain ⟨zva,zvc,rfl,_⟩:=hzv
       clear hB' hbq
       refine hK.out _ _ hR ?_
       clear hK K
       (try simp only [Act.put,bw7,bw8,bw9])
       refine tkS 118 (i:=29) (v:=?_) (fw:=5) hQ' hR rfl ?_ ?_;rotate_left;(focus (intro wq hRq;have q0:=keep hRq d0;have q1:=keep hRq d1;have q2:=keep hRq d2;have q3:=keep hRq e0;have q4:=keep hRq e1;go_simp;(try with_reducible rfl)));(try simp only [Act.put,bw7,bw8,bw9])
       refine wpAnyS_ready (rs:=[31]) (by kernel_rfl) (by simp) ?_
       refine stepF (i:=31) rfl (by kernel_rfl) (by kernel_rfl) (fun K hK=>?_) (AllReadyS.nil)
       refine wp_store3 _ _ _ rfl hbx Tryz.infoMark rfl rfl rfl rfl rfl (fun wx hS hbx2=>?_)
       have F0:=Lib.hid (rb_end hb11 hR (xc.below hR) (x2.below hR) hS hbx hbw xc.lt x2.lt HX.out HY.out HZ.out)
       refine hK.out _ _ ?_
       clear hK K
       (try simp only [Act.put,bw7,bw8,bw9])
       refine wpAnyS_done (by kernel_rfl) ?_ _
       refine hN.out _ _ ?_
       obtain ⟨hbw2,xc2,x22,hx2,hy2,hz2⟩:=F0.out
       have k0:=BoxT1.c0 xc2
       have f0:=hbx2.c0
       have f1:=hbx2.c1
       have f2:=hbx2.c2
       go_wp2_with (refine wpList_store3 rfl _ _ _ rfl x22 Tryz.infoMark rfl rfl rfl rfl rfl ?_;intro W hS2 hx3;have hbW:=hS2.below hbw2 (by omega);have g0:=hx3.c0;have g1:=hx3.c1;have g2:=hx3.c2;have HFX:=Lib.hid (hx2.butM x22 hS2);have HFY:=Lib.hid (hy2.butM x22 hS2);have HFZ:=Lib.hid (hz2.butM x22 hS2))
       refine bodyPost_ret (v:=.tuple #[.agg #[.slice xva LX.length xvc,.slice yva LY.length yvc,.slice zva LZ.length zvc],.int .i64 0]) (by simp [results,Tryz.results17,go_sem,g0,g1,g2]) rfl ?_
       exact ⟨_,_,_,rfl,HFX.out,HFY.out,HFZ.out,hbW⟩
     ·go_simp
      have hXs:=hR.size
      refine after_alloc (fun wm hB' hvb hzb=>?_)
      obtain ⟨bx,hbe⟩:∃ bx,wn.heap.size=bx:=⟨_,rfl⟩
      rw [hbe] at hvb ⊢
      have hbx:BoxT3 41 wm bx (.slice none 0 0) (.slice none 0 0) (.slice none 0 0):=hvb
      have hbw:w11.heap.size≤bx:=by omega
      replace hR:=below_trans' hR hB'
      replace HX:=Lib.hid (HX.out.below hB')
      clear hvb hB' hzb hbe hXs
      refine hK.out _ _ hR ?_
      clear hK K
      (try simp only [Act.put,bw7,bw8,bw9])
      refine wpAnyS_ready (rs:=[15]) (by kernel_rfl) (by simp) ?_
      refine stepR (i:=15) rfl (by kernel_rfl) (fun K hK=>?_) (AllReadyS.nil)
      have hbq:=below_trans' hb11 hR
      go_simp
      refine (H104.out _ _ hbq (HLF.out.below hR)).mono ?_
      rintro e wn ⟨y1v,rfl,hy1v,hB'⟩
      replace hR:=below_trans' hR hB'
      replace hbx:=hbx.below hB'
      replace HX:=Lib.hid (HX.out.below hB')
      have HY1:=Lib.hid hy1v
      obtain ⟨y1va,y1vc,rfl,_⟩:=hy1v
      clear hB' hbq
      refine hK.out _ _ hR ?_
      clear hK K
      (try simp only [Act.put,bw7,bw8,bw9])
      refine tkS 105 (i:=16) (v:=?_) (fw:=5) hQ' hR rfl ?_ ?_;rotate_left;(focus (intro wq hRq;have q0:=keep hRq d0;have q1:=keep hRq d1;have q2:=keep hRq d2;have q3:=keep hRq e0;have q4:=keep hRq e1;go_simp;(try with_reducible rfl)));(try simp only [Act.put,bw7,bw8,bw9])
      refine tkS 106 (i:=17) (v:=?_) (fw:=5) hQ' hR rfl ?_ ?_;rotate_left;(focus (intro wq hRq;have q0:=keep hRq d0;have q1:=keep hRq d1;have q2:=keep hRq d2;have q3:=keep hRq e0;have q4:=keep hRq e1;go_simp;(try with_reducible rfl)));(try simp only [Act.put,bw7,bw8,bw9])
      refine wpAnyS_ready (rs:=[18]) (by kernel_rfl) (by simp) ?_
      refine stepR (i:=18) rfl (by kernel_rfl) (fun K hK=>?_) (AllReadyS.nil)
      go_simp
      refine (HKE.out cb _ _ _ _ (xc.below hR)).mono ?_
      rintro e wn ⟨rfl,hB'⟩
      replace hR:=below_trans' hR hB'
      replace hbx:=hbx.below hB'
      replace HX:=Lib.hid (HX.out.below hB')
      replace HY1:=Lib.hid (HY1.out.below hB')
      clear hB'
      refine hK.out _ _ hR ?_
      clear hK K
      (try simp only [Act.put,bw7,bw8,bw9])
      refine wpAnyS_ready (rs:=[19]) (by kernel_rfl) (by simp) ?_
      refine stepR (i:=19) rfl (by kernel_rfl) (fun K hK=>?_) (AllReadyS.nil)
      have hbq:=below_trans' hb11 hR
      go_simp
      refine (H108.out _ cb _ hbq (xc.below hR) HY1.out).mono ?_
      rintro e wn ⟨yv,rfl,hyv,hB'⟩
      replace hR:=below_trans' hR hB'
      replace hbx:=hbx.below hB'
      replace HX:=Lib.hid (HX.out.below hB')
      replace HY1:=Lib.hid (HY1.out.below hB')
      have HY:=Lib.hid hyv
      obtain ⟨yva,yvc,rfl,_⟩:=hyv
      clear hB' hbq
      refine hK.out _ _ hR ?_
      clear hK K
      (try simp only [Act.put,bw7,bw8,bw9])
      refine wpAnyS_ready (rs:=[24]) (by kernel_rfl) (by simp) ?_
      refine stepR (i:=24) rfl (by kernel_rfl) (fun K hK=>?_) (AllReadyS.nil)
      have hbq:=below_trans' hb11 hR
      go_simp
      refine (H113.out _ _ _ hbq (HLR.out.below hR) (HV.out.below hbq)).mono ?_
      rintro e wn ⟨z1v,rfl,hz1v,hB'⟩
      replace hR:=below_trans' hR hB'
      replace hbx:=hbx.below hB'
      replace HX:=Lib.hid (HX.out.below hB')
      replace HY:=Lib.hid (HY.out.below hB')
      have HZ1:=Lib.hid hz1v
      obtain ⟨z1va,z1vc,rfl,_⟩:=hz1v
      clear hB' hbq
      refine hK.out _ _ hR ?_
      clear hK K
      (try simp only [Act.put,bw7,bw8,bw9])
      refine tkS 114 (i:=25) (v:=?_) (fw:=5) hQ' hR rfl ?_ ?_;rotate_left;(focus (intro wq hRq;have q0:=keep hRq d0;have q1:=keep hRq d1;have q2:=keep hRq d2;have q3:=keep hRq e0;have q4:=keep hRq e1;go_simp;(try with_reducible rfl)));(try simp only [Act.put,bw7,bw8,bw9])
      refine tkS 115 (i:=26) (v:=?_) (fw:=5) hQ' hR rfl ?_ ?_;rotate_left;(focus (intro wq hRq;have q0:=keep hRq d0;have q1:=keep hRq d1;have q2:=keep hRq d2;have q3:=keep hRq e0;have q4:=keep hRq e1;go_simp;(try with_reducible rfl)));(try simp only [Act.put,bw7,bw8,bw9])
      refine wpAnyS_ready (rs:=[27]) (by kernel_rfl) (by simp) ?_
      refine stepR (i:=27) rfl (by kernel_rfl) (fun K hK=>?_) (AllReadyS.nil)
      go_simp
      refine (HKE.out cb _ _ _ _ (xc.below hR)).mono ?_
      rintro e wn ⟨rfl,hB'⟩
      replace hR:=below_trans' hR hB'
      replace hbx:=hbx.below hB'
      replace HX:=Lib.hid (HX.out.below hB')
      replace HY:=Lib.hid (HY.out.below hB')
      replace HZ1:=Lib.hid (HZ1.out.below hB')
      clear hB'
      refine hK.out _ _ hR ?_
      clear hK K
      (try simp only [Act.put,bw7,bw8,bw9])
      refine wpAnyS_ready (rs:=[28]) (by kernel_rfl) (by simp) ?_
      refine stepR (i:=28) rfl (by kernel_rfl) (fun K hK=>?_) (AllReadyS.nil)
      have hbq:=below_trans' hb11 hR
      go_simp
      refine (H117.out _ cb _ hbq (xc.below hR) HZ1.out).mono ?_
      rintro e wn ⟨zv,rfl,hzv,hB'⟩
      replace hR:=below_trans' hR hB'
      replace hbx:=hbx.below hB'
      replace HX:=Lib.hid (HX.out.below hB')
      replace HY:=Lib.hid (HY.out.below hB')
      replace HZ1:=Lib.hid (HZ1.out.below hB')
      have HZ:=Lib.hid hzv
      obtain ⟨zva,zvc,rfl,_⟩:=hzv
      clear hB' hbq
      refine hK.out _ _ hR ?_
      clear hK K
      (try simp only [Act.put,bw7,bw8,bw9])
      refine tkS 118 (i:=29) (v:=?_) (fw:=5) hQ' hR rfl ?_ ?_;rotate_left;(focus (intro wq hRq;have q0:=keep hRq d0;have q1:=keep hRq d1;have q2:=keep hRq d2;have q3:=keep hRq e0;have q4:=keep hRq e1;go_simp;(try with_reducible rfl)));(try simp only [Act.put,bw7,bw8,bw9])
      refine wpAnyS_ready (rs:=[31]) (by kernel_rfl) (by simp) ?_
      refine stepF (i:=31) rfl (by kernel_rfl) (by kernel_rfl) (fun K hK=>?_) (AllReadyS.nil)
      refine wp_store3 _ _ _ rfl hbx Tryz.infoMark rfl rfl rfl rfl rfl (fun wx hS hbx2=>?_)
      have F0:=Lib.hid (rb_end hb11 hR (xc.below hR) (x2.below hR) hS hbx hbw xc.lt x2.lt HX.out HY.out HZ.out)
      refine hK.out _ _ ?_
      clear hK K
      (try simp only [Act.put,bw7,bw8,bw9])
      refine wpAnyS_done (by kernel_rfl) ?_ _
      refine hN.out _ _ ?_
      obtain ⟨hbw2,xc2,x22,hx2,hy2,hz2⟩:=F0.out
      have k0:=BoxT1.c0 xc2
      have f0:=hbx2.c0
      have f1:=hbx2.c1
      have f2:=hbx2.c2
      go_wp2_with (refine wpList_store3 rfl _ _ _ rfl x22 Tryz.infoMark rfl rfl rfl rfl rfl ?_;intro W hS2 hx3;have hbW:=hS2.below hbw2 (by omega);have g0:=hx3.c0;have g1:=hx3.c1;have g2:=hx3.c2;have HFX:=Lib.hid (hx2.butM x22 hS2);have HFY:=Lib.hid (hy2.butM x22 hS2);have HFZ:=Lib.hid (hz2.butM x22 hS2))
      refine bodyPost_ret (v:=.tuple #[.agg #[.slice xva LX.length xvc,.slice yva LY.length yvc,.slice zva LZ.length zvc],.int .i64 0]) (by simp [results,Tryz.results17,go_sem,g0,g1,g2]) rfl ?_
      exact ⟨_,_,_,rfl,HFX.out,HFY.out,HFZ.out,hbW⟩
    ·go_simp
     have hXs:=hR.size
     refine after_alloc (fun wm hB' hvb hzb=>?_)
     obtain ⟨bx,hbe⟩:∃ bx,wn.heap.size=bx:=⟨_,rfl⟩
     rw [hbe] at hvb ⊢
     have hbx:BoxT3 41 wm bx (.slice none 0 0) (.slice none 0 0) (.slice none 0 0):=hvb
     have hbw:w11.heap.size≤bx:=by omega
     replace hR:=below_trans' hR hB'
     replace HX1:=Lib.hid (HX1.out.below hB')
     clear hvb hB' hzb hbe hXs
     refine hK.out _ _ hR ?_
     clear hK K
     (try simp only [Act.put,bw7,bw8,bw9])
     refine wpAnyS_ready (rs:=[9]) (by kernel_rfl) (by simp) ?_
     refine stepR (i:=9) rfl (by kernel_rfl) (fun K hK=>?_) (AllReadyS.nil)
     have hbq:=below_trans' hb11 hR
     go_simp
     refine (H98.out _ cb _ hbq (xc.below hR) HX1.out).mono ?_
     rintro e wn ⟨xv,rfl,hxv,hB'⟩
     replace hR:=below_trans' hR hB'
     replace hbx:=hbx.below hB'
     replace HX1:=Lib.hid (HX1.out.below hB')
     have HX:=Lib.hid hxv
     obtain ⟨xva,xvc,rfl,_⟩:=hxv
     clear hB' hbq
     refine hK.out _ _ hR ?_
     clear hK K
     (try simp only [Act.put,bw7,bw8,bw9])
     refine wpAnyS_ready (rs:=[15]) (by kernel_rfl) (by simp) ?_
     refine stepR (i:=15) rfl (by kernel_rfl) (fun K hK=>?_) (AllReadyS.nil)
     have hbq:=below_trans' hb11 hR
     go_simp
     refine (H104.out _ _ hbq (HLF.out.below hR)).mono ?_
     rintro e wn ⟨y1v,rfl,hy1v,hB'⟩
     replace hR:=below_trans' hR hB'
     replace hbx:=hbx.below hB'
     replace HX:=Lib.hid (HX.out.below hB')
     have HY1:=Lib.hid hy1v
     obtain ⟨y1va,y1vc,rfl,_⟩:=hy1v
     clear hB' hbq
     refine hK.out _ _ hR ?_
     clear hK K
     (try simp only [Act.put,bw7,bw8,bw9])
     refine tkS 105 (i:=16) (v:=?_) (fw:=5) hQ' hR rfl ?_ ?_;rotate_left;(focus (intro wq hRq;have q0:=keep hRq d0;have q1:=keep hRq d1;have q2:=keep hRq d2;have q3:=keep hRq e0;have q4:=keep hRq e1;go_simp;(try with_reducible rfl)));(try simp only [Act.put,bw7,bw8,bw9])
     refine tkS 106 (i:=17) (v:=?_) (fw:=5) hQ' hR rfl ?_ ?_;rotate_left;(focus (intro wq hRq;have q0:=keep hRq d0;have q1:=keep hRq d1;have q2:=keep hRq d2;have q3:=keep hRq e0;have q4:=keep hRq e1;go_simp;(try with_reducible rfl)));(try simp only [Act.put,bw7,bw8,bw9])
     refine wpAnyS_ready (rs:=[18]) (by kernel_rfl) (by simp) ?_
     refine stepR (i:=18) rfl (by kernel_rfl) (fun K hK=>?_) (AllReadyS.nil)
     go_simp
     refine (HKE.out cb _ _ _ _ (xc.below hR)).mono ?_
     rintro e wn ⟨rfl,hB'⟩
     replace hR:=below_trans' hR hB'
     replace hbx:=hbx.below hB'
     replace HX:=Lib.hid (HX.out.below hB')
     replace HY1:=Lib.hid (HY1.out.below hB')
     clear hB'
     refine hK.out _ _ hR ?_
     clear hK K
     (try simp only [Act.put,bw7,bw8,bw9])
     refine wpAnyS_ready (rs:=[19]) (by kernel_rfl) (by simp) ?_
     refine stepR (i:=19) rfl (by kernel_rfl) (fun K hK=>?_) (AllReadyS.nil)
     have hbq:=below_trans' hb11 hR
     go_simp
     refine (H108.out _ cb _ hbq (xc.below hR) HY1.out).mono ?_
     rintro e wn ⟨yv,rfl,hyv,hB'⟩
     replace hR:=below_trans' hR hB'
     replace hbx:=hbx.below hB'
     replace HX:=Lib.hid (HX.out.below hB')
     replace HY1:=Lib.hid (HY1.out.below hB')
     have HY:=Lib.hid hyv
     obtain ⟨yva,yvc,rfl,_⟩:=hyv
     clear hB' hbq
     refine hK.out _ _ hR ?_
     clear hK K
     (try simp only [Act.put,bw7,bw8,bw9])
     refine wpAnyS_ready (rs:=[24]) (by kernel_rfl) (by simp) ?_
     refine stepR (i:=24) rfl (by kernel_rfl) (fun K hK=>?_) (AllReadyS.nil)
     have hbq:=below_trans' hb11 hR
     go_simp
     refine (H113.out _ _ _ hbq (HLR.out.below hR) (HV.out.below hbq)).mono ?_
     rintro e wn ⟨z1v,rfl,hz1v,hB'⟩
     replace hR:=below_trans' hR hB'
     replace hbx:=hbx.below hB'
     replace HX:=Lib.hid (HX.out.below hB')
     replace HY:=Lib.hid (HY.out.below hB')
     have HZ1:=Lib.hid hz1v
     obtain ⟨z1va,z1vc,rfl,_⟩:=hz1v
     clear hB' hbq
     refine hK.out _ _ hR ?_
     clear hK K
     (try simp only [Act.put,bw7,bw8,bw9])
     refine tkS 114 (i:=25) (v:=?_) (fw:=5) hQ' hR rfl ?_ ?_;rotate_left;(focus (intro wq hRq;have q0:=keep hRq d0;have q1:=keep hRq d1;have q2:=keep hRq d2;have q3:=keep hRq e0;have q4:=keep hRq e1;go_simp;(try with_reducible rfl)));(try simp only [Act.put,bw7,bw8,bw9])
     refine tkS 115 (i:=26) (v:=?_) (fw:=5) hQ' hR rfl ?_ ?_;rotate_left;(focus (intro wq hRq;have q0:=keep hRq d0;have q1:=keep hRq d1;have q2:=keep hRq d2;have q3:=keep hRq e0;have q4:=keep hRq e1;go_simp;(try with_reducible rfl)));(try simp only [Act.put,bw7,bw8,bw9])
     refine wpAnyS_ready (rs:=[27]) (by kernel_rfl) (by simp) ?_
     refine stepR (i:=27) rfl (by kernel_rfl) (fun K hK=>?_) (AllReadyS.nil)
     go_simp
     refine (HKE.out cb _ _ _ _ (xc.below hR)).mono ?_
     rintro e wn ⟨rfl,hB'⟩
     replace hR:=below_trans' hR hB'
     replace hbx:=hbx.below hB'
     replace HX:=Lib.hid (HX.out.below hB')
     replace HY:=Lib.hid (HY.out.below hB')
     replace HZ1:=Lib.hid (HZ1.out.below hB')
     clear hB'
     refine hK.out _ _ hR ?_
     clear hK K
     (try simp only [Act.put,bw7,bw8,bw9])
     refine wpAnyS_ready (rs:=[28]) (by kernel_rfl) (by simp) ?_
     refine stepR (i:=28) rfl (by kernel_rfl) (fun K hK=>?_) (AllReadyS.nil)
     have hbq:=below_trans' hb11 hR
     go_simp
     refine (H117.out _ cb _ hbq (xc.below hR) HZ1.out).mono ?_
     rintro e wn ⟨zv,rfl,hzv,hB'⟩
     replace hR:=below_trans' hR hB'
     replace hbx:=hbx.below hB'
     replace HX:=Lib.hid (HX.out.below hB')
     replace HY:=Lib.hid (HY.out.below hB')
     replace HZ1:=Lib.hid (HZ1.out.below hB')
     have HZ:=Lib.hid hzv
     obtain ⟨zva,zvc,rfl,_⟩:=hzv
     clear hB' hbq
     refine hK.out _ _ hR ?_
     clear hK K
     (try simp only [Act.put,bw7,bw8,bw9])
     refine tkS 118 (i:=29) (v:=?_) (fw:=5) hQ' hR rfl ?_ ?_;rotate_left;(focus (intro wq hRq;have q0:=keep hRq d0;have q1:=keep hRq d1;have q2:=keep hRq d2;have q3:=keep hRq e0;have q4:=keep hRq e1;go_simp;(try with_reducible rfl)));(try simp only [Act.put,bw7,bw8,bw9])
     refine wpAnyS_ready (rs:=[31]) (by kernel_rfl) (by simp) ?_
     refine stepF (i:=31) rfl (by kernel_rfl) (by kernel_rfl) (fun K hK=>?_) (AllReadyS.nil)
     refine wp_store3 _ _ _ rfl hbx Tryz.infoMark rfl rfl rfl rfl rfl (fun wx hS hbx2=>?_)
     have F0:=Lib.hid (rb_end hb11 hR (xc.below hR) (x2.below hR) hS hbx hbw xc.lt x2.lt HX.out HY.out HZ.out)
     refine hK.out _ _ ?_
     clear hK K
     (try simp only [Act.put,bw7,bw8,bw9])
     refine wpAnyS_done (by kernel_rfl) ?_ _
     refine hN.out _ _ ?_
     obtain ⟨hbw2,xc2,x22,hx2,hy2,hz2⟩:=F0.out
     have k0:=BoxT1.c0 xc2
     have f0:=hbx2.c0
     have f1:=hbx2.c1
     have f2:=hbx2.c2
     go_wp2_with (refine wpList_store3 rfl _ _ _ rfl x22 Tryz.infoMark rfl rfl rfl rfl rfl ?_;intro W hS2 hx3;have hbW:=hS2.below hbw2 (by omega);have g0:=hx3.c0;have g1:=hx3.c1;have g2:=hx3.c2;have HFX:=Lib.hid (hx2.butM x22 hS2);have HFY:=Lib.hid (hy2.butM x22 hS2);have HFZ:=Lib.hid (hz2.butM x22 hS2))
     refine bodyPost_ret (v:=.tuple #[.agg #[.slice xva LX.length xvc,.slice yva LY.length yvc,.slice zva LZ.length zvc],.int .i64 0]) (by simp [results,Tryz.results17,go_sem,g0,g1,g2]) rfl ?_
     exact ⟨_,_,_,rfl,HFX.out,HFY.out,HFZ.out,hbW⟩
   ·go_simp
    have hXs:=hR.size
    refine after_alloc (fun wm hB' hvb hzb=>?_)
    obtain ⟨bx,hbe⟩:∃ bx,wn.heap.size=bx:=⟨_,rfl⟩
    rw [hbe] at hvb ⊢
    have hbx:BoxT3 41 wm bx (.slice none 0 0) (.slice none 0 0) (.slice none 0 0):=hvb
    have hbw:w11.heap.size≤bx:=by omega
    replace hR:=below_trans' hR hB'
    replace HX1:=Lib.hid (HX1.out.below hB')
    clear hvb hB' hzb hbe hXs
    refine hK.out _ _ hR ?_
    clear hK K
    (try simp only [Act.put,bw7,bw8,bw9])
    refine wpAnyS_ready (rs:=[8]) (by kernel_rfl) (by simp) ?_
    refine stepR (i:=8) rfl (by kernel_rfl) (fun K hK=>?_) (AllReadyS.nil)
    go_simp
    refine (HKE.out cb _ _ _ _ (xc.below hR)).mono ?_
    rintro e wn ⟨rfl,hB'⟩
    replace hR:=below_trans' hR hB'
    replace hbx:=hbx.below hB'
    replace HX1:=Lib.hid (HX1.out.below hB')
    clear hB'
    refine hK.out _ _ hR ?_
    clear hK K
    (try simp only [Act.put,bw7,bw8,bw9])
    refine wpAnyS_ready (rs:=[9]) (by kernel_rfl) (by simp) ?_
    refine stepR (i:=9) rfl (by kernel_rfl) (fun K hK=>?_) (AllReadyS.nil)
    have hbq:=below_trans' hb11 hR
    go_simp
    refine (H98.out _ cb _ hbq (xc.below hR) HX1.out).mono ?_
    rintro e wn ⟨xv,rfl,hxv,hB'⟩
    replace hR:=below_trans' hR hB'
    replace hbx:=hbx.below hB'
    replace HX1:=Lib.hid (HX1.out.below hB')
    have HX:=Lib.hid hxv
    obtain ⟨xva,xvc,rfl,_⟩:=hxv
    clear hB' hbq
    refine hK.out _ _ hR ?_
    clear hK K
    (try simp only [Act.put,bw7,bw8,bw9])
    refine wpAnyS_ready (rs:=[15]) (by kernel_rfl) (by simp) ?_
    refine stepR (i:=15) rfl (by kernel_rfl) (fun K hK=>?_) (AllReadyS.nil)
    have hbq:=below_trans' hb11 hR
    go_simp
    refine (H104.out _ _ hbq (HLF.out.below hR)).mono ?_
    rintro e wn ⟨y1v,rfl,hy1v,hB'⟩
    replace hR:=below_trans' hR hB'
    replace hbx:=hbx.below hB'
    replace HX:=Lib.hid (HX.out.below hB')
    have HY1:=Lib.hid hy1v
    obtain ⟨y1va,y1vc,rfl,_⟩:=hy1v
    clear hB' hbq
    refine hK.out _ _ hR ?_
    clear hK K
    (try simp only [Act.put,bw7,bw8,bw9])
    refine tkS 105 (i:=16) (v:=?_) (fw:=5) hQ' hR rfl ?_ ?_;rotate_left;(focus (intro wq hRq;have q0:=keep hRq d0;have q1:=keep hRq d1;have q2:=keep hRq d2;have q3:=keep hRq e0;have q4:=keep hRq e1;go_simp;(try with_reducible rfl)));(try simp only [Act.put,bw7,bw8,bw9])
    refine tkS 106 (i:=17) (v:=?_) (fw:=5) hQ' hR rfl ?_ ?_;rotate_left;(focus (intro wq hRq;have q0:=keep hRq d0;have q1:=keep hRq d1;have q2:=keep hRq d2;have q3:=keep hRq e0;have q4:=keep hRq e1;go_simp;(try with_reducible rfl)));(try simp only [Act.put,bw7,bw8,bw9])
    refine wpAnyS_ready (rs:=[18]) (by kernel_rfl) (by simp) ?_
    refine stepR (i:=18) rfl (by kernel_rfl) (fun K hK=>?_) (AllReadyS.nil)
    go_simp
    refine (HKE.out cb _ _ _ _ (xc.below hR)).mono ?_
    rintro e wn ⟨rfl,hB'⟩
    replace hR:=below_trans' hR hB'
    replace hbx:=hbx.below hB'
    replace HX:=Lib.hid (HX.out.below hB')
    replace HY1:=Lib.hid (HY1.out.below hB')
    clear hB'
    refine hK.out _ _ hR ?_
    clear hK K
    (try simp only [Act.put,bw7,bw8,bw9])
    refine wpAnyS_ready (rs:=[19]) (by kernel_rfl) (by simp) ?_
    refine stepR (i:=19) rfl (by kernel_rfl) (fun K hK=>?_) (AllReadyS.nil)
    have hbq:=below_trans' hb11 hR
    go_simp
    refine (H108.out _ cb _ hbq (xc.below hR) HY1.out).mono ?_
    rintro e wn ⟨yv,rfl,hyv,hB'⟩
    replace hR:=below_trans' hR hB'
    replace hbx:=hbx.below hB'
    replace HX:=Lib.hid (HX.out.below hB')
    replace HY1:=Lib.hid (HY1.out.below hB')
    have HY:=Lib.hid hyv
    obtain ⟨yva,yvc,rfl,_⟩:=hyv
    clear hB' hbq
    refine hK.out _ _ hR ?_
    clear hK K
    (try simp only [Act.put,bw7,bw8,bw9])
    refine wpAnyS_ready (rs:=[24]) (by kernel_rfl) (by simp) ?_
    refine stepR (i:=24) rfl (by kernel_rfl) (fun K hK=>?_) (AllReadyS.nil)
    have hbq:=below_trans' hb11 hR
    go_simp
    refine (H113.out _ _ _ hbq (HLR.out.below hR) (HV.out.below hbq)).mono ?_
    rintro e wn ⟨z1v,rfl,hz1v,hB'⟩
    replace hR:=below_trans' hR hB'
    replace hbx:=hbx.below hB'
    replace HX:=Lib.hid (HX.out.below hB')
    replace HY:=Lib.hid (HY.out.below hB')
    have HZ1:=Lib.hid hz1v
    obtain ⟨z1va,z1vc,rfl,_⟩:=hz1v
    clear hB' hbq
    refine hK.out _ _ hR ?_
    clear hK K
    (try simp only [Act.put,bw7,bw8,bw9])
    refine tkS 114 (i:=25) (v:=?_) (fw:=5) hQ' hR rfl ?_ ?_;rotate_left;(focus (intro wq hRq;have q0:=keep hRq d0;have q1:=keep hRq d1;have q2:=keep hRq d2;have q3:=keep hRq e0;have q4:=keep hRq e1;go_simp;(try with_reducible rfl)));(try simp only [Act.put,bw7,bw8,bw9])
    refine tkS 115 (i:=26) (v:=?_) (fw:=5) hQ' hR rfl ?_ ?_;rotate_left;(focus (intro wq hRq;have q0:=keep hRq d0;have q1:=keep hRq d1;have q2:=keep hRq d2;have q3:=keep hRq e0;have q4:=keep hRq e1;go_simp;(try with_reducible rfl)));(try simp only [Act.put,bw7,bw8,bw9])
    refine wpAnyS_ready (rs:=[27]) (by kernel_rfl) (by simp) ?_
    refine stepR (i:=27) rfl (by kernel_rfl) (fun K hK=>?_) (AllReadyS.nil)
    go_simp
    refine (HKE.out cb _ _ _ _ (xc.below hR)).mono ?_
    rintro e wn ⟨rfl,hB'⟩
    replace hR:=below_trans' hR hB'
    replace hbx:=hbx.below hB'
    replace HX:=Lib.hid (HX.out.below hB')
    replace HY:=Lib.hid (HY.out.below hB')
    replace HZ1:=Lib.hid (HZ1.out.below hB')
    clear hB'
    refine hK.out _ _ hR ?_
    clear hK K
    (try simp only [Act.put,bw7,bw8,bw9])
    refine wpAnyS_ready (rs:=[28]) (by kernel_rfl) (by simp) ?_
    refine stepR (i:=28) rfl (by kernel_rfl) (fun K hK=>?_) (AllReadyS.nil)
    have hbq:=below_trans' hb11 hR
    go_simp
    refine (H117.out _ cb _ hbq (xc.below hR) HZ1.out).mono ?_
    rintro e wn ⟨zv,rfl,hzv,hB'⟩
    replace hR:=below_trans' hR hB'
    replace hbx:=hbx.below hB'
    replace HX:=Lib.hid (HX.out.below hB')
    replace HY:=Lib.hid (HY.out.below hB')
    replace HZ1:=Lib.hid (HZ1.out.below hB')
    have HZ:=Lib.hid hzv
    obtain ⟨zva,zvc,rfl,_⟩:=hzv
    clear hB' hbq
    refine hK.out _ _ hR ?_
    clear hK K
    (try simp only [Act.put,bw7,bw8,bw9])
    refine tkS 118 (i:=29) (v:=?_) (fw:=5) hQ' hR rfl ?_ ?_;rotate_left;(focus (intro wq hRq;have q0:=keep hRq d0;have q1:=keep hRq d1;have q2:=keep hRq d2;have q3:=keep hRq e0;have q4:=keep hRq e1;go_simp;(try with_reducible rfl)));(try simp only [Act.put,bw7,bw8,bw9])
    refine wpAnyS_ready (rs:=[31]) (by kernel_rfl) (by simp) ?_
    refine stepF (i:=31) rfl (by kernel_rfl) (by kernel_rfl) (fun K hK=>?_) (AllReadyS.nil)
    refine wp_store3 _ _ _ rfl hbx Tryz.infoMark rfl rfl rfl rfl rfl (fun wx hS hbx2=>?_)
    have F0:=Lib.hid (rb_end hb11 hR (xc.below hR) (x2.below hR) hS hbx hbw xc.lt x2.lt HX.out HY.out HZ.out)
    refine hK.out _ _ ?_
    clear hK K
    (try simp only [Act.put,bw7,bw8,bw9])
    refine wpAnyS_done (by kernel_rfl) ?_ _
    refine hN.out _ _ ?_
    obtain ⟨hbw2,xc2,x22,hx2,hy2,hz2⟩:=F0.out
    have k0:=BoxT1.c0 xc2
    have f0:=hbx2.c0
    have f1:=hbx2.c1
    have f2:=hbx2.c2
    go_wp2_with (refine wpList_store3 rfl _ _ _ rfl x22 Tryz.infoMark rfl rfl rfl rfl rfl ?_;intro W hS2 hx3;have hbW:=hS2.below hbw2 (by omega);have g0:=hx3.c0;have g1:=hx3.c1;have g2:=hx3.c2;have HFX:=Lib.hid (hx2.butM x22 hS2);have HFY:=Lib.hid (hy2.butM x22 hS2);have HFZ:=Lib.hid (hz2.butM x22 hS2))
    refine bodyPost_ret (v:=.tuple #[.agg #[.slice xva LX.length xvc,.slice yva LY.length yvc,.slice zva LZ.length zvc],.int .i64 0]) (by simp [results,Tryz.results17,go_sem,g0,g1,g2]) rfl ?_
    exact ⟨_,_,_,rfl,HFX.out,HFY.out,HFZ.out,hbW⟩
  ·go_simp
   have hXs:=hR.size
   refine after_alloc (fun wm hB' hvb hzb=>?_)
   obtain ⟨bx,hbe⟩:∃ bx,wd.heap.size=bx:=⟨_,rfl⟩
   rw [hbe] at hvb ⊢
   have hbx:BoxT3 41 wm bx (.slice none 0 0) (.slice none 0 0) (.slice none 0 0):=hvb
   have hbw:w11.heap.size≤bx:=by omega
   replace hR:=below_trans' hR hB'
   clear hvb hB' hzb hbe hXs
   refine hK.out _ _ hR ?_
   clear hK K
   (try simp only [Act.put,bw7,bw8,bw9])
   refine wpAnyS_ready (rs:=[5]) (by kernel_rfl) (by simp) ?_
   refine stepR (i:=5) rfl (by kernel_rfl) (fun K hK=>?_) (AllReadyS.nil)
   have hbq:=below_trans' hb11 hR
   go_simp
   refine (H94.out _ _ hbq (HLF.out.below hR)).mono ?_
   rintro e wn ⟨x1v,rfl,hx1v,hB'⟩
   replace hR:=below_trans' hR hB'
   replace hbx:=hbx.below hB'
   have HX1:=Lib.hid hx1v
   obtain ⟨x1va,x1vc,rfl,_⟩:=hx1v
   clear hB' hbq
   refine hK.out _ _ hR ?_
   clear hK K
   (try simp only [Act.put,bw7,bw8,bw9])
   refine tkS 95 (i:=6) (v:=?_) (fw:=5) hQ' hR rfl ?_ ?_;rotate_left;(focus (intro wq hRq;have q0:=keep hRq d0;have q1:=keep hRq d1;have q2:=keep hRq d2;have q3:=keep hRq e0;have q4:=keep hRq e1;go_simp;(try with_reducible rfl)));(try simp only [Act.put,bw7,bw8,bw9])
   refine tkS 96 (i:=7) (v:=?_) (fw:=5) hQ' hR rfl ?_ ?_;rotate_left;(focus (intro wq hRq;have q0:=keep hRq d0;have q1:=keep hRq d1;have q2:=keep hRq d2;have q3:=keep hRq e0;have q4:=keep hRq e1;go_simp;(try with_reducible rfl)));(try simp only [Act.put,bw7,bw8,bw9])
   refine wpAnyS_ready (rs:=[8]) (by kernel_rfl) (by simp) ?_
   refine stepR (i:=8) rfl (by kernel_rfl) (fun K hK=>?_) (AllReadyS.nil)
   go_simp
   refine (HKE.out cb _ _ _ _ (xc.below hR)).mono ?_
   rintro e wn ⟨rfl,hB'⟩
   replace hR:=below_trans' hR hB'
   replace hbx:=hbx.below hB'
   replace HX1:=Lib.hid (HX1.out.below hB')
   clear hB'
   refine hK.out _ _ hR ?_
   clear hK K
   (try simp only [Act.put,bw7,bw8,bw9])
   refine wpAnyS_ready (rs:=[9]) (by kernel_rfl) (by simp) ?_
   refine stepR (i:=9) rfl (by kernel_rfl) (fun K hK=>?_) (AllReadyS.nil)
   have hbq:=below_trans' hb11 hR
   go_simp
   refine (H98.out _ cb _ hbq (xc.below hR) HX1.out).mono ?_
   rintro e wn ⟨xv,rfl,hxv,hB'⟩
   replace hR:=below_trans' hR hB'
   replace hbx:=hbx.below hB'
   replace HX1:=Lib.hid (HX1.out.below hB')
   have HX:=Lib.hid hxv
   obtain ⟨xva,xvc,rfl,_⟩:=hxv
   clear hB' hbq
   refine hK.out _ _ hR ?_
   clear hK K
   (try simp only [Act.put,bw7,bw8,bw9])
   refine wpAnyS_ready (rs:=[15]) (by kernel_rfl) (by simp) ?_
   refine stepR (i:=15) rfl (by kernel_rfl) (fun K hK=>?_) (AllReadyS.nil)
   have hbq:=below_trans' hb11 hR
   go_simp
   refine (H104.out _ _ hbq (HLF.out.below hR)).mono ?_
   rintro e wn ⟨y1v,rfl,hy1v,hB'⟩
   replace hR:=below_trans' hR hB'
   replace hbx:=hbx.below hB'
   replace HX:=Lib.hid (HX.out.below hB')
   have HY1:=Lib.hid hy1v
   obtain ⟨y1va,y1vc,rfl,_⟩:=hy1v
   clear hB' hbq
   refine hK.out _ _ hR ?_
   clear hK K
   (try simp only [Act.put,bw7,bw8,bw9])
   refine tkS 105 (i:=16) (v:=?_) (fw:=5) hQ' hR rfl ?_ ?_;rotate_left;(focus (intro wq hRq;have q0:=keep hRq d0;have q1:=keep hRq d1;have q2:=keep hRq d2;have q3:=keep hRq e0;have q4:=keep hRq e1;go_simp;(try with_reducible rfl)));(try simp only [Act.put,bw7,bw8,bw9])
   refine tkS 106 (i:=17) (v:=?_) (fw:=5) hQ' hR rfl ?_ ?_;rotate_left;(focus (intro wq hRq;have q0:=keep hRq d0;have q1:=keep hRq d1;have q2:=keep hRq d2;have q3:=keep hRq e0;have q4:=keep hRq e1;go_simp;(try with_reducible rfl)));(try simp only [Act.put,bw7,bw8,bw9])
   refine wpAnyS_ready (rs:=[18]) (by kernel_rfl) (by simp) ?_
   refine stepR (i:=18) rfl (by kernel_rfl) (fun K hK=>?_) (AllReadyS.nil)
   go_simp
   refine (HKE.out cb _ _ _ _ (xc.below hR)).mono ?_
   rintro e wn ⟨rfl,hB'⟩
   replace hR:=below_trans' hR hB'
   replace hbx:=hbx.below hB'
   replace HX:=Lib.hid (HX.out.below hB')
   replace HY1:=Lib.hid (HY1.out.below hB')
   clear hB'
   refine hK.out _ _ hR ?_
   clear hK K
   (try simp only [Act.put,bw7,bw8,bw9])
   refine wpAnyS_ready (rs:=[19]) (by kernel_rfl) (by simp) ?_
   refine stepR (i:=19) rfl (by kernel_rfl) (fun K hK=>?_) (AllReadyS.nil)
   have hbq:=below_trans' hb11 hR
   go_simp
   refine (H108.out _ cb _ hbq (xc.below hR) HY1.out).mono ?_
   rintro e wn ⟨yv,rfl,hyv,hB'⟩
   replace hR:=below_trans' hR hB'
   replace hbx:=hbx.below hB'
   replace HX:=Lib.hid (HX.out.below hB')
   replace HY1:=Lib.hid (HY1.out.below hB')
   have HY:=Lib.hid hyv
   obtain ⟨yva,yvc,rfl,_⟩:=hyv
   clear hB' hbq
   refine hK.out _ _ hR ?_
   clear hK K
   (try simp only [Act.put,bw7,bw8,bw9])
   refine wpAnyS_ready (rs:=[24]) (by kernel_rfl) (by simp) ?_
   refine stepR (i:=24) rfl (by kernel_rfl) (fun K hK=>?_) (AllReadyS.nil)
   have hbq:=below_trans' hb11 hR
   go_simp
   refine (H113.out _ _ _ hbq (HLR.out.below hR) (HV.out.below hbq)).mono ?_
   rintro e wn ⟨z1v,rfl,hz1v,hB'⟩
   replace hR:=below_trans' hR hB'
   replace hbx:=hbx.below hB'
   replace HX:=Lib.hid (HX.out.below hB')
   replace HY:=Lib.hid (HY.out.below hB')
   have HZ1:=Lib.hid hz1v
   obtain ⟨z1va,z1vc,rfl,_⟩:=hz1v
   clear hB' hbq
   refine hK.out _ _ hR ?_
   clear hK K
   (try simp only [Act.put,bw7,bw8,bw9])
   refine tkS 114 (i:=25) (v:=?_) (fw:=5) hQ' hR rfl ?_ ?_;rotate_left;(focus (intro wq hRq;have q0:=keep hRq d0;have q1:=keep hRq d1;have q2:=keep hRq d2;have q3:=keep hRq e0;have q4:=keep hRq e1;go_simp;(try with_reducible rfl)));(try simp only [Act.put,bw7,bw8,bw9])
   refine tkS 115 (i:=26) (v:=?_) (fw:=5) hQ' hR rfl ?_ ?_;rotate_left;(focus (intro wq hRq;have q0:=keep hRq d0;have q1:=keep hRq d1;have q2:=keep hRq d2;have q3:=keep hRq e0;have q4:=keep hRq e1;go_simp;(try with_reducible rfl)));(try simp only [Act.put,bw7,bw8,bw9])
   refine wpAnyS_ready (rs:=[27]) (by kernel_rfl) (by simp) ?_
   refine stepR (i:=27) rfl (by kernel_rfl) (fun K hK=>?_) (AllReadyS.nil)
   go_simp
   refine (HKE.out cb _ _ _ _ (xc.below hR)).mono ?_
   rintro e wn ⟨rfl,hB'⟩
   replace hR:=below_trans' hR hB'
   replace hbx:=hbx.below hB'
   replace HX:=Lib.hid (HX.out.below hB')
   replace HY:=Lib.hid (HY.out.below hB')
   replace HZ1:=Lib.hid (HZ1.out.below hB')
   clear hB'
   refine hK.out _ _ hR ?_
   clear hK K
   (try simp only [Act.put,bw7,bw8,bw9])
   refine wpAnyS_ready (rs:=[28]) (by kernel_rfl) (by simp) ?_
   refine stepR (i:=28) rfl (by kernel_rfl) (fun K hK=>?_) (AllReadyS.nil)
   have hbq:=below_trans' hb11 hR
   go_simp
   refine (H117.out _ cb _ hbq (xc.below hR) HZ1.out).mono ?_
   rintro e wn ⟨zv,rfl,hzv,hB'⟩
   replace hR:=below_trans' hR hB'
   replace hbx:=hbx.below hB'
   replace HX:=Lib.hid (HX.out.below hB')
   replace HY:=Lib.hid (HY.out.below hB')
   replace HZ1:=Lib.hid (HZ1.out.below hB')
   have HZ:=Lib.hid hzv
   obtain ⟨zva,zvc,rfl,_⟩:=hzv
   clear hB' hbq
   refine hK.out _ _ hR ?_
   clear hK K
   (try simp only [Act.put,bw7,bw8,bw9])
   refine tkS 118 (i:=29) (v:=?_) (fw:=5) hQ' hR rfl ?_ ?_;rotate_left;(focus (intro wq hRq;have q0:=keep hRq d0;have q1:=keep hRq d1;have q2:=keep hRq d2;have q3:=keep hRq e0;have q4:=keep hRq e1;go_simp;(try with_reducible rfl)));(try simp only [Act.put,bw7,bw8,bw9])
   refine wpAnyS_ready (rs:=[31]) (by kernel_rfl) (by simp) ?_
   refine stepF (i:=31) rfl (by kernel_rfl) (by kernel_rfl) (fun K hK=>?_) (AllReadyS.nil)
   refine wp_store3 _ _ _ rfl hbx Tryz.infoMark rfl rfl rfl rfl rfl (fun wx hS hbx2=>?_)
   have F0:=Lib.hid (rb_end hb11 hR (xc.below hR) (x2.below hR) hS hbx hbw xc.lt x2.lt HX.out HY.out HZ.out)
   refine hK.out _ _ ?_
   clear hK K
   (try simp only [Act.put,bw7,bw8,bw9])
   refine wpAnyS_done (by kernel_rfl) ?_ _
   refine hN.out _ _ ?_
   obtain ⟨hbw2,xc2,x22,hx2,hy2,hz2⟩:=F0.out
   have k0:=BoxT1.c0 xc2
   have f0:=hbx2.c0
   have f1:=hbx2.c1
   have f2:=hbx2.c2
   go_wp2_with (refine wpList_store3 rfl _ _ _ rfl x22 Tryz.infoMark rfl rfl rfl rfl rfl ?_;intro W hS2 hx3;have hbW:=hS2.below hbw2 (by omega);have g0:=hx3.c0;have g1:=hx3.c1;have g2:=hx3.c2;have HFX:=Lib.hid (hx2.butM x22 hS2);have HFY:=Lib.hid (hy2.butM x22 hS2);have HFZ:=Lib.hid (hz2.butM x22 hS2))
   refine bodyPost_ret (v:=.tuple #[.agg #[.slice xva LX.length xvc,.slice yva LY.length yvc,.slice zva LZ.length zvc],.int .i64 0]) (by simp [results,Tryz.results17,go_sem,g0,g1,g2]) rfl ?_
   exact ⟨_,_,_,rfl,HFX.out,HFY.out,HFZ.out,hbW⟩
end Go.Proofs.YtbbclfbpllbbbaaGreatDoor
