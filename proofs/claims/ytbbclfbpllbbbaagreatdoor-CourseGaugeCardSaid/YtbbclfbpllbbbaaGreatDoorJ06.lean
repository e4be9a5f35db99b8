/- Joined texts: WWrite, WDigs, WReadL, WRes, WBigOps, WGcdL. -/
import Derived.Test.YtbbclfbpllbbbaaGreatDoorJ04
import Derived.Test.YtbbclfbpllbbbaaGreatDoorJ05
import Derived.Test.YtbbclfbpllbbbaaGreatDoorJ02
import Derived.Deep.LoopGhost
set_option maxRecDepth 100000
set_option linter.unusedVariables false
set_option linter.unusedSimpArgs false
set_option maxHeartbeats 12800000
namespace Go.Proofs.YtbbclfbpllbbbaaGreatDoor
open Go.RowKit Go.Shelf
attribute [local go_sem] Oper.semAt_some
theorem builderF_keep {T e:TypeId} {B b:Nat} {bs:List Value} {W W':World} (h:Lib.IsBuilderF T e B b bs W) (hk:∀ (k:Nat) (c:Array Value) (t:TypeId) (fz:Nat × Nat),W.heap[k]?=some (Obj.cells c t fz)→W'.heap[k]?=some (Obj.cells c t fz)):Lib.IsBuilderF T e B b bs W':=by
 have key:∀ p,Lib.BuilderAtF T e B b p bs W→Lib.BuilderAtF T e B b p bs W':=by
  rintro p ⟨hB,v,hb,hown,hne⟩
  refine ⟨hB,v,hk _ _ _ _ hb,⟨hown.1,?_⟩,hne⟩
  rcases hown.2 with hn|⟨g,cap,cur,fz,e1,e2,e3,rest⟩
  ·exact .inl hn
  ·exact .inr ⟨g,cap,cur,fz,e1,e2,hk _ _ _ _ e3,rest⟩
 exact h.elim (fun h=>.inl (key _ h)) (fun h=>.inr (key _ h))
theorem builderF_below {T e:TypeId} {B b:Nat} {bs:List Value} {W W':World} (h:Lib.IsBuilderF T e B b bs W) (hB:Below W.heap.size W W'):Lib.IsBuilderF T e B b bs W' :=
 builderF_keep h fun k c t fz hc=>(hB.block k (Array.getElem?_eq_some_iff.1 hc).1).trans hc
theorem builderF_own {β:Type} {m:Nat} {T e:TypeId} {B b:Nat} {bs:List Value}:OwnFrom m (fun (_:β) W=>Lib.IsBuilderF T e B b bs W):=fun s X Y row hs hg hr =>
 builderF_keep hs fun k c t fz hc=>cells_own (β:=β) (m:=m) (b:=k) rfl s X Y row hc hg hr
theorem keepsFrom_others {m b:Nat} {e:TypeId} {W W':World} (h:Lib.OthersKept e (some b) W W') (hz:W.heap.size≤W'.heap.size) (hb:b < m):KeepsFrom m W W' :=
 ⟨hz,fun k o hk ho hc=>h k o ho (fun e=>by injection e with e;omega) (fun c fz e=>by subst e;cases hc)⟩
theorem othersKept_of_below {b:Option Nat} {e:TypeId} {W W':World} (h:Below W.heap.size W W'):Lib.OthersKept e b W W':=fun k o hk _ _=>(h.block k (Array.getElem?_eq_some_iff.1 hk).1).trans hk
theorem wr_end {w W W':World} {b1 m:Nat} {x y v:Value} (h:Below (w.heap.size+1) W W') (k:Lib.OthersKept 5 (some (w.heap.size+1)) W W') (b0:BoxN W w.heap.size x y) (bx:Boxed W b1 229 v) (hb1:w.heap.size+1 < b1) (hm:w.heap.size+1 < m) (hB:Below w.heap.size w W) :
  KeepsFrom m W W'∧KpR w.heap.size b1 W W'∧BoxN W' w.heap.size x y∧Boxed W' b1 229 v∧Below w.heap.size w W'∧W.heap.size≤W'.heap.size:=by
 have h0:BoxN W' w.heap.size x y:=k _ _ b0 (by simp) (by intro c fz e;injection e with _ e _;revert e;decide)
 have h1:Boxed W' b1 229 v:=k _ _ bx (fun e=>by injection e with e;omega) (by intro c fz e;injection e with _ e _;revert e;decide)
 exact ⟨keepsFrom_others k h.size hm,⟨h.mono (by omega),h1.trans bx.symm⟩,h0,h1,hB.trans (h.mono (by omega)),h.size⟩
theorem itoa_pos {n:Int} (h:0≤n):Lib.itoa n=Lib.decDigits n.toNat:=by
 rcases itoa_cases n with ⟨h0,_⟩|⟨_,e⟩
 ·omega
 ·rw [e];congr 1;omega
theorem strCells_of {s:ByteArray} {l:List UInt8} (h:s.data.toList=l):Lib.strCells s=Lib.byteCells l:=by rw [← h];rfl
theorem byteCells_append (a b:List UInt8):Lib.byteCells (a++b)=Lib.byteCells a++Lib.byteCells b:=by simp [Lib.byteCells]
theorem repeat_zero (k:Nat):Lib.repeatL [48] k=List.replicate k 48:=by
 induction k with
 | zero=>rfl
 | succ k ih=>rw [List.replicate_succ,← ih];rfl
theorem write_plus {l:List Int} {n:Int} (u:Value) (w:World) (hG:Glo w) (hu:IsInts w u l) (hn:Num l n) (hl:l.length≤900) (h0:l.length≠0) :
  Calls Tryz.prog 204 #[.agg #[.bool false,u]] w (RetS (([]:List UInt8)++Lib.decDigits n.natAbs) w):=by
 obtain ⟨aa,ac,rfl⟩:=hu.slice
 have HU:=Lib.hid hu
 have HN:=Lib.hid hn
 have HG:=Lib.hid hG
 have hl0:((l.length:Int) == 0)=false:=by rw [beq_eq_false_iff_ne];omega
 clear hu hn hG
 refine (callsIn_wide (n:=5)).1 ?_
 refine callsIn_of_wp_marks Tryz.func204 rfl trivial ?_ rfl
 simp only [Tryz.ntmps204,List.size_toArray,List.length_cons,List.length_nil,Nat.reduceAdd,Nat.reduceSub,Array.replicate_succ,Array.replicate_zero,List.push_toArray,List.append_toArray,List.nil_append,List.cons_append]
 gi_wp2
 have hb0:Below w.heap.size w ((w.alloc (.cells #[.bool false,.slice aa l.length ac] 231)).alloc (.cells #[.pointer none,.slice none 0 0] 77)):=qbl
 have x0:BoxN ((w.alloc (.cells #[.bool false,.slice aa l.length ac] 231)).alloc (.cells #[.pointer none,.slice none 0 0] 77)) w.heap.size (.bool false) (.slice aa l.length ac):=(BoxN.new rfl).below (bw4 (bw0 _ _) _)
 have hsz0:((w.alloc (.cells #[.bool false,.slice aa l.length ac] 231)).alloc (.cells #[.pointer none,.slice none 0 0] 77)).heap.size=w.heap.size+2:=by simp
 have hbld:Lib.IsBuilderF 77 5 (w.heap.size+1) (w.heap.size+1) (Lib.byteCells []) ((w.alloc (.cells #[.bool false,.slice aa l.length ac] 231)).alloc (.cells #[.pointer none,.slice none 0 0] 77)):=.inl ⟨Nat.le_refl _,.slice none 0 0,by have:=World.alloc_heap_new (w.alloc (.cells #[.bool false,.slice aa l.length ac] 231)) (.cells #[.pointer none,.slice none 0 0] 77);rw [World.size_alloc] at this;exact this,⟨rfl,.inl ⟨rfl,rfl⟩⟩,by simp [Value.ownBlock]⟩
 generalize ((w.alloc (.cells #[.bool false,.slice aa l.length ac] 231)).alloc (.cells #[.pointer none,.slice none 0 0] 77))=W1 at *
 replace hsz0:w.heap.size+2≤W1.heap.size:=by omega
 have c1:=x0.c1
 gi_wp2
 refine ⟨trivial,?_⟩
 refine (callsIn_wide.2 (backward_any _ _ _ _)).mono ?_
 rintro e w1 ⟨rfl,rfl⟩
 clear c1
 gi_wp2
 have hb2:Below w.heap.size w (W1.alloc (.cells #[.slice aa l.length ac] 229)):=bw4 hb0 _
 have x1:BoxN (W1.alloc (.cells #[.slice aa l.length ac] 229)) w.heap.size (.bool false) (.slice aa l.length ac):=x0.below (bw4 (bw0 _ _) _)
 have x2:Boxed (W1.alloc (.cells #[.slice aa l.length ac] 229)) W1.heap.size 229 (.slice aa l.length ac):=Boxed.new _ _ _
 have x3:=builderF_below hbld (bw4 (bw0 _ _) (.cells #[.slice aa l.length ac] 229))
 have hsz2:(W1.alloc (.cells #[.slice aa l.length ac] 229)).heap.size=W1.heap.size+1:=by simp
 generalize W1.alloc (.cells #[.slice aa l.length ac] 229)=W2 at *
 refine wpIn_rangeFunc_ownH rfl (by omega) (gf:=253) (lb:=#[.pointer (some ⟨W1.heap.size,0,none⟩)]) rfl trivial (enters_of Tryz.func253 (by kernel_rfl) rfl)
  (back_stops l _ (by omega) W1.heap.size w.heap.size _ (by omega) W2 hb2.size (HU.out.below hb2) HU.out.lt x2.cell) KpR.t (KpR.b hb2.size (by omega)) (bw0 _ _) (fun _=>rfl)
  (fun pre W=>((BoxN W w.heap.size (.bool false) (.slice aa l.length ac)∧Boxed W W1.heap.size 229 (.slice aa l.length ac))∧(Below w.heap.size w W∧W1.heap.size+1≤W.heap.size))∧(∃ out:List UInt8,Lib.IsBuilderF 77 5 (w.heap.size+1) (w.heap.size+1) (Lib.byteCells out) W∧out.length≤18 * pre.length+1∧(∀ k,k≤l.length→pre=fst l.length k→out=([]:List UInt8)++topTxt l k)))
  (fun _ _ _=>False)
  (OwnFrom.and (OwnFrom.and (OwnFrom.and (cells_own rfl) (Own.from (boxed_own _ _ _) _)) (OwnFrom.and (ownFrom_below (Nat.le_refl _) (by omega)) (fun s A B row hs hg hr=>Nat.le_trans hs hg.size))) (fun s X Y row hs hg hr=>by obtain ⟨out,h1,h2⟩:=hs;exact ⟨out,builderF_own () X Y row h1 hg hr,h2⟩))
  (fun _ _ _ _ _ hs _ _=>hs)
  ⟨⟨⟨x1,x2⟩,hb2,by omega⟩,([]:List UInt8),x3,by simp,fun k hk e=>by
   have h0:k=0:=by have:=congrArg List.length e;rw [fst_length hk] at this;simpa using this.symm
   subst h0;rfl⟩
  (fun x a' W=>a'={ tmps:=#[.agg #[.bool false,.slice aa l.length ac],.pointer (some ⟨w.heap.size,0,none⟩),.string ⟨#[]⟩,.pointer (some ⟨w.heap.size+1,0,none⟩),.int .i64 ((l.length:Int) - 1 - x.1),.int .i64 (lim l (l.length - 1 - x.1)),undef,.pointer (some ⟨w.heap.size,1,none⟩),.slice aa l.length ac,.int .i64 l.length,.bool false,.pointer (some ⟨w.heap.size,0,none⟩),.bool false,undef,.pointer (some ⟨w.heap.size,1,none⟩),.slice aa l.length ac,.func (.func 253) #[] #[.pointer (some ⟨W1.heap.size,0,none⟩)],.int .i64 ((l.length:Int) - 1 - x.1),.int .i64 (lim l (l.length - 1 - x.1)),undef,undef,undef,undef,undef,undef,undef,undef,undef,undef,undef,undef,undef,undef,undef,undef],defers:=[] })
  (fun x a' _ X Y row hs hg hr=>hs)
  ?assign ?body ?done ?stop
 case assign =>
  rintro l1 pre x W K ⟨⟨⟨b0,b1⟩,hB,hz⟩,hS⟩ hK
  unfold encB
  gi_wp2
  exact hK _ _ (KeepsFrom.refl _ _) ⟨(bw0 _ _).mono hB.size,rfl⟩ ⟨⟨⟨b0,b1⟩,hB,hz⟩,hS⟩ rfl
 case body =>
  rintro l1 pre x a' W hl1 ⟨rr,hr⟩ ⟨⟨⟨b0,b1⟩,hB,hz⟩,out,hbl,hol,hat⟩ rfl hlt
  have hxl:=x.2
  obtain ⟨q1,q2⟩:=HN.out.digs (l.length - 1 - x.1)
  obtain ⟨d,hd⟩:∃ d,lim l (l.length - 1 - x.1)=d:=⟨_,rfl⟩
  have hdl:(Lib.decDigits d.toNat).length≤9:=by rw [Lib.decDigits_length];exact nDigits_le_of_lt (by rw [hd] at q1 q2;omega) (by omega)
  have HAT:=Lib.hid (fun k (hk:k≤l.length) (e:pre++[x]=fst l.length k)=>show out++(if x.1=0 then Lib.decDigits d.toNat else List.replicate (9 - (Lib.decDigits d.toNat).length) 48++Lib.decDigits d.toNat)=([]:List UInt8)++topTxt l k by
   obtain ⟨m,rfl,hp,hx⟩:=fst_snoc hk e
   rw [hat m (by omega) hp,List.append_assoc,topTxt_step HN.out.digs HN.out.trim (by omega),← hd,← hx])
  have HB0:=Lib.hid b0
  have HB1:=Lib.hid b1
  have HBL:=Lib.hid hbl
  clear hat b0 b1 hbl
  rw [hd] at q1 q2 ⊢
  clear hd
  gi_wp2
  refine ⟨trivial,?_⟩
  refine (CallsIn.inRound l1 (callsIn_wide.2 (itoa_any d (by omega) (by omega) _ (HG.out.below hB)))).mono ?_
  rintro e wa ⟨s,hs,rfl,hBa⟩
  rw [itoa_pos q1] at hs
  have hsl:s.size≤9:=by rw [show s.size=s.data.toList.length from rfl,hs];exact hdl
  have hsz:(s.size:Int)≤9:=by omega
  have HS:=Lib.hid hs
  have HW:=Lib.hid (And.intro (hBa.mono (show w.heap.size+1≤W.heap.size by omega)) (othersKept_of_below (b:=some (w.heap.size+1)) (e:=5) hBa))
  have HB0':=Lib.hid (HB0.out.below hBa)
  have c1:=HB0'.out.c1
  have HBL':=Lib.hid (builderF_below HBL.out hBa)
  have hzw:=Nat.le_trans hz hBa.size
  clear hs hBa
  by_cases hx0:x.1=0
  ·have hcond:¬ (l.length:Int) - 1 - (x.1:Int) < (l.length:Int) - 1:=by omega
   gi_wp2
   refine ⟨trivial,?_⟩
   refine (CallsIn.inRound l1 (callsIn_wide.2 (writeString_k (w.heap.size+1) (w.heap.size+1) _ s wa HBL'.out (by rw [Lib.byteCells_length];omega) (by omega)))).mono ?_
   rintro e wb ⟨rfl,hbb,hBb,hOb⟩
   have HBB:Hid (Lib.IsBuilderF 77 5 (w.heap.size+1) (w.heap.size+1) (Lib.byteCells (out++Lib.decDigits d.toNat)) wb):=Lib.hid (by rw [byteCells_append,← strCells_of HS.out];exact .inr hbb)
   have HW2:=Lib.hid (And.intro (HW.out.1.trans hBb) (HW.out.2.trans hOb))
   clear hbb hBb hOb c1
   gi_wp2
   obtain ⟨e1,e2,e3,e4,e5,e6⟩:=wr_end (m:=W2.heap.size) HW2.out.1 HW2.out.2 HB0.out HB1.out (by omega) (by omega) hB
   refine ⟨e1,e2,⟨⟨e3,e4⟩,e5,by omega⟩,_,HBB.out,?_,fun k hk e=>?_⟩
   ·rw [List.length_append,List.length_append];simp only [List.length_cons,List.length_nil];omega
   ·have:=HAT.out k hk e
    rwa [if_pos hx0] at this
  ·have hcond:(l.length:Int) - 1 - (x.1:Int) < (l.length:Int) - 1:=by omega
   have hwr:IntKind.i64.wrap (9 - (s.size:Int))=9 - (s.size:Int):=IntWalk.i64_in _ (by omega)
   have HRP:=Lib.hid (fun W=>Tryz.strings_Repeat ⟨#[48]⟩ (9 - s.size) W (by omega) (by show 1 * (9 - s.size)≤_;omega))
   have hcast:((9 - s.size:Nat):Int)=9 - (s.size:Int):=by omega
   rw [hcast] at HRP
   clear hcast
   gi_wp2
   refine ⟨trivial,?_⟩
   refine (CallsIn.inRound l1 (callsIn_wide.2 (HRP.out _))).mono ?_
   rintro e wr ⟨rfl,hBr⟩
   have HW1:=Lib.hid (And.intro (HW.out.1.trans (hBr.mono (show w.heap.size+1≤wa.heap.size by omega))) (HW.out.2.trans (othersKept_of_below (b:=some (w.heap.size+1)) (e:=5) hBr)))
   have HBR:=Lib.hid (builderF_below HBL'.out hBr)
   have hzr:=Nat.le_trans hzw hBr.size
   clear hBr c1
   gi_wp2
   refine ⟨trivial,?_⟩
   refine (CallsIn.inRound l1 (callsIn_wide.2 (writeString_k (w.heap.size+1) (w.heap.size+1) _ _ wr HBR.out (by rw [Lib.byteCells_length];show _+(Lib.repeatL [48] (9 - s.size)).toArray.size≤_;rw [repeat_zero];simp;omega) (by omega)))).mono ?_
   rintro e wp ⟨rfl,hbp,hBp,hOp⟩
   have HBP:Hid (Lib.IsBuilderF 77 5 (w.heap.size+1) (w.heap.size+1) (Lib.byteCells (out++List.replicate (9 - s.size) 48)) wp):=Lib.hid (by
    rw [byteCells_append,← repeat_zero,← strCells_of (s:=⟨(Lib.repeatL [48] (9 - s.size)).toArray⟩) rfl];exact .inr hbp)
   have HW2:=Lib.hid (And.intro (HW1.out.1.trans hBp) (HW1.out.2.trans hOp))
   have hzp:=Nat.le_trans hzr hBp.size
   clear hbp hBp hOp
   gi_wp2
   refine ⟨trivial,?_⟩
   refine (CallsIn.inRound l1 (callsIn_wide.2 (writeString_k (w.heap.size+1) (w.heap.size+1) _ s wp HBP.out (by rw [Lib.byteCells_length,List.length_append,List.length_replicate];omega) (by omega)))).mono ?_
   rintro e wb ⟨rfl,hbb,hBb,hOb⟩
   have HBB:Hid (Lib.IsBuilderF 77 5 (w.heap.size+1) (w.heap.size+1) (Lib.byteCells (out++(List.replicate (9 - (Lib.decDigits d.toNat).length) 48++Lib.decDigits d.toNat))) wb):=Lib.hid (by
    have hss:s.size=(Lib.decDigits d.toNat).length:=by rw [← HS.out];rfl
    rw [← List.append_assoc,byteCells_append,← strCells_of HS.out,← hss];exact .inr hbb)
   have HW3:=Lib.hid (And.intro (HW2.out.1.trans hBb) (HW2.out.2.trans hOb))
   clear hbb hBb hOb
   gi_wp2
   obtain ⟨e1,e2,e3,e4,e5,e6⟩:=wr_end (m:=W2.heap.size) HW3.out.1 HW3.out.2 HB0.out HB1.out (by omega) (by omega) hB
   refine ⟨e1,e2,⟨⟨e3,e4⟩,e5,by omega⟩,_,HBB.out,?_,fun k hk e=>?_⟩
   ·rw [List.length_append,List.length_append,List.length_append,List.length_replicate];simp only [List.length_cons,List.length_nil];omega
   ·have:=HAT.out k hk e
    rwa [if_neg hx0] at this
 case done =>
  rintro D ys W hD rfl ⟨⟨⟨b0,b1⟩,hB,hz⟩,out,hbl,hol,hat⟩ hK
  have HO:=Lib.hid (hat l.length (Nat.le_refl _) (fst_all _).symm)
  have HBL:=Lib.hid hbl
  have HB:=Lib.hid hB
  clear hat hbl hol b0 b1
  gi_wp2
  refine ⟨trivial,?_⟩
  refine (callsIn_wide.2 (Tryz.Builder_String_any_k (w.heap.size+1) (w.heap.size+1) out W HBL.out (by omega))).mono ?_
  rintro e wz ⟨rfl,_,hBz,hOz⟩
  have hKz:wz.heap[D]?=some (.deferred (some [])):=hOz D _ hK (fun e=>by injection e with e;omega) (fun c fz e=>by cases e)
  have hBw:Below w.heap.size w wz:=HB.out.trans (hBz.mono (by omega))
  clear hBz hOz
  gi_wp2
  refine leaves_marks w.heap.size [D] _ (by simp) (fun E hE=>?_) (fun W' hB' hcc=>?_)
  ·obtain rfl:E=D:=by simpa using hE
   exact ⟨by omega,hKz⟩
  ·have hout:out=([]:List UInt8)++Lib.decDigits n.natAbs:=by rw [HO.out,topTxt_all HN.out,if_neg h0]
   exact ⟨.string ⟨out.toArray⟩,by simp [results,Tryz.results204,go_sem],⟨out.toArray⟩,hout,rfl,hBw.trans hB'⟩
 case stop =>
  rintro D c pre W _ _ h _
  exact h.elim
theorem write_minus {l:List Int} {n:Int} (u:Value) (w:World) (hG:Glo w) (hu:IsInts w u l) (hn:Num l n) (hl:l.length≤900) (h0:l.length≠0) :
  Calls Tryz.prog 204 #[.agg #[.bool true,u]] w (RetS (([45]:List UInt8)++Lib.decDigits n.natAbs) w):=by
 obtain ⟨aa,ac,rfl⟩:=hu.slice
 have HU:=Lib.hid hu
 have HN:=Lib.hid hn
 have HG:=Lib.hid hG
 have hl0:((l.length:Int) == 0)=false:=by rw [beq_eq_false_iff_ne];omega
 clear hu hn hG
 refine (callsIn_wide (n:=5)).1 ?_
 refine callsIn_of_wp_marks Tryz.func204 rfl trivial ?_ rfl
 simp only [Tryz.ntmps204,List.size_toArray,List.length_cons,List.length_nil,Nat.reduceAdd,Nat.reduceSub,Array.replicate_succ,Array.replicate_zero,List.push_toArray,List.append_toArray,List.nil_append,List.cons_append]
 gi_wp2
 have hb0:Below w.heap.size w ((w.alloc (.cells #[.bool true,.slice aa l.length ac] 231)).alloc (.cells #[.pointer none,.slice none 0 0] 77)):=qbl
 have x0:BoxN ((w.alloc (.cells #[.bool true,.slice aa l.length ac] 231)).alloc (.cells #[.pointer none,.slice none 0 0] 77)) w.heap.size (.bool true) (.slice aa l.length ac):=(BoxN.new rfl).below (bw4 (bw0 _ _) _)
 have hsz0:((w.alloc (.cells #[.bool true,.slice aa l.length ac] 231)).alloc (.cells #[.pointer none,.slice none 0 0] 77)).heap.size=w.heap.size+2:=by simp
 have hbld:Lib.IsBuilderF 77 5 (w.heap.size+1) (w.heap.size+1) (Lib.byteCells []) ((w.alloc (.cells #[.bool true,.slice aa l.length ac] 231)).alloc (.cells #[.pointer none,.slice none 0 0] 77)):=.inl ⟨Nat.le_refl _,.slice none 0 0,by have:=World.alloc_heap_new (w.alloc (.cells #[.bool true,.slice aa l.length ac] 231)) (.cells #[.pointer none,.slice none 0 0] 77);rw [World.size_alloc] at this;exact this,⟨rfl,.inl ⟨rfl,rfl⟩⟩,by simp [Value.ownBlock]⟩
 generalize ((w.alloc (.cells #[.bool true,.slice aa l.length ac] 231)).alloc (.cells #[.pointer none,.slice none 0 0] 77))=W0 at *
 refine ⟨trivial,?_⟩
 refine (callsIn_wide.2 (writeByte_k (w.heap.size+1) (w.heap.size+1) _ 45 W0 hbld (by simp [Lib.byteCells]) (by omega))).mono ?_
 rintro e W1 ⟨rfl,hbld1,hB1,hO1⟩
 have hbld:Lib.IsBuilderF 77 5 (w.heap.size+1) (w.heap.size+1) (Lib.byteCells [45]) W1:=.inr hbld1
 have x0:BoxN W1 w.heap.size (.bool true) (.slice aa l.length ac):=(hB1.block _ (by omega)).trans x0
 have hb0:Below w.heap.size w W1:=hb0.trans (hB1.mono (by omega))
 have hsz0:w.heap.size+2≤W1.heap.size:=by have:=hB1.size;omega
 clear hbld1 hB1 hO1
 have c1:=x0.c1
 gi_wp2
 refine ⟨trivial,?_⟩
 refine (callsIn_wide.2 (backward_any _ _ _ _)).mono ?_
 rintro e w1 ⟨rfl,rfl⟩
 clear c1
 gi_wp2
 have hb2:Below w.heap.size w (W1.alloc (.cells #[.slice aa l.length ac] 229)):=bw4 hb0 _
 have x1:BoxN (W1.alloc (.cells #[.slice aa l.length ac] 229)) w.heap.size (.bool true) (.slice aa l.length ac):=x0.below (bw4 (bw0 _ _) _)
 have x2:Boxed (W1.alloc (.cells #[.slice aa l.length ac] 229)) W1.heap.size 229 (.slice aa l.length ac):=Boxed.new _ _ _
 have x3:=builderF_below hbld (bw4 (bw0 _ _) (.cells #[.slice aa l.length ac] 229))
 have hsz2:(W1.alloc (.cells #[.slice aa l.length ac] 229)).heap.size=W1.heap.size+1:=by simp
 generalize W1.alloc (.cells #[.slice aa l.length ac] 229)=W2 at *
 refine wpIn_rangeFunc_ownH rfl (by omega) (gf:=253) (lb:=#[.pointer (some ⟨W1.heap.size,0,none⟩)]) rfl trivial (enters_of Tryz.func253 (by kernel_rfl) rfl)
  (back_stops l _ (by omega) W1.heap.size w.heap.size _ (by omega) W2 hb2.size (HU.out.below hb2) HU.out.lt x2.cell) KpR.t (KpR.b hb2.size (by omega)) (bw0 _ _) (fun _=>rfl)
  (fun pre W=>((BoxN W w.heap.size (.bool true) (.slice aa l.length ac)∧Boxed W W1.heap.size 229 (.slice aa l.length ac))∧(Below w.heap.size w W∧W1.heap.size+1≤W.heap.size))∧(∃ out:List UInt8,Lib.IsBuilderF 77 5 (w.heap.size+1) (w.heap.size+1) (Lib.byteCells out) W∧out.length≤18 * pre.length+1∧(∀ k,k≤l.length→pre=fst l.length k→out=([45]:List UInt8)++topTxt l k)))
  (fun _ _ _=>False)
  (OwnFrom.and (OwnFrom.and (OwnFrom.and (cells_own rfl) (Own.from (boxed_own _ _ _) _)) (OwnFrom.and (ownFrom_below (Nat.le_refl _) (by omega)) (fun s A B row hs hg hr=>Nat.le_trans hs hg.size))) (fun s X Y row hs hg hr=>by obtain ⟨out,h1,h2⟩:=hs;exact ⟨out,builderF_own () X Y row h1 hg hr,h2⟩))
  (fun _ _ _ _ _ hs _ _=>hs)
  ⟨⟨⟨x1,x2⟩,hb2,by omega⟩,([45]:List UInt8),x3,by simp,fun k hk e=>by
   have h0:k=0:=by have:=congrArg List.length e;rw [fst_length hk] at this;simpa using this.symm
   subst h0;rfl⟩
  (fun x a' W=>a'={ tmps:=#[.agg #[.bool true,.slice aa l.length ac],.pointer (some ⟨w.heap.size,0,none⟩),.string ⟨#[]⟩,.pointer (some ⟨w.heap.size+1,0,none⟩),.int .i64 ((l.length:Int) - 1 - x.1),.int .i64 (lim l (l.length - 1 - x.1)),undef,.pointer (some ⟨w.heap.size,1,none⟩),.slice aa l.length ac,.int .i64 l.length,.bool false,.pointer (some ⟨w.heap.size,0,none⟩),.bool true,.nilIface,.pointer (some ⟨w.heap.size,1,none⟩),.slice aa l.length ac,.func (.func 253) #[] #[.pointer (some ⟨W1.heap.size,0,none⟩)],.int .i64 ((l.length:Int) - 1 - x.1),.int .i64 (lim l (l.length - 1 - x.1)),undef,undef,undef,undef,undef,undef,undef,undef,undef,undef,undef,undef,undef,undef,undef,undef],defers:=[] })
  (fun x a' _ X Y row hs hg hr=>hs)
  ?assign ?body ?done ?stop
 case assign =>
  rintro l1 pre x W K ⟨⟨⟨b0,b1⟩,hB,hz⟩,hS⟩ hK
  unfold encB
  gi_wp2
  exact hK _ _ (KeepsFrom.refl _ _) ⟨(bw0 _ _).mono hB.size,rfl⟩ ⟨⟨⟨b0,b1⟩,hB,hz⟩,hS⟩ rfl
 case body =>
  rintro l1 pre x a' W hl1 ⟨rr,hr⟩ ⟨⟨⟨b0,b1⟩,hB,hz⟩,out,hbl,hol,hat⟩ rfl hlt
  have hxl:=x.2
  obtain ⟨q1,q2⟩:=HN.out.digs (l.length - 1 - x.1)
  obtain ⟨d,hd⟩:∃ d,lim l (l.length - 1 - x.1)=d:=⟨_,rfl⟩
  have hdl:(Lib.decDigits d.toNat).length≤9:=by rw [Lib.decDigits_length];exact nDigits_le_of_lt (by rw [hd] at q1 q2;omega) (by omega)
  have HAT:=Lib.hid (fun k (hk:k≤l.length) (e:pre++[x]=fst l.length k)=>show out++(if x.1=0 then Lib.decDigits d.toNat else List.replicate (9 - (Lib.decDigits d.toNat).length) 48++Lib.decDigits d.toNat)=([45]:List UInt8)++topTxt l k by
   obtain ⟨m,rfl,hp,hx⟩:=fst_snoc hk e
   rw [hat m (by omega) hp,List.append_assoc,topTxt_step HN.out.digs HN.out.trim (by omega),← hd,← hx])
  have HB0:=Lib.hid b0
  have HB1:=Lib.hid b1
  have HBL:=Lib.hid hbl
  clear hat b0 b1 hbl
  rw [hd] at q1 q2 ⊢
  clear hd
  gi_wp2
  refine ⟨trivial,?_⟩
  refine (CallsIn.inRound l1 (callsIn_wide.2 (itoa_any d (by omega) (by omega) _ (HG.out.below hB)))).mono ?_
  rintro e wa ⟨s,hs,rfl,hBa⟩
  rw [itoa_pos q1] at hs
  have hsl:s.size≤9:=by rw [show s.size=s.data.toList.length from rfl,hs];exact hdl
  have hsz:(s.size:Int)≤9:=by omega
  have HS:=Lib.hid hs
  have HW:=Lib.hid (And.intro (hBa.mono (show w.heap.size+1≤W.heap.size by omega)) (othersKept_of_below (b:=some (w.heap.size+1)) (e:=5) hBa))
  have HB0':=Lib.hid (HB0.out.below hBa)
  have c1:=HB0'.out.c1
  have HBL':=Lib.hid (builderF_below HBL.out hBa)
  have hzw:=Nat.le_trans hz hBa.size
  clear hs hBa
  by_cases hx0:x.1=0
  ·have hcond:¬ (l.length:Int) - 1 - (x.1:Int) < (l.length:Int) - 1:=by omega
   gi_wp2
   refine ⟨trivial,?_⟩
   refine (CallsIn.inRound l1 (callsIn_wide.2 (writeString_k (w.heap.size+1) (w.heap.size+1) _ s wa HBL'.out (by rw [Lib.byteCells_length];omega) (by omega)))).mono ?_
   rintro e wb ⟨rfl,hbb,hBb,hOb⟩
   have HBB:Hid (Lib.IsBuilderF 77 5 (w.heap.size+1) (w.heap.size+1) (Lib.byteCells (out++Lib.decDigits d.toNat)) wb):=Lib.hid (by rw [byteCells_append,← strCells_of HS.out];exact .inr hbb)
   have HW2:=Lib.hid (And.intro (HW.out.1.trans hBb) (HW.out.2.trans hOb))
   clear hbb hBb hOb c1
   gi_wp2
   obtain ⟨e1,e2,e3,e4,e5,e6⟩:=wr_end (m:=W2.heap.size) HW2.out.1 HW2.out.2 HB0.out HB1.out (by omega) (by omega) hB
   refine ⟨e1,e2,⟨⟨e3,e4⟩,e5,by omega⟩,_,HBB.out,?_,fun k hk e=>?_⟩
   ·rw [List.length_append,List.length_append];simp only [List.length_cons,List.length_nil];omega
   ·have:=HAT.out k hk e
    rwa [if_pos hx0] at this
  ·have hcond:(l.length:Int) - 1 - (x.1:Int) < (l.length:Int) - 1:=by omega
   have hwr:IntKind.i64.wrap (9 - (s.size:Int))=9 - (s.size:Int):=IntWalk.i64_in _ (by omega)
   have HRP:=Lib.hid (fun W=>Tryz.strings_Repeat ⟨#[48]⟩ (9 - s.size) W (by omega) (by show 1 * (9 - s.size)≤_;omega))
   have hcast:((9 - s.size:Nat):Int)=9 - (s.size:Int):=by omega
   rw [hcast] at HRP
   clear hcast
   gi_wp2
   refine ⟨trivial,?_⟩
   refine (CallsIn.inRound l1 (callsIn_wide.2 (HRP.out _))).mono ?_
   rintro e wr ⟨rfl,hBr⟩
   have HW1:=Lib.hid (And.intro (HW.out.1.trans (hBr.mono (show w.heap.size+1≤wa.heap.size by omega))) (HW.out.2.trans (othersKept_of_below (b:=some (w.heap.size+1)) (e:=5) hBr)))
   have HBR:=Lib.hid (builderF_below HBL'.out hBr)
   have hzr:=Nat.le_trans hzw hBr.size
   clear hBr c1
   gi_wp2
   refine ⟨trivial,?_⟩
   refine (CallsIn.inRound l1 (callsIn_wide.2 (writeString_k (w.heap.size+1) (w.heap.size+1) _ _ wr HBR.out (by rw [Lib.byteCells_length];show _+(Lib.repeatL [48] (9 - s.size)).toArray.size≤_;rw [repeat_zero];simp;omega) (by omega)))).mono ?_
   rintro e wp ⟨rfl,hbp,hBp,hOp⟩
   have HBP:Hid (Lib.IsBuilderF 77 5 (w.heap.size+1) (w.heap.size+1) (Lib.byteCells (out++List.replicate (9 - s.size) 48)) wp):=Lib.hid (by
    rw [byteCells_append,← repeat_zero,← strCells_of (s:=⟨(Lib.repeatL [48] (9 - s.size)).toArray⟩) rfl];exact .inr hbp)
   have HW2:=Lib.hid (And.intro (HW1.out.1.trans hBp) (HW1.out.2.trans hOp))
   have hzp:=Nat.le_trans hzr hBp.size
   clear hbp hBp hOp
   gi_wp2
   refine ⟨trivial,?_⟩
   refine (CallsIn.inRound l1 (callsIn_wide.2 (writeString_k (w.heap.size+1) (w.heap.size+1) _ s wp HBP.out (by rw [Lib.byteCells_length,List.length_append,List.length_replicate];omega) (by omega)))).mono ?_
   rintro e wb ⟨rfl,hbb,hBb,hOb⟩
   have HBB:Hid (Lib.IsBuilderF 77 5 (w.heap.size+1) (w.heap.size+1) (Lib.byteCells (out++(List.replicate (9 - (Lib.decDigits d.toNat).length) 48++Lib.decDigits d.toNat))) wb):=Lib.hid (by
    have hss:s.size=(Lib.decDigits d.toNat).length:=by rw [← HS.out];rfl
    rw [← List.append_assoc,byteCells_append,← strCells_of HS.out,← hss];exact .inr hbb)
   have HW3:=Lib.hid (And.intro (HW2.out.1.trans hBb) (HW2.out.2.trans hOb))
   clear hbb hBb hOb
   gi_wp2
   obtain ⟨e1,e2,e3,e4,e5,e6⟩:=wr_end (m:=W2.heap.size) HW3.out.1 HW3.out.2 HB0.out HB1.out (by omega) (by omega) hB
   refine ⟨e1,e2,⟨⟨e3,e4⟩,e5,by omega⟩,_,HBB.out,?_,fun k hk e=>?_⟩
   ·rw [List.length_append,List.length_append,List.length_append,List.length_replicate];simp only [List.length_cons,List.length_nil];omega
   ·have:=HAT.out k hk e
    rwa [if_neg hx0] at this
 case done =>
  rintro D ys W hD rfl ⟨⟨⟨b0,b1⟩,hB,hz⟩,out,hbl,hol,hat⟩ hK
  have HO:=Lib.hid (hat l.length (Nat.le_refl _) (fst_all _).symm)
  have HBL:=Lib.hid hbl
  have HB:=Lib.hid hB
  clear hat hbl hol b0 b1
  gi_wp2
  refine ⟨trivial,?_⟩
  refine (callsIn_wide.2 (Tryz.Builder_String_any_k (w.heap.size+1) (w.heap.size+1) out W HBL.out (by omega))).mono ?_
  rintro e wz ⟨rfl,_,hBz,hOz⟩
  have hKz:wz.heap[D]?=some (.deferred (some [])):=hOz D _ hK (fun e=>by injection e with e;omega) (fun c fz e=>by cases e)
  have hBw:Below w.heap.size w wz:=HB.out.trans (hBz.mono (by omega))
  clear hBz hOz
  gi_wp2
  refine leaves_marks w.heap.size [D] _ (by simp) (fun E hE=>?_) (fun W' hB' hcc=>?_)
  ·obtain rfl:E=D:=by simpa using hE
   exact ⟨by omega,hKz⟩
  ·have hout:out=([45]:List UInt8)++Lib.decDigits n.natAbs:=by rw [HO.out,topTxt_all HN.out,if_neg h0]
   exact ⟨.string ⟨out.toArray⟩,by simp [results,Tryz.results204,go_sem],⟨out.toArray⟩,hout,rfl,hBw.trans hB'⟩
 case stop =>
  rintro D c pre W _ _ h _
  exact h.elim
end Go.Proofs.YtbbclfbpllbbbaaGreatDoor
namespace Go.Proofs.YtbbclfbpllbbbaaGreatDoor
open Go.RowKit Go.Shelf
attribute [local go_sem] Oper.semAt_some
theorem digitsI_any (s:ByteArray) (w:World) :
  Calls Tryz.prog 196 #[.string s] w fun e w'=>e=.returned (.func (.func 237) #[] #[.pointer (some ⟨w.heap.size,0,none⟩)])∧w'=w.alloc (.cells #[.string s] 9):=by
 have hmf:∀ (fn:Fn) (first cap:Array Value) (w:World),(Instr.makeFunc fn first cap).run Tryz.prog w=.ok (.func fn first cap) w:=fun _ _ _ _=>rfl
 go_enter Tryz.func196,Tryz.ntmps196
 go_wp2_with fail
 go_ret
 exact ⟨rfl,rfl⟩
def encD (s:ByteArray) (x:Fin s.size):Array Value:=#[.int .i64 x.1,.int .i64 (dgAt s.data.toList x.1)]
theorem dgAt_of {s:ByteArray} {k:Nat} (h:s.size - 1 - k < s.size):dgAt s.data.toList k=(s[s.size - 1 - k].toNat:Int) - 48:=by
 unfold dgAt
 have h2:s.data.toList.length - 1 - k < s.data.toList.length:=h
 rw [List.getD_eq_getElem?_getD,List.getElem?_eq_getElem h2]
 rfl
theorem dig1_in (s:ByteArray) (hdig:∀ c ∈ s.data.toList,isDig c=true) (n:Nat) (hn:1≤n) (lb b1 B:Nat) (J Jx:List (Fin s.size)→World→Prop) (hlen:s.size≤1000)
  (hY:∀ pre x W,J pre W→pre.length < s.size→YieldAt Fence.wide (n - 1) Tryz.prog lb (encD s x) W fun e W' =>
   (e=.returned (.bool true)∧J (pre++[x]) W'∧KpR B b1 W W')∨(e=.returned (.bool false)∧Jx (pre++[x]) W'))
  (W:World) (hJ:AbidesFrom W.heap.size J) (c1:W.cell? ⟨b1,0,none⟩=some (.string s)) (h0:J [] W) :
  CallsIn Fence.wide n Tryz.prog 237 #[.func (.yield lb) #[] #[],.pointer (some ⟨b1,0,none⟩)] W fun e W'=>(∃ v,e=.returned v) ∧
   (J (List.finRange s.size) W'∨(∃ pre,(∃ k,k≤s.size∧pre=fst s.size k)∧Jx pre W')):=by
 have HJ:=Lib.hid hJ
 have HY:=Lib.hid hY
 have HD:=Lib.hid hdig
 clear hJ hY hdig
 refine callsIn_of_wp Tryz.func237 rfl trivial ?_ rfl
 simp only [Tryz.ntmps237,List.size_toArray,List.length_cons,List.length_nil,Nat.reduceAdd,Nat.reduceSub,Array.replicate_succ,Array.replicate_zero,List.push_toArray,List.append_toArray,List.nil_append,List.cons_append]
 gi_wp2
 gi_loopg [6] s.size (fun g v wr=>∃ k:Nat,k≤s.size∧g=s.size - k∧v=.int .i64 (k:Int)∧Hid (J (fst s.size k) wr)∧wr.cell? ⟨b1,0,none⟩=some (.string s))
 case atStart=>exact ⟨0,by omega,rfl,rfl,Lib.hid h0,c1⟩
 case round =>
  obtain ⟨k,hk,rfl,rfl,hJk,k1⟩:=hrel
  by_cases hkn:k=s.size
  ·subst hkn
   have hge:¬ (s.size:Int) < (s.size:Int):=by omega
   gi_wp2
   go_end0
   exact ⟨⟨_,rfl⟩,.inl (by have:=hJk.out;rw [fst_all] at this;exact this)⟩
  ·have hge:(k:Int) < (s.size:Int):=by omega
   have hw0:IntKind.i64.wrap ((s.size:Int) - 1)=(s.size:Int) - 1:=IntWalk.i64_in _ (by omega)
   have hw1:IntKind.i64.wrap ((s.size:Int) - 1 - (k:Int))=(s.size:Int) - 1 - (k:Int):=IntWalk.i64_in _ (by omega)
   have hw2:IntKind.i64.wrap ((k:Int)+1)=(k:Int)+1:=IntWalk.i64_in _ (by omega)
   have hs:((s.size:Int) - 1 - (k:Int)).toNat=s.size - 1 - k:=by omega
   have hg0:(0:Int)≤(s.size:Int) - 1 - (k:Int):=by omega
   have hg1:(s.size:Int) - 1 - (k:Int) < (s.size:Int):=by omega
   have hkl:s.size - 1 - k < s.size:=by omega
   obtain ⟨c,hc⟩:∃ c,s[s.size - 1 - k]=c:=⟨_,rfl⟩
   have hcd:isDig c=true:=HD.out c (by rw [← hc];exact List.getElem_mem (l:=s.data.toList) (n:=s.size - 1 - k) hkl)
   rw [isDig_iff] at hcd
   obtain ⟨d,hd⟩:∃ d:Int,(c.toNat:Int) - 48=d:=⟨_,rfl⟩
   have hwu:IntKind.u8.wrap ((c.toNat:Int) - 48)=d:=by rw [hd];exact IntWalk.u8_in _ (by omega)
   have hwd:IntKind.i64.wrap d=d:=IntWalk.i64_in _ (by omega)
   have hYk:=Lib.hid (fun W hW=>HY.out (fst s.size k) ⟨k,by omega⟩ W hW (by rw [fst_length hk];omega))
   have HE:Hid (encD s ⟨k,by omega⟩=#[.int .i64 (k:Int),.int .i64 d]):=Lib.hid (by unfold encD;rw [dgAt_of hkl,hc,hd])
   clear hd
   obtain ⟨fn,tmps,assign,body,hy,hR2⟩:=hYk.out _ hJk.out
   have HR2:=Lib.hid hR2
   rw [HE.out] at hy
   clear hR2
   gi_wp2
   refine HR2.out.mono ?_
   rintro e W3 (⟨rfl,hJ3,hk3⟩|⟨rfl,hJx3⟩)
   ·have k13:W3.cell? ⟨b1,0,none⟩=some (.string s):=(World.cell?_of_block hk3.2).trans k1
    have hJ3':=Lib.hid hJ3
    clear hJ3 hk3 hy HR2 k1
    gi_wp2
    gi_roundg (s.size - (k+1))
    case rel=>exact ⟨k+1,by omega,rfl,by go_num,Lib.hid (by rw [fst_succ (by omega)];exact hJ3'.out),k13⟩
    case measure=>omega
   ·have hJ3':=Lib.hid hJx3
    clear hJx3 hy HR2
    gi_wp2
    refine bodyPost_ret (results_none rfl _ _ _) rfl ?_
    exact ⟨⟨_,rfl⟩,.inr ⟨fst s.size (k+1),⟨k+1,by omega,rfl⟩,by rw [fst_succ (by omega)];exact hJ3'.out⟩⟩
theorem dig_stops (s:ByteArray) (hdig:∀ c ∈ s.data.toList,isDig c=true) (n:Nat) (hn:1≤n) (b1 B:Nat) (hlen:s.size≤1000) (w:World) (c1:w.cell? ⟨b1,0,none⟩=some (.string s)) :
  SeqStopsK Fence.wide n Tryz.prog 237 #[.pointer (some ⟨b1,0,none⟩)] (encD s) (KpR B b1) (fun ys=>ys=List.finRange s.size) (fun pre=>∃ k,k≤s.size∧pre=fst s.size k) s.size w:=fun lb J Jx W hW hJ _ hY h0 =>
 (dig1_in s hdig n hn lb b1 B J Jx hlen hY W hJ (keep hW c1) h0).mono (fun e w' h=>⟨h.1,h.2.imp (fun h=>⟨_,rfl,h⟩) id⟩)
end Go.Proofs.YtbbclfbpllbbbaaGreatDoor
namespace Go.Proofs.YtbbclfbpllbbbaaGreatDoor
open Go.RowKit Go.Shelf
attribute [local go_sem] Oper.semAt_some
theorem BoxN.f {W:World} {b:Nat} {x y:Value} (h:BoxN W b x y) (k:Nat):W.frozen? ⟨b,k,none⟩=false:=by simp [World.frozen?,show W.heap[b]?=_ from h]
theorem BoxN.set0 {W:World} {b:Nat} {x y:Value} (h:BoxN W b x y) (x':Value):BoxN (W.setCell ⟨b,0,none⟩ x') b x' y:=heap_setCell_at h
theorem BoxN.set1 {W:World} {b:Nat} {x y:Value} (h:BoxN W b x y) (y':Value):BoxN (W.setCell ⟨b,1,none⟩ y') b x y':=heap_setCell_at h
theorem BoxN.but' {W W':World} {b c:Nat} {x y:Value} (h:BoxN W b x y) (hs:SameBut c W W') (hne:b≠c):BoxN W' b x y:=(hs.block b hne).trans h
structure ReadSt (s:List UInt8) (n:Nat) (pre:List (Fin n)) (l:List Int) (u:Int):Prop where
 len:l.length=(n+8) / 9
 at':∀ k,k≤n→pre=fst n k→ReadAt s k l∧(k % 9≠0→u=((10 ^ (k % 9):Nat):Int))
theorem ReadSt.start (s:List UInt8) (n:Nat):ReadSt s n [] (zerosL ((n+8) / 9)) 1:=⟨zerosL_len _,fun k hk e=>by
 have h0:k=0:=by have:=congrArg List.length e;rw [fst_length hk] at this;simpa using this.symm
 subst h0
 exact ⟨ReadAt.start _ _,fun h=>absurd rfl h⟩⟩
theorem ReadSt.step {s:List UInt8} {n:Nat} {pre:List (Fin n)} {l:List Int} {u u1:Int} (h:ReadSt s n pre l u) (hn:n=s.length) (hd:∀ c ∈ s,isDig c=true) (x:Fin n) (hu:u1=if x.1 % 9=0 then 1 else u) :
  ReadSt s n (pre++[x]) (l.set (x.1 / 9) (IntKind.i64.wrap (lim l (x.1 / 9)+IntKind.i64.wrap (dgAt s x.1 * u1)))) (IntKind.i64.wrap (u1 * 10)):=by
 refine ⟨by rw [List.length_set];exact h.len,fun k hk e=>?_⟩
 obtain ⟨m,rfl,hp,hx⟩:=fst_snoc hk e
 obtain ⟨h1,h2⟩:=h.at' m (by omega) hp
 obtain ⟨⟨d0,d1⟩,⟨l0,l1⟩,h3⟩:=h1.step hd (by omega) (by rw [h.len,hn])
 have hu1:u1=((10 ^ (m % 9):Nat):Int):=by
  rw [hu,hx]
  split
  ·rename_i h0;rw [h0];rfl
  ·rename_i h0;exact h2 h0
 have hP:(10:Nat) ^ (m % 9)≤10 ^ 8:=Nat.pow_le_pow_right (by omega) (by omega)
 have hP0:0 < (10:Nat) ^ (m % 9):=Nat.pow_pos (by omega)
 rw [hx,hu1]
 rw [show m+1=m+1 from rfl]
 have hsucc:(m+1) % 9≠0→(10:Nat) ^ ((m+1) % 9)=10 ^ (m % 9) * 10:=fun h0=>by rw [← Nat.pow_succ];congr 1;omega
 generalize (10:Nat) ^ (m % 9)=P at *
 have m0:0≤dgAt s m * (P:Int):=Int.mul_nonneg d0 (by omega)
 have m1:dgAt s m * (P:Int)≤9 * (P:Int):=Int.mul_le_mul_of_nonneg_right d1 (by omega)
 have e1:IntKind.i64.wrap (dgAt s m * (P:Int))=dgAt s m * (P:Int):=IntWalk.i64_in _ (by omega)
 have e2:IntKind.i64.wrap (lim l (m / 9)+dgAt s m * (P:Int))=lim l (m / 9)+dgAt s m * (P:Int):=IntWalk.i64_in _ (by omega)
 have e3:IntKind.i64.wrap ((P:Int) * 10)=(P:Int) * 10:=IntWalk.i64_in _ (by omega)
 rw [e1,e2,e3]
 refine ⟨h3,fun h0=>?_⟩
 rw [hsucc h0]
 omega
theorem iread_ok (x:Int) (s:ByteArray) (w:World) (hs:s.data.toList=Lib.itoa x) (hl:s.size≤400) :
  Calls Tryz.prog 147 #[.string s] w (RetBig x ((s.size+8) / 9) w):=by
 have hcp:=(trim_itoa x).1
 rw [← hs] at hcp
 obtain ⟨m,hm⟩:∃ m,Lib.hasPrefix s.data.toList [45]=m:=⟨_,rfl⟩
 have HM:=Lib.hid (show sgnV m x.natAbs=x by
  rw [← hm,hs]
  rcases itoa_cases x with ⟨h0,e⟩|⟨h0,e⟩
  ·rw [e]
   have:Lib.hasPrefix (45::Lib.decDigits x.natAbs) [45]=true:=by simp [Lib.hasPrefix,List.isPrefixOf]
   rw [this];show -((x.natAbs:Int))=x;omega
  ·rw [e]
   have hne:=decDigits_no45 x.natAbs []
   rw [List.append_nil] at hne
   have:Lib.hasPrefix (Lib.decDigits x.natAbs) [45]=false:=by
    cases hdd:Lib.decDigits x.natAbs with
    | nil=>rfl
    | cons c t =>
     rw [hdd] at hne
     have hc:c≠45:=by intro hc;subst hc;simp at hne
     simp [Lib.hasPrefix,List.isPrefixOf,Ne.symm hc]
   rw [this];show (x.natAbs:Int)=x;omega)
 have HCP:=Lib.hid (fun W=>cutPrefix_any s ⟨#[45]⟩ W hcp hm)
 have HS:=Lib.hid hs
 refine (callsIn_wide (n:=5)).1 ?_
 refine callsIn_of_wp_marks Tryz.func147 rfl trivial ?_ rfl
 simp only [Tryz.ntmps147,List.size_toArray,List.length_cons,List.length_nil,Nat.reduceAdd,Nat.reduceSub,Array.replicate_succ,Array.replicate_zero,List.push_toArray,List.append_toArray,List.nil_append,List.cons_append]
 clear hcp hs hm
 gi_wp2
 refine ⟨trivial,?_⟩
 refine (callsIn_wide.2 (HCP.out _)).mono ?_
 rintro e w1 ⟨r,hr,rfl,rfl⟩
 have hr:=hr.out
 have hrs:r.size≤s.size:=by
  have e1:r.size=(Lib.decDigits x.natAbs).length:=by rw [← hr];rfl
  have e2:s.size=(Lib.itoa x).length:=by rw [← HS.out];rfl
  rw [e1,e2];exact trim_len x
 have hdg:∀ c ∈ r.data.toList,isDig c=true:=by rw [hr];exact decDigits_isDig _
 have HDV:=Lib.hid (show dval r.data.toList=x.natAbs by rw [hr];exact dval_decDigits _)
 have HDG:=Lib.hid hdg
 obtain ⟨nl,hnl⟩:∃ nl:Nat,(r.size+8) / 9=nl:=⟨_,rfl⟩
 have hw1:IntKind.i64.wrap ((r.size:Int)+9)=(r.size:Int)+9:=IntWalk.i64_in _ (by omega)
 have hw2:IntKind.i64.wrap ((r.size:Int)+9 - 1)=(r.size:Int)+9 - 1:=IntWalk.i64_in _ (by omega)
 have ht:((r.size:Int)+9 - 1).tdiv 9=(nl:Int):=by rw [Int.tdiv_eq_ediv_of_nonneg (by omega)];omega
 have hw3:IntKind.i64.wrap (nl:Int)=(nl:Int):=IntWalk.i64_in _ (by omega)
 have hmk:=fun (W:World)=>run_makeI W nl (by omega) (nl:Int) rfl
 clear hr hdg
 gi_wp2
 refine ⟨trivial,?_⟩
 refine (callsIn_wide.2 (digitsI_any _ _)).mono ?_
 rintro e w1 ⟨rfl,rfl⟩
 gi_wp2
 have hb0:Below w.heap.size w (((((w.alloc (.cells #[.bool false,.slice none 0 0] 231)).alloc (.cells (intVs (zerosL nl)).toArray 3)).alloc (.cells #[.bool m,.slice (some ⟨w.heap.size+1,0,none⟩) nl nl] 231)).alloc (.cells #[.int .i64 1] 3)).alloc (.cells #[.string r] 9)):=qbl
 have x0:BoxN (((((w.alloc (.cells #[.bool false,.slice none 0 0] 231)).alloc (.cells (intVs (zerosL nl)).toArray 3)).alloc (.cells #[.bool m,.slice (some ⟨w.heap.size+1,0,none⟩) nl nl] 231)).alloc (.cells #[.int .i64 1] 3)).alloc (.cells #[.string r] 9)) w.heap.size (.bool false) (.slice none 0 0):=((((BoxN.new rfl).below (bw4 (bw0 _ _) _)).below (bw4 (bw0 _ _) _)).below (bw4 (bw0 _ _) _)).below (bw4 (bw0 _ _) _)
 have x1:BlkI (((((w.alloc (.cells #[.bool false,.slice none 0 0] 231)).alloc (.cells (intVs (zerosL nl)).toArray 3)).alloc (.cells #[.bool m,.slice (some ⟨w.heap.size+1,0,none⟩) nl nl] 231)).alloc (.cells #[.int .i64 1] 3)).alloc (.cells #[.string r] 9)) (w.heap.size+1) (zerosL nl):=(((BlkI.new (by simp)).below (bw4 (bw0 _ _) _)).below (bw4 (bw0 _ _) _)).below (bw4 (bw0 _ _) _)
 have x2:BoxN (((((w.alloc (.cells #[.bool false,.slice none 0 0] 231)).alloc (.cells (intVs (zerosL nl)).toArray 3)).alloc (.cells #[.bool m,.slice (some ⟨w.heap.size+1,0,none⟩) nl nl] 231)).alloc (.cells #[.int .i64 1] 3)).alloc (.cells #[.string r] 9)) (w.heap.size+2) (.bool m) (.slice (some ⟨w.heap.size+1,0,none⟩) nl nl):=((BoxN.new (by simp)).below (bw4 (bw0 _ _) _)).below (bw4 (bw0 _ _) _)
 have x3:Boxed (((((w.alloc (.cells #[.bool false,.slice none 0 0] 231)).alloc (.cells (intVs (zerosL nl)).toArray 3)).alloc (.cells #[.bool m,.slice (some ⟨w.heap.size+1,0,none⟩) nl nl] 231)).alloc (.cells #[.int .i64 1] 3)).alloc (.cells #[.string r] 9)) (w.heap.size+3) 3 (.int .i64 1):=(boxed_new' (by simp)).alloc _
 have x4:Boxed (((((w.alloc (.cells #[.bool false,.slice none 0 0] 231)).alloc (.cells (intVs (zerosL nl)).toArray 3)).alloc (.cells #[.bool m,.slice (some ⟨w.heap.size+1,0,none⟩) nl nl] 231)).alloc (.cells #[.int .i64 1] 3)).alloc (.cells #[.string r] 9)) (w.heap.size+4) 9 (.string r):=boxed_new' (by simp)
 have hsz:(((((w.alloc (.cells #[.bool false,.slice none 0 0] 231)).alloc (.cells (intVs (zerosL nl)).toArray 3)).alloc (.cells #[.bool m,.slice (some ⟨w.heap.size+1,0,none⟩) nl nl] 231)).alloc (.cells #[.int .i64 1] 3)).alloc (.cells #[.string r] 9)).heap.size=w.heap.size+5:=by simp
 generalize (((((w.alloc (.cells #[.bool false,.slice none 0 0] 231)).alloc (.cells (intVs (zerosL nl)).toArray 3)).alloc (.cells #[.bool m,.slice (some ⟨w.heap.size+1,0,none⟩) nl nl] 231)).alloc (.cells #[.int .i64 1] 3)).alloc (.cells #[.string r] 9))=W0 at *
 refine wpIn_rangeFunc_ownH rfl (by omega) (gf:=237) (lb:=#[.pointer (some ⟨w.heap.size+4,0,none⟩)]) rfl trivial (enters_of Tryz.func237 (by kernel_rfl) rfl)
  (dig_stops r HDG.out _ (by omega) (w.heap.size+4) w.heap.size (by omega) W0 x4.cell) KpR.t (KpR.b hb0.size (by omega)) (bw0 _ _) (fun _=>rfl)
  (fun pre W=>((((BoxN W w.heap.size (.bool false) (.slice none 0 0)∧BoxN W (w.heap.size+2) (.bool m) (.slice (some ⟨w.heap.size+1,0,none⟩) nl nl))∧Boxed W (w.heap.size+4) 9 (.string r))∧(Below w.heap.size w W∧w.heap.size+5≤W.heap.size))∧(∃ l u,(BlkI W (w.heap.size+1) l∧Boxed W (w.heap.size+3) 3 (.int .i64 u))∧ReadSt r.data.toList r.size pre l u)))
  (fun _ _ _=>False)
  (OwnFrom.and (OwnFrom.and (OwnFrom.and (OwnFrom.and (cells_own rfl) (cells_own rfl)) (Own.from (boxed_own _ _ _) _)) (OwnFrom.and (ownFrom_below (Nat.le_refl _) (by omega)) (fun s A B row hs hg hr=>Nat.le_trans hs hg.size))) (fun s X Y row hs hg hr=>by obtain ⟨l,u,⟨h1,h2⟩,h3⟩:=hs;exact ⟨l,u,⟨blkI_own () X Y row h1 hg hr,(Own.from (boxed_own (w.heap.size+3) 3 (fun _:Unit=>.int .i64 u)) _) () X Y row h2 hg hr⟩,h3⟩))
  (fun _ _ _ _ _ hs _ _=>hs)
  ⟨⟨⟨⟨x0,x2⟩,x4⟩,hb0,by omega⟩,_,_,⟨x1,x3⟩,by rw [← hnl];exact ReadSt.start _ _⟩
  (fun x a' W=>a'={ tmps:=#[.string s,undef,.pointer (some ⟨w.heap.size,0,none⟩),.string r,.bool m,.pointer (some ⟨w.heap.size+2,0,none⟩),.pointer (some ⟨w.heap.size+3,0,none⟩),.int .i64 x.1,.int .i64 (dgAt r.data.toList x.1),.tuple #[.string r,.bool m],.string s,.tuple #[.string r,.bool m],.string r,.bool m,.bool m,.string r,.int .i64 r.size,.int .i64 ((r.size:Int)+9),.int .i64 ((r.size:Int)+9 - 1),.int .i64 nl,.slice (some ⟨w.heap.size+1,0,none⟩) nl nl,.agg #[.bool m,.slice (some ⟨w.heap.size+1,0,none⟩) nl nl],.string r,.func (.func 237) #[] #[.pointer (some ⟨w.heap.size+4,0,none⟩)],.int .i64 x.1,.int .i64 (dgAt r.data.toList x.1),undef,undef,undef,undef,undef,undef,undef,undef,undef,undef,undef,undef,undef,undef,undef,undef,undef,undef,undef,undef,undef],defers:=[] })
  (fun x a' _ X Y row hs hg hr=>hs)
  ?assign ?body ?done ?stop
 case assign =>
  rintro l1 pre x W K ⟨⟨⟨⟨b0,b2⟩,b4⟩,hB,hz⟩,hS⟩ hK
  unfold encD
  gi_wp2
  exact hK _ _ (KeepsFrom.refl _ _) ⟨(bw0 _ _).mono hB.size,rfl⟩ ⟨⟨⟨⟨b0,b2⟩,b4⟩,hB,hz⟩,hS⟩ rfl
 case body =>
  rintro l1 pre x a' W hl1 ⟨rr,hr⟩ ⟨⟨⟨⟨b0,b2⟩,b4⟩,hB,hz⟩,l,u,⟨b1,b3⟩,hSt⟩ rfl hlt
  have hxl:=x.2
  obtain ⟨j,hj⟩:∃ j,x.1 / 9=j:=⟨_,rfl⟩
  obtain ⟨t,htt⟩:∃ t,x.1 % 9=t:=⟨_,rfl⟩
  have hq:((x.1:Nat):Int).tdiv 9=(j:Int):=by rw [Int.tdiv_eq_ediv_of_nonneg (by omega)];omega
  have hm9:((x.1:Nat):Int).tmod 9=(t:Int):=by rw [Int.tmod_eq_emod_of_nonneg (by omega)];omega
  have hwj:IntKind.i64.wrap (j:Int)=(j:Int):=IntWalk.i64_in _ (by omega)
  have hwt:IntKind.i64.wrap (t:Int)=(t:Int):=IntWalk.i64_in _ (by omega)
  have hj0:(0:Int)≤(j:Int):=by omega
  have hj1:(j:Int) < (nl:Int):=by omega
  have hjt:((j:Int)).toNat=j:=by omega
  have hjl:j < l.length:=by rw [hSt.len];omega
  have HST:=Lib.hid (fun u1 hu=>hSt.step (u1:=u1) rfl HDG.out x hu)
  rw [hj,htt] at HST
  have hdd:dgAt r.data.toList x.1=dgAt r.data.toList x.1:=rfl
  generalize dgAt r.data.toList x.1=d at *
  clear hdd hSt hj
  by_cases h9:t=0
  ·have h9b:((t:Int) == 0)=true:=by rw [h9];rfl
   have c3:=b3.cell
   have f3:=b3.frozen
   have z3:=b3.lt
   have HST:=Lib.hid (by have h:=HST.out 1 (by rw [if_pos h9]);rwa [Int.mul_one,show IntKind.i64.wrap ((1:Int) * 10)=10 from by rw [show (1:Int) * 10=10 from rfl];exact IntWalk.i64_in _ (by omega)] at h)
   have hSu:=sameBut_setCell W (w.heap.size+3) 0 (.int .i64 1)
   have b3':=b3.set (.int .i64 1)
   clear h9 htt
   gi_wp2
   clear c3 f3 z3
   generalize W.setCell ⟨w.heap.size+3,0,none⟩ (.int .i64 1)=Wu at *
   have hBu:Below w.heap.size w Wu:=hSu.below hB (by omega)
   have b0u:=b0.but' hSu (by omega)
   have b2u:=b2.but' hSu (by omega)
   have b4u:=Boxed.but b4 hSu (by omega)
   have b1u:=b1.but hSu (by omega)
   have hzu:w.heap.size+5≤Wu.heap.size:=by rw [hSu.size];exact hz
   have hKu:KeepsFrom W0.heap.size W Wu:=keepsFrom_but hSu (by omega)
   have hPu:KpR w.heap.size (w.heap.size+4) W Wu:=⟨hSu.below (bw0 _ _) (by omega),hSu.block _ (by omega)⟩
   have hR:BoxN Wu.drew (w.heap.size+2) (.bool m) (.slice (some ⟨w.heap.size+1,0,none⟩) nl nl)∧Boxed Wu.drew (w.heap.size+3) 3 (.int .i64 1)∧BlkI Wu.drew (w.heap.size+1) l:=⟨b2u.below (bw0 _ _).drew,boxed_below b3' (bw0 _ _).drew,b1u.below (bw0 _ _).drew⟩
   refine region_I (L:=[11]) (R:=(fun w'=>BoxN w' (w.heap.size+2) (.bool m) (.slice (some ⟨w.heap.size+1,0,none⟩) nl nl)∧Boxed w' (w.heap.size+3) 3 (.int .i64 1)∧BlkI w' (w.heap.size+1) l)) 12 #[false,false,false,false,false,false,false,false,false,false,false,false] (by kernel_rfl) (by kernel_rfl) (by kernel_rfl) (fun _ _ _ _ _ h=>h) (fun Q' hQ' hN hLO=>?_)
   have hBd:=(bw0 Wu.heap.size Wu).drew
   generalize Wu.drew=wd at *
   refine tI 29 0 (hy:=by intro wq hRq;have e0:=hRq.1.c1;have e1:=hRq.2.1.cell;have e2:=hRq.2.2.cell hjl;go_simp;(try with_reducible rfl)) ?_
   refine tI 30 1 (hy:=by intro wq hRq;have e0:=hRq.1.c1;have e1:=hRq.2.1.cell;have e2:=hRq.2.2.cell hjl;go_simp;(try with_reducible rfl)) ?_
   refine tI 31 2 (hy:=by intro wq hRq;have e0:=hRq.1.c1;have e1:=hRq.2.1.cell;have e2:=hRq.2.2.cell hjl;go_simp;(try with_reducible rfl)) ?_
   refine tI 32 3 (hy:=by intro wq hRq;have e0:=hRq.1.c1;have e1:=hRq.2.1.cell;have e2:=hRq.2.2.cell hjl;go_simp;(try with_reducible rfl)) ?_
   refine tI 33 4 (hy:=by intro wq hRq;have e0:=hRq.1.c1;have e1:=hRq.2.1.cell;have e2:=hRq.2.2.cell hjl;go_simp;(try with_reducible rfl)) ?_
   refine tI 34 5 (hy:=by intro wq hRq;have e0:=hRq.1.c1;have e1:=hRq.2.1.cell;have e2:=hRq.2.2.cell hjl;go_simp;(try with_reducible rfl)) ?_
   refine tI 35 6 (hy:=by intro wq hRq;have e0:=hRq.1.c1;have e1:=hRq.2.1.cell;have e2:=hRq.2.2.cell hjl;go_simp;(try with_reducible rfl)) ?_
   refine tI 36 7 (hy:=by intro wq hRq;have e0:=hRq.1.c1;have e1:=hRq.2.1.cell;have e2:=hRq.2.2.cell hjl;go_simp;(try with_reducible rfl)) ?_
   refine tI 37 8 (hy:=by intro wq hRq;have e0:=hRq.1.c1;have e1:=hRq.2.1.cell;have e2:=hRq.2.2.cell hjl;go_simp;(try with_reducible rfl)) ?_
   refine tI 38 9 (hy:=by intro wq hRq;have e0:=hRq.1.c1;have e1:=hRq.2.1.cell;have e2:=hRq.2.2.cell hjl;go_simp;(try with_reducible rfl)) ?_
   refine tI 39 10 (hy:=by intro wq hRq;have e0:=hRq.1.c1;have e1:=hRq.2.1.cell;have e2:=hRq.2.2.cell hjl;go_simp;(try with_reducible rfl)) ?_
   refine wpAnyI_ready (rs:=[11]) (by kernel_rfl) (by simp) ?_
   refine stepFI (i:=11) rfl (by kernel_rfl) (by kernel_rfl) (fun K hK=>?_) (AllReadyI.nil)
   have f1:=hR.2.2.cell hjl
   have g1:=hR.2.2.frozen j
   go_simp
   refine after_setI hR.2.2 (fun W2 hS2 hb2=>?_)
   clear f1 g1
   refine hK.out _ _ ?_
   clear hK K
   (try simp only [Act.put,bw7,bw8,bw9])
   refine wpAnyI_done (by kernel_rfl) ?_ _
   refine hN.out _ _ ?_
   have e3:=Boxed.but hR.2.1 hS2 (by omega)
   have c3:=e3.cell
   have f3:=e3.frozen
   have z3:=e3.lt
   have b3f:=e3.set (.int .i64 10)
   have hSf:=sameBut_setCell W2 (w.heap.size+3) 0 (.int .i64 10)
   gi_wp2
   clear c3 f3 z3
   generalize W2.setCell ⟨w.heap.size+3,0,none⟩ (.int .i64 10)=Wf at *
   have hKp:KpR w.heap.size (w.heap.size+4) Wu Wf:=⟨hSf.below (hS2.below (hBd.mono hBu.size) (by omega)) (by omega),(hSf.block _ (by omega)).trans ((hS2.block _ (by omega)).trans (hBd.block _ b4u.lt))⟩
   exact ⟨hKu.trans ((keepsFrom_below hBd).trans ((keepsFrom_but hS2 (by omega)).trans (keepsFrom_but hSf (by omega)))),hPu.t hKp,⟨⟨⟨⟨((b0u.below hBd).but' hS2 (by omega)).but' hSf (by omega),(hR.1.but' hS2 (by omega)).but' hSf (by omega)⟩,Boxed.but (Boxed.but (boxed_below b4u hBd) hS2 (by omega)) hSf (by omega)⟩,hSf.below (hS2.below (hBu.trans (hBd.mono hBu.size)) (by omega)) (by omega),by rw [hSf.size,hS2.size];exact Nat.le_trans hzu hBd.size⟩,_,_,⟨hb2.but hSf (by omega),b3f⟩,HST.out⟩⟩
  ·have h9b:((t:Int) == 0)=false:=by rw [beq_eq_false_iff_ne];omega
   have HST:=HST.out u (by rw [if_neg h9])
   obtain ⟨u2,hu2⟩:∃ u2,IntKind.i64.wrap (u * 10)=u2:=⟨_,rfl⟩
   rw [hu2] at HST
   have HST:=Lib.hid HST
   clear h9 htt
   gi_wp2
   have hR:BoxN W.drew (w.heap.size+2) (.bool m) (.slice (some ⟨w.heap.size+1,0,none⟩) nl nl)∧Boxed W.drew (w.heap.size+3) 3 (.int .i64 u)∧BlkI W.drew (w.heap.size+1) l:=⟨b2.below (bw0 _ _).drew,boxed_below b3 (bw0 _ _).drew,b1.below (bw0 _ _).drew⟩
   refine region_I (L:=[11]) (R:=(fun w'=>BoxN w' (w.heap.size+2) (.bool m) (.slice (some ⟨w.heap.size+1,0,none⟩) nl nl)∧Boxed w' (w.heap.size+3) 3 (.int .i64 u)∧BlkI w' (w.heap.size+1) l)) 12 #[false,false,false,false,false,false,false,false,false,false,false,false] (by kernel_rfl) (by kernel_rfl) (by kernel_rfl) (fun _ _ _ _ _ h=>h) (fun Q' hQ' hN hLO=>?_)
   have hBd:=(bw0 W.heap.size W).drew
   generalize W.drew=wd at *
   refine tI 29 0 (hy:=by intro wq hRq;have e0:=hRq.1.c1;have e1:=hRq.2.1.cell;have e2:=hRq.2.2.cell hjl;go_simp;(try with_reducible rfl)) ?_
   refine tI 30 1 (hy:=by intro wq hRq;have e0:=hRq.1.c1;have e1:=hRq.2.1.cell;have e2:=hRq.2.2.cell hjl;go_simp;(try with_reducible rfl)) ?_
   refine tI 31 2 (hy:=by intro wq hRq;have e0:=hRq.1.c1;have e1:=hRq.2.1.cell;have e2:=hRq.2.2.cell hjl;go_simp;(try with_reducible rfl)) ?_
   refine tI 32 3 (hy:=by intro wq hRq;have e0:=hRq.1.c1;have e1:=hRq.2.1.cell;have e2:=hRq.2.2.cell hjl;go_simp;(try with_reducible rfl)) ?_
   refine tI 33 4 (hy:=by intro wq hRq;have e0:=hRq.1.c1;have e1:=hRq.2.1.cell;have e2:=hRq.2.2.cell hjl;go_simp;(try with_reducible rfl)) ?_
   refine tI 34 5 (hy:=by intro wq hRq;have e0:=hRq.1.c1;have e1:=hRq.2.1.cell;have e2:=hRq.2.2.cell hjl;go_simp;(try with_reducible rfl)) ?_
   refine tI 35 6 (hy:=by intro wq hRq;have e0:=hRq.1.c1;have e1:=hRq.2.1.cell;have e2:=hRq.2.2.cell hjl;go_simp;(try with_reducible rfl)) ?_
   refine tI 36 7 (hy:=by intro wq hRq;have e0:=hRq.1.c1;have e1:=hRq.2.1.cell;have e2:=hRq.2.2.cell hjl;go_simp;(try with_reducible rfl)) ?_
   refine tI 37 8 (hy:=by intro wq hRq;have e0:=hRq.1.c1;have e1:=hRq.2.1.cell;have e2:=hRq.2.2.cell hjl;go_simp;(try with_reducible rfl)) ?_
   refine tI 38 9 (hy:=by intro wq hRq;have e0:=hRq.1.c1;have e1:=hRq.2.1.cell;have e2:=hRq.2.2.cell hjl;go_simp;(try with_reducible rfl)) ?_
   refine tI 39 10 (hy:=by intro wq hRq;have e0:=hRq.1.c1;have e1:=hRq.2.1.cell;have e2:=hRq.2.2.cell hjl;go_simp;(try with_reducible rfl)) ?_
   refine wpAnyI_ready (rs:=[11]) (by kernel_rfl) (by simp) ?_
   refine stepFI (i:=11) rfl (by kernel_rfl) (by kernel_rfl) (fun K hK=>?_) (AllReadyI.nil)
   have f1:=hR.2.2.cell hjl
   have g1:=hR.2.2.frozen j
   go_simp
   refine after_setI hR.2.2 (fun W2 hS2 hb2=>?_)
   clear f1 g1
   refine hK.out _ _ ?_
   clear hK K
   (try simp only [Act.put,bw7,bw8,bw9])
   refine wpAnyI_done (by kernel_rfl) ?_ _
   refine hN.out _ _ ?_
   have e3:=Boxed.but hR.2.1 hS2 (by omega)
   have c3:=e3.cell
   have f3:=e3.frozen
   have z3:=e3.lt
   have b3f:=e3.set (.int .i64 u2)
   have hSf:=sameBut_setCell W2 (w.heap.size+3) 0 (.int .i64 u2)
   gi_wp2
   clear c3 f3 z3
   generalize W2.setCell ⟨w.heap.size+3,0,none⟩ (.int .i64 u2)=Wf at *
   exact ⟨(keepsFrom_below hBd).trans ((keepsFrom_but hS2 (by omega)).trans (keepsFrom_but hSf (by omega))),⟨hSf.below (hS2.below (hBd.mono hB.size) (by omega)) (by omega),(hSf.block _ (by omega)).trans ((hS2.block _ (by omega)).trans (hBd.block _ b4.lt))⟩,⟨⟨⟨⟨((b0.below hBd).but' hS2 (by omega)).but' hSf (by omega),(hR.1.but' hS2 (by omega)).but' hSf (by omega)⟩,Boxed.but (Boxed.but (boxed_below b4 hBd) hS2 (by omega)) hSf (by omega)⟩,hSf.below (hS2.below (hB.trans (hBd.mono hB.size)) (by omega)) (by omega),by rw [hSf.size,hS2.size];exact Nat.le_trans hz hBd.size⟩,_,_,⟨hb2.but hSf (by omega),b3f⟩,HST.out⟩⟩
 case done =>
  rintro D ys W hD rfl ⟨⟨⟨⟨b0,b2⟩,b4⟩,hB,hz⟩,l,u,⟨b1,b3⟩,hSt⟩ hK
  have hll:=hSt.len
  rw [hnl] at hll
  obtain ⟨hRA,_⟩:=hSt.at' r.size (Nat.le_refl _) (fst_all _).symm
  have HRA:=Lib.hid hRA
  have HTR:=Lib.hid (fun (W':World) (h:BlkI W' (w.heap.size+1) l)=>trim_ok l (some ⟨w.heap.size+1,0,none⟩) nl nl W' (by have:=h.is;rwa [hll] at this) (by omega))
  have HB1:=Lib.hid b1
  have c1:=b2.c1
  have f1:W.frozen? ⟨w.heap.size+2,1,none⟩=false:=by simp [World.frozen?,show W.heap[w.heap.size+2]?=_ from b2]
  have z2:=b2.lt
  clear hSt hRA b1 b3 b4
  gi_wp2
  refine ⟨trivial,?_⟩
  refine (callsIn_wide.2 (HTR.out _ HB1.out)).mono ?_
  rintro e wt ⟨m1,hm1,rfl,ht1,hl1,rfl⟩
  have HQ:=Lib.hid (And.intro hm1 (And.intro ht1 hl1))
  have hS5:=sameBut_setCell wt (w.heap.size+2) 1 (.slice (some ⟨w.heap.size+1,0,none⟩) m1 nl)
  have x5:=BoxN.set1 b2 (.slice (some ⟨w.heap.size+1,0,none⟩) m1 nl)
  have x0':=b0.but' hS5 (by omega)
  have e0:=x5.c0
  have e1:=x5.c1
  have r0:=x0'.c0
  have r1:=x0'.c1
  have g0:=x0'.f 0
  have g1:=x0'.f 1
  have l0:=x0'.lt
  clear hm1 ht1 hl1
  gi_wp2
  have x6:=x0'.set0 (.bool m)
  have hS6:=sameBut_setCell (wt.setCell ⟨w.heap.size+2,1,none⟩ (.slice (some ⟨w.heap.size+1,0,none⟩) m1 nl)) w.heap.size 0 (.bool m)
  have x7:=x6.set1 (.slice (some ⟨w.heap.size+1,0,none⟩) m1 nl)
  have hS7:=sameBut_setCell ((wt.setCell ⟨w.heap.size+2,1,none⟩ (.slice (some ⟨w.heap.size+1,0,none⟩) m1 nl)).setCell ⟨w.heap.size,0,none⟩ (.bool m)) w.heap.size 1 (.slice (some ⟨w.heap.size+1,0,none⟩) m1 nl)
  have xl:=((HB1.out.but hS5 (by omega)).but hS6 (by omega)).but hS7 (by omega)
  have hBB:=hS7.below (hS6.below (hS5.below hB (by omega)) (Nat.le_refl _)) (Nat.le_refl _)
  refine leaves_marks w.heap.size [D] _ (by simp) (fun E hE=>?_) (fun W' hB' hcc=>?_)
  ·obtain rfl:E=D:=by simpa using hE
   exact ⟨by omega,(hS7.block _ (by omega)).trans ((hS6.block _ (by omega)).trans ((hS5.block _ (by omega)).trans hK))⟩
  ·have q0:=cell_keeps x7.c0 hcc
   have q1:=cell_keeps x7.c1 hcc
   have ld:(loadVar 231 ⟨w.heap.size,0,none⟩).run Tryz.prog W'=.ok (.agg #[.bool m,.slice (some ⟨w.heap.size+1,0,none⟩) m1 nl]) W':=by simp [go_sem,q0,q1]
   have hbl:BlkI W' (w.heap.size+1) l:=hcc _ _ xl rfl
   obtain ⟨hm1,ht1,hl1⟩:=HQ.out
   have hval:val l=(x.natAbs:Int):=by
    have h1:=HRA.out.fin
    rw [HDV.out] at h1
    exact h1
   refine ⟨_,results_cell1 Tryz.results147 rfl ld,_,rfl,⟨m,_,l.take m1,x.natAbs,rfl,hbl.isTake hm1 hll,⟨fun i=>by rw [hl1];exact HRA.out.digs i,ht1,(val_of_lim hl1).trans hval⟩,HM.out.symm,?_⟩,hBB.trans hB'⟩
   rw [List.length_take,hll]
   omega
 case stop =>
  rintro D c pre W _ _ h _
  exact h.elim
end Go.Proofs.YtbbclfbpllbbbaaGreatDoor
namespace Go.Proofs.YtbbclfbpllbbbaaGreatDoor
open Go.RowKit Go.Shelf
theorem itoa_sgn {m:Bool} {n:Int} (h:0 < n):Lib.itoa (sgnV m n)=(if m then [45] else [])++Lib.decDigits n.natAbs:=by
 cases m
 ·rcases itoa_cases n with ⟨h0,_⟩|⟨_,e⟩
  ·omega
  ·exact e
 ·show Lib.itoa (-n)=[45]++_
  rcases itoa_cases (-n) with ⟨_,e⟩|⟨h0,_⟩
  ·rw [e,Int.natAbs_neg];rfl
  ·omega
theorem write_none (m:Bool) (a:Option Addr) (cap:Nat) (w:World) :
  Calls Tryz.prog 204 #[.agg #[.bool m,.slice a 0 cap]] w (RetS [48] w):=by
 go_enter Tryz.func204,Tryz.ntmps204
 go_wp2_with fail
 go_ret
 exact ⟨⟨#[48]⟩,rfl,rfl,qbl⟩
theorem writeL_ok {z:Int} {k:Nat} (v:Value) (w:World) (hG:Glo w) (h:IsBig w v z k) (hk:k≤900):Calls Tryz.prog 204 #[v] w (RetS (Lib.itoa z) w):=by
 obtain ⟨m,u,l,n,rfl,hi,hn,rfl,hl⟩:=h
 by_cases h0:l.length=0
 ·obtain ⟨a,cap,rfl⟩:=hi.slice
  have hz:n=0:=hn.zero.1 h0
  rw [h0]
  have e:Lib.itoa (sgnV m n)=[48]:=by rw [hz];cases m<;>exact itoa_zero
  rw [e]
  exact write_none m a cap w
 ·have hp:0 < n:=by
   have h1:=hn.low h0
   have h2:=pw_pos (l.length - 1)
   omega
  rw [itoa_sgn hp]
  cases m
  ·exact write_plus u w hG hi hn (by omega) h0
  ·exact write_minus u w hG hi hn (by omega) h0
def Fit (n:Int):Prop:=(Lib.decDigits n.natAbs).length≤300
def RetX (z:Int) (w:World) (e:Ending) (w':World):Prop:=(Fit z→RetI z w e w')∧(¬ Fit z→e=.returned (.tuple #[.string ⟨#[]⟩,.int .i64 4])∧Below w.heap.size w w')
theorem result_ok {z:Int} {k:Nat} (v:Value) (w:World) (hG:Glo w) (h:IsBig w v z k) (hk:k≤900):Calls Tryz.prog 163 #[v] w (RetX z w):=by
 have HW:=Lib.hid (fun W (hB:Below w.heap.size w W)=>writeL_ok v W (hG.below hB) (h.below hB) hk)
 have HT:=Lib.hid (fun (s:ByteArray) (W:World) (hs:s.data.toList=Lib.itoa z)=>trimPrefix_any s ⟨#[45]⟩ W (a:=Lib.decDigits z.natAbs) (by rw [hs];exact (trim_itoa z).1))
 obtain ⟨m,u,l,n,rfl,hi,hn,hz,hl⟩:=h
 obtain ⟨a,cap,rfl⟩:=hi.slice
 clear hi hn hz hG
 go_enter Tryz.func163,Tryz.ntmps163
 go_wp2_with fail
 refine (HW.out _ qbl).mono ?_
 rintro e w1 ⟨s,hs,rfl,hB1⟩
 have HS:=Lib.hid hs
 have hb1:Below w.heap.size w w1:=qbl
 clear hs hB1
 go_wp2_with fail
 refine (HT.out s _ HS.out).mono ?_
 rintro e w2 ⟨o,ho,rfl,rfl⟩
 have hol:o.size=(Lib.decDigits z.natAbs).length:=by rw [← ho.out];rfl
 by_cases hf:Fit z
 ·have hle:¬ (300:Int) < (o.size:Int):=by unfold Fit at hf;omega
  clear ho hol
  go_wp2_with fail
  go_ret2
  exact ⟨fun _=>⟨s,HS.out,rfl,hb1⟩,fun h=>absurd hf h⟩
 ·have hle:(300:Int) < (o.size:Int):=by unfold Fit at hf;omega
  clear ho hol
  go_wp2_with fail
  go_ret2
  exact ⟨fun h=>absurd h hf,fun _=>⟨rfl,hb1⟩⟩
theorem small_long (s t:ByteArray) (w:World) (h:18 < s.size∨18 < t.size) :
  Calls Tryz.prog 146 #[.string s,.string t,.int .i64 18] w (RetB (.tuple #[.int .i64 0,.int .i64 0,.bool false]) w):=by
 by_cases h1:18 < s.size
 ·have h2:(18:Int) < (s.size:Int):=by omega
  go_enter Tryz.func146,Tryz.ntmps146
  go_wp2_with fail
  go_ret3
  exact ⟨rfl,qbl⟩
 ·have h2:¬ (18:Int) < (s.size:Int):=by omega
  have h3:(18:Int) < (t.size:Int):=by omega
  go_enter Tryz.func146,Tryz.ntmps146
  go_wp2_with fail
  go_ret3
  exact ⟨rfl,qbl⟩
end Go.Proofs.YtbbclfbpllbbbaaGreatDoor
namespace Go.Proofs.YtbbclfbpllbbbaaGreatDoor
open Go.RowKit Go.Shelf
theorem fit_of_lt {n:Int} (h:n.natAbs < 10 ^ 300):Fit n:=by
 unfold Fit
 rw [Lib.decDigits_length]
 exact nDigits_le_of_lt h (by omega)
theorem pow10_le {a b:Nat} (h:a≤b):10 ^ a≤10 ^ b:=Nat.pow_le_pow_right (by omega) h
theorem fit_iff (n:Int):Fit n↔n.natAbs < 10 ^ 300:=⟨fun h=>pow_le_of_lt (k:=300) h,fit_of_lt⟩
theorem RetI.x {z:Int} {w w':World} {e:Ending} (h:RetI z w e w') (hf:Fit z):RetX z w e w':=⟨fun _=>h,fun hn=>absurd hf hn⟩
theorem fit_size {x:Int} {s:ByteArray} (hs:s.data.toList=Lib.itoa x) (hx:Fit x):s.size≤301:=by
 have e:s.size=(Lib.itoa x).length:=by rw [← hs];rfl
 have h:=itoa_len_le (n:=x) (k:=300) ((fit_iff x).1 hx) (by omega)
 omega
theorem lt18 {x:Int} {s:ByteArray} (hs:s.data.toList=Lib.itoa x) (h:s.size≤18):x.natAbs < 10 ^ 18:=itoa_lt (by rw [← hs];exact h)
theorem fit18 {x:Int} (h:x.natAbs < 10 ^ 40):Fit x:=fit_of_lt (Nat.lt_of_lt_of_le h (pow10_le (a:=40) (b:=300) (by decide)))
theorem IsBig.parts {w:World} {v:Value} {z:Int} {k:Nat} (h:IsBig w v z k):∃ m a l c n,v=.agg #[.bool m,.slice a l.length c]∧IsInts w (.slice a l.length c) l∧Num l n∧z=sgnV m n∧l.length≤k:=by
 obtain ⟨m,u,l,n,rfl,hi,hn,hz,hl⟩:=h
 obtain ⟨a,c,rfl⟩:=hi.slice
 exact ⟨m,a,l,c,n,rfl,hi,hn,hz,hl⟩
theorem retX_val {z:Int} {w w':World} {e:Ending} (h:RetX z w e w'):∃ (r:ByteArray) (c:Int),e=.returned (.tuple #[.string r,.int .i64 c])∧RetX z w (.returned (.tuple #[.string r,.int .i64 c])) w'∧Below w.heap.size w w':=by
 by_cases hf:Fit z
 ·obtain ⟨r,hr,rfl,hB⟩:=h.1 hf
  exact ⟨r,0,rfl,h,hB⟩
 ·obtain ⟨rfl,hB⟩:=h.2 hf
  exact ⟨⟨#[]⟩,4,rfl,h,hB⟩
theorem RetX.trans {z:Int} {w W w':World} {e:Ending} (h:RetX z W e w') (hB:Below w.heap.size w W):RetX z w e w' :=
 ⟨fun hf=>by obtain ⟨r,hr,h1,h2⟩:=h.1 hf;exact ⟨r,hr,h1,below_trans' hB h2⟩,fun hf=>⟨(h.2 hf).1,below_trans' hB (h.2 hf).2⟩⟩
theorem Iadd_ok (x y:Int) (s t:ByteArray) (w:World) (hG:Glo w) (hs:s.data.toList=Lib.itoa x) (hx:Fit x) (ht:t.data.toList=Lib.itoa y) (hy:Fit y) :
  Calls Tryz.prog 107 #[.string s,.string t] w (RetX (x+y) w):=by
 have hsz:=fit_size hs hx
 have htz:=fit_size ht hy
 have HS:=Lib.hid hs
 have HT:=Lib.hid ht
 have HG:=Lib.hid hG
 have HX:=Lib.hid hx
 have HY:=Lib.hid hy
 by_cases hb:s.size≤18∧t.size≤18
 ·obtain ⟨hb1,hb2⟩:=hb
  have h1:=lt18 hs hb1
  have h2:=lt18 ht hb2
  clear hs ht hG hx hy
  go_enter Tryz.func107,Tryz.ntmps107
  go_wp2_with fail
  refine (Iboth_ok x y s t _ HS.out HX.out HT.out HY.out).mono ?_
  rintro e w1 ⟨rfl,hB1⟩
  go_wp2_with fail
  refine (Ismall_ok x y s t _ HS.out hb1 HT.out hb2).mono ?_
  rintro e w2 ⟨rfl,hB2⟩
  go_wp2_with fail
  refine (itoa_any (x+y) (by omega) (by omega) _ (HG.out.below qbl)).mono ?_
  rintro e w3 ⟨r,hr,rfl,hB3⟩
  have HR:=Lib.hid hr
  clear hr
  go_wp2_with fail
  go_ret2
  exact RetI.x ⟨r,HR.out,rfl,qbl⟩ (fit18 (by omega))
 ·clear hs ht hG hx hy
  go_enter Tryz.func107,Tryz.ntmps107
  go_wp2_with fail
  refine (Iboth_ok x y s t _ HS.out HX.out HT.out HY.out).mono ?_
  rintro e w1 ⟨rfl,hB1⟩
  go_wp2_with fail
  refine (small_long s t _ (by omega)).mono ?_
  rintro e w2 ⟨rfl,hB2⟩
  have hb2:Below w.heap.size w w2:=qbl
  clear hB1 hB2
  go_wp2_with fail
  refine (iread_ok x s _ HS.out (by omega)).mono ?_
  rintro e w3 ⟨v1,rfl,hv1,hB3⟩
  have hb3:Below w.heap.size w w3:=below_trans' hb2 hB3
  have HV1:=Lib.hid hv1
  obtain ⟨m1,a1,l1,c1,n1,rfl,_⟩:=hv1.parts
  clear hv1 hB3
  go_wp2_with fail
  refine (iread_ok y t _ HT.out (by omega)).mono ?_
  rintro e w4 ⟨v2,rfl,hv2,hB4⟩
  have hb4:Below w.heap.size w w4:=below_trans' hb3 hB4
  have HV1':=Lib.hid (HV1.out.below hB4)
  have HV2:=Lib.hid hv2
  obtain ⟨m2,a2,l2,c2,n2,rfl,_⟩:=hv2.parts
  clear hv2 hB4
  go_wp2_with fail
  refine (addL_ok _ _ _ HV1'.out HV2.out (by omega) (by omega)).mono ?_
  rintro e w5 ⟨v3,rfl,hv3,hB5⟩
  have hb5:Below w.heap.size w w5:=below_trans' hb4 hB5
  have HV3:=Lib.hid hv3
  obtain ⟨m3,a3,l3,c3,n3,rfl,_⟩:=hv3.parts
  clear hv3 hB5
  go_wp2_with fail
  refine (result_ok _ _ (HG.out.below hb5) HV3.out (by omega)).mono ?_
  intro e w6 hr
  obtain ⟨r,c,rfl,hr,hB6⟩:=retX_val hr
  have HR:=Lib.hid (hr.trans hb5)
  clear hr hB6
  go_wp2_with fail
  go_ret2
  exact HR.out
theorem Imul_ok (x y:Int) (s t:ByteArray) (w:World) (hG:Glo w) (hs:s.data.toList=Lib.itoa x) (hx:Fit x) (ht:t.data.toList=Lib.itoa y) (hy:Fit y) :
  Calls Tryz.prog 104 #[.string s,.string t] w (RetX (x * y) w):=by
 have hsz:=fit_size hs hx
 have htz:=fit_size ht hy
 by_cases hb:s.size+t.size≤18
 ·refine (Imul_small x y s t w hG hs ht hb).mono fun e w' h=>h.x (fit18 ?_)
  have h1:=lt18 hs (by omega)
  have h2:=lt18 ht (by omega)
  rw [Int.natAbs_mul]
  calc x.natAbs * y.natAbs < 10 ^ 18 * 10 ^ 18:=Nat.mul_lt_mul'' h1 h2
   _≤10 ^ 40:=by decide
 ·have HS:=Lib.hid hs
  have HT:=Lib.hid ht
  have HG:=Lib.hid hG
  have HX:=Lib.hid hx
  have HY:=Lib.hid hy
  have hlz:¬ ((s.size:Int)+(t.size:Int))≤18:=by omega
  have hlw:IntKind.i64.wrap ((s.size:Int)+(t.size:Int))=(s.size:Int)+(t.size:Int):=IntWalk.i64_in _ (by omega)
  clear hs ht hG hx hy
  go_enter Tryz.func104,Tryz.ntmps104
  go_wp2_with fail
  refine (Iboth_ok x y s t _ HS.out HX.out HT.out HY.out).mono ?_
  rintro e w1 ⟨rfl,hB1⟩
  have hb2:Below w.heap.size w w1:=qbl
  clear hB1
  go_wp2_with fail
  refine (iread_ok x s _ HS.out (by omega)).mono ?_
  rintro e w3 ⟨v1,rfl,hv1,hB3⟩
  have hb3:Below w.heap.size w w3:=below_trans' hb2 hB3
  have HV1:=Lib.hid hv1
  obtain ⟨m1,a1,l1,c1,n1,rfl,i1,d1,z1,q1⟩:=hv1.parts
  clear hv1 hB3
  go_wp2_with fail
  refine (iread_ok y t _ HT.out (by omega)).mono ?_
  rintro e w4 ⟨v2,rfl,hv2,hB4⟩
  have hb4:Below w.heap.size w w4:=below_trans' hb3 hB4
  have HV1':=Lib.hid (HV1.out.below hB4)
  have HV2:=Lib.hid hv2
  obtain ⟨m2,a2,l2,c2,n2,rfl,i2,d2,z2,q2⟩:=hv2.parts
  obtain ⟨i1,d1,z1,q1⟩:IsInts w4 (.slice a1 l1.length c1) l1∧Num l1 n1∧x=sgnV m1 n1∧l1.length≤(s.size+8) / 9:=⟨i1.below hB4,d1,z1,q1⟩
  clear hv2 hB4
  go_wp2_with fail
  have hb5:Below w.heap.size w ((w4.alloc (.cells #[.bool m1,.slice a1 l1.length c1] 231)).alloc (.cells #[.bool m2,.slice a2 l2.length c2] 231)):=qbl
  have x0:BoxN ((w4.alloc (.cells #[.bool m1,.slice a1 l1.length c1] 231)).alloc (.cells #[.bool m2,.slice a2 l2.length c2] 231)) w4.heap.size (.bool m1) (.slice a1 l1.length c1):=(BoxN.new rfl).below (bw4 (bw0 _ _) _)
  have x1:BoxN ((w4.alloc (.cells #[.bool m1,.slice a1 l1.length c1] 231)).alloc (.cells #[.bool m2,.slice a2 l2.length c2] 231)) (w4.heap.size+1) (.bool m2) (.slice a2 l2.length c2):=BoxN.new (by simp)
  have hBy:Below w4.heap.size w4 ((w4.alloc (.cells #[.bool m1,.slice a1 l1.length c1] 231)).alloc (.cells #[.bool m2,.slice a2 l2.length c2] 231)):=bw4 (bw4 (bw0 _ _) _) _
  generalize ((w4.alloc (.cells #[.bool m1,.slice a1 l1.length c1] 231)).alloc (.cells #[.bool m2,.slice a2 l2.length c2] 231))=W0 at *
  have HTM:=Lib.hid (fun (W:World) (hB:Below W0.heap.size W0 W)=>timesL_ok _ _ W ((i1.below hBy).below hB) ((i2.below hBy).below hB) d1 d2 (by omega) (by omega))
  have HSG:=Lib.hid (show x * y=sgnV (m1 != m2) (n1 * n2) by
   rw [z1,z2]
   cases m1<;>cases m2<;>simp [sgnV,Int.neg_mul,Int.mul_neg])
  have HRS:=Lib.hid (fun (W:World) (v:Value) (hB:Below W0.heap.size W0 W) (hv:IsBig W v (x * y) 200)=>result_ok v W (HG.out.below (below_trans' hb5 hB)) hv (by omega))
  have hR:Below W0.heap.size W0 W0.drew:=(bw0 _ _).drew
  clear i1 i2 d1 d2 z1 z2 hBy
  refine region_S (F:=[]) (R:=(fun w'=>Below W0.heap.size W0 w')) 16 #[false,false,false,false,false,false,false,false,false,false,false,false,false,false,false,false] (by kernel_rfl) (by kernel_rfl) (by kernel_rfl) (fun _ _ _ _ _ h=>h) (fun Q' hQ' hN=>?_)
  generalize W0.drew=wd at *
  refine tS 40 0 (hy:=by intro wq hRq;have e0:=(x0.below hRq).c0;have e1:=(x0.below hRq).c1;have e2:=(x1.below hRq).c0;have e3:=(x1.below hRq).c1;go_simp;(try with_reducible rfl)) ?_
  refine tS 41 1 (hy:=by intro wq hRq;have e0:=(x0.below hRq).c0;have e1:=(x0.below hRq).c1;have e2:=(x1.below hRq).c0;have e3:=(x1.below hRq).c1;go_simp;(try with_reducible rfl)) ?_
  refine tS 42 2 (hy:=by intro wq hRq;have e0:=(x0.below hRq).c0;have e1:=(x0.below hRq).c1;have e2:=(x1.below hRq).c0;have e3:=(x1.below hRq).c1;go_simp;(try with_reducible rfl)) ?_
  refine tS 43 3 (hy:=by intro wq hRq;have e0:=(x0.below hRq).c0;have e1:=(x0.below hRq).c1;have e2:=(x1.below hRq).c0;have e3:=(x1.below hRq).c1;go_simp;(try with_reducible rfl)) ?_
  refine tS 44 4 (hy:=by intro wq hRq;have e0:=(x0.below hRq).c0;have e1:=(x0.below hRq).c1;have e2:=(x1.below hRq).c0;have e3:=(x1.below hRq).c1;go_simp;(try with_reducible rfl)) ?_
  refine tS 45 5 (hy:=by intro wq hRq;have e0:=(x0.below hRq).c0;have e1:=(x0.below hRq).c1;have e2:=(x1.below hRq).c0;have e3:=(x1.below hRq).c1;go_simp;(try with_reducible rfl)) ?_
  refine tS 46 6 (hy:=by intro wq hRq;have e0:=(x0.below hRq).c0;have e1:=(x0.below hRq).c1;have e2:=(x1.below hRq).c0;have e3:=(x1.below hRq).c1;go_simp;(try with_reducible rfl)) ?_
  refine tS 47 7 (hy:=by intro wq hRq;have e0:=(x0.below hRq).c0;have e1:=(x0.below hRq).c1;have e2:=(x1.below hRq).c0;have e3:=(x1.below hRq).c1;go_simp;(try with_reducible rfl)) ?_
  refine tS 48 8 (hy:=by intro wq hRq;have e0:=(x0.below hRq).c0;have e1:=(x0.below hRq).c1;have e2:=(x1.below hRq).c0;have e3:=(x1.below hRq).c1;go_simp;(try with_reducible rfl)) ?_
  refine wpAnyS_ready (rs:=[9]) (by kernel_rfl) (by simp) ?_
  refine stepR (i:=9) rfl (by kernel_rfl) (fun K hK=>?_) (AllReadyS.nil)
  have hq:=HTM.out _ hR
  go_simp
  refine hq.mono ?_
  rintro e wn ⟨mt,lt,rfl,hbt,hlt,hmt,hnt,_,hBt⟩
  have HVT:Hid (IsBig wn (.agg #[.bool (m1 != m2),.slice (some ⟨wd.heap.size,0,none⟩) mt (l1.length+l2.length+1)]) (x * y) 200):=Lib.hid ⟨m1 != m2,_,lt.take mt,n1 * n2,rfl,hbt.isTake hmt hlt,hnt,HSG.out,by rw [List.length_take];omega⟩
  replace hR:Below W0.heap.size W0 wn:=below_trans' hR hBt
  clear hbt hlt hmt hnt hBt hq
  refine hK.out _ _ hR ?_
  clear hK K
  (try simp only [Act.put,bw7,bw8,bw9])
  refine tS 50 10 (hy:=by intro wq hRq;have e0:=(x0.below hRq).c0;have e1:=(x0.below hRq).c1;have e2:=(x1.below hRq).c0;have e3:=(x1.below hRq).c1;go_simp;(try with_reducible rfl)) ?_
  refine wpAnyS_ready (rs:=[11]) (by kernel_rfl) (by simp) ?_
  refine stepR (i:=11) rfl (by kernel_rfl) (fun K hK=>?_) (AllReadyS.nil)
  have hq:=HRS.out _ _ hR HVT.out
  go_simp
  refine hq.mono ?_
  intro e wm hr
  obtain ⟨r,c,rfl,hr,hBm⟩:=retX_val hr
  have HR:=Lib.hid (hr.trans (below_trans' hb5 hR))
  replace hR:Below W0.heap.size W0 wm:=below_trans' hR hBm
  clear hr hBm hq
  refine hK.out _ _ hR ?_
  clear hK K
  (try simp only [Act.put,bw7,bw8,bw9])
  refine tS 52 12 (hy:=by intro wq hRq;have e0:=(x0.below hRq).c0;have e1:=(x0.below hRq).c1;have e2:=(x1.below hRq).c0;have e3:=(x1.below hRq).c1;go_simp;(try with_reducible rfl)) ?_
  refine tS 53 13 (hy:=by intro wq hRq;have e0:=(x0.below hRq).c0;have e1:=(x0.below hRq).c1;have e2:=(x1.below hRq).c0;have e3:=(x1.below hRq).c1;go_simp;(try with_reducible rfl)) ?_
  refine tS 4 14 (hy:=by intro wq hRq;have e0:=(x0.below hRq).c0;have e1:=(x0.below hRq).c1;have e2:=(x1.below hRq).c0;have e3:=(x1.below hRq).c1;go_simp;(try with_reducible rfl)) ?_
  refine tS 5 15 (hy:=by intro wq hRq;have e0:=(x0.below hRq).c0;have e1:=(x0.below hRq).c1;have e2:=(x1.below hRq).c0;have e3:=(x1.below hRq).c1;go_simp;(try with_reducible rfl)) ?_
  refine wpAnyS_done (by kernel_rfl) ?_ _
  refine hN.out _ _ ?_
  go_wp2_with fail
  go_ret2
  exact HR.out
end Go.Proofs.YtbbclfbpllbbbaaGreatDoor
namespace Go.Proofs.YtbbclfbpllbbbaaGreatDoor
open Go.RowKit Go.Shelf
theorem divideL_ok {a b:List Int} {x y:Int} (va vb:Value) (w:World) (hva:IsInts w va a) (hvb:IsInts w vb b) (ha:Num a x) (hb:Num b y) (hal:a.length≤800) (hbl:b.length≤800) (hy:0 < y) :
  Calls Tryz.prog 177 #[va,vb] w (RetDiv (x / y) (x % y) (max a.length 1) w):=by
 by_cases hlt:x < y
 ·exact divide_less va vb w hva hvb ha hb (by omega) (by omega) hlt
 ·have hb0:b.length≠0:=fun h=>by have:=hb.zero.1 h;omega
  by_cases h1:b.length=1
  ·exact divide_one va vb w hva hvb ha hb (by omega) h1 (by omega)
  ·exact divide_long va vb w hva hvb ha hb hal hbl (by omega) (by omega)
theorem gcd_step {p q:Int} (hp:0≤p) (hq:0≤q):Int.gcd q (p % q)=Int.gcd p q:=by
 obtain ⟨P,rfl⟩:∃ P:Nat,p=P:=⟨p.toNat,by omega⟩
 obtain ⟨Q,rfl⟩:∃ Q:Nat,q=Q:=⟨q.toNat,by omega⟩
 have e:((P:Int) % (Q:Int))=((P % Q:Nat):Int):=by simp
 rw [e,Int.gcd_natCast_natCast,Int.gcd_natCast_natCast,Nat.gcd_comm Q,Nat.gcd_comm P]
 exact (Nat.gcd_rec Q P).symm
theorem run_fieldN (x:Value) (a:Option Addr) (n c:Nat) (w:World):(Instr.field 231 (.agg #[x,.slice a n c]) 1).run Tryz.prog w=.ok (.slice a n c) w:=by kernel_rfl
theorem IGcd_ok (x y:Int) (s t:ByteArray) (w:World) (hG:Glo w) (hs:s.data.toList=Lib.itoa x) (hx:Fit x) (ht:t.data.toList=Lib.itoa y) (hy:Fit y) :
  Calls Tryz.prog 118 #[.string s,.string t] w (RetX (Int.gcd x y:Nat) w):=by
 have hsz:=fit_size hs hx
 have htz:=fit_size ht hy
 by_cases hb:s.size≤18∧t.size≤18
 ·refine (Gcd_small x y s t w hG hs hb.1 ht hb.2).mono fun e w' h=>h.x ?_
  by_cases h0:x=0
  ·rw [h0,Int.gcd_zero_left]
   exact fit18 (by have:=lt18 ht hb.2;omega)
  ·have h1:=Nat.gcd_le_left y.natAbs (show 0 < x.natAbs by omega)
   exact fit18 (by have:=lt18 hs hb.1;unfold Int.gcd;omega)
 ·have HS:=Lib.hid hs
  have HT:=Lib.hid ht
  have HX:=Lib.hid hx
  have HY:=Lib.hid hy
  have HG:=Lib.hid hG
  have hfd:=run_fieldN
  clear hs ht hx hy hG
  go_enter Tryz.func118,Tryz.ntmps118
  go_wp2_with fail
  refine (Iboth_ok x y s t _ HS.out HX.out HT.out HY.out).mono ?_
  rintro e w1 ⟨rfl,hB1⟩
  go_wp2_with fail
  refine (small_long s t _ (by omega)).mono ?_
  rintro e w2 ⟨rfl,hB2⟩
  have hb2:Below w.heap.size w w2:=qbl
  clear hB1 hB2
  go_wp2_with fail
  refine (iread_ok x s _ HS.out (by omega)).mono ?_
  rintro e w3 ⟨v1,rfl,hv1,hB3⟩
  have hb3:Below w.heap.size w w3:=below_trans' hb2 hB3
  obtain ⟨m1,a1,l1,c1,n1,rfl,i1,d1,z1,q1⟩:=hv1.parts
  have HI1:=Lib.hid i1
  have Z1:=Lib.hid z1
  clear hv1 hB3 i1 z1
  go_wp2_with fail
  refine (iread_ok y t _ HT.out (by omega)).mono ?_
  rintro e w4 ⟨v2,rfl,hv2,hB4⟩
  have hb4:Below w.heap.size w w4:=below_trans' hb3 hB4
  obtain ⟨m2,a2,l2,c2,n2,rfl,i2,d2,z2,q2⟩:=hv2.parts
  have HI1':=Lib.hid (HI1.out.below hB4)
  have HI2:=Lib.hid i2
  have HD1:=Lib.hid d1
  have HD2:=Lib.hid d2
  have HG0:Hid (Int.gcd n1 n2=Int.gcd x y):=Lib.hid (by rw [Z1.out,z2];cases m1<;>cases m2<;>simp [sgnV])
  have hq1:l1.length≤40:=by omega
  have hq2:l2.length≤40:=by omega
  clear hv2 hB4 i2 d1 d2 z2 HI1
  go_wp2_with fail
  go_loopg [10,11] (n2.toNat) (fun g a b wr=>∃ (la lb:List Int) (pa pb:Option Addr) (ca cb:Nat) (p q:Int),g=q.toNat∧a=.slice pa la.length ca∧b=.slice pb lb.length cb∧Hid (IsInts wr (.slice pa la.length ca) la)∧Hid (IsInts wr (.slice pb lb.length cb) lb)∧Hid (Num la p)∧Hid (Num lb q)∧la.length≤40∧lb.length≤40∧Hid (Int.gcd p q=Int.gcd x y)∧Below w.heap.size w wr)
  case atStart=>exact ⟨l1,l2,a1,a2,c1,c2,n1,n2,rfl,rfl,rfl,HI1',HI2,HD1,HD2,hq1,hq2,HG0,hb4⟩
  case round =>
   clear hq1 hq2 HG0 HI1' HI2 HD1 HD2
   obtain ⟨la,lb,pa,pb,ca,cb,p,q,rfl,rfl,rfl,HIA,HIB,HDA,HDB,hla,hlb,HGG,hBr⟩:=hrel
   by_cases h0:lb.length=0
   ·have hn0:¬ (0:Int) < (lb.length:Int):=by omega
    have hq0:q=0:=HDB.out.zero.1 h0
    have hp0:=HDA.out.high.1
    have HZ:Hid (IsBig wr (.agg #[.bool false,.slice pa la.length ca]) (Int.gcd x y:Nat) 40):=Lib.hid ⟨false,_,la,p,rfl,HIA.out,HDA.out,by rw [← HGG.out,hq0,Int.gcd_zero_right];show ((p.natAbs:Nat):Int)=p;omega,hla⟩
    clear hq0
    go_wp2_with fail
    refine (result_ok _ _ (HG.out.below hBr) HZ.out (by omega)).mono ?_
    intro e w6 hr
    obtain ⟨r,c,rfl,hr,hB6⟩:=retX_val hr
    have HR:=Lib.hid (hr.trans hBr)
    clear hr hB6
    go_wp2_with fail
    go_ret2
    exact HR.out
   ·have hn0:(0:Int) < (lb.length:Int):=by omega
    have hq0:0 < q:=by
     have h1:=HDB.out.low h0
     have h2:=pw_pos (lb.length - 1)
     omega
    have HDV:=Lib.hid (divideL_ok _ _ wr HIA.out HIB.out HDA.out HDB.out (by omega) (by omega) hq0)
    go_wp2_with fail
    refine HDV.out.mono ?_
    rintro e wd ⟨lq,vq,lr,vr,rfl,iq,ir,nq,nr,kq,kr,hBd⟩
    obtain ⟨qa,qc,rfl⟩:=iq.slice
    obtain ⟨ra,rc,rfl⟩:=ir.slice
    have HIR:=Lib.hid ir
    have HNR:=Lib.hid nr
    have HIB':=Lib.hid (HIB.out.below hBd)
    have hBw:=hBr.trans (hBd.mono hBr.size)
    have hlr:lr.length≤40:=by omega
    have hr1:p % q < q:=Int.emod_lt_of_pos _ hq0
    have hr0:0≤p % q:=Int.emod_nonneg _ (by omega)
    have HG2:Hid (Int.gcd q (p % q)=Int.gcd x y):=Lib.hid (by rw [← HGG.out];exact gcd_step HDA.out.high.1 (by omega))
    clear iq ir nq nr kq kr hBd
    go_wp2_with fail
    go_roundg ((p % q).toNat)
    case rel=>exact ⟨lb,lr,pb,ra,cb,rc,q,p % q,rfl,rfl,rfl,HIB',HIR,HDB,HNR,hlb,hlr,HG2,hBw⟩
    case measure=>omega
end Go.Proofs.YtbbclfbpllbbbaaGreatDoor
