/- Joined texts: WBuild, DecPlain, WWrite, WDigs, WReadL, WRes, RatPlain. -/
import Derived.Test.YteepphiomcedfaaGreatDoorJ01
import Derived.Shelf.Strings.BuilderK
import Derived.Test.YteepphiomcedfaaGreatDoorJ16
import Derived.Test.YteepphiomcedfaaGreatDoorJ15
import Derived.Test.YteepphiomcedfaaGreatDoorJ04
set_option maxRecDepth 100000
set_option linter.unusedVariables false
set_option linter.unusedSimpArgs false
set_option maxHeartbeats 6400000
namespace Go.Proofs.YteepphiomcedfaaGreatDoor
open Go.RowKit Go.Shelf
theorem Tryz.sizeBuilder:(Tryz.prog.info? 246).map (·.size)=some 2:=by kernel_rfl
theorem Tryz.liesBuilder:liesAt Tryz.prog Tryz.prog.depth 246 (2 / Tryz.prog.cellsOf 246) 0 246 1=true:=by kernel_rfl
theorem Tryz.infoByte:(Tryz.prog.info? 5).map (fun i=>(i.zero,i.size,i.bytes))=some (some (.int .u8 0),1,1):=by kernel_rfl
theorem copyCheck_used (b:Nat) (w:World) (h0:w.cell? ⟨b,0,none⟩=some (.pointer (some ⟨b,0,none⟩))) :
  Calls Tryz.prog 269 #[.pointer (some ⟨b,0,none⟩)] w fun e w'=>e=.returned (.tuple #[])∧w'=w:=by
 obtain ⟨j,hj,_⟩:=Option.map_eq_some_iff.1 Tryz.sizeBuilder
 go_enter Tryz.func269,Tryz.ntmps269
 go_wp2
 rw [Lib.run_neq_ptr_same w _ Tryz.underlying244 hj]
 go_wp2
 go_end0
 exact ⟨rfl,rfl⟩
theorem copyCheck_fresh (b:Nat) (w:World) (h0:w.cell? ⟨b,0,none⟩=some (.pointer none)) (hsh:w.shape? b=some (246,2)) (hfz:w.frozen? ⟨b,0,none⟩=false) :
  Calls Tryz.prog 269 #[.pointer (some ⟨b,0,none⟩)] w fun e w'=>e=.returned (.tuple #[])∧w'=w.setCell ⟨b,0,none⟩ (.pointer (some ⟨b,0,none⟩)):=by
 obtain ⟨j,hj,hjs⟩:=Option.map_eq_some_iff.1 Tryz.sizeBuilder
 go_enter Tryz.func269,Tryz.ntmps269
 go_wp2
 rw [Lib.run_to_unsafe w ⟨b,0,none⟩ Tryz.underlying244 Tryz.underlying292 hj (by rw [hjs];decide) hsh (Nat.zero_lt_succ 1)]
 simp only [Result.andThen]
 rw [Oper.upon_value]
 go_wp2
 rw [run_callFunc_extern Tryz.func286 (by kernel_rfl) (by kernel_rfl) (by kernel_rfl) (e:=Extern.AbiNoEscape.same) (by kernel_rfl)]
 rw [Lib.run_noEscape]
 simp only [Result.andThen]
 rw [Oper.upon_value]
 go_wp2
 rw [Lib.run_from_unsafe w ⟨b,0,none⟩ Tryz.underlying292 Tryz.underlying244 hj hsh Tryz.liesBuilder]
 simp only [Result.andThen]
 rw [Oper.upon_value]
 go_wp2
 go_end0
 exact ⟨rfl,rfl⟩
theorem copyCheck_k (B b:Nat) (bs:List Value) (w:World) (h:Lib.IsBuilderF 246 5 B b bs w) :
  Calls Tryz.prog 269 #[.pointer (some ⟨b,0,none⟩)] w fun e w'=>e=.returned (.tuple #[])∧(Lib.BuilderAtF 246 5 B b (.pointer (some ⟨b,0,none⟩)) bs w'∧Below B w w'∧Lib.OthersKept 5 (some b) w w'):=by
 rcases h with h|h
 ·refine (copyCheck_fresh b w h.cell0 h.shape h.frozen0).mono ?_
  rintro e w' ⟨rfl,rfl⟩
  exact ⟨rfl,h.used _,(bw0 B w).setCell (p:=⟨b,0,none⟩) h.1 _,(Lib.OthersKept.refl _ _ w).setCell ⟨b,0,none⟩ rfl _⟩
 ·refine (copyCheck_used b w h.cell0).mono ?_
  rintro e w' ⟨rfl,rfl⟩
  exact ⟨rfl,h,bw0 B _,Lib.OthersKept.refl _ _ _⟩
theorem writeByte_k (B b:Nat) (bs:List Value) (c:Int) (w:World) (h:Lib.IsBuilderF 246 5 B b bs w) (hlen:bs.length+1≤140737488355328) (hBw:B≤w.heap.size) :
  Calls Tryz.prog 240 #[.pointer (some ⟨b,0,none⟩),.int .u8 c] w fun e w'=>e=.returned .nilIface∧(Lib.BuilderAtF 246 5 B b (.pointer (some ⟨b,0,none⟩)) (bs++[.int .u8 c]) w'∧Below B w w'∧Lib.OthersKept 5 (some b) w w'):=by
 obtain ⟨i0,hi,hz0,hz1,hz2⟩:=info_parts Tryz.infoByte
 go_enter Tryz.func240,Tryz.ntmps240
 go_wp2_with fail
 refine (copyCheck_k B b bs _ h).mono ?_
 rintro e w1 ⟨rfl,h1,hb1,hk1⟩
 obtain ⟨hB,v,hbk,hown,hne⟩:=h1
 have c0:w1.cell? ⟨b,0,none⟩=some (.pointer (some ⟨b,0,none⟩)):=by rw [Lib.cell_of_heap hbk];rfl
 have c1:w1.cell? ⟨b,1,none⟩=some v:=by rw [Lib.cell_of_heap hbk];rfl
 go_wp2_with (at_builtin;refine wpList_append_ownF _ rfl _ _ 236 rfl B 5 i0 (.int .u8 0) 1 1 Tryz.underlying236 hi hz0 hz1 hz2 rfl (by decide) _ _ _ rfl (hown.alloc _) ⟨w1.heap.size,0,none⟩ 1 1 [.int .u8 c] rfl rfl ?c1 ?c2 ?c3 ?c4 ?c5 ?_)
 case c1 =>
  intro j u hj
  match j,hj with
  | 0,hj=>simp at hj;subst hj;simp [Addr.add]
 case c2=>intro u hu;simp at hu;subst hu;rfl
 case c3=>unfold maxLen;omega
 case c4=>omega
 case c5=>have:=hb1.size;simp;omega
 intro v' w2 hown' hgrow _
 have hlt:b < w1.heap.size:=by
  rcases Nat.lt_or_ge b w1.heap.size with h'|h'
  ·exact h'
  ·simp [Array.getElem?_eq_none h'] at hbk
 have hb2:w2.heap[b]?=some (.cells #[.pointer (some ⟨b,0,none⟩),v] 246 (0,0)):=by
  rw [hgrow.block b (by simp;omega) (fun e=>hne e.symm),Lib.alloc_old w1 _ b hlt]
  exact hbk
 have d0:w2.cell? ⟨b,0,none⟩=some (.pointer (some ⟨b,0,none⟩)):=by rw [Lib.cell_of_heap hb2];rfl
 have d1:w2.cell? ⟨b,1,none⟩=some v:=by rw [Lib.cell_of_heap hb2];rfl
 have f1:w2.frozen? ⟨b,1,none⟩=false:=Lib.frozen_of_heap hb2 1
 obtain ⟨g,cap,rfl⟩:∃ g cap,v'=.slice (some ⟨g,0,none⟩) (bs.length+1) cap:=by
  rcases hown'.2 with ⟨_,h0⟩|⟨g,cap,cur,fz,hv,_⟩
  ·omega
  ·exact ⟨g,cap,hv⟩
 go_wp2
 go_ret
 refine ⟨rfl,?_,?_,((hk1.alloc _).grown hgrow (Lib.ownsRowF_kind (hown.alloc _))).setCell ⟨b,1,none⟩ rfl _⟩
 ·exact Lib.BuilderAtF.put (T:=246) (e:=5) hB hb2 (bs':=bs++[.int .u8 c]) (by simpa using hown') (by decide)
 ·exact ((hb1.alloc (by have:=hb1.size;omega) _).grown hgrow (by have:=hb1.size;simp;omega) (fun k hk=>(hown.lt k hk).1)).setCell (p:=⟨b,1,none⟩) hB _
theorem writeString_k (B b:Nat) (bs:List Value) (s:ByteArray) (w:World) (h:Lib.IsBuilderF 246 5 B b bs w) (hlen:bs.length+s.size≤140737488355328) (hBw:B≤w.heap.size) :
  Calls Tryz.prog 241 #[.pointer (some ⟨b,0,none⟩),.string s] w fun e w'=>e=.returned (.tuple #[.int .i64 s.size,.nilIface])∧(Lib.BuilderAtF 246 5 B b (.pointer (some ⟨b,0,none⟩)) (bs++Lib.strCells s) w'∧Below B w w'∧Lib.OthersKept 5 (some b) w w'):=by
 obtain ⟨i0,hi,hz0,hz1,hz2⟩:=info_parts Tryz.infoByte
 go_enter Tryz.func241,Tryz.ntmps241
 go_wp2_with fail
 refine (copyCheck_k B b bs _ h).mono ?_
 rintro e w1 ⟨rfl,h1,hb1,hk1⟩
 obtain ⟨hB,v,hbk,hown,hne⟩:=h1
 have c0:w1.cell? ⟨b,0,none⟩=some (.pointer (some ⟨b,0,none⟩)):=by rw [Lib.cell_of_heap hbk];rfl
 have c1:w1.cell? ⟨b,1,none⟩=some v:=by rw [Lib.cell_of_heap hbk];rfl
 go_wp2_with (at_builtin;refine Lib.wpList_append_own_stringF _ rfl _ _ 236 9 rfl B 5 i0 Tryz.underlying236 Tryz.underlying9 hi hz0 hz1 hz2 _ _ _ rfl hown s rfl ?c3 ?c4 ?c5 ?_)
 case c3=>unfold maxLen;omega
 case c4=>omega
 case c5=>have:=hb1.size;omega
 intro v' w2 hown' hgrow _
 have hlt:b < w1.heap.size:=by
  rcases Nat.lt_or_ge b w1.heap.size with h'|h'
  ·exact h'
  ·simp [Array.getElem?_eq_none h'] at hbk
 have hb2:w2.heap[b]?=some (.cells #[.pointer (some ⟨b,0,none⟩),v] 246 (0,0)):=by
  rw [hgrow.block b hlt (fun e=>hne e.symm)]
  exact hbk
 have d0:w2.cell? ⟨b,0,none⟩=some (.pointer (some ⟨b,0,none⟩)):=by rw [Lib.cell_of_heap hb2];rfl
 have d1:w2.cell? ⟨b,1,none⟩=some v:=by rw [Lib.cell_of_heap hb2];rfl
 have f1:w2.frozen? ⟨b,1,none⟩=false:=Lib.frozen_of_heap hb2 1
 obtain ⟨ao,n',cap,rfl⟩:∃ ao n' cap,v'=.slice ao n' cap:=by
  rcases hown'.2 with ⟨hv,_⟩|⟨g,cap,cur,fz,hv,_⟩
  ·exact ⟨_,_,_,hv⟩
  ·exact ⟨_,_,_,hv⟩
 go_wp2
 go_ret2
 refine ⟨rfl,?_,?_,(hk1.grown hgrow (Lib.ownsRowF_kind hown)).setCell ⟨b,1,none⟩ rfl _⟩
 ·exact Lib.BuilderAtF.put (T:=246) (e:=5) hB hb2 (bs':=bs++Lib.strCells s) (by simpa [Lib.strCells_length] using hown') (by decide)
 ·exact (hb1.grown hgrow (by have:=hb1.size;omega) (fun k hk=>(hown.lt k hk).1)).setCell (p:=⟨b,1,none⟩) hB _
end Go.Proofs.YteepphiomcedfaaGreatDoor
namespace Go.Proofs.YteepphiomcedfaaGreatDoor
def pad:Nat→Nat→List UInt8
 | 0,_=>[]
 | m+1,x=>pad m (x / 10)++[UInt8.ofNat (48+x % 10)]
theorem pad_zero (m:Nat):pad m 0=List.replicate m 48:=by
 induction m with
 | zero=>rfl
 | succ m ih=>rw [pad,ih,List.replicate_succ'];rfl
theorem pad_eq {m x:Nat} (h:x < 10 ^ (m+1)):pad (m+1) x=List.replicate (m+1 - (Lib.decDigits x).length) 48++Lib.decDigits x:=by
 induction m generalizing x with
 | zero =>
  have hx:x < 10:=by simpa using h
  rw [pad,pad,Lib.decDigits,dif_pos hx,Nat.mod_eq_of_lt hx]
  rfl
 | succ m ih =>
  by_cases hx:x < 10
  ·rw [pad,show x / 10=0 by omega,pad_zero,Lib.decDigits,dif_pos hx,Nat.mod_eq_of_lt hx]
   simp
  ·have e:Lib.decDigits x=Lib.decDigits (x / 10)++[UInt8.ofNat (48+x % 10)]:=by rw [Lib.decDigits,dif_neg hx]
   rw [pad,ih (by rw [Nat.pow_succ] at h;omega),e]
   rw [List.length_append]
   simp only [List.length_cons,List.length_nil,List.append_assoc]
   rw [show m+1+1 - ((Lib.decDigits (x / 10)).length+(0+1))=m+1 - (Lib.decDigits (x / 10)).length by omega]
theorem decDigits_cat {N x m:Nat} (hN:0 < N) (hx:x < 10 ^ m):Lib.decDigits (N * 10 ^ m+x)=Lib.decDigits N++pad m x:=by
 induction m generalizing x with
 | zero=>simp at hx;subst hx;simp [pad]
 | succ m ih =>
  have hp:0 < 10 ^ m:=Nat.pow_pos (by omega)
  have e:N * 10 ^ (m+1)=10 * (N * 10 ^ m):=by rw [Nat.pow_succ];grind
  have h1:10≤N * 10 ^ (m+1):=by
   have:1 * 1≤N * 10 ^ m:=Nat.mul_le_mul hN hp
   omega
  rw [Lib.decDigits,dif_neg (by omega),show (N * 10 ^ (m+1)+x) / 10=N * 10 ^ m+x / 10 by rw [e];omega,show (N * 10 ^ (m+1)+x) % 10=x % 10 by rw [e];omega,ih (by rw [Nat.pow_succ] at hx;omega),pad,List.append_assoc]
theorem foldl_dval (l:List UInt8):∀ a:Nat,l.foldl (fun a c=>10 * a+(c.toNat - 48)) a=a * 10 ^ l.length+dval l:=by
 induction l with
 | nil=>intro a;simp [dval]
 | cons c t ih =>
  intro a
  have e:dval (c::t)=(10 * 0+(c.toNat - 48)) * 10 ^ t.length+dval t:=by unfold dval;rw [List.foldl_cons,ih];rfl
  rw [List.foldl_cons,ih,e]
  simp only [List.length_cons,Nat.pow_succ]
  grind
theorem dval_head (c:UInt8) (t:List UInt8):dval (c::t)=(c.toNat - 48) * 10 ^ t.length+dval t:=by
 rw [dval,List.foldl_cons,foldl_dval]
 simp
theorem pw_ten (j:Nat):pw j=((10 ^ (9 * j):Nat):Int):=by
 induction j with
 | zero=>rfl
 | succ j ih =>
  have e:(10:Nat) ^ (9 * (j+1))=1000000000 * 10 ^ (9 * j):=by
   rw [show 9 * (j+1)=9 * j+9 by omega,Nat.pow_add,Nat.mul_comm]
  rw [pw,ih,e,Int.natCast_mul]
  rfl
def dgAt (s:List UInt8) (i:Nat):Int:=((s.getD (s.length - 1 - i) 48).toNat:Int) - 48
structure ReadAt (s:List UInt8) (k:Nat) (l:List Int):Prop where
 sum:val l=(dval (s.drop (s.length - k)):Int)
 lims:∀ i,0≤lim l i∧lim l i < ((10 ^ (min 9 (k - 9 * i)):Nat):Int)
theorem ReadAt.start (s:List UInt8) (n:Nat):ReadAt s 0 (zerosL n):=by
 refine ⟨?_,fun i=>?_⟩
 ·rw [Nat.sub_zero,List.drop_length]
  have e:val (zerosL n)=val []:=val_of_lim fun i=>by rw [lim_zerosL,lim_nil]
  rw [e];rfl
 ·rw [lim_zerosL]
  simp
theorem ReadAt.step {s:List UInt8} {k:Nat} {l:List Int} (h:ReadAt s k l) (hd:∀ c ∈ s,isDig c=true) (hk:k < s.length) (hl:l.length=(s.length+8) / 9) :
  (0≤dgAt s k∧dgAt s k≤9)∧(0≤lim l (k / 9)∧lim l (k / 9) < ((10 ^ (k % 9):Nat):Int))∧ReadAt s (k+1) (l.set (k / 9) (lim l (k / 9)+dgAt s k * ((10 ^ (k % 9):Nat):Int))):=by
 have hi:s.length - 1 - k < s.length:=by omega
 have hc:=hd _ (List.getElem_mem hi)
 rw [isDig_iff] at hc
 have hg:dgAt s k=(s[s.length - 1 - k].toNat:Int) - 48:=by unfold dgAt;rw [List.getD_eq_getElem?_getD,List.getElem?_eq_getElem hi];rfl
 have hdd:s.drop (s.length - (k+1))=s[s.length - 1 - k]::s.drop (s.length - k):=by
  rw [show s.length - (k+1)=s.length - 1 - k by omega,List.drop_eq_getElem_cons hi,show s.length - 1 - k+1=s.length - k by omega]
 have hL:=h.lims (k / 9)
 rw [show min 9 (k - 9 * (k / 9))=k % 9 by omega] at hL
 have hg0:0≤dgAt s k:=by rw [hg];omega
 have hg1:dgAt s k≤9:=by rw [hg];omega
 have hjl:k / 9 < l.length:=by rw [hl];omega
 refine ⟨⟨hg0,hg1⟩,hL,?_,fun i=>?_⟩
 ·rw [val_set hjl,h.sum,hdd,dval_head,List.length_drop,show s.length - (s.length - k)=k by omega,pw_ten]
  have e:(10:Nat) ^ k=10 ^ (k % 9) * 10 ^ (9 * (k / 9)):=by rw [← Nat.pow_add];congr 1;omega
  rw [e,hg]
  have e2:((s[s.length - 1 - k].toNat - 48:Nat):Int)=(s[s.length - 1 - k].toNat:Int) - 48:=by omega
  rw [Int.natCast_add,Int.natCast_mul,e2,Int.natCast_mul]
  generalize ((10 ^ (k % 9):Nat):Int)=P
  generalize ((10 ^ (9 * (k / 9)):Nat):Int)=Q
  grind
 ·rw [lim_set hjl]
  split
  ·rename_i hik
   subst hik
   have e:min 9 (k+1 - 9 * (k / 9))=k % 9+1:=by omega
   rw [e,Nat.pow_succ]
   have hp:(0:Int) < ((10 ^ (k % 9):Nat):Int):=by have:0 < 10 ^ (k % 9):=Nat.pow_pos (by omega);omega
   have m0:0≤dgAt s k * ((10 ^ (k % 9):Nat):Int):=Int.mul_nonneg hg0 (by omega)
   have m1:dgAt s k * ((10 ^ (k % 9):Nat):Int)≤9 * ((10 ^ (k % 9):Nat):Int):=Int.mul_le_mul_of_nonneg_right hg1 (by omega)
   refine ⟨by omega,?_⟩
   rw [Int.natCast_mul]
   generalize ((10 ^ (k % 9):Nat):Int)=P at *
   omega
  ·have h1:=h.lims i
   refine ⟨h1.1,Int.lt_of_lt_of_le h1.2 ?_⟩
   have:(10:Nat) ^ (min 9 (k - 9 * i))≤10 ^ (min 9 (k+1 - 9 * i)):=Nat.pow_le_pow_right (by omega) (by omega)
   omega
theorem ReadAt.digs {s:List UInt8} {k:Nat} {l:List Int} (h:ReadAt s k l):Digs l:=fun i=>by
 have h1:=h.lims i
 have:(10:Nat) ^ (min 9 (k - 9 * i))≤10 ^ 9:=Nat.pow_le_pow_right (by omega) (by omega)
 exact ⟨h1.1,by have:=h1.2;omega⟩
theorem ReadAt.fin {s:List UInt8} {l:List Int} (h:ReadAt s s.length l):val l=(dval s:Int):=by rw [h.sum,Nat.sub_self,List.drop_zero]
def topTxt (l:List Int) (k:Nat):List UInt8:=if k=0 then [] else Lib.decDigits (vt (fun i=>lim l (l.length - k+i)) k).toNat
theorem topTxt_step {l:List Int} {k:Nat} (hd:Digs l) (ht:Trimmed l) (hk:k < l.length) :
  topTxt l (k+1)=topTxt l k++(if k=0 then Lib.decDigits (lim l (l.length - 1 - k)).toNat else List.replicate (9 - (Lib.decDigits (lim l (l.length - 1 - k)).toNat).length) 48++Lib.decDigits (lim l (l.length - 1 - k)).toNat):=by
 have hs:vt (fun i=>lim l (l.length - (k+1)+i)) (k+1)=lim l (l.length - 1 - k)+1000000000 * vt (fun i=>lim l (l.length - k+i)) k:=by
  rw [Nat.add_comm k 1,vt_split]
  have e1:vt (fun i=>lim l (l.length - (1+k)+i)) 1=lim l (l.length - 1 - k):=by simp [vt,pw,show l.length - (1+k)=l.length - 1 - k by omega]
  have e2:pw 1=1000000000:=by simp [pw]
  rw [e1,e2]
  congr 2
  exact vt_congr fun i _=>by show lim l (l.length - (1+k)+(1+i))=_;congr 1;omega
 have hx:=hd (l.length - 1 - k)
 unfold topTxt
 rw [if_neg (by omega),hs]
 by_cases h0:k=0
 ·subst h0
  rw [if_pos rfl,if_pos rfl]
  simp [vt]
 ·rw [if_neg h0,if_neg h0]
  have hV:0 < vt (fun i=>lim l (l.length - k+i)) k:=by
   obtain ⟨m,rfl⟩:∃ m,k=m+1:=⟨k - 1,by omega⟩
   rw [vt]
   have hb:=vt_bound (f:=fun i=>lim l (l.length - (m+1)+i)) (k:=m) (fun i _=>hd _)
   have hn:=ht (by omega)
   have hn2:=(hd (l.length - 1)).1
   rw [show l.length - (m+1)+m=l.length - 1 by omega]
   have hp:=pw_pos m
   have:1 * pw m≤lim l (l.length - 1) * pw m:=Int.mul_le_mul_of_nonneg_right (by omega) (by omega)
   omega
  generalize vt (fun i=>lim l (l.length - k+i)) k=V at *
  generalize lim l (l.length - 1 - k)=x at *
  obtain ⟨x0,x1⟩:=hx
  rw [show (x+1000000000 * V).toNat=V.toNat * 10 ^ 9+x.toNat by omega,decDigits_cat (by omega) (by omega),pad_eq (m:=8) (by omega)]
theorem topTxt_all {l:List Int} {n:Int} (h:Num l n):topTxt l l.length=if l.length=0 then [] else Lib.decDigits n.natAbs:=by
 unfold topTxt
 split
 ·rfl
 ·have e:vt (fun i=>lim l (l.length - l.length+i)) l.length=n:=by
   rw [← h.sum]
   exact vt_congr fun i _=>by show lim l (l.length - l.length+i)=_;congr 1;omega
  have:=h.high.1
  rw [e,show n.toNat=n.natAbs by omega]
end Go.Proofs.YteepphiomcedfaaGreatDoor
namespace Go.Proofs.YteepphiomcedfaaGreatDoor
open Go.RowKit Go.Shelf
attribute [local go_sem] Oper.semAt_some
theorem builderF_keep {T e:TypeId} {B b:Nat} {bs:List Value} {W W':World} (h:Lib.IsBuilderF T e B b bs W) (hk:∀ (k:Nat) (c:Array Value) (t:TypeId) (fz:Nat × Nat),W.heap[k]?=some (Obj.cells c t fz)→W'.heap[k]?=some (Obj.cells c t fz)):Lib.IsBuilderF T e B b bs W':=by
 have key:∀ p,Lib.BuilderAtF T e B b p bs W→Lib.BuilderAtF T e B b p bs W':=by
  rintro p ⟨hB,v,hb,hown,hne⟩
  refine ⟨hB,v,hk _ _ _ _ hb,⟨hown.1,?_⟩,hne⟩
  rcases hown.2 with hn|⟨g,cap,cur,fz,e1,e2,e3,rest⟩
  ·exact .inl hn
  ·exact .inr ⟨g,cap,cur,fz,e1,e2,hk _ _ _ _ e3,rest⟩
 exact h.elim (fun h=>.inl (key _ h)) (fun h=>.inr (key _ h))
theorem builderF_below {T e:TypeId} {B b:Nat} {bs:List Value} {W W':World} (h:Lib.IsBuilderF T e B b bs W) (hB:Below W.heap.size W W'):Lib.IsBuilderF T e B b bs W' :=
 builderF_keep h fun k c t fz hc=>(hB.block k (Array.getElem?_eq_some_iff.1 hc).1).trans hc
theorem builderF_own {β:Type} {m:Nat} {T e:TypeId} {B b:Nat} {bs:List Value}:OwnFrom m (fun (_:β) W=>Lib.IsBuilderF T e B b bs W):=fun s X Y row hs hg hr =>
 builderF_keep hs fun k c t fz hc=>cells_own (β:=β) (m:=m) (b:=k) rfl s X Y row hc hg hr
theorem keepsFrom_others {m b:Nat} {e:TypeId} {W W':World} (h:Lib.OthersKept e (some b) W W') (hz:W.heap.size≤W'.heap.size) (hb:b < m):KeepsFrom m W W' :=
 ⟨hz,fun k o hk ho hc=>h k o ho (fun e=>by injection e with e;omega) (fun c fz e=>by subst e;cases hc)⟩
theorem othersKept_of_below {b:Option Nat} {e:TypeId} {W W':World} (h:Below W.heap.size W W'):Lib.OthersKept e b W W':=fun k o hk _ _=>(h.block k (Array.getElem?_eq_some_iff.1 hk).1).trans hk
theorem wr_end {w W W':World} {b1 m:Nat} {x y v:Value} (h:Below (w.heap.size+1) W W') (k:Lib.OthersKept 5 (some (w.heap.size+1)) W W') (b0:BoxN W w.heap.size x y) (bx:Boxed W b1 51 v) (hb1:w.heap.size+1 < b1) (hm:w.heap.size+1 < m) (hB:Below w.heap.size w W) :
  KeepsFrom m W W'∧KpR w.heap.size b1 W W'∧BoxN W' w.heap.size x y∧Boxed W' b1 51 v∧Below w.heap.size w W'∧W.heap.size≤W'.heap.size:=by
 have h0:BoxN W' w.heap.size x y:=k _ _ b0 (by simp) (by intro c fz e;injection e with _ e _;revert e;decide)
 have h1:Boxed W' b1 51 v:=k _ _ bx (fun e=>by injection e with e;omega) (by intro c fz e;injection e with _ e _;revert e;decide)
 exact ⟨keepsFrom_others k h.size hm,⟨h.mono (by omega),h1.trans bx.symm⟩,h0,h1,hB.trans (h.mono (by omega)),h.size⟩
theorem itoa_pos {n:Int} (h:0≤n):Lib.itoa n=Lib.decDigits n.toNat:=by
 rcases itoa_cases n with ⟨h0,_⟩|⟨_,e⟩
 ·omega
 ·rw [e];congr 1;omega
theorem strCells_of {s:ByteArray} {l:List UInt8} (h:s.data.toList=l):Lib.strCells s=Lib.byteCells l:=by rw [← h];rfl
theorem byteCells_append (a b:List UInt8):Lib.byteCells (a++b)=Lib.byteCells a++Lib.byteCells b:=by simp [Lib.byteCells]
theorem repeat_zero (k:Nat):Lib.repeatL [48] k=List.replicate k 48:=by
 induction k with
 | zero=>rfl
 | succ k ih=>rw [List.replicate_succ,← ih];rfl
theorem write_plus {l:List Int} {n:Int} (u:Value) (w:World) (hG:Glo w) (hu:IsInts w u l) (hn:Num l n) (hl:l.length≤900) (h0:l.length≠0) :
  Calls Tryz.prog 186 #[.agg #[.bool false,u]] w (RetS (([]:List UInt8)++Lib.decDigits n.natAbs) w):=by
 obtain ⟨aa,ac,rfl⟩:=hu.slice
 have HU:=Lib.hid hu
 have HN:=Lib.hid hn
 have HG:=Lib.hid hG
 have hl0:((l.length:Int) == 0)=false:=by rw [beq_eq_false_iff_ne];omega
 clear hu hn hG
 refine (callsIn_wide (n:=5)).1 ?_
 refine callsIn_of_wp_marks Tryz.func186 rfl trivial ?_ rfl
 simp only [Tryz.ntmps186,List.size_toArray,List.length_cons,List.length_nil,Nat.reduceAdd,Nat.reduceSub,Array.replicate_succ,Array.replicate_zero,List.push_toArray,List.append_toArray,List.nil_append,List.cons_append]
 gi_wp2
 have hb0:Below w.heap.size w ((w.alloc (.cells #[.bool false,.slice aa l.length ac] 151)).alloc (.cells #[.pointer none,.slice none 0 0] 246)):=qbl
 have x0:BoxN ((w.alloc (.cells #[.bool false,.slice aa l.length ac] 151)).alloc (.cells #[.pointer none,.slice none 0 0] 246)) w.heap.size (.bool false) (.slice aa l.length ac):=(BoxN.new rfl).below (bw4 (bw0 _ _) _)
 have hsz0:((w.alloc (.cells #[.bool false,.slice aa l.length ac] 151)).alloc (.cells #[.pointer none,.slice none 0 0] 246)).heap.size=w.heap.size+2:=by simp
 have hbld:Lib.IsBuilderF 246 5 (w.heap.size+1) (w.heap.size+1) (Lib.byteCells []) ((w.alloc (.cells #[.bool false,.slice aa l.length ac] 151)).alloc (.cells #[.pointer none,.slice none 0 0] 246)):=.inl ⟨Nat.le_refl _,.slice none 0 0,by have:=World.alloc_heap_new (w.alloc (.cells #[.bool false,.slice aa l.length ac] 151)) (.cells #[.pointer none,.slice none 0 0] 246);rw [World.size_alloc] at this;exact this,⟨rfl,.inl ⟨rfl,rfl⟩⟩,by simp [Value.ownBlock]⟩
 generalize ((w.alloc (.cells #[.bool false,.slice aa l.length ac] 151)).alloc (.cells #[.pointer none,.slice none 0 0] 246))=W1 at *
 replace hsz0:w.heap.size+2≤W1.heap.size:=by omega
 have c1:=x0.c1
 gi_wp2
 refine ⟨trivial,?_⟩
 refine (callsIn_wide.2 (backward_any _ _ _ _)).mono ?_
 rintro e w1 ⟨rfl,rfl⟩
 clear c1
 gi_wp2
 have hb2:Below w.heap.size w (W1.alloc (.cells #[.slice aa l.length ac] 51)):=bw4 hb0 _
 have x1:BoxN (W1.alloc (.cells #[.slice aa l.length ac] 51)) w.heap.size (.bool false) (.slice aa l.length ac):=x0.below (bw4 (bw0 _ _) _)
 have x2:Boxed (W1.alloc (.cells #[.slice aa l.length ac] 51)) W1.heap.size 51 (.slice aa l.length ac):=Boxed.new _ _ _
 have x3:=builderF_below hbld (bw4 (bw0 _ _) (.cells #[.slice aa l.length ac] 51))
 have hsz2:(W1.alloc (.cells #[.slice aa l.length ac] 51)).heap.size=W1.heap.size+1:=by simp
 generalize W1.alloc (.cells #[.slice aa l.length ac] 51)=W2 at *
 refine wpIn_rangeFunc_ownH rfl (by omega) (gf:=258) (lb:=#[.pointer (some ⟨W1.heap.size,0,none⟩)]) rfl trivial (enters_of Tryz.func258 (by kernel_rfl) rfl)
  (back_stops l _ (by omega) W1.heap.size w.heap.size _ (by omega) W2 hb2.size (HU.out.below hb2) HU.out.lt x2.cell) KpR.t (KpR.b hb2.size (by omega)) (bw0 _ _) (fun _=>rfl)
  (fun pre W=>((BoxN W w.heap.size (.bool false) (.slice aa l.length ac)∧Boxed W W1.heap.size 51 (.slice aa l.length ac))∧(Below w.heap.size w W∧W1.heap.size+1≤W.heap.size))∧(∃ out:List UInt8,Lib.IsBuilderF 246 5 (w.heap.size+1) (w.heap.size+1) (Lib.byteCells out) W∧out.length≤18 * pre.length+1∧(∀ k,k≤l.length→pre=fst l.length k→out=([]:List UInt8)++topTxt l k)))
  (fun _ _ _=>False)
  (OwnFrom.and (OwnFrom.and (OwnFrom.and (cells_own rfl) (Own.from (boxed_own _ _ _) _)) (OwnFrom.and (ownFrom_below (Nat.le_refl _) (by omega)) (fun s A B row hs hg hr=>Nat.le_trans hs hg.size))) (fun s X Y row hs hg hr=>by obtain ⟨out,h1,h2⟩:=hs;exact ⟨out,builderF_own () X Y row h1 hg hr,h2⟩))
  (fun _ _ _ _ _ hs _ _=>hs)
  ⟨⟨⟨x1,x2⟩,hb2,by omega⟩,([]:List UInt8),x3,by simp,fun k hk e=>by
   have h0:k=0:=by have:=congrArg List.length e;rw [fst_length hk] at this;simpa using this.symm
   subst h0;rfl⟩
  (fun x a' W=>a'={ tmps:=#[.agg #[.bool false,.slice aa l.length ac],.pointer (some ⟨w.heap.size,0,none⟩),.string ⟨#[]⟩,.pointer (some ⟨w.heap.size+1,0,none⟩),.int .i64 ((l.length:Int) - 1 - x.1),.int .i64 (lim l (l.length - 1 - x.1)),undef,.pointer (some ⟨w.heap.size,1,none⟩),.slice aa l.length ac,.int .i64 l.length,.bool false,.pointer (some ⟨w.heap.size,0,none⟩),.bool false,undef,.pointer (some ⟨w.heap.size,1,none⟩),.slice aa l.length ac,.func (.func 258) #[] #[.pointer (some ⟨W1.heap.size,0,none⟩)],.int .i64 ((l.length:Int) - 1 - x.1),.int .i64 (lim l (l.length - 1 - x.1)),undef,undef,undef,undef,undef,undef,undef,undef,undef,undef,undef,undef,undef,undef,undef,undef],defers:=[] })
  (fun x a' _ X Y row hs hg hr=>hs)
  ?assign ?body ?done ?stop
 case assign =>
  rintro l1 pre x W K ⟨⟨⟨b0,b1⟩,hB,hz⟩,hS⟩ hK
  unfold encB
  gi_wp2
  exact hK _ _ (KeepsFrom.refl _ _) ⟨(bw0 _ _).mono hB.size,rfl⟩ ⟨⟨⟨b0,b1⟩,hB,hz⟩,hS⟩ rfl
 case body =>
  rintro l1 pre x a' W hl1 ⟨rr,hr⟩ ⟨⟨⟨b0,b1⟩,hB,hz⟩,out,hbl,hol,hat⟩ rfl hlt
  have hxl:=x.2
  obtain ⟨q1,q2⟩:=HN.out.digs (l.length - 1 - x.1)
  obtain ⟨d,hd⟩:∃ d,lim l (l.length - 1 - x.1)=d:=⟨_,rfl⟩
  have hdl:(Lib.decDigits d.toNat).length≤9:=by rw [Lib.decDigits_length];exact nDigits_le_of_lt (by rw [hd] at q1 q2;omega) (by omega)
  have HAT:=Lib.hid (fun k (hk:k≤l.length) (e:pre++[x]=fst l.length k)=>show out++(if x.1=0 then Lib.decDigits d.toNat else List.replicate (9 - (Lib.decDigits d.toNat).length) 48++Lib.decDigits d.toNat)=([]:List UInt8)++topTxt l k by
   obtain ⟨m,rfl,hp,hx⟩:=fst_snoc hk e
   rw [hat m (by omega) hp,List.append_assoc,topTxt_step HN.out.digs HN.out.trim (by omega),← hd,← hx])
  have HB0:=Lib.hid b0
  have HB1:=Lib.hid b1
  have HBL:=Lib.hid hbl
  clear hat b0 b1 hbl
  rw [hd] at q1 q2 ⊢
  clear hd
  gi_wp2
  refine ⟨trivial,?_⟩
  refine (CallsIn.inRound l1 (callsIn_wide.2 (itoa_any d (by omega) (by omega) _ (HG.out.below hB)))).mono ?_
  rintro e wa ⟨s,hs,rfl,hBa⟩
  rw [itoa_pos q1] at hs
  have hsl:s.size≤9:=by rw [show s.size=s.data.toList.length from rfl,hs];exact hdl
  have hsz:(s.size:Int)≤9:=by omega
  have HS:=Lib.hid hs
  have HW:=Lib.hid (And.intro (hBa.mono (show w.heap.size+1≤W.heap.size by omega)) (othersKept_of_below (b:=some (w.heap.size+1)) (e:=5) hBa))
  have HB0':=Lib.hid (HB0.out.below hBa)
  have c1:=HB0'.out.c1
  have HBL':=Lib.hid (builderF_below HBL.out hBa)
  have hzw:=Nat.le_trans hz hBa.size
  clear hs hBa
  by_cases hx0:x.1=0
  ·have hcond:¬ (l.length:Int) - 1 - (x.1:Int) < (l.length:Int) - 1:=by omega
   gi_wp2
   refine ⟨trivial,?_⟩
   refine (CallsIn.inRound l1 (callsIn_wide.2 (writeString_k (w.heap.size+1) (w.heap.size+1) _ s wa HBL'.out (by rw [Lib.byteCells_length];omega) (by omega)))).mono ?_
   rintro e wb ⟨rfl,hbb,hBb,hOb⟩
   have HBB:Hid (Lib.IsBuilderF 246 5 (w.heap.size+1) (w.heap.size+1) (Lib.byteCells (out++Lib.decDigits d.toNat)) wb):=Lib.hid (by rw [byteCells_append,← strCells_of HS.out];exact .inr hbb)
   have HW2:=Lib.hid (And.intro (HW.out.1.trans hBb) (HW.out.2.trans hOb))
   clear hbb hBb hOb c1
   gi_wp2
   obtain ⟨e1,e2,e3,e4,e5,e6⟩:=wr_end (m:=W2.heap.size) HW2.out.1 HW2.out.2 HB0.out HB1.out (by omega) (by omega) hB
   refine ⟨e1,e2,⟨⟨e3,e4⟩,e5,by omega⟩,_,HBB.out,?_,fun k hk e=>?_⟩
   ·rw [List.length_append,List.length_append];simp only [List.length_cons,List.length_nil];omega
   ·have:=HAT.out k hk e
    rwa [if_pos hx0] at this
  ·have hcond:(l.length:Int) - 1 - (x.1:Int) < (l.length:Int) - 1:=by omega
   have hwr:IntKind.i64.wrap (9 - (s.size:Int))=9 - (s.size:Int):=IntWalk.i64_in _ (by omega)
   have HRP:=Lib.hid (fun W=>Tryz.strings_Repeat ⟨#[48]⟩ (9 - s.size) W (by omega) (by show 1 * (9 - s.size)≤_;omega))
   have hcast:((9 - s.size:Nat):Int)=9 - (s.size:Int):=by omega
   rw [hcast] at HRP
   clear hcast
   gi_wp2
   refine ⟨trivial,?_⟩
   refine (CallsIn.inRound l1 (callsIn_wide.2 (HRP.out _))).mono ?_
   rintro e wr ⟨rfl,hBr⟩
   have HW1:=Lib.hid (And.intro (HW.out.1.trans (hBr.mono (show w.heap.size+1≤wa.heap.size by omega))) (HW.out.2.trans (othersKept_of_below (b:=some (w.heap.size+1)) (e:=5) hBr)))
   have HBR:=Lib.hid (builderF_below HBL'.out hBr)
   have hzr:=Nat.le_trans hzw hBr.size
   clear hBr c1
   gi_wp2
   refine ⟨trivial,?_⟩
   refine (CallsIn.inRound l1 (callsIn_wide.2 (writeString_k (w.heap.size+1) (w.heap.size+1) _ _ wr HBR.out (by rw [Lib.byteCells_length];show _+(Lib.repeatL [48] (9 - s.size)).toArray.size≤_;rw [repeat_zero];simp;omega) (by omega)))).mono ?_
   rintro e wp ⟨rfl,hbp,hBp,hOp⟩
   have HBP:Hid (Lib.IsBuilderF 246 5 (w.heap.size+1) (w.heap.size+1) (Lib.byteCells (out++List.replicate (9 - s.size) 48)) wp):=Lib.hid (by
    rw [byteCells_append,← repeat_zero,← strCells_of (s:=⟨(Lib.repeatL [48] (9 - s.size)).toArray⟩) rfl];exact .inr hbp)
   have HW2:=Lib.hid (And.intro (HW1.out.1.trans hBp) (HW1.out.2.trans hOp))
   have hzp:=Nat.le_trans hzr hBp.size
   clear hbp hBp hOp
   gi_wp2
   refine ⟨trivial,?_⟩
   refine (CallsIn.inRound l1 (callsIn_wide.2 (writeString_k (w.heap.size+1) (w.heap.size+1) _ s wp HBP.out (by rw [Lib.byteCells_length,List.length_append,List.length_replicate];omega) (by omega)))).mono ?_
   rintro e wb ⟨rfl,hbb,hBb,hOb⟩
   have HBB:Hid (Lib.IsBuilderF 246 5 (w.heap.size+1) (w.heap.size+1) (Lib.byteCells (out++(List.replicate (9 - (Lib.decDigits d.toNat).length) 48++Lib.decDigits d.toNat))) wb):=Lib.hid (by
    have hss:s.size=(Lib.decDigits d.toNat).length:=by rw [← HS.out];rfl
    rw [← List.append_assoc,byteCells_append,← strCells_of HS.out,← hss];exact .inr hbb)
   have HW3:=Lib.hid (And.intro (HW2.out.1.trans hBb) (HW2.out.2.trans hOb))
   clear hbb hBb hOb
   gi_wp2
   obtain ⟨e1,e2,e3,e4,e5,e6⟩:=wr_end (m:=W2.heap.size) HW3.out.1 HW3.out.2 HB0.out HB1.out (by omega) (by omega) hB
   refine ⟨e1,e2,⟨⟨e3,e4⟩,e5,by omega⟩,_,HBB.out,?_,fun k hk e=>?_⟩
   ·rw [List.length_append,List.length_append,List.length_append,List.length_replicate];simp only [List.length_cons,List.length_nil];omega
   ·have:=HAT.out k hk e
    rwa [if_neg hx0] at this
 case done =>
  rintro D ys W hD rfl ⟨⟨⟨b0,b1⟩,hB,hz⟩,out,hbl,hol,hat⟩ hK
  have HO:=Lib.hid (hat l.length (Nat.le_refl _) (fst_all _).symm)
  have HBL:=Lib.hid hbl
  have HB:=Lib.hid hB
  clear hat hbl hol b0 b1
  gi_wp2
  refine ⟨trivial,?_⟩
  refine (callsIn_wide.2 (Tryz.Builder_String_any_k (w.heap.size+1) (w.heap.size+1) out W HBL.out (by omega))).mono ?_
  rintro e wz ⟨rfl,_,hBz,hOz⟩
  have hKz:wz.heap[D]?=some (.deferred (some [])):=hOz D _ hK (fun e=>by injection e with e;omega) (fun c fz e=>by cases e)
  have hBw:Below w.heap.size w wz:=HB.out.trans (hBz.mono (by omega))
  clear hBz hOz
  gi_wp2
  refine leaves_marks w.heap.size [D] _ (by simp) (fun E hE=>?_) (fun W' hB' hcc=>?_)
  ·obtain rfl:E=D:=by simpa using hE
   exact ⟨by omega,hKz⟩
  ·have hout:out=([]:List UInt8)++Lib.decDigits n.natAbs:=by rw [HO.out,topTxt_all HN.out,if_neg h0]
   exact ⟨.string ⟨out.toArray⟩,by simp [results,Tryz.results186,go_sem],⟨out.toArray⟩,hout,rfl,hBw.trans hB'⟩
 case stop =>
  rintro D c pre W _ _ h _
  exact h.elim
theorem write_minus {l:List Int} {n:Int} (u:Value) (w:World) (hG:Glo w) (hu:IsInts w u l) (hn:Num l n) (hl:l.length≤900) (h0:l.length≠0) :
  Calls Tryz.prog 186 #[.agg #[.bool true,u]] w (RetS (([45]:List UInt8)++Lib.decDigits n.natAbs) w):=by
 obtain ⟨aa,ac,rfl⟩:=hu.slice
 have HU:=Lib.hid hu
 have HN:=Lib.hid hn
 have HG:=Lib.hid hG
 have hl0:((l.length:Int) == 0)=false:=by rw [beq_eq_false_iff_ne];omega
 clear hu hn hG
 refine (callsIn_wide (n:=5)).1 ?_
 refine callsIn_of_wp_marks Tryz.func186 rfl trivial ?_ rfl
 simp only [Tryz.ntmps186,List.size_toArray,List.length_cons,List.length_nil,Nat.reduceAdd,Nat.reduceSub,Array.replicate_succ,Array.replicate_zero,List.push_toArray,List.append_toArray,List.nil_append,List.cons_append]
 gi_wp2
 have hb0:Below w.heap.size w ((w.alloc (.cells #[.bool true,.slice aa l.length ac] 151)).alloc (.cells #[.pointer none,.slice none 0 0] 246)):=qbl
 have x0:BoxN ((w.alloc (.cells #[.bool true,.slice aa l.length ac] 151)).alloc (.cells #[.pointer none,.slice none 0 0] 246)) w.heap.size (.bool true) (.slice aa l.length ac):=(BoxN.new rfl).below (bw4 (bw0 _ _) _)
 have hsz0:((w.alloc (.cells #[.bool true,.slice aa l.length ac] 151)).alloc (.cells #[.pointer none,.slice none 0 0] 246)).heap.size=w.heap.size+2:=by simp
 have hbld:Lib.IsBuilderF 246 5 (w.heap.size+1) (w.heap.size+1) (Lib.byteCells []) ((w.alloc (.cells #[.bool true,.slice aa l.length ac] 151)).alloc (.cells #[.pointer none,.slice none 0 0] 246)):=.inl ⟨Nat.le_refl _,.slice none 0 0,by have:=World.alloc_heap_new (w.alloc (.cells #[.bool true,.slice aa l.length ac] 151)) (.cells #[.pointer none,.slice none 0 0] 246);rw [World.size_alloc] at this;exact this,⟨rfl,.inl ⟨rfl,rfl⟩⟩,by simp [Value.ownBlock]⟩
 generalize ((w.alloc (.cells #[.bool true,.slice aa l.length ac] 151)).alloc (.cells #[.pointer none,.slice none 0 0] 246))=W0 at *
 refine ⟨trivial,?_⟩
 refine (callsIn_wide.2 (writeByte_k (w.heap.size+1) (w.heap.size+1) _ 45 W0 hbld (by simp [Lib.byteCells]) (by omega))).mono ?_
 rintro e W1 ⟨rfl,hbld1,hB1,hO1⟩
 have hbld:Lib.IsBuilderF 246 5 (w.heap.size+1) (w.heap.size+1) (Lib.byteCells [45]) W1:=.inr hbld1
 have x0:BoxN W1 w.heap.size (.bool true) (.slice aa l.length ac):=(hB1.block _ (by omega)).trans x0
 have hb0:Below w.heap.size w W1:=hb0.trans (hB1.mono (by omega))
 have hsz0:w.heap.size+2≤W1.heap.size:=by have:=hB1.size;omega
 clear hbld1 hB1 hO1
 have c1:=x0.c1
 gi_wp2
 refine ⟨trivial,?_⟩
 refine (callsIn_wide.2 (backward_any _ _ _ _)).mono ?_
 rintro e w1 ⟨rfl,rfl⟩
 clear c1
 gi_wp2
 have hb2:Below w.heap.size w (W1.alloc (.cells #[.slice aa l.length ac] 51)):=bw4 hb0 _
 have x1:BoxN (W1.alloc (.cells #[.slice aa l.length ac] 51)) w.heap.size (.bool true) (.slice aa l.length ac):=x0.below (bw4 (bw0 _ _) _)
 have x2:Boxed (W1.alloc (.cells #[.slice aa l.length ac] 51)) W1.heap.size 51 (.slice aa l.length ac):=Boxed.new _ _ _
 have x3:=builderF_below hbld (bw4 (bw0 _ _) (.cells #[.slice aa l.length ac] 51))
 have hsz2:(W1.alloc (.cells #[.slice aa l.length ac] 51)).heap.size=W1.heap.size+1:=by simp
 generalize W1.alloc (.cells #[.slice aa l.length ac] 51)=W2 at *
 refine wpIn_rangeFunc_ownH rfl (by omega) (gf:=258) (lb:=#[.pointer (some ⟨W1.heap.size,0,none⟩)]) rfl trivial (enters_of Tryz.func258 (by kernel_rfl) rfl)
  (back_stops l _ (by omega) W1.heap.size w.heap.size _ (by omega) W2 hb2.size (HU.out.below hb2) HU.out.lt x2.cell) KpR.t (KpR.b hb2.size (by omega)) (bw0 _ _) (fun _=>rfl)
  (fun pre W=>((BoxN W w.heap.size (.bool true) (.slice aa l.length ac)∧Boxed W W1.heap.size 51 (.slice aa l.length ac))∧(Below w.heap.size w W∧W1.heap.size+1≤W.heap.size))∧(∃ out:List UInt8,Lib.IsBuilderF 246 5 (w.heap.size+1) (w.heap.size+1) (Lib.byteCells out) W∧out.length≤18 * pre.length+1∧(∀ k,k≤l.length→pre=fst l.length k→out=([45]:List UInt8)++topTxt l k)))
  (fun _ _ _=>False)
  (OwnFrom.and (OwnFrom.and (OwnFrom.and (cells_own rfl) (Own.from (boxed_own _ _ _) _)) (OwnFrom.and (ownFrom_below (Nat.le_refl _) (by omega)) (fun s A B row hs hg hr=>Nat.le_trans hs hg.size))) (fun s X Y row hs hg hr=>by obtain ⟨out,h1,h2⟩:=hs;exact ⟨out,builderF_own () X Y row h1 hg hr,h2⟩))
  (fun _ _ _ _ _ hs _ _=>hs)
  ⟨⟨⟨x1,x2⟩,hb2,by omega⟩,([45]:List UInt8),x3,by simp,fun k hk e=>by
   have h0:k=0:=by have:=congrArg List.length e;rw [fst_length hk] at this;simpa using this.symm
   subst h0;rfl⟩
  (fun x a' W=>a'={ tmps:=#[.agg #[.bool true,.slice aa l.length ac],.pointer (some ⟨w.heap.size,0,none⟩),.string ⟨#[]⟩,.pointer (some ⟨w.heap.size+1,0,none⟩),.int .i64 ((l.length:Int) - 1 - x.1),.int .i64 (lim l (l.length - 1 - x.1)),undef,.pointer (some ⟨w.heap.size,1,none⟩),.slice aa l.length ac,.int .i64 l.length,.bool false,.pointer (some ⟨w.heap.size,0,none⟩),.bool true,.nilIface,.pointer (some ⟨w.heap.size,1,none⟩),.slice aa l.length ac,.func (.func 258) #[] #[.pointer (some ⟨W1.heap.size,0,none⟩)],.int .i64 ((l.length:Int) - 1 - x.1),.int .i64 (lim l (l.length - 1 - x.1)),undef,undef,undef,undef,undef,undef,undef,undef,undef,undef,undef,undef,undef,undef,undef,undef],defers:=[] })
  (fun x a' _ X Y row hs hg hr=>hs)
  ?assign ?body ?done ?stop
 case assign =>
  rintro l1 pre x W K ⟨⟨⟨b0,b1⟩,hB,hz⟩,hS⟩ hK
  unfold encB
  gi_wp2
  exact hK _ _ (KeepsFrom.refl _ _) ⟨(bw0 _ _).mono hB.size,rfl⟩ ⟨⟨⟨b0,b1⟩,hB,hz⟩,hS⟩ rfl
 case body =>
  rintro l1 pre x a' W hl1 ⟨rr,hr⟩ ⟨⟨⟨b0,b1⟩,hB,hz⟩,out,hbl,hol,hat⟩ rfl hlt
  have hxl:=x.2
  obtain ⟨q1,q2⟩:=HN.out.digs (l.length - 1 - x.1)
  obtain ⟨d,hd⟩:∃ d,lim l (l.length - 1 - x.1)=d:=⟨_,rfl⟩
  have hdl:(Lib.decDigits d.toNat).length≤9:=by rw [Lib.decDigits_length];exact nDigits_le_of_lt (by rw [hd] at q1 q2;omega) (by omega)
  have HAT:=Lib.hid (fun k (hk:k≤l.length) (e:pre++[x]=fst l.length k)=>show out++(if x.1=0 then Lib.decDigits d.toNat else List.replicate (9 - (Lib.decDigits d.toNat).length) 48++Lib.decDigits d.toNat)=([45]:List UInt8)++topTxt l k by
   obtain ⟨m,rfl,hp,hx⟩:=fst_snoc hk e
   rw [hat m (by omega) hp,List.append_assoc,topTxt_step HN.out.digs HN.out.trim (by omega),← hd,← hx])
  have HB0:=Lib.hid b0
  have HB1:=Lib.hid b1
  have HBL:=Lib.hid hbl
  clear hat b0 b1 hbl
  rw [hd] at q1 q2 ⊢
  clear hd
  gi_wp2
  refine ⟨trivial,?_⟩
  refine (CallsIn.inRound l1 (callsIn_wide.2 (itoa_any d (by omega) (by omega) _ (HG.out.below hB)))).mono ?_
  rintro e wa ⟨s,hs,rfl,hBa⟩
  rw [itoa_pos q1] at hs
  have hsl:s.size≤9:=by rw [show s.size=s.data.toList.length from rfl,hs];exact hdl
  have hsz:(s.size:Int)≤9:=by omega
  have HS:=Lib.hid hs
  have HW:=Lib.hid (And.intro (hBa.mono (show w.heap.size+1≤W.heap.size by omega)) (othersKept_of_below (b:=some (w.heap.size+1)) (e:=5) hBa))
  have HB0':=Lib.hid (HB0.out.below hBa)
  have c1:=HB0'.out.c1
  have HBL':=Lib.hid (builderF_below HBL.out hBa)
  have hzw:=Nat.le_trans hz hBa.size
  clear hs hBa
  by_cases hx0:x.1=0
  ·have hcond:¬ (l.length:Int) - 1 - (x.1:Int) < (l.length:Int) - 1:=by omega
   gi_wp2
   refine ⟨trivial,?_⟩
   refine (CallsIn.inRound l1 (callsIn_wide.2 (writeString_k (w.heap.size+1) (w.heap.size+1) _ s wa HBL'.out (by rw [Lib.byteCells_length];omega) (by omega)))).mono ?_
   rintro e wb ⟨rfl,hbb,hBb,hOb⟩
   have HBB:Hid (Lib.IsBuilderF 246 5 (w.heap.size+1) (w.heap.size+1) (Lib.byteCells (out++Lib.decDigits d.toNat)) wb):=Lib.hid (by rw [byteCells_append,← strCells_of HS.out];exact .inr hbb)
   have HW2:=Lib.hid (And.intro (HW.out.1.trans hBb) (HW.out.2.trans hOb))
   clear hbb hBb hOb c1
   gi_wp2
   obtain ⟨e1,e2,e3,e4,e5,e6⟩:=wr_end (m:=W2.heap.size) HW2.out.1 HW2.out.2 HB0.out HB1.out (by omega) (by omega) hB
   refine ⟨e1,e2,⟨⟨e3,e4⟩,e5,by omega⟩,_,HBB.out,?_,fun k hk e=>?_⟩
   ·rw [List.length_append,List.length_append];simp only [List.length_cons,List.length_nil];omega
   ·have:=HAT.out k hk e
    rwa [if_pos hx0] at this
  ·have hcond:(l.length:Int) - 1 - (x.1:Int) < (l.length:Int) - 1:=by omega
   have hwr:IntKind.i64.wrap (9 - (s.size:Int))=9 - (s.size:Int):=IntWalk.i64_in _ (by omega)
   have HRP:=Lib.hid (fun W=>Tryz.strings_Repeat ⟨#[48]⟩ (9 - s.size) W (by omega) (by show 1 * (9 - s.size)≤_;omega))
   have hcast:((9 - s.size:Nat):Int)=9 - (s.size:Int):=by omega
   rw [hcast] at HRP
   clear hcast
   gi_wp2
   refine ⟨trivial,?_⟩
   refine (CallsIn.inRound l1 (callsIn_wide.2 (HRP.out _))).mono ?_
   rintro e wr ⟨rfl,hBr⟩
   have HW1:=Lib.hid (And.intro (HW.out.1.trans (hBr.mono (show w.heap.size+1≤wa.heap.size by omega))) (HW.out.2.trans (othersKept_of_below (b:=some (w.heap.size+1)) (e:=5) hBr)))
   have HBR:=Lib.hid (builderF_below HBL'.out hBr)
   have hzr:=Nat.le_trans hzw hBr.size
   clear hBr c1
   gi_wp2
   refine ⟨trivial,?_⟩
   refine (CallsIn.inRound l1 (callsIn_wide.2 (writeString_k (w.heap.size+1) (w.heap.size+1) _ _ wr HBR.out (by rw [Lib.byteCells_length];show _+(Lib.repeatL [48] (9 - s.size)).toArray.size≤_;rw [repeat_zero];simp;omega) (by omega)))).mono ?_
   rintro e wp ⟨rfl,hbp,hBp,hOp⟩
   have HBP:Hid (Lib.IsBuilderF 246 5 (w.heap.size+1) (w.heap.size+1) (Lib.byteCells (out++List.replicate (9 - s.size) 48)) wp):=Lib.hid (by
    rw [byteCells_append,← repeat_zero,← strCells_of (s:=⟨(Lib.repeatL [48] (9 - s.size)).toArray⟩) rfl];exact .inr hbp)
   have HW2:=Lib.hid (And.intro (HW1.out.1.trans hBp) (HW1.out.2.trans hOp))
   have hzp:=Nat.le_trans hzr hBp.size
   clear hbp hBp hOp
   gi_wp2
   refine ⟨trivial,?_⟩
   refine (CallsIn.inRound l1 (callsIn_wide.2 (writeString_k (w.heap.size+1) (w.heap.size+1) _ s wp HBP.out (by rw [Lib.byteCells_length,List.length_append,List.length_replicate];omega) (by omega)))).mono ?_
   rintro e wb ⟨rfl,hbb,hBb,hOb⟩
   have HBB:Hid (Lib.IsBuilderF 246 5 (w.heap.size+1) (w.heap.size+1) (Lib.byteCells (out++(List.replicate (9 - (Lib.decDigits d.toNat).length) 48++Lib.decDigits d.toNat))) wb):=Lib.hid (by
    have hss:s.size=(Lib.decDigits d.toNat).length:=by rw [← HS.out];rfl
    rw [← List.append_assoc,byteCells_append,← strCells_of HS.out,← hss];exact .inr hbb)
   have HW3:=Lib.hid (And.intro (HW2.out.1.trans hBb) (HW2.out.2.trans hOb))
   clear hbb hBb hOb
   gi_wp2
   obtain ⟨e1,e2,e3,e4,e5,e6⟩:=wr_end (m:=W2.heap.size) HW3.out.1 HW3.out.2 HB0.out HB1.out (by omega) (by omega) hB
   refine ⟨e1,e2,⟨⟨e3,e4⟩,e5,by omega⟩,_,HBB.out,?_,fun k hk e=>?_⟩
   ·rw [List.length_append,List.length_append,List.length_append,List.length_replicate];simp only [List.length_cons,List.length_nil];omega
   ·have:=HAT.out k hk e
    rwa [if_neg hx0] at this
 case done =>
  rintro D ys W hD rfl ⟨⟨⟨b0,b1⟩,hB,hz⟩,out,hbl,hol,hat⟩ hK
  have HO:=Lib.hid (hat l.length (Nat.le_refl _) (fst_all _).symm)
  have HBL:=Lib.hid hbl
  have HB:=Lib.hid hB
  clear hat hbl hol b0 b1
  gi_wp2
  refine ⟨trivial,?_⟩
  refine (callsIn_wide.2 (Tryz.Builder_String_any_k (w.heap.size+1) (w.heap.size+1) out W HBL.out (by omega))).mono ?_
  rintro e wz ⟨rfl,_,hBz,hOz⟩
  have hKz:wz.heap[D]?=some (.deferred (some [])):=hOz D _ hK (fun e=>by injection e with e;omega) (fun c fz e=>by cases e)
  have hBw:Below w.heap.size w wz:=HB.out.trans (hBz.mono (by omega))
  clear hBz hOz
  gi_wp2
  refine leaves_marks w.heap.size [D] _ (by simp) (fun E hE=>?_) (fun W' hB' hcc=>?_)
  ·obtain rfl:E=D:=by simpa using hE
   exact ⟨by omega,hKz⟩
  ·have hout:out=([45]:List UInt8)++Lib.decDigits n.natAbs:=by rw [HO.out,topTxt_all HN.out,if_neg h0]
   exact ⟨.string ⟨out.toArray⟩,by simp [results,Tryz.results186,go_sem],⟨out.toArray⟩,hout,rfl,hBw.trans hB'⟩
 case stop =>
  rintro D c pre W _ _ h _
  exact h.elim
end Go.Proofs.YteepphiomcedfaaGreatDoor
namespace Go.Proofs.YteepphiomcedfaaGreatDoor
open Go.RowKit Go.Shelf
attribute [local go_sem] Oper.semAt_some
theorem digitsI_any (s:ByteArray) (w:World) :
  Calls Tryz.prog 189 #[.string s] w fun e w'=>e=.returned (.func (.func 245) #[] #[.pointer (some ⟨w.heap.size,0,none⟩)])∧w'=w.alloc (.cells #[.string s] 9):=by
 have hmf:∀ (fn:Fn) (first cap:Array Value) (w:World),(Instr.makeFunc fn first cap).run Tryz.prog w=.ok (.func fn first cap) w:=fun _ _ _ _=>rfl
 go_enter Tryz.func189,Tryz.ntmps189
 go_wp2_with fail
 go_ret
 exact ⟨rfl,rfl⟩
def encD (s:ByteArray) (x:Fin s.size):Array Value:=#[.int .i64 x.1,.int .i64 (dgAt s.data.toList x.1)]
theorem dgAt_of {s:ByteArray} {k:Nat} (h:s.size - 1 - k < s.size):dgAt s.data.toList k=(s[s.size - 1 - k].toNat:Int) - 48:=by
 unfold dgAt
 have h2:s.data.toList.length - 1 - k < s.data.toList.length:=h
 rw [List.getD_eq_getElem?_getD,List.getElem?_eq_getElem h2]
 rfl
theorem dig1_in (s:ByteArray) (hdig:∀ c ∈ s.data.toList,isDig c=true) (n:Nat) (hn:1≤n) (lb b1 B:Nat) (J Jx:List (Fin s.size)→World→Prop) (hlen:s.size≤1000)
  (hY:∀ pre x W,J pre W→pre.length < s.size→YieldAt Fence.wide (n - 1) Tryz.prog lb (encD s x) W fun e W' =>
   (e=.returned (.bool true)∧J (pre++[x]) W'∧KpR B b1 W W')∨(e=.returned (.bool false)∧Jx (pre++[x]) W'))
  (W:World) (hJ:AbidesFrom W.heap.size J) (c1:W.cell? ⟨b1,0,none⟩=some (.string s)) (h0:J [] W) :
  CallsIn Fence.wide n Tryz.prog 245 #[.func (.yield lb) #[] #[],.pointer (some ⟨b1,0,none⟩)] W fun e W'=>(∃ v,e=.returned v) ∧
   (J (List.finRange s.size) W'∨(∃ pre,(∃ k,k≤s.size∧pre=fst s.size k)∧Jx pre W')):=by
 have HJ:=Lib.hid hJ
 have HY:=Lib.hid hY
 have HD:=Lib.hid hdig
 clear hJ hY hdig
 refine callsIn_of_wp Tryz.func245 rfl trivial ?_ rfl
 simp only [Tryz.ntmps245,List.size_toArray,List.length_cons,List.length_nil,Nat.reduceAdd,Nat.reduceSub,Array.replicate_succ,Array.replicate_zero,List.push_toArray,List.append_toArray,List.nil_append,List.cons_append]
 gi_wp2
 gi_loopg [6] s.size (fun g v wr=>∃ k:Nat,k≤s.size∧g=s.size - k∧v=.int .i64 (k:Int)∧Hid (J (fst s.size k) wr)∧wr.cell? ⟨b1,0,none⟩=some (.string s))
 case atStart=>exact ⟨0,by omega,rfl,rfl,Lib.hid h0,c1⟩
 case round =>
  obtain ⟨k,hk,rfl,rfl,hJk,k1⟩:=hrel
  by_cases hkn:k=s.size
  ·subst hkn
   have hge:¬ (s.size:Int) < (s.size:Int):=by omega
   gi_wp2
   go_end0
   exact ⟨⟨_,rfl⟩,.inl (by have:=hJk.out;rw [fst_all] at this;exact this)⟩
  ·have hge:(k:Int) < (s.size:Int):=by omega
   have hw0:IntKind.i64.wrap ((s.size:Int) - 1)=(s.size:Int) - 1:=IntWalk.i64_in _ (by omega)
   have hw1:IntKind.i64.wrap ((s.size:Int) - 1 - (k:Int))=(s.size:Int) - 1 - (k:Int):=IntWalk.i64_in _ (by omega)
   have hw2:IntKind.i64.wrap ((k:Int)+1)=(k:Int)+1:=IntWalk.i64_in _ (by omega)
   have hs:((s.size:Int) - 1 - (k:Int)).toNat=s.size - 1 - k:=by omega
   have hg0:(0:Int)≤(s.size:Int) - 1 - (k:Int):=by omega
   have hg1:(s.size:Int) - 1 - (k:Int) < (s.size:Int):=by omega
   have hkl:s.size - 1 - k < s.size:=by omega
   obtain ⟨c,hc⟩:∃ c,s[s.size - 1 - k]=c:=⟨_,rfl⟩
   have hcd:isDig c=true:=HD.out c (by rw [← hc];exact List.getElem_mem (l:=s.data.toList) (n:=s.size - 1 - k) hkl)
   rw [isDig_iff] at hcd
   obtain ⟨d,hd⟩:∃ d:Int,(c.toNat:Int) - 48=d:=⟨_,rfl⟩
   have hwu:IntKind.u8.wrap ((c.toNat:Int) - 48)=d:=by rw [hd];exact IntWalk.u8_in _ (by omega)
   have hwd:IntKind.i64.wrap d=d:=IntWalk.i64_in _ (by omega)
   have hYk:=Lib.hid (fun W hW=>HY.out (fst s.size k) ⟨k,by omega⟩ W hW (by rw [fst_length hk];omega))
   have HE:Hid (encD s ⟨k,by omega⟩=#[.int .i64 (k:Int),.int .i64 d]):=Lib.hid (by unfold encD;rw [dgAt_of hkl,hc,hd])
   clear hd
   obtain ⟨fn,tmps,assign,body,hy,hR2⟩:=hYk.out _ hJk.out
   have HR2:=Lib.hid hR2
   rw [HE.out] at hy
   clear hR2
   gi_wp2
   refine HR2.out.mono ?_
   rintro e W3 (⟨rfl,hJ3,hk3⟩|⟨rfl,hJx3⟩)
   ·have k13:W3.cell? ⟨b1,0,none⟩=some (.string s):=(World.cell?_of_block hk3.2).trans k1
    have hJ3':=Lib.hid hJ3
    clear hJ3 hk3 hy HR2 k1
    gi_wp2
    gi_roundg (s.size - (k+1))
    case rel=>exact ⟨k+1,by omega,rfl,by go_num,Lib.hid (by rw [fst_succ (by omega)];exact hJ3'.out),k13⟩
    case measure=>omega
   ·have hJ3':=Lib.hid hJx3
    clear hJx3 hy HR2
    gi_wp2
    refine bodyPost_ret (results_none rfl _ _ _) rfl ?_
    exact ⟨⟨_,rfl⟩,.inr ⟨fst s.size (k+1),⟨k+1,by omega,rfl⟩,by rw [fst_succ (by omega)];exact hJ3'.out⟩⟩
theorem dig_stops (s:ByteArray) (hdig:∀ c ∈ s.data.toList,isDig c=true) (n:Nat) (hn:1≤n) (b1 B:Nat) (hlen:s.size≤1000) (w:World) (c1:w.cell? ⟨b1,0,none⟩=some (.string s)) :
  SeqStopsK Fence.wide n Tryz.prog 245 #[.pointer (some ⟨b1,0,none⟩)] (encD s) (KpR B b1) (fun ys=>ys=List.finRange s.size) (fun pre=>∃ k,k≤s.size∧pre=fst s.size k) s.size w:=fun lb J Jx W hW hJ _ hY h0 =>
 (dig1_in s hdig n hn lb b1 B J Jx hlen hY W hJ (keep hW c1) h0).mono (fun e w' h=>⟨h.1,h.2.imp (fun h=>⟨_,rfl,h⟩) id⟩)
end Go.Proofs.YteepphiomcedfaaGreatDoor
namespace Go.Proofs.YteepphiomcedfaaGreatDoor
open Go.RowKit Go.Shelf
attribute [local go_sem] Oper.semAt_some
theorem BoxN.f {W:World} {b:Nat} {x y:Value} (h:BoxN W b x y) (k:Nat):W.frozen? ⟨b,k,none⟩=false:=by simp [World.frozen?,show W.heap[b]?=_ from h]
theorem BoxN.set0 {W:World} {b:Nat} {x y:Value} (h:BoxN W b x y) (x':Value):BoxN (W.setCell ⟨b,0,none⟩ x') b x' y:=heap_setCell_at h
theorem BoxN.set1 {W:World} {b:Nat} {x y:Value} (h:BoxN W b x y) (y':Value):BoxN (W.setCell ⟨b,1,none⟩ y') b x y':=heap_setCell_at h
theorem BoxN.but' {W W':World} {b c:Nat} {x y:Value} (h:BoxN W b x y) (hs:SameBut c W W') (hne:b≠c):BoxN W' b x y:=(hs.block b hne).trans h
structure ReadSt (s:List UInt8) (n:Nat) (pre:List (Fin n)) (l:List Int) (u:Int):Prop where
 len:l.length=(n+8) / 9
 at':∀ k,k≤n→pre=fst n k→ReadAt s k l∧(k % 9≠0→u=((10 ^ (k % 9):Nat):Int))
theorem ReadSt.start (s:List UInt8) (n:Nat):ReadSt s n [] (zerosL ((n+8) / 9)) 1:=⟨zerosL_len _,fun k hk e=>by
 have h0:k=0:=by have:=congrArg List.length e;rw [fst_length hk] at this;simpa using this.symm
 subst h0
 exact ⟨ReadAt.start _ _,fun h=>absurd rfl h⟩⟩
theorem ReadSt.step {s:List UInt8} {n:Nat} {pre:List (Fin n)} {l:List Int} {u u1:Int} (h:ReadSt s n pre l u) (hn:n=s.length) (hd:∀ c ∈ s,isDig c=true) (x:Fin n) (hu:u1=if x.1 % 9=0 then 1 else u) :
  ReadSt s n (pre++[x]) (l.set (x.1 / 9) (IntKind.i64.wrap (lim l (x.1 / 9)+IntKind.i64.wrap (dgAt s x.1 * u1)))) (IntKind.i64.wrap (u1 * 10)):=by
 refine ⟨by rw [List.length_set];exact h.len,fun k hk e=>?_⟩
 obtain ⟨m,rfl,hp,hx⟩:=fst_snoc hk e
 obtain ⟨h1,h2⟩:=h.at' m (by omega) hp
 obtain ⟨⟨d0,d1⟩,⟨l0,l1⟩,h3⟩:=h1.step hd (by omega) (by rw [h.len,hn])
 have hu1:u1=((10 ^ (m % 9):Nat):Int):=by
  rw [hu,hx]
  split
  ·rename_i h0;rw [h0];rfl
  ·rename_i h0;exact h2 h0
 have hP:(10:Nat) ^ (m % 9)≤10 ^ 8:=Nat.pow_le_pow_right (by omega) (by omega)
 have hP0:0 < (10:Nat) ^ (m % 9):=Nat.pow_pos (by omega)
 rw [hx,hu1]
 rw [show m+1=m+1 from rfl]
 have hsucc:(m+1) % 9≠0→(10:Nat) ^ ((m+1) % 9)=10 ^ (m % 9) * 10:=fun h0=>by rw [← Nat.pow_succ];congr 1;omega
 generalize (10:Nat) ^ (m % 9)=P at *
 have m0:0≤dgAt s m * (P:Int):=Int.mul_nonneg d0 (by omega)
 have m1:dgAt s m * (P:Int)≤9 * (P:Int):=Int.mul_le_mul_of_nonneg_right d1 (by omega)
 have e1:IntKind.i64.wrap (dgAt s m * (P:Int))=dgAt s m * (P:Int):=IntWalk.i64_in _ (by omega)
 have e2:IntKind.i64.wrap (lim l (m / 9)+dgAt s m * (P:Int))=lim l (m / 9)+dgAt s m * (P:Int):=IntWalk.i64_in _ (by omega)
 have e3:IntKind.i64.wrap ((P:Int) * 10)=(P:Int) * 10:=IntWalk.i64_in _ (by omega)
 rw [e1,e2,e3]
 refine ⟨h3,fun h0=>?_⟩
 rw [hsucc h0]
 omega
theorem iread_ok (x:Int) (s:ByteArray) (w:World) (hs:s.data.toList=Lib.itoa x) (hl:s.size≤400) :
  Calls Tryz.prog 130 #[.string s] w (RetBig x ((s.size+8) / 9) w):=by
 have hcp:=(trim_itoa x).1
 rw [← hs] at hcp
 obtain ⟨m,hm⟩:∃ m,Lib.hasPrefix s.data.toList [45]=m:=⟨_,rfl⟩
 have HM:=Lib.hid (show sgnV m x.natAbs=x by
  rw [← hm,hs]
  rcases itoa_cases x with ⟨h0,e⟩|⟨h0,e⟩
  ·rw [e]
   have:Lib.hasPrefix (45::Lib.decDigits x.natAbs) [45]=true:=by simp [Lib.hasPrefix,List.isPrefixOf]
   rw [this];show -((x.natAbs:Int))=x;omega
  ·rw [e]
   have hne:=decDigits_no45 x.natAbs []
   rw [List.append_nil] at hne
   have:Lib.hasPrefix (Lib.decDigits x.natAbs) [45]=false:=by
    cases hdd:Lib.decDigits x.natAbs with
    | nil=>rfl
    | cons c t =>
     rw [hdd] at hne
     have hc:c≠45:=by intro hc;subst hc;simp at hne
     simp [Lib.hasPrefix,List.isPrefixOf,Ne.symm hc]
   rw [this];show (x.natAbs:Int)=x;omega)
 have HCP:=Lib.hid (fun W=>cutPrefix_any s ⟨#[45]⟩ W hcp hm)
 have HS:=Lib.hid hs
 refine (callsIn_wide (n:=5)).1 ?_
 refine callsIn_of_wp_marks Tryz.func130 rfl trivial ?_ rfl
 simp only [Tryz.ntmps130,List.size_toArray,List.length_cons,List.length_nil,Nat.reduceAdd,Nat.reduceSub,Array.replicate_succ,Array.replicate_zero,List.push_toArray,List.append_toArray,List.nil_append,List.cons_append]
 clear hcp hs hm
 gi_wp2
 refine ⟨trivial,?_⟩
 refine (callsIn_wide.2 (HCP.out _)).mono ?_
 rintro e w1 ⟨r,hr,rfl,rfl⟩
 have hr:=hr.out
 have hrs:r.size≤s.size:=by
  have e1:r.size=(Lib.decDigits x.natAbs).length:=by rw [← hr];rfl
  have e2:s.size=(Lib.itoa x).length:=by rw [← HS.out];rfl
  rw [e1,e2];exact trim_len x
 have hdg:∀ c ∈ r.data.toList,isDig c=true:=by rw [hr];exact decDigits_isDig _
 have HDV:=Lib.hid (show dval r.data.toList=x.natAbs by rw [hr];exact dval_decDigits _)
 have HDG:=Lib.hid hdg
 obtain ⟨nl,hnl⟩:∃ nl:Nat,(r.size+8) / 9=nl:=⟨_,rfl⟩
 have hw1:IntKind.i64.wrap ((r.size:Int)+9)=(r.size:Int)+9:=IntWalk.i64_in _ (by omega)
 have hw2:IntKind.i64.wrap ((r.size:Int)+9 - 1)=(r.size:Int)+9 - 1:=IntWalk.i64_in _ (by omega)
 have ht:((r.size:Int)+9 - 1).tdiv 9=(nl:Int):=by rw [Int.tdiv_eq_ediv_of_nonneg (by omega)];omega
 have hw3:IntKind.i64.wrap (nl:Int)=(nl:Int):=IntWalk.i64_in _ (by omega)
 have hmk:=fun (W:World)=>run_makeI W nl (by omega) (nl:Int) rfl
 clear hr hdg
 gi_wp2
 refine ⟨trivial,?_⟩
 refine (callsIn_wide.2 (digitsI_any _ _)).mono ?_
 rintro e w1 ⟨rfl,rfl⟩
 gi_wp2
 have hb0:Below w.heap.size w (((((w.alloc (.cells #[.bool false,.slice none 0 0] 151)).alloc (.cells (intVs (zerosL nl)).toArray 3)).alloc (.cells #[.bool m,.slice (some ⟨w.heap.size+1,0,none⟩) nl nl] 151)).alloc (.cells #[.int .i64 1] 3)).alloc (.cells #[.string r] 9)):=qbl
 have x0:BoxN (((((w.alloc (.cells #[.bool false,.slice none 0 0] 151)).alloc (.cells (intVs (zerosL nl)).toArray 3)).alloc (.cells #[.bool m,.slice (some ⟨w.heap.size+1,0,none⟩) nl nl] 151)).alloc (.cells #[.int .i64 1] 3)).alloc (.cells #[.string r] 9)) w.heap.size (.bool false) (.slice none 0 0):=((((BoxN.new rfl).below (bw4 (bw0 _ _) _)).below (bw4 (bw0 _ _) _)).below (bw4 (bw0 _ _) _)).below (bw4 (bw0 _ _) _)
 have x1:BlkI (((((w.alloc (.cells #[.bool false,.slice none 0 0] 151)).alloc (.cells (intVs (zerosL nl)).toArray 3)).alloc (.cells #[.bool m,.slice (some ⟨w.heap.size+1,0,none⟩) nl nl] 151)).alloc (.cells #[.int .i64 1] 3)).alloc (.cells #[.string r] 9)) (w.heap.size+1) (zerosL nl):=(((BlkI.new (by simp)).below (bw4 (bw0 _ _) _)).below (bw4 (bw0 _ _) _)).below (bw4 (bw0 _ _) _)
 have x2:BoxN (((((w.alloc (.cells #[.bool false,.slice none 0 0] 151)).alloc (.cells (intVs (zerosL nl)).toArray 3)).alloc (.cells #[.bool m,.slice (some ⟨w.heap.size+1,0,none⟩) nl nl] 151)).alloc (.cells #[.int .i64 1] 3)).alloc (.cells #[.string r] 9)) (w.heap.size+2) (.bool m) (.slice (some ⟨w.heap.size+1,0,none⟩) nl nl):=((BoxN.new (by simp)).below (bw4 (bw0 _ _) _)).below (bw4 (bw0 _ _) _)
 have x3:Boxed (((((w.alloc (.cells #[.bool false,.slice none 0 0] 151)).alloc (.cells (intVs (zerosL nl)).toArray 3)).alloc (.cells #[.bool m,.slice (some ⟨w.heap.size+1,0,none⟩) nl nl] 151)).alloc (.cells #[.int .i64 1] 3)).alloc (.cells #[.string r] 9)) (w.heap.size+3) 3 (.int .i64 1):=(boxed_new' (by simp)).alloc _
 have x4:Boxed (((((w.alloc (.cells #[.bool false,.slice none 0 0] 151)).alloc (.cells (intVs (zerosL nl)).toArray 3)).alloc (.cells #[.bool m,.slice (some ⟨w.heap.size+1,0,none⟩) nl nl] 151)).alloc (.cells #[.int .i64 1] 3)).alloc (.cells #[.string r] 9)) (w.heap.size+4) 9 (.string r):=boxed_new' (by simp)
 have hsz:(((((w.alloc (.cells #[.bool false,.slice none 0 0] 151)).alloc (.cells (intVs (zerosL nl)).toArray 3)).alloc (.cells #[.bool m,.slice (some ⟨w.heap.size+1,0,none⟩) nl nl] 151)).alloc (.cells #[.int .i64 1] 3)).alloc (.cells #[.string r] 9)).heap.size=w.heap.size+5:=by simp
 generalize (((((w.alloc (.cells #[.bool false,.slice none 0 0] 151)).alloc (.cells (intVs (zerosL nl)).toArray 3)).alloc (.cells #[.bool m,.slice (some ⟨w.heap.size+1,0,none⟩) nl nl] 151)).alloc (.cells #[.int .i64 1] 3)).alloc (.cells #[.string r] 9))=W0 at *
 refine wpIn_rangeFunc_ownH rfl (by omega) (gf:=245) (lb:=#[.pointer (some ⟨w.heap.size+4,0,none⟩)]) rfl trivial (enters_of Tryz.func245 (by kernel_rfl) rfl)
  (dig_stops r HDG.out _ (by omega) (w.heap.size+4) w.heap.size (by omega) W0 x4.cell) KpR.t (KpR.b hb0.size (by omega)) (bw0 _ _) (fun _=>rfl)
  (fun pre W=>((((BoxN W w.heap.size (.bool false) (.slice none 0 0)∧BoxN W (w.heap.size+2) (.bool m) (.slice (some ⟨w.heap.size+1,0,none⟩) nl nl))∧Boxed W (w.heap.size+4) 9 (.string r))∧(Below w.heap.size w W∧w.heap.size+5≤W.heap.size))∧(∃ l u,(BlkI W (w.heap.size+1) l∧Boxed W (w.heap.size+3) 3 (.int .i64 u))∧ReadSt r.data.toList r.size pre l u)))
  (fun _ _ _=>False)
  (OwnFrom.and (OwnFrom.and (OwnFrom.and (OwnFrom.and (cells_own rfl) (cells_own rfl)) (Own.from (boxed_own _ _ _) _)) (OwnFrom.and (ownFrom_below (Nat.le_refl _) (by omega)) (fun s A B row hs hg hr=>Nat.le_trans hs hg.size))) (fun s X Y row hs hg hr=>by obtain ⟨l,u,⟨h1,h2⟩,h3⟩:=hs;exact ⟨l,u,⟨blkI_own () X Y row h1 hg hr,(Own.from (boxed_own (w.heap.size+3) 3 (fun _:Unit=>.int .i64 u)) _) () X Y row h2 hg hr⟩,h3⟩))
  (fun _ _ _ _ _ hs _ _=>hs)
  ⟨⟨⟨⟨x0,x2⟩,x4⟩,hb0,by omega⟩,_,_,⟨x1,x3⟩,by rw [← hnl];exact ReadSt.start _ _⟩
  (fun x a' W=>a'={ tmps:=#[.string s,undef,.pointer (some ⟨w.heap.size,0,none⟩),.string r,.bool m,.pointer (some ⟨w.heap.size+2,0,none⟩),.pointer (some ⟨w.heap.size+3,0,none⟩),.int .i64 x.1,.int .i64 (dgAt r.data.toList x.1),.tuple #[.string r,.bool m],.string s,.tuple #[.string r,.bool m],.string r,.bool m,.bool m,.string r,.int .i64 r.size,.int .i64 ((r.size:Int)+9),.int .i64 ((r.size:Int)+9 - 1),.int .i64 nl,.slice (some ⟨w.heap.size+1,0,none⟩) nl nl,.agg #[.bool m,.slice (some ⟨w.heap.size+1,0,none⟩) nl nl],.string r,.func (.func 245) #[] #[.pointer (some ⟨w.heap.size+4,0,none⟩)],.int .i64 x.1,.int .i64 (dgAt r.data.toList x.1),undef,undef,undef,undef,undef,undef,undef,undef,undef,undef,undef,undef,undef,undef,undef,undef,undef,undef,undef,undef,undef],defers:=[] })
  (fun x a' _ X Y row hs hg hr=>hs)
  ?assign ?body ?done ?stop
 case assign =>
  rintro l1 pre x W K ⟨⟨⟨⟨b0,b2⟩,b4⟩,hB,hz⟩,hS⟩ hK
  unfold encD
  gi_wp2
  exact hK _ _ (KeepsFrom.refl _ _) ⟨(bw0 _ _).mono hB.size,rfl⟩ ⟨⟨⟨⟨b0,b2⟩,b4⟩,hB,hz⟩,hS⟩ rfl
 case body =>
  rintro l1 pre x a' W hl1 ⟨rr,hr⟩ ⟨⟨⟨⟨b0,b2⟩,b4⟩,hB,hz⟩,l,u,⟨b1,b3⟩,hSt⟩ rfl hlt
  have hxl:=x.2
  obtain ⟨j,hj⟩:∃ j,x.1 / 9=j:=⟨_,rfl⟩
  obtain ⟨t,htt⟩:∃ t,x.1 % 9=t:=⟨_,rfl⟩
  have hq:((x.1:Nat):Int).tdiv 9=(j:Int):=by rw [Int.tdiv_eq_ediv_of_nonneg (by omega)];omega
  have hm9:((x.1:Nat):Int).tmod 9=(t:Int):=by rw [Int.tmod_eq_emod_of_nonneg (by omega)];omega
  have hwj:IntKind.i64.wrap (j:Int)=(j:Int):=IntWalk.i64_in _ (by omega)
  have hwt:IntKind.i64.wrap (t:Int)=(t:Int):=IntWalk.i64_in _ (by omega)
  have hj0:(0:Int)≤(j:Int):=by omega
  have hj1:(j:Int) < (nl:Int):=by omega
  have hjt:((j:Int)).toNat=j:=by omega
  have hjl:j < l.length:=by rw [hSt.len];omega
  have HST:=Lib.hid (fun u1 hu=>hSt.step (u1:=u1) rfl HDG.out x hu)
  rw [hj,htt] at HST
  have hdd:dgAt r.data.toList x.1=dgAt r.data.toList x.1:=rfl
  generalize dgAt r.data.toList x.1=d at *
  clear hdd hSt hj
  by_cases h9:t=0
  ·have h9b:((t:Int) == 0)=true:=by rw [h9];rfl
   have c3:=b3.cell
   have f3:=b3.frozen
   have z3:=b3.lt
   have HST:=Lib.hid (by have h:=HST.out 1 (by rw [if_pos h9]);rwa [Int.mul_one,show IntKind.i64.wrap ((1:Int) * 10)=10 from by rw [show (1:Int) * 10=10 from rfl];exact IntWalk.i64_in _ (by omega)] at h)
   have hSu:=sameBut_setCell W (w.heap.size+3) 0 (.int .i64 1)
   have b3':=b3.set (.int .i64 1)
   clear h9 htt
   gi_wp2
   clear c3 f3 z3
   generalize W.setCell ⟨w.heap.size+3,0,none⟩ (.int .i64 1)=Wu at *
   have hBu:Below w.heap.size w Wu:=hSu.below hB (by omega)
   have b0u:=b0.but' hSu (by omega)
   have b2u:=b2.but' hSu (by omega)
   have b4u:=Boxed.but b4 hSu (by omega)
   have b1u:=b1.but hSu (by omega)
   have hzu:w.heap.size+5≤Wu.heap.size:=by rw [hSu.size];exact hz
   have hKu:KeepsFrom W0.heap.size W Wu:=keepsFrom_but hSu (by omega)
   have hPu:KpR w.heap.size (w.heap.size+4) W Wu:=⟨hSu.below (bw0 _ _) (by omega),hSu.block _ (by omega)⟩
   have hR:BoxN Wu.drew (w.heap.size+2) (.bool m) (.slice (some ⟨w.heap.size+1,0,none⟩) nl nl)∧Boxed Wu.drew (w.heap.size+3) 3 (.int .i64 1)∧BlkI Wu.drew (w.heap.size+1) l:=⟨b2u.below (bw0 _ _).drew,boxed_below b3' (bw0 _ _).drew,b1u.below (bw0 _ _).drew⟩
   refine region_I (L:=[11]) (R:=(fun w'=>BoxN w' (w.heap.size+2) (.bool m) (.slice (some ⟨w.heap.size+1,0,none⟩) nl nl)∧Boxed w' (w.heap.size+3) 3 (.int .i64 1)∧BlkI w' (w.heap.size+1) l)) 12 #[false,false,false,false,false,false,false,false,false,false,false,false] (by kernel_rfl) (by kernel_rfl) (by kernel_rfl) (fun _ _ _ _ _ h=>h) (fun Q' hQ' hN hLO=>?_)
   have hBd:=(bw0 Wu.heap.size Wu).drew
   generalize Wu.drew=wd at *
   refine tI 29 0 (hy:=by intro wq hRq;have e0:=hRq.1.c1;have e1:=hRq.2.1.cell;have e2:=hRq.2.2.cell hjl;go_simp;(try with_reducible rfl)) ?_
   refine tI 30 1 (hy:=by intro wq hRq;have e0:=hRq.1.c1;have e1:=hRq.2.1.cell;have e2:=hRq.2.2.cell hjl;go_simp;(try with_reducible rfl)) ?_
   refine tI 31 2 (hy:=by intro wq hRq;have e0:=hRq.1.c1;have e1:=hRq.2.1.cell;have e2:=hRq.2.2.cell hjl;go_simp;(try with_reducible rfl)) ?_
   refine tI 32 3 (hy:=by intro wq hRq;have e0:=hRq.1.c1;have e1:=hRq.2.1.cell;have e2:=hRq.2.2.cell hjl;go_simp;(try with_reducible rfl)) ?_
   refine tI 33 4 (hy:=by intro wq hRq;have e0:=hRq.1.c1;have e1:=hRq.2.1.cell;have e2:=hRq.2.2.cell hjl;go_simp;(try with_reducible rfl)) ?_
   refine tI 34 5 (hy:=by intro wq hRq;have e0:=hRq.1.c1;have e1:=hRq.2.1.cell;have e2:=hRq.2.2.cell hjl;go_simp;(try with_reducible rfl)) ?_
   refine tI 35 6 (hy:=by intro wq hRq;have e0:=hRq.1.c1;have e1:=hRq.2.1.cell;have e2:=hRq.2.2.cell hjl;go_simp;(try with_reducible rfl)) ?_
   refine tI 36 7 (hy:=by intro wq hRq;have e0:=hRq.1.c1;have e1:=hRq.2.1.cell;have e2:=hRq.2.2.cell hjl;go_simp;(try with_reducible rfl)) ?_
   refine tI 37 8 (hy:=by intro wq hRq;have e0:=hRq.1.c1;have e1:=hRq.2.1.cell;have e2:=hRq.2.2.cell hjl;go_simp;(try with_reducible rfl)) ?_
   refine tI 38 9 (hy:=by intro wq hRq;have e0:=hRq.1.c1;have e1:=hRq.2.1.cell;have e2:=hRq.2.2.cell hjl;go_simp;(try with_reducible rfl)) ?_
   refine tI 39 10 (hy:=by intro wq hRq;have e0:=hRq.1.c1;have e1:=hRq.2.1.cell;have e2:=hRq.2.2.cell hjl;go_simp;(try with_reducible rfl)) ?_
   refine wpAnyI_ready (rs:=[11]) (by kernel_rfl) (by simp) ?_
   refine stepFI (i:=11) rfl (by kernel_rfl) (by kernel_rfl) (fun K hK=>?_) (AllReadyI.nil)
   have f1:=hR.2.2.cell hjl
   have g1:=hR.2.2.frozen j
   go_simp
   refine after_setI hR.2.2 (fun W2 hS2 hb2=>?_)
   clear f1 g1
   refine hK.out _ _ ?_
   clear hK K
   (try simp only [Act.put,bw7,bw8,bw9])
   refine wpAnyI_done (by kernel_rfl) ?_ _
   refine hN.out _ _ ?_
   have e3:=Boxed.but hR.2.1 hS2 (by omega)
   have c3:=e3.cell
   have f3:=e3.frozen
   have z3:=e3.lt
   have b3f:=e3.set (.int .i64 10)
   have hSf:=sameBut_setCell W2 (w.heap.size+3) 0 (.int .i64 10)
   gi_wp2
   clear c3 f3 z3
   generalize W2.setCell ⟨w.heap.size+3,0,none⟩ (.int .i64 10)=Wf at *
   have hKp:KpR w.heap.size (w.heap.size+4) Wu Wf:=⟨hSf.below (hS2.below (hBd.mono hBu.size) (by omega)) (by omega),(hSf.block _ (by omega)).trans ((hS2.block _ (by omega)).trans (hBd.block _ b4u.lt))⟩
   exact ⟨hKu.trans ((keepsFrom_below hBd).trans ((keepsFrom_but hS2 (by omega)).trans (keepsFrom_but hSf (by omega)))),hPu.t hKp,⟨⟨⟨⟨((b0u.below hBd).but' hS2 (by omega)).but' hSf (by omega),(hR.1.but' hS2 (by omega)).but' hSf (by omega)⟩,Boxed.but (Boxed.but (boxed_below b4u hBd) hS2 (by omega)) hSf (by omega)⟩,hSf.below (hS2.below (hBu.trans (hBd.mono hBu.size)) (by omega)) (by omega),by rw [hSf.size,hS2.size];exact Nat.le_trans hzu hBd.size⟩,_,_,⟨hb2.but hSf (by omega),b3f⟩,HST.out⟩⟩
  ·have h9b:((t:Int) == 0)=false:=by rw [beq_eq_false_iff_ne];omega
   have HST:=HST.out u (by rw [if_neg h9])
   obtain ⟨u2,hu2⟩:∃ u2,IntKind.i64.wrap (u * 10)=u2:=⟨_,rfl⟩
   rw [hu2] at HST
   have HST:=Lib.hid HST
   clear h9 htt
   gi_wp2
   have hR:BoxN W.drew (w.heap.size+2) (.bool m) (.slice (some ⟨w.heap.size+1,0,none⟩) nl nl)∧Boxed W.drew (w.heap.size+3) 3 (.int .i64 u)∧BlkI W.drew (w.heap.size+1) l:=⟨b2.below (bw0 _ _).drew,boxed_below b3 (bw0 _ _).drew,b1.below (bw0 _ _).drew⟩
   refine region_I (L:=[11]) (R:=(fun w'=>BoxN w' (w.heap.size+2) (.bool m) (.slice (some ⟨w.heap.size+1,0,none⟩) nl nl)∧Boxed w' (w.heap.size+3) 3 (.int .i64 u)∧BlkI w' (w.heap.size+1) l)) 12 #[false,false,false,false,false,false,false,false,false,false,false,false] (by kernel_rfl) (by kernel_rfl) (by kernel_rfl) (fun _ _ _ _ _ h=>h) (fun Q' hQ' hN hLO=>?_)
   have hBd:=(bw0 W.heap.size W).drew
   generalize W.drew=wd at *
   refine tI 29 0 (hy:=by intro wq hRq;have e0:=hRq.1.c1;have e1:=hRq.2.1.cell;have e2:=hRq.2.2.cell hjl;go_simp;(try with_reducible rfl)) ?_
   refine tI 30 1 (hy:=by intro wq hRq;have e0:=hRq.1.c1;have e1:=hRq.2.1.cell;have e2:=hRq.2.2.cell hjl;go_simp;(try with_reducible rfl)) ?_
   refine tI 31 2 (hy:=by intro wq hRq;have e0:=hRq.1.c1;have e1:=hRq.2.1.cell;have e2:=hRq.2.2.cell hjl;go_simp;(try with_reducible rfl)) ?_
   refine tI 32 3 (hy:=by intro wq hRq;have e0:=hRq.1.c1;have e1:=hRq.2.1.cell;have e2:=hRq.2.2.cell hjl;go_simp;(try with_reducible rfl)) ?_
   refine tI 33 4 (hy:=by intro wq hRq;have e0:=hRq.1.c1;have e1:=hRq.2.1.cell;have e2:=hRq.2.2.cell hjl;go_simp;(try with_reducible rfl)) ?_
   refine tI 34 5 (hy:=by intro wq hRq;have e0:=hRq.1.c1;have e1:=hRq.2.1.cell;have e2:=hRq.2.2.cell hjl;go_simp;(try with_reducible rfl)) ?_
   refine tI 35 6 (hy:=by intro wq hRq;have e0:=hRq.1.c1;have e1:=hRq.2.1.cell;have e2:=hRq.2.2.cell hjl;go_simp;(try with_reducible rfl)) ?_
   refine tI 36 7 (hy:=by intro wq hRq;have e0:=hRq.1.c1;have e1:=hRq.2.1.cell;have e2:=hRq.2.2.cell hjl;go_simp;(try with_reducible rfl)) ?_
   refine tI 37 8 (hy:=by intro wq hRq;have e0:=hRq.1.c1;have e1:=hRq.2.1.cell;have e2:=hRq.2.2.cell hjl;go_simp;(try with_reducible rfl)) ?_
   refine tI 38 9 (hy:=by intro wq hRq;have e0:=hRq.1.c1;have e1:=hRq.2.1.cell;have e2:=hRq.2.2.cell hjl;go_simp;(try with_reducible rfl)) ?_
   refine tI 39 10 (hy:=by intro wq hRq;have e0:=hRq.1.c1;have e1:=hRq.2.1.cell;have e2:=hRq.2.2.cell hjl;go_simp;(try with_reducible rfl)) ?_
   refine wpAnyI_ready (rs:=[11]) (by kernel_rfl) (by simp) ?_
   refine stepFI (i:=11) rfl (by kernel_rfl) (by kernel_rfl) (fun K hK=>?_) (AllReadyI.nil)
   have f1:=hR.2.2.cell hjl
   have g1:=hR.2.2.frozen j
   go_simp
   refine after_setI hR.2.2 (fun W2 hS2 hb2=>?_)
   clear f1 g1
   refine hK.out _ _ ?_
   clear hK K
   (try simp only [Act.put,bw7,bw8,bw9])
   refine wpAnyI_done (by kernel_rfl) ?_ _
   refine hN.out _ _ ?_
   have e3:=Boxed.but hR.2.1 hS2 (by omega)
   have c3:=e3.cell
   have f3:=e3.frozen
   have z3:=e3.lt
   have b3f:=e3.set (.int .i64 u2)
   have hSf:=sameBut_setCell W2 (w.heap.size+3) 0 (.int .i64 u2)
   gi_wp2
   clear c3 f3 z3
   generalize W2.setCell ⟨w.heap.size+3,0,none⟩ (.int .i64 u2)=Wf at *
   exact ⟨(keepsFrom_below hBd).trans ((keepsFrom_but hS2 (by omega)).trans (keepsFrom_but hSf (by omega))),⟨hSf.below (hS2.below (hBd.mono hB.size) (by omega)) (by omega),(hSf.block _ (by omega)).trans ((hS2.block _ (by omega)).trans (hBd.block _ b4.lt))⟩,⟨⟨⟨⟨((b0.below hBd).but' hS2 (by omega)).but' hSf (by omega),(hR.1.but' hS2 (by omega)).but' hSf (by omega)⟩,Boxed.but (Boxed.but (boxed_below b4 hBd) hS2 (by omega)) hSf (by omega)⟩,hSf.below (hS2.below (hB.trans (hBd.mono hB.size)) (by omega)) (by omega),by rw [hSf.size,hS2.size];exact Nat.le_trans hz hBd.size⟩,_,_,⟨hb2.but hSf (by omega),b3f⟩,HST.out⟩⟩
 case done =>
  rintro D ys W hD rfl ⟨⟨⟨⟨b0,b2⟩,b4⟩,hB,hz⟩,l,u,⟨b1,b3⟩,hSt⟩ hK
  have hll:=hSt.len
  rw [hnl] at hll
  obtain ⟨hRA,_⟩:=hSt.at' r.size (Nat.le_refl _) (fst_all _).symm
  have HRA:=Lib.hid hRA
  have HTR:=Lib.hid (fun (W':World) (h:BlkI W' (w.heap.size+1) l)=>trim_ok l (some ⟨w.heap.size+1,0,none⟩) nl nl W' (by have:=h.is;rwa [hll] at this) (by omega))
  have HB1:=Lib.hid b1
  have c1:=b2.c1
  have f1:W.frozen? ⟨w.heap.size+2,1,none⟩=false:=by simp [World.frozen?,show W.heap[w.heap.size+2]?=_ from b2]
  have z2:=b2.lt
  clear hSt hRA b1 b3 b4
  gi_wp2
  refine ⟨trivial,?_⟩
  refine (callsIn_wide.2 (HTR.out _ HB1.out)).mono ?_
  rintro e wt ⟨m1,hm1,rfl,ht1,hl1,rfl⟩
  have HQ:=Lib.hid (And.intro hm1 (And.intro ht1 hl1))
  have hS5:=sameBut_setCell wt (w.heap.size+2) 1 (.slice (some ⟨w.heap.size+1,0,none⟩) m1 nl)
  have x5:=BoxN.set1 b2 (.slice (some ⟨w.heap.size+1,0,none⟩) m1 nl)
  have x0':=b0.but' hS5 (by omega)
  have e0:=x5.c0
  have e1:=x5.c1
  have r0:=x0'.c0
  have r1:=x0'.c1
  have g0:=x0'.f 0
  have g1:=x0'.f 1
  have l0:=x0'.lt
  clear hm1 ht1 hl1
  gi_wp2
  have x6:=x0'.set0 (.bool m)
  have hS6:=sameBut_setCell (wt.setCell ⟨w.heap.size+2,1,none⟩ (.slice (some ⟨w.heap.size+1,0,none⟩) m1 nl)) w.heap.size 0 (.bool m)
  have x7:=x6.set1 (.slice (some ⟨w.heap.size+1,0,none⟩) m1 nl)
  have hS7:=sameBut_setCell ((wt.setCell ⟨w.heap.size+2,1,none⟩ (.slice (some ⟨w.heap.size+1,0,none⟩) m1 nl)).setCell ⟨w.heap.size,0,none⟩ (.bool m)) w.heap.size 1 (.slice (some ⟨w.heap.size+1,0,none⟩) m1 nl)
  have xl:=((HB1.out.but hS5 (by omega)).but hS6 (by omega)).but hS7 (by omega)
  have hBB:=hS7.below (hS6.below (hS5.below hB (by omega)) (Nat.le_refl _)) (Nat.le_refl _)
  refine leaves_marks w.heap.size [D] _ (by simp) (fun E hE=>?_) (fun W' hB' hcc=>?_)
  ·obtain rfl:E=D:=by simpa using hE
   exact ⟨by omega,(hS7.block _ (by omega)).trans ((hS6.block _ (by omega)).trans ((hS5.block _ (by omega)).trans hK))⟩
  ·have q0:=cell_keeps x7.c0 hcc
   have q1:=cell_keeps x7.c1 hcc
   have ld:(loadVar 151 ⟨w.heap.size,0,none⟩).run Tryz.prog W'=.ok (.agg #[.bool m,.slice (some ⟨w.heap.size+1,0,none⟩) m1 nl]) W':=by simp [go_sem,q0,q1]
   have hbl:BlkI W' (w.heap.size+1) l:=hcc _ _ xl rfl
   obtain ⟨hm1,ht1,hl1⟩:=HQ.out
   have hval:val l=(x.natAbs:Int):=by
    have h1:=HRA.out.fin
    rw [HDV.out] at h1
    exact h1
   refine ⟨_,results_cell1 Tryz.results130 rfl ld,_,rfl,⟨m,_,l.take m1,x.natAbs,rfl,hbl.isTake hm1 hll,⟨fun i=>by rw [hl1];exact HRA.out.digs i,ht1,(val_of_lim hl1).trans hval⟩,HM.out.symm,?_⟩,hBB.trans hB'⟩
   rw [List.length_take,hll]
   omega
 case stop =>
  rintro D c pre W _ _ h _
  exact h.elim
end Go.Proofs.YteepphiomcedfaaGreatDoor
namespace Go.Proofs.YteepphiomcedfaaGreatDoor
open Go.RowKit Go.Shelf
theorem itoa_sgn {m:Bool} {n:Int} (h:0 < n):Lib.itoa (sgnV m n)=(if m then [45] else [])++Lib.decDigits n.natAbs:=by
 cases m
 ·rcases itoa_cases n with ⟨h0,_⟩|⟨_,e⟩
  ·omega
  ·exact e
 ·show Lib.itoa (-n)=[45]++_
  rcases itoa_cases (-n) with ⟨_,e⟩|⟨h0,_⟩
  ·rw [e,Int.natAbs_neg];rfl
  ·omega
theorem write_none (m:Bool) (a:Option Addr) (cap:Nat) (w:World) :
  Calls Tryz.prog 186 #[.agg #[.bool m,.slice a 0 cap]] w (RetS [48] w):=by
 go_enter Tryz.func186,Tryz.ntmps186
 go_wp2_with fail
 go_ret
 exact ⟨⟨#[48]⟩,rfl,rfl,qbl⟩
theorem writeL_ok {z:Int} {k:Nat} (v:Value) (w:World) (hG:Glo w) (h:IsBig w v z k) (hk:k≤900):Calls Tryz.prog 186 #[v] w (RetS (Lib.itoa z) w):=by
 obtain ⟨m,u,l,n,rfl,hi,hn,rfl,hl⟩:=h
 by_cases h0:l.length=0
 ·obtain ⟨a,cap,rfl⟩:=hi.slice
  have hz:n=0:=hn.zero.1 h0
  rw [h0]
  have e:Lib.itoa (sgnV m n)=[48]:=by rw [hz];cases m<;>exact itoa_zero
  rw [e]
  exact write_none m a cap w
 ·have hp:0 < n:=by
   have h1:=hn.low h0
   have h2:=pw_pos (l.length - 1)
   omega
  rw [itoa_sgn hp]
  cases m
  ·exact write_plus u w hG hi hn (by omega) h0
  ·exact write_minus u w hG hi hn (by omega) h0
def Fit (n:Int):Prop:=(Lib.decDigits n.natAbs).length≤300
def RetX (z:Int) (w:World) (e:Ending) (w':World):Prop:=(Fit z→RetI z w e w')∧(¬ Fit z→e=.returned (.tuple #[.string ⟨#[]⟩,.int .i64 4])∧Below w.heap.size w w')
theorem result_ok {z:Int} {k:Nat} (v:Value) (w:World) (hG:Glo w) (h:IsBig w v z k) (hk:k≤900):Calls Tryz.prog 128 #[v] w (RetX z w):=by
 have HW:=Lib.hid (fun W (hB:Below w.heap.size w W)=>writeL_ok v W (hG.below hB) (h.below hB) hk)
 have HT:=Lib.hid (fun (s:ByteArray) (W:World) (hs:s.data.toList=Lib.itoa z)=>trimPrefix_any s ⟨#[45]⟩ W (a:=Lib.decDigits z.natAbs) (by rw [hs];exact (trim_itoa z).1))
 obtain ⟨m,u,l,n,rfl,hi,hn,hz,hl⟩:=h
 obtain ⟨a,cap,rfl⟩:=hi.slice
 clear hi hn hz hG
 go_enter Tryz.func128,Tryz.ntmps128
 go_wp2_with fail
 refine (HW.out _ qbl).mono ?_
 rintro e w1 ⟨s,hs,rfl,hB1⟩
 have HS:=Lib.hid hs
 have hb1:Below w.heap.size w w1:=qbl
 clear hs hB1
 go_wp2_with fail
 refine (HT.out s _ HS.out).mono ?_
 rintro e w2 ⟨o,ho,rfl,rfl⟩
 have hol:o.size=(Lib.decDigits z.natAbs).length:=by rw [← ho.out];rfl
 by_cases hf:Fit z
 ·have hle:¬ (300:Int) < (o.size:Int):=by unfold Fit at hf;omega
  clear ho hol
  go_wp2_with fail
  go_ret2
  exact ⟨fun _=>⟨s,HS.out,rfl,hb1⟩,fun h=>absurd hf h⟩
 ·have hle:(300:Int) < (o.size:Int):=by unfold Fit at hf;omega
  clear ho hol
  go_wp2_with fail
  go_ret2
  exact ⟨fun h=>absurd h hf,fun _=>⟨rfl,hb1⟩⟩
theorem small_long (s t:ByteArray) (w:World) (h:18 < s.size∨18 < t.size) :
  Calls Tryz.prog 127 #[.string s,.string t,.int .i64 18] w (RetB (.tuple #[.int .i64 0,.int .i64 0,.bool false]) w):=by
 by_cases h1:18 < s.size
 ·have h2:(18:Int) < (s.size:Int):=by omega
  go_enter Tryz.func127,Tryz.ntmps127
  go_wp2_with fail
  go_ret3
  exact ⟨rfl,qbl⟩
 ·have h2:¬ (18:Int) < (s.size:Int):=by omega
  have h3:(18:Int) < (t.size:Int):=by omega
  go_enter Tryz.func127,Tryz.ntmps127
  go_wp2_with fail
  go_ret3
  exact ⟨rfl,qbl⟩
end Go.Proofs.YteepphiomcedfaaGreatDoor
namespace Go.Proofs.YteepphiomcedfaaGreatDoor
theorem natInt_big {n:Nat} {r:List UInt8} (h:100000000≤n) (hr:r=[]∨∃ c t,r=c::t∧isDig c=false):natInt (Lib.decDigits n++r)=none:=by
 have e:=nDig_append (decDigits_isDig n) hr
 have l8:8 < (Lib.decDigits n).length:=by
  refine Decidable.byContradiction fun hc=>?_
  have:=pow_le_of_lt (n:=n) (k:=8) (by omega)
  omega
 unfold natInt
 rw [e,if_pos (Or.inr (Or.inl l8))]
theorem natOf_big {q:Rat} (h:¬ Small q):natOf (ratText q)=none:=by
 have hown:∀ r:List UInt8,Lib.decDigits q.num.natAbs++r=if (Lib.itoa q.num++r).head?=some 45 then (Lib.itoa q.num++r).tail else Lib.itoa q.num++r:=by
  intro r
  rcases itoa_cases q.num with ⟨h0,e⟩|⟨h0,e⟩
  ·rw [e];simp
  ·rw [e,if_neg (decDigits_no45 _ _)]
 have hh:∀ (n:Nat) (r:List UInt8),natOf (Lib.itoa q.num++r)=match natInt (Lib.decDigits q.num.natAbs++r) with
  | none=>none
  | some (n,rest) =>
   if (Lib.itoa q.num++r).head?=some 45∧n=0 then none else
   if rest=[] then some (if (Lib.itoa q.num++r).head?=some 45 then -(n:Int) else n,1) else
   if rest.head?≠some 47 then none else
   match natInt rest.tail with
   | none=>none
   | some (d,r')=>if r'≠[]∨d < 2∨Nat.gcd n d≠1 then none else some (if (Lib.itoa q.num++r).head?=some 45 then -(n:Int) else n,d):=fun _ r=>natOf_own (hown r)
 unfold ratText
 by_cases hn:q.num.natAbs < 100000000
 ·have hd:100000000≤q.den:=by
   refine Decidable.byContradiction fun hc=>h ⟨hn,by omega⟩
  rw [if_neg (by omega),hh 0,natInt_decDigits hn (Or.inr ⟨_,_,rfl,by decide⟩)]
  have hb:=natInt_big (r:=[]) hd (Or.inl rfl)
  rw [List.append_nil] at hb
  simp only [List.head?_cons,List.tail_cons,hb]
  rw [if_neg (by simp:¬ (47::Lib.decDigits q.den=[])),if_neg (by simp:¬ (some (47:UInt8)≠some 47))]
  split<;>rfl
 ·split
  ·have h2:=hh 0 []
   rw [List.append_nil,List.append_nil] at h2
   have hb:=natInt_big (n:=q.num.natAbs) (r:=[]) (by omega) (Or.inl rfl)
   rw [List.append_nil] at hb
   rw [h2,hb]
  ·rw [hh 0,natInt_big (by omega) (Or.inr ⟨_,_,rfl,by decide⟩)]
end Go.Proofs.YteepphiomcedfaaGreatDoor
