/- Joined texts: W6i, W6j, W6k, W6l, W6m, W6n. -/
import Derived.Test.YteepphiomcedfaaGreatDoorJ22
import Derived.Test.YteepphiomcedfaaGreatDoorJ15
import Derived.Test.YteepphiomcedfaaGreatDoorJ20
set_option maxRecDepth 100000
set_option linter.unusedVariables false
set_option linter.unusedSimpArgs false
set_option maxHeartbeats 6400000
namespace Go.Proofs.YteepphiomcedfaaGreatDoor.R6
open Go.RowKit Go.Shelf
theorem neg_text {x:Int} (h:x < 0):Lib.itoa x=45::Lib.decDigits x.natAbs:=by
 rcases itoa_cases x with ⟨_,e⟩|⟨h',_⟩
 ·exact e
 ·omega
theorem pos_text {x:Int} (h:0≤x):Lib.itoa x=Lib.decDigits x.natAbs:=by
 rcases itoa_cases x with ⟨h',_⟩|⟨_,e⟩
 ·omega
 ·exact e
theorem neg_size {s:ByteArray} {n:Nat} (hs:s.data.toList=45::Lib.decDigits n):s.size=(Lib.decDigits n).length+1:=by
 have e:s.size=s.data.toList.length:=rfl
 rw [e,hs];rfl
theorem neg_at {s:ByteArray} {n k:Nat} (hs:s.data.toList=45::Lib.decDigits n) (h1:1≤k) (hk:k < s.size):∃ h:k - 1 < (Lib.decDigits n).length,s[k]=(Lib.decDigits n)[k - 1]:=by
 have hz:=neg_size hs
 refine ⟨by omega,?_⟩
 have e:s[k]=s.data.toList[k]'hk:=rfl
 rw [e]
 obtain ⟨j,rfl⟩:∃ j,k=j+1:=⟨k - 1,by omega⟩
 simp only [hs]
 simp
theorem neg_zero {s:ByteArray} {n:Nat} (hs:s.data.toList=45::Lib.decDigits n) (h0:0 < s.size):((s[0].toNat:Int) == 45)=true:=by
 have e:s[0]=s.data.toList[0]'h0:=rfl
 rw [e]
 simp only [hs]
 rfl
theorem neg_dig {s:ByteArray} {n k:Nat} (hs:s.data.toList=45::Lib.decDigits n) (h1:1≤k) (hk:k < s.size):(48:Int)≤(s[k].toNat:Int)∧(s[k].toNat:Int)≤57:=by
 obtain ⟨h,e⟩:=neg_at hs h1 hk
 have:=(isDig_iff _).1 (decDigits_isDig n _ (List.getElem_mem h))
 rw [e]
 omega
theorem neg_lead {s:ByteArray} {n:Nat} (hs:s.data.toList=45::Lib.decDigits n) (hn:0 < n) (h1:1 < s.size):((s[1].toNat:Int) == 48)=false:=by
 obtain ⟨h,e⟩:=neg_at hs (Nat.le_refl 1) h1
 rw [e,beq_eq_false_iff_ne]
 intro h2
 refine decDigits_head' hn ?_
 rw [List.head?_eq_getElem?,List.getElem?_eq_getElem (by simpa using h)]
 congr 1
 apply UInt8.toNat_inj.1
 show _=48
 simpa using (by omega:(((Lib.decDigits n)[1 - 1]).toNat)=48)
theorem check6_neg {n:Nat} (s:ByteArray) (w:World) (hs:s.data.toList=45::Lib.decDigits n) (hn:0 < n) (hl:s.size≤301):Calls Tryz.prog 230 #[.string s] w fun e w'=>e=.returned (.int .i64 0)∧w'=w:=by
 have hz:=neg_size hs
 have hd:1≤(Lib.decDigits n).length:=List.length_pos_iff.2 (decDigits_ne n)
 have h0:(0:Int) < (s.size:Int):=by omega
 have hz1:((1:Int) == (s.size:Int))=false:=by rw [beq_eq_false_iff_ne];omega
 have h0N:0 < s.size:=by omega
 have h1N:1 < s.size:=by omega
 have h45:=neg_zero hs h0N
 have h48:=neg_lead hs hn h1N
 have HS:=Lib.hid (fun k h1 hk=>neg_dig (k:=k) hs h1 hk)
 have h1I:(1:Int) < (s.size:Int):=by omega
 have hw0:IntKind.i64.wrap ((s.size:Int) - 1)=(s.size:Int) - 1:=IntWalk.i64_in _ (by omega)
 have hl2:¬ (300:Int) < (s.size:Int) - 1:=by omega
 clear hs hd hz
 go_enter Tryz.func230,Tryz.ntmps230
 go_wp2_with fail
 go_loopw [4] (fun i wr=>∃ k:Nat,1≤k∧k≤s.size∧i=.int .i64 k∧wr=w) (fun i _=>s.size - (intOf i).toNat)
 case atStart=>exact ⟨1,by omega,by omega,rfl,rfl⟩
 case round =>
  obtain ⟨k,hk1,hk,rfl,hwr⟩:=hrel
  subst wr
  by_cases hlt:k < s.size
  ·obtain ⟨d1,d2⟩:=HS.out k hk1 hlt
   go_wp2_with fail
   go_roundw
   case rel=>exact ⟨k+1,by omega,by omega,by go_num,by trivial⟩
   case measure=>simp [intOf];omega
  ·go_wp2_with fail
   go_ret
   exact ⟨rfl,rfl⟩
def Fits (k:Nat) (x:Int):Prop:=(Lib.decDigits x.natAbs).length≤k
theorem fits_size {s:ByteArray} {x:Int} {k:Nat} (hs:s.data.toList=Lib.itoa x) (h:Fits k x):s.size≤k+1:=by
 have e:s.size=s.data.toList.length:=rfl
 unfold Fits at h
 rcases itoa_cases x with ⟨_,e'⟩|⟨_,e'⟩<;>rw [e,hs,e']<;>simp<;>omega
theorem check6s (s:ByteArray) {x:Int} (w:World) (hs:s.data.toList=Lib.itoa x) (hx:Fits 300 x):Calls Tryz.prog 230 #[.string s] w fun e w'=>e=.returned (.int .i64 0)∧w'=w:=by
 unfold Fits at hx
 rcases itoa_cases x with ⟨h,e⟩|⟨_,e⟩
 ·have hs':=hs.trans e
  exact check6_neg s w hs' (by omega) (by rw [neg_size hs'];omega)
 ·have hs':=hs.trans e
  exact check6_ok s w hs' (by have e2:s.size=s.data.toList.length:=rfl;rw [e2,hs'];exact hx)
theorem both6s {x y:Int} (s t:ByteArray) (w:World) (hs:s.data.toList=Lib.itoa x) (hx:Fits 300 x) (ht:t.data.toList=Lib.itoa y) (hy:Fits 300 y):Calls Tryz.prog 176 #[.string s,.string t] w fun e w'=>e=.returned (.int .i64 0)∧w'=w:=by
 have H1:=Lib.hid (fun W=>check6s s W hs hx)
 have H2:=Lib.hid (fun W=>check6s t W ht hy)
 clear hs ht
 go_enter Tryz.func176,Tryz.ntmps176
 go_wp2_with fail
 refine (H1.out _).mono ?_
 rintro e w1 ⟨rfl,rfl⟩
 go_wp2_with fail
 refine (H2.out _).mono ?_
 rintro e w2 ⟨rfl,rfl⟩
 go_wp2_with fail
 go_ret
 exact ⟨rfl,rfl⟩
theorem neg_val_lt {n j:Nat} (hj:j≤(Lib.decDigits n).length):dval ((Lib.decDigits n).take j) < 10 ^ j:=dval_take_lt _ j (by
 have e:=nDig_append (l:=Lib.decDigits n) (r:=[]) (decDigits_isDig n) (Or.inl rfl)
 rw [List.append_nil] at e
 rw [e];exact hj)
theorem small6_neg {n:Nat} (s:ByteArray) (w:World) (hs:s.data.toList=45::Lib.decDigits n) (hl:s.size≤17):Calls Tryz.prog 231 #[.string s] w fun e w'=>e=.returned (.tuple #[.int .i64 (-(n:Int)),.bool true])∧w'=w:=by
 have hz:=neg_size hs
 have hd:1≤(Lib.decDigits n).length:=List.length_pos_iff.2 (decDigits_ne n)
 have h0:(0:Int) < (s.size:Int):=by omega
 have h0N:0 < s.size:=by omega
 have h45:=neg_zero hs h0N
 have h45n:((s[0].toNat:Int) != 45)=false:=by simp only [bne,h45];rfl
 have HS:=Lib.hid (fun k h1 hk=>neg_dig (k:=k) hs h1 hk)
 have HA:=Lib.hid (fun k h1 hk=>neg_at (k:=k) hs h1 hk)
 have HV:=Lib.hid (show dval ((Lib.decDigits n).take (s.size - 1))=n by rw [List.take_of_length_le (by omega),dval_decDigits])
 have HB:=Lib.hid (fun j (hj:j≤s.size - 1)=>(show dval ((Lib.decDigits n).take j) < 10 ^ 17 from Nat.lt_of_lt_of_le (neg_val_lt (by omega)) (Nat.pow_le_pow_right (by omega) (by omega))))
 have hl2:¬ (17:Int) < (s.size:Int):=by omega
 have hnb:(n:Int)≤100000000000000000:=by have:=HB.out (s.size - 1) (Nat.le_refl _);rw [HV.out] at this;omega
 have hwn:IntKind.i64.wrap (-(n:Int))=-(n:Int):=IntWalk.i64_in _ (by omega)
 generalize hL:Lib.decDigits n=L at *
 clear hs hL
 go_enter Tryz.func231,Tryz.ntmps231
 go_wp2_with fail
 go_loopw [4,5] (fun n i wr=>∃ k:Nat,k≤s.size∧i=.int .i64 k∧n=.int .i64 (dval (L.take (k - 1)):Nat)∧wr=w) (fun _ i _=>s.size - (intOf i).toNat)
 case atStart=>exact ⟨0,by omega,rfl,rfl,rfl⟩
 case round =>
  obtain ⟨k,hk,rfl,rfl,hwr⟩:=hrel
  subst wr
  by_cases hlt:k < s.size
  ·by_cases hk0:k=0
   ·subst hk0
    go_wp2_with fail
    go_roundw
    case rel=>exact ⟨1,by omega,by go_num,rfl,by trivial⟩
    case measure=>simp [intOf];omega
   ·obtain ⟨d1,d2⟩:=HS.out k (by omega) hlt
    have hne:((s[k].toNat:Int) != 45)=true:=by simp;omega
    have hv:=HB.out (k - 1) (by omega)
    have hv8:(dval (L.take (k - 1)):Int)≤100000000000000000:=by omega
    obtain ⟨ha,hae⟩:=HA.out k (by omega) hlt
    have HVS:=Lib.hid (show dval (L.take (k+1 - 1))=10 * dval (L.take (k - 1))+(s[k].toNat - 48) by
     rw [show k+1 - 1=(k - 1)+1 by omega,List.take_succ_eq_append_getElem ha,dval_snoc,hae])
    clear hv hae ha
    go_wp2_with fail
    go_roundw
    case rel=>exact ⟨k+1,by omega,by go_num,ret_i64 (by rw [HVS.out];omega),by trivial⟩
    case measure=>simp [intOf];omega
  ·have e:k=s.size:=by omega
   subst e
   rw [HV.out]
   go_wp2_with fail
   go_ret2
   exact ⟨rfl,rfl⟩
theorem small6s {x:Int} (s:ByteArray) (w:World) (hs:s.data.toList=Lib.itoa x) (hl:s.size≤17):Calls Tryz.prog 231 #[.string s] w fun e w'=>e=.returned (.tuple #[.int .i64 x,.bool true])∧w'=w:=by
 rcases itoa_cases x with ⟨h,e⟩|⟨h,e⟩
 ·have:=small6_neg s w (hs.trans e) hl
  rwa [show -((x.natAbs:Nat):Int)=x by omega] at this
 ·have:=small6_ok s w (hs.trans e) hl
  rwa [show ((x.natAbs:Nat):Int)=x by omega] at this
theorem two6s {x y:Int} (s t:ByteArray) (w:World) (hs:s.data.toList=Lib.itoa x) (hl:s.size≤17) (ht:t.data.toList=Lib.itoa y) (hm:t.size≤17):Calls Tryz.prog 177 #[.string s,.string t] w fun e w'=>e=.returned (.tuple #[.int .i64 x,.int .i64 y,.bool true])∧w'=w:=by
 have H1:=Lib.hid (fun W=>small6s s W hs hl)
 have H2:=Lib.hid (fun W=>small6s t W ht hm)
 clear hs ht
 go_enter Tryz.func177,Tryz.ntmps177
 go_wp2_with fail
 refine (H1.out _).mono ?_
 rintro e w1 ⟨rfl,rfl⟩
 go_wp2_with fail
 refine (H2.out _).mono ?_
 rintro e w2 ⟨rfl,rfl⟩
 go_wp2_with fail
 go_ret3
 exact ⟨rfl,rfl⟩
theorem two6s_long {x:Int} (s t:ByteArray) (w:World) (hs:s.data.toList=Lib.itoa x) (h:¬ (s.size≤17∧t.size≤17)):Calls Tryz.prog 177 #[.string s,.string t] w fun e w'=>(∃ a b:Int,e=.returned (.tuple #[.int .i64 a,.int .i64 b,.bool false]))∧w'=w:=by
 by_cases h1:s.size≤17
 ·have H1:=Lib.hid (fun W=>small6s s W hs h1)
  have H2:=Lib.hid (fun W=>small6_long t W (by omega))
  clear hs
  go_enter Tryz.func177,Tryz.ntmps177
  go_wp2_with fail
  refine (H1.out _).mono ?_
  rintro e w1 ⟨rfl,rfl⟩
  go_wp2_with fail
  refine (H2.out _).mono ?_
  rintro e w2 ⟨rfl,rfl⟩
  go_wp2_with fail
  go_ret3
  exact ⟨⟨_,0,rfl⟩,rfl⟩
 ·have H1:=Lib.hid (fun W=>small6_long s W (by omega))
  clear hs
  go_enter Tryz.func177,Tryz.ntmps177
  go_wp2_with fail
  refine (H1.out _).mono ?_
  rintro e w1 ⟨rfl,rfl⟩
  go_wp2_with fail
  go_ret3
  exact ⟨⟨0,0,rfl⟩,rfl⟩
end Go.Proofs.YteepphiomcedfaaGreatDoor.R6
namespace Go.Proofs.YteepphiomcedfaaGreatDoor.R6
open Go.RowKit Go.Shelf
def IsBigG (b:Bool) (w:World) (v:Value) (n:Int) (k:Nat):Prop:=∃ (a:Option Addr) (l:List Int) (c:Nat),v=.agg #[.bool b,.slice a l.length c]∧IsInts w (.slice a l.length c) l∧Num l n∧l.length≤k
theorem read6_neg {n:Nat} (s0:ByteArray) (w:World) (hs0:s0.data.toList=45::Lib.decDigits n) (hl0:s0.size≤400) :
  Calls Tryz.prog 178 #[.string s0] w fun e w'=>∃ v,e=.returned v∧IsBigG true w' v n ((s0.size+4) / 6)∧Below w.heap.size w w':=by
 obtain ⟨i0,hi0,hz0,hz1,hz2⟩:=info_parts Tryz.infoInt
 have z0:=neg_size hs0
 have h0N:0 < s0.size:=by omega
 have h0I:(0:Int) < (s0.size:Int):=by omega
 have h45:=neg_zero hs0 h0N
 obtain ⟨s,hsE⟩:∃ s,s0.extract 1 s0.size=s:=⟨_,rfl⟩
 have hs:s.data.toList=Lib.decDigits n:=by rw [← hsE,extract_drop,hs0];rfl
 have hsz:s0.size=s.size+1:=by
  have e:s.size=s.data.toList.length:=rfl
  rw [e,hs];exact z0
 have hl:s.size≤400:=by omega
 have z1:=dec_pos hs
 have h0:(0:Int) < (s.size:Int):=by omega
 rw [show s0.size+4=s.size+5 by omega]
 clear z0 hs0
 have HS:=Lib.hid (fun k hk=>dec_dig (k:=k) hs hk)
 have HND:Hid (nDig s.data.toList=s.data.toList.length):=Lib.hid (by
  have e:=nDig_append (l:=Lib.decDigits n) (r:=[]) (decDigits_isDig n) (Or.inl rfl)
  rw [List.append_nil,← hs] at e
  exact e)
 have HDV:=Lib.hid (show dval s.data.toList=n by rw [hs,dval_decDigits])
 clear hs hsz hl0
 go_enter Tryz.func178,Tryz.ntmps178
 go_wp2_with fail
 have hb0:Below w.heap.size w ((w.alloc (.cells #[.bool false,.slice none 0 0] 181)).alloc (.cells #[.bool true,.slice none 0 0] 181)):=qbl
 have x0:BoxB ((w.alloc (.cells #[.bool false,.slice none 0 0] 181)).alloc (.cells #[.bool true,.slice none 0 0] 181)) w.heap.size (.bool false) (.slice none 0 0):=(BoxB.new rfl).below (bw4 (bw0 _ _) _)
 have x1:BoxB ((w.alloc (.cells #[.bool false,.slice none 0 0] 181)).alloc (.cells #[.bool true,.slice none 0 0] 181)) (w.heap.size+1) (.bool true) (.slice none 0 0):=BoxB.new (by simp)
 generalize ((w.alloc (.cells #[.bool false,.slice none 0 0] 181)).alloc (.cells #[.bool true,.slice none 0 0] 181))=W0 at *
 go_loopw [4] (fun en wr=>∃ (k:Nat) (e:Int) (l:List Int) (sa:Option Addr) (sc:Nat),en=.int .i64 e∧Hid (e=(s.size:Int) - 6 * k)∧6 * k≤s.size+5∧Hid (GroupAt s.data.toList k l)∧BoxB wr w.heap.size (.bool false) (.slice none 0 0)∧BoxB wr (w.heap.size+1) (.bool true) (.slice sa k sc)∧Hid (OwnInts wr (w.heap.size+2) (.slice sa k sc) l)∧Below w.heap.size w wr) (fun en _=>(intOf en+6).toNat)
 case atStart=>exact ⟨0,_,[],none,0,rfl,Lib.hid (by omega),by omega,Lib.hid (GroupAt.start _),x0,x1,Lib.hid (World.ownsRow_nil _ _ _ _),hb0⟩
 case round =>
  clear x0 x1 hb0
  obtain ⟨k,e,l,sa,sc,rfl,HE,hk,HGA,x0,x1,HO,hB⟩:=hrel
  by_cases hgo:0 < e
  ·obtain ⟨E,rfl⟩:∃ E:Nat,e=E:=⟨e.toNat,by omega⟩
   have hE:=HE.out
   obtain ⟨st,hst⟩:∃ st:Nat,E - 6=st:=⟨_,rfl⟩
   have hst1:st≤E:=by omega
   have hE1:E≤s.size:=by omega
   have HEN:Hid (E=s.size - 6 * k∧st=s.size - 6 * k - 6):=Lib.hid (by omega)
   have hw1:IntKind.i64.wrap ((E:Int) - 6)=(E:Int) - 6:=IntWalk.i64_in _ (by omega)
   have hmx:max (0:Int) ((E:Int) - 6)=(st:Int):=by omega
   obtain ⟨hg0,hgs⟩:=HGA.out.step (show 6 * k < s.size by omega) HND.out
   have HG1:=Lib.hid hg0
   have HGS:=Lib.hid hgs
   have hll:=HGA.out.len
   have HXO:=Lib.hid (And.intro x0 x1)
   have hzb:=x1.lt
   have HBL:=Lib.hid hB
   clear hE hst hg0 hgs x0 x1 hB
   go_wp2_with fail
   go_loopw [5,6] (fun m i wx=>∃ j:Nat,st≤j∧j≤E∧i=.int .i64 j∧m=.int .i64 (dval ((s.data.toList.drop st).take (j - st)):Nat)∧wx=wr) (fun _ i _=>E - (intOf i).toNat)
   case atStart=>exact ⟨st,by omega,hst1,rfl,by rw [Nat.sub_self];rfl,rfl⟩
   case round =>
    obtain ⟨j,hj1,hj2,rfl,rfl,hwr⟩:=hrel
    subst hwr
    by_cases hlt:j < E
    ·obtain ⟨d1,d2⟩:=HS.out j (by omega)
     have hv:(dval ((s.data.toList.drop st).take (j - st)):Int)≤999999:=by
      have h1:=dval_take_lt (s.data.toList.drop st) (j - st) (by
       have hall:∀ c ∈ s.data.toList,isDig c=true:=by
        have h1:=takeWhile_all s.data.toList
        have h2:s.data.toList.takeWhile isDig=s.data.toList:=List.IsPrefix.eq_of_length (List.takeWhile_prefix _) HND.out
        rwa [h2] at h1
       have h3:=nDig_append (l:=s.data.toList.drop st) (r:=[]) (fun c hc=>hall c (List.mem_of_mem_drop hc)) (Or.inl rfl)
       rw [List.append_nil] at h3
       rw [h3,List.length_drop]
       have:s.data.toList.length=s.size:=rfl
       omega)
      have h2:(10:Nat) ^ (j - st)≤10 ^ 6:=Nat.pow_le_pow_right (by omega) (by have:=HEN.out;omega)
      omega
     have hjs:j < s.size:=by omega
     have HVS:=Lib.hid (dval_snoc ((s.data.toList.drop st).take (j - st)) s[j])
     have HTK:Hid ((s.data.toList.drop st).take (j+1 - st)=(s.data.toList.drop st).take (j - st)++[s[j]]):=Lib.hid (by
      rw [show j+1 - st=(j - st)+1 by omega]
      have hlen:j - st < (s.data.toList.drop st).length:=by rw [List.length_drop];have:s.data.toList.length=s.size:=rfl;omega
      rw [List.take_succ_eq_append_getElem hlen,List.getElem_drop]
      congr 2
      have e9:st+(j - st)=j:=by omega
      simp only [e9]
      rfl)
     have hjI:(j:Int) < (E:Int):=by omega
     go_wp2_with fail
     go_roundw
     case rel=>exact ⟨j+1,by omega,by omega,by go_num,ret_i64 (by rw [HTK.out,HVS.out];omega),by trivial⟩
     case measure=>simp [intOf];omega
    ·obtain rfl:j=E:=by omega
     have hjI:¬ (j:Int) < (j:Int):=by omega
     obtain ⟨gv,hgv⟩:∃ gv:Nat,dval ((s.data.toList.drop st).take (j - st))=gv:=⟨_,rfl⟩
     have HGS2:Hid (GroupAt s.data.toList (k+1) (l++[(gv:Int)])):=Lib.hid (by
      have:=HGS.out
      rw [show s.data.toList.length - 6 * k - 6=st from HEN.out.2.symm,show s.data.toList.length - 6 * k=j from HEN.out.1.symm,hgv] at this
      exact this)
     rw [hgv]
     have c1:=HXO.out.2.c1
     have HR:Hid (wr.ownsRow (w.heap.size+2) 3 1 (.slice sa k sc) k (intVs l)):=Lib.hid (by have:=HO.out;unfold OwnInts at this;rwa [hll] at this)
     have M1:=Lib.hid (show k+1≤maxLen by unfold maxLen;omega)
     have M2:=Lib.hid (show (k+1) * 8≤140737488355328 by omega)
     have N4:=Lib.hid (fun (o:Obj) (W':World) (h:(wr.alloc o).grownBy W' (Value.slice sa k sc).ownBlock)=>Below.grown ((bw0 (w.heap.size+2) wr).alloc (by omega) o) h (by simp;omega) (fun p hp=>by
      obtain ⟨_,_,e,hge⟩:=row_shape1 HR.out
      injection e with e1 e2 e3
      subst e1 e3
      exact hge p hp))
     have hw6:IntKind.i64.wrap ((j:Int) - 6)=(j:Int) - 6:=IntWalk.i64_in _ (by omega)
     clear hgv HGS HO
     go_wp2_with (at_builtin;refine wpList_append_own _ rfl _ _ 51 rfl (w.heap.size+2) 3 i0 (.int .i64 0) 1 8 Tryz.underlying51 hi0 hz0 hz1 hz2 rfl (by decide) _ _ _ rfl (HR.out.alloc _) ⟨_,0,none⟩ 1 1 [.int .i64 gv] rfl rfl (cell_one_new _ _ _) (by simp [Value.oneCell']) M1.out M2.out (by simp;omega) ?_;intro v' w4 hown0 hgrow hnil;have hb4:=Lib.hid (N4.out _ _ hgrow);obtain ⟨sg',sc',rfl,hge'⟩:=row_some hown0 (fun h=>by have h9:=(hnil.1 h).2;cases h9);have HOW:=Lib.hid hown0;have x1':BoxB w4 (w.heap.size+1) (.bool true) (.slice sa k sc):=((hb4.out.block _ (by omega)).trans HXO.out.2);have x0':BoxB w4 w.heap.size (.bool false) (.slice none 0 0):=((hb4.out.block _ (by omega)).trans HXO.out.1);have q1:=x1'.c1;have qf:=x1'.f 1;have ql:=x1'.lt;clear hown0 hgrow hnil)
     have hSb:=sameBut_setCell w4 (w.heap.size+1) 1 (.slice (some ⟨sg',0,none⟩) (k+1) sc')
     have y1:=x1'.set1 (.slice (some ⟨sg',0,none⟩) (k+1) sc')
     have y0:=x0'.but hSb (by omega)
     have HOF:Hid (OwnInts (w4.setCell ⟨w.heap.size+1,1,none⟩ (.slice (some ⟨sg',0,none⟩) (k+1) sc')) (w.heap.size+2) (.slice (some ⟨sg',0,none⟩) (k+1) sc') (l++[(gv:Int)])):=Lib.hid (by
      have h:OwnInts w4 (w.heap.size+2) (.slice (some ⟨sg',0,none⟩) (k+1) sc') (l++[(gv:Int)]):=by
       have h:=HOW.out
       unfold OwnInts
       rw [← intVs_snoc,show (l++[(gv:Int)]).length=k+1 by rw [List.length_append,hll];rfl]
       exact h
      exact OwnInts.but h hSb (by omega))
     have hB9:Below w.heap.size w (w4.setCell ⟨w.heap.size+1,1,none⟩ (.slice (some ⟨sg',0,none⟩) (k+1) sc')):=hSb.below (HBL.out.trans (hb4.out.mono (by omega))) (by omega)
     have HE2:Hid ((j:Int) - 6=(s.size:Int) - 6 * ((k+1:Nat):Int)):=Lib.hid (by have:=HE.out;omega)
     go_roundw
     case rel=>exact ⟨k+1,(j:Int) - 6,_,_,_,rfl,HE2,by have:=HEN.out;omega,HGS2,y0,y1,HOF,hB9⟩
     case measure=>simp [intOf];omega
  ·have hE:=HE.out
   have hll:=HGA.out.len
   have c1:=x1.c1
   have f1:=x1.f 1
   have lx:=x1.lt
   have HT:=Lib.hid (trim6_ok l sa k sc wr (by have:=HO.out.is;exact this) (by omega))
   have HX:=Lib.hid (And.intro x0 x1)
   have HBR:=Lib.hid hB
   have HK:Hid (s.size≤6 * k):=Lib.hid (by omega)
   clear hE x0 x1 hB
   go_wp2_with fail
   refine HT.out.mono ?_
   rintro e w1 ⟨m1,hm1,rfl,ht1,hl1,rfl⟩
   have HQ:=Lib.hid (And.intro hm1 (And.intro ht1 hl1))
   have hS5:=sameBut_setCell w1 (w.heap.size+1) 1 (.slice sa m1 sc)
   have x5:=HX.out.2.set1 (.slice sa m1 sc)
   have x6:=HX.out.1.but hS5 (by omega)
   have e0:=x5.c0
   have e1:=x5.c1
   have r0:=x6.c0
   have r1:=x6.c1
   have g0:=x6.f 0
   have g1:=x6.f 1
   have l0:=x6.lt
   clear hm1 ht1 hl1
   go_wp2_with fail
   have x7:=x6.set0 (.bool true)
   have hS6:=sameBut_setCell (w1.setCell ⟨w.heap.size+1,1,none⟩ (.slice sa m1 sc)) w.heap.size 0 (.bool true)
   have x8:=x7.set1 (.slice sa m1 sc)
   have hS7:=sameBut_setCell ((w1.setCell ⟨w.heap.size+1,1,none⟩ (.slice sa m1 sc)).setCell ⟨w.heap.size,0,none⟩ (.bool true)) w.heap.size 1 (.slice sa m1 sc)
   have z0:=x8.c0
   have z1':=x8.c1
   obtain ⟨hm1,ht1,hl1⟩:=HQ.out
   have hlm:(l.take m1).length=m1:=by rw [List.length_take];omega
   have how:=OwnInts.but (OwnInts.but (OwnInts.but (HO.out.take' m1 hm1) hS5 (by omega)) hS6 (by omega)) hS7 (by omega)
   have hsum:val l=(n:Int):=by
    rw [HGA.out.sum,show s.data.toList.length - 6 * k=0 by have:=HK.out;have e9:s.data.toList.length=s.size:=rfl;omega,List.drop_zero,HDV.out]
   refine bodyPost_ret (v:=.agg #[.bool true,.slice sa m1 sc]) (by simp [results,Tryz.results178,go_sem,z0,z1']) rfl ⟨_,rfl,⟨sa,l.take m1,sc,by rw [hlm],by rw [hlm];exact how.is,⟨fun i=>by rw [hl1];exact HGA.out.digs i,ht1,(val_of_lim hl1).trans hsum⟩,by rw [hlm];omega⟩,hS7.below (hS6.below (hS5.below HBR.out (by omega)) (Nat.le_refl _)) (Nat.le_refl _)⟩
theorem write6_neg {l:List Int} {n:Int} (a:Option Addr) (c:Nat) (w:World) (hi:IsInts w (.slice a l.length c) l) (hn:Num l n) (hl:l.length≤100) (h0:l.length≠0) :
  Calls Tryz.prog 182 #[.agg #[.bool true,.slice a l.length c]] w (RetS (45::Lib.decDigits n.toNat) w):=by
 obtain ⟨_,_,hc⟩:=hi.cells
 obtain ⟨bb,off,rfl,hcell⟩:=hc (by omega)
 have HC:=Lib.hid hcell
 have hl0:((l.length:Int) == 0)=false:=by rw [beq_eq_false_iff_ne];omega
 have hw6:IntKind.i64.wrap (6 * (l.length:Int))=6 * (l.length:Int):=IntWalk.i64_in _ (by omega)
 have hmk:=fun (W:World)=>run_makeU W (6 * l.length) (by omega) (6 * (l.length:Int)) (by omega)
 obtain ⟨N,hN⟩:∃ N,n.toNat=N:=⟨_,rfl⟩
 have hnp:=hn.low h0
 have hpp:=pw_pos (l.length - 1)
 have HLV:Hid (∀ i,i < l.length→lim l i=((N / 10 ^ (6 * i) % 10 ^ 6:Nat):Int)):=Lib.hid (fun i hi=>by rw [← hN,← hn.sum];exact lim_val hn.digs hi)
 have HNT:Hid (N < 10 ^ (6 * l.length)):=Lib.hid (by
  have h1:=hn.high.2
  rw [pw_six] at h1
  omega)
 have HN0:Hid (0 < N):=Lib.hid (by omega)
 rw [hN]
 clear hc hcell hi hn hN hnp hpp
 go_enter Tryz.func182,Tryz.ntmps182
 go_wp2_with fail
 have hb0:Below w.heap.size w ((w.alloc (.cells #[.bool true,.slice (some ⟨bb,off,none⟩) l.length c] 181)).alloc (.cells (Lib.byteCells (List.replicate (6 * l.length) 0)).toArray 5)):=qbl
 have x0:BoxB ((w.alloc (.cells #[.bool true,.slice (some ⟨bb,off,none⟩) l.length c] 181)).alloc (.cells (Lib.byteCells (List.replicate (6 * l.length) 0)).toArray 5)) w.heap.size (.bool true) (.slice (some ⟨bb,off,none⟩) l.length c):=(BoxB.new rfl).below (bw4 (bw0 _ _) _)
 have x1:BlkU ((w.alloc (.cells #[.bool true,.slice (some ⟨bb,off,none⟩) l.length c] 181)).alloc (.cells (Lib.byteCells (List.replicate (6 * l.length) 0)).toArray 5)) (w.heap.size+1) (List.replicate (6 * l.length) 0):=by
  have h:=World.alloc_heap_new (w.alloc (.cells #[.bool true,.slice (some ⟨bb,off,none⟩) l.length c] 181)) (.cells (Lib.byteCells (List.replicate (6 * l.length) 0)).toArray 5)
  rw [World.size_alloc] at h
  exact h
 have HO0:Hid (OutAt N (6 * l.length) (6 * 0) (List.replicate (6 * l.length) 0)):=Lib.hid ⟨by simp,by simp [pad]⟩
 generalize ((w.alloc (.cells #[.bool true,.slice (some ⟨bb,off,none⟩) l.length c] 181)).alloc (.cells (Lib.byteCells (List.replicate (6 * l.length) 0)).toArray 5))=W0 at *
 go_loopw [4] (fun iv wr=>∃ (i:Nat) (o:List UInt8),i≤l.length∧iv=.int .i64 i∧BlkU wr (w.heap.size+1) o∧Hid (OutAt N (6 * l.length) (6 * i) o)∧BoxB wr w.heap.size (.bool true) (.slice (some ⟨bb,off,none⟩) l.length c)∧Below w.heap.size w wr) (fun iv _=>l.length - (intOf iv).toNat)
 case atStart=>exact ⟨0,_,by omega,rfl,x1,HO0,x0,hb0⟩
 case round =>
  clear x0 x1 hb0 HO0
  obtain ⟨i,o,hi,rfl,hU,hO,hX,hB⟩:=hrel
  by_cases hlt:i < l.length
  ·have ck:=keep hB (HC.out i hlt)
   obtain ⟨xv,hxv⟩:∃ t,N / 10 ^ (6 * i) % 10 ^ 6=t:=⟨_,rfl⟩
   have hx6:xv < 1000000:=by rw [← hxv];exact Nat.mod_lt _ (by omega)
   have HXV:=Lib.hid hxv.symm
   rw [HLV.out i hlt,hxv] at ck
   have hiI:(i:Int) < (l.length:Int):=by omega
   have hi0:(0:Int)≤(i:Int):=by omega
   have hit:((i:Int)).toNat=i:=by omega
   have hwi:IntKind.i64.wrap ((i:Int)+1)=(i:Int)+1:=IntWalk.i64_in _ (by omega)
   have c1:=hX.c1
   have HXX:=Lib.hid hX
   have HBB:=Lib.hid hB
   clear hxv hX hB
   go_wp2_with fail
   go_loopw [5,6] (fun nv kv wr=>∃ (k:Nat) (o:List UInt8) (y:Nat),k≤6∧kv=.int .i64 ((k:Int)+1)∧nv=.int .i64 (y:Int)∧Hid (y=xv / 10 ^ k)∧BlkU wr (w.heap.size+1) o∧Hid (OutAt N (6 * l.length) (6 * i+k) o)∧Hid (BoxB wr w.heap.size (.bool true) (.slice (some ⟨bb,off,none⟩) l.length c))∧Hid (Below w.heap.size w wr)) (fun _ kv _=>8 - (intOf kv).toNat)
   case atStart=>exact ⟨0,o,xv,by omega,rfl,rfl,Lib.hid (by simp),hU,hO,HXX,HBB⟩
   case round =>
    clear hU hO HXX HBB c1 ck
    obtain ⟨k,o,y,hk,rfl,rfl,HY,hU,hO,HXX,HBB⟩:=hrel
    have hol:=hO.out.1
    by_cases hk6:k < 6
    ·have hkI:((k:Int)+1)≤6:=by omega
     have hyx:y≤xv:=by rw [HY.out];exact Nat.div_le_self _ _
     obtain ⟨d,hd⟩:∃ d,y % 10=d:=⟨_,rfl⟩
     have hd9:d < 10:=by rw [← hd];exact Nat.mod_lt _ (by omega)
     have htm:((y:Int)).tmod 10=(d:Int):=by rw [Int.tmod_eq_emod_of_nonneg (by omega)];omega
     have htd:((y:Int)).tdiv 10=((y / 10:Nat):Int):=by rw [Int.tdiv_eq_ediv_of_nonneg (by omega)];omega
     have HDG:Hid (d=N / 10 ^ (6 * i+k) % 10):=Lib.hid (by rw [← hd,HY.out];exact digit_of HXV.out hk6)
     have HY2:Hid (y / 10=xv / 10 ^ (k+1)):=Lib.hid (by rw [HY.out,Nat.div_div_eq_div_mul,← Nat.pow_succ])
     obtain ⟨ix,hix⟩:∃ ix:Nat,6 * l.length - (6 * i+k) - 1=ix:=⟨_,rfl⟩
     have hwa:IntKind.i64.wrap (6 * (i:Int))=6 * (i:Int):=IntWalk.i64_in _ (by omega)
     have hwb:IntKind.i64.wrap (6 * (l.length:Int) - 6 * (i:Int))=6 * (l.length:Int) - 6 * (i:Int):=IntWalk.i64_in _ (by omega)
     have hwc:IntKind.i64.wrap (6 * (l.length:Int) - 6 * (i:Int) - ((k:Int)+1))=(ix:Int):=by
      rw [show 6 * (l.length:Int) - 6 * (i:Int) - ((k:Int)+1)=(ix:Int) by omega];exact IntWalk.i64_in _ (by omega)
     have hwd:IntKind.i64.wrap (d:Int)=(d:Int):=IntWalk.i64_in _ (by omega)
     have hwe:IntKind.i64.wrap (48+(d:Int))=48+(d:Int):=IntWalk.i64_in _ (by omega)
     have hwf:IntKind.u8.wrap (48+(d:Int))=48+(d:Int):=IntWalk.u8_in _ (by omega)
     have hwg:IntKind.i64.wrap (((k:Int)+1)+1)=((k:Int)+1)+1:=IntWalk.i64_in _ (by omega)
     have hwh:IntKind.i64.wrap ((y / 10:Nat):Int)=((y / 10:Nat):Int):=IntWalk.i64_in _ (by omega)
     have hixl:(ix:Int) < 6 * (l.length:Int):=by omega
     have hix0:(0:Int)≤(ix:Int):=by omega
     have hixt:((ix:Int)).toNat=ix:=by omega
     obtain ⟨fv,f1⟩:∃ fv:Int,wr.cell? ⟨w.heap.size+1,ix,none⟩=some (.int .u8 fv):=⟨_,hU.cell (p:=ix) (by omega)⟩
     have g1:=hU.frozen ix
     have HST:Hid (OutAt N (6 * l.length) (6 * i+(k+1)) (o.set ix (UInt8.ofNat (48+d)))):=Lib.hid (by
      have:=hO.out.step (by omega)
      rwa [hix,← HDG.out] at this)
     have HST2:Hid (BlkU (wr.setCell ⟨w.heap.size+1,ix,none⟩ (.int .u8 (48+(d:Int)))) (w.heap.size+1) (o.set ix (UInt8.ofNat (48+d)))):=Lib.hid (by
      have h:=hU.set ix (UInt8.ofNat (48+d))
      have e:((UInt8.ofNat (48+d)).toNat:Int)=48+(d:Int):=by
       have:(UInt8.ofNat (48+d)).toNat=48+d:=by simp;omega
       omega
      rwa [e] at h)
     clear hd hix hol
     have hSb:=sameBut_setCell wr (w.heap.size+1) ix (.int .u8 (48+(d:Int)))
     have HX2:=Lib.hid (HXX.out.but hSb (by omega))
     have HB2:=Lib.hid (hSb.below HBB.out (by omega))
     clear hSb
     go_wp2_with fail
     go_roundw
     case rel=>exact ⟨k+1,_,y / 10,by omega,by go_num,rfl,HY2,HST2.out,HST,HX2,HB2⟩
     case measure=>simp [intOf];omega
    ·obtain rfl:k=6:=by omega
     have hkI:¬ (((6:Nat):Int)+1)≤6:=by omega
     have HO2:Hid (OutAt N (6 * l.length) (6 * (i+1)) o):=Lib.hid (by have:=hO.out;rwa [show 6 * i+6=6 * (i+1) by omega] at this)
     clear hol hO
     go_wp2_with fail
     go_roundw
     case rel=>exact ⟨i+1,o,by omega,by go_num,hU,HO2,HXX.out,HBB.out⟩
     case measure=>simp [intOf];omega
  ·obtain rfl:i=l.length:=by omega
   have hiI:¬ (l.length:Int) < (l.length:Int):=by omega
   have c1:=hX.c1
   have c0:=hX.c0
   have hoA:=out_all hO.out HNT.out
   have hle:(Lib.decDigits N).length≤6 * l.length:=by
    rw [Lib.decDigits_length];exact nDigits_le_of_lt HNT.out (by omega)
   obtain ⟨Z,hZ⟩:∃ Z,6 * l.length - (Lib.decDigits N).length=Z:=⟨_,rfl⟩
   have hoZ:o=List.replicate Z 48++Lib.decDigits N:=by
    obtain ⟨m,hm⟩:∃ m,6 * l.length=m+1:=⟨6 * l.length - 1,by omega⟩
    rw [hoA,hm,pad_eq (by rw [← hm];exact HNT.out),← hm,hZ]
   have hdl:1≤(Lib.decDigits N).length:=List.length_pos_iff.2 (decDigits_ne N)
   have HOZ:=Lib.hid hoZ
   have HXX:=Lib.hid hX
   have HZ:Hid (Z+(Lib.decDigits N).length=6 * l.length):=Lib.hid (by omega)
   have hol:o.length=6 * l.length:=hO.out.1
   have HOL:=Lib.hid hol
   have hZ1:Z < 6 * l.length:=by omega
   clear hoA hoZ hO hX hle hZ hdl hol
   go_wp2_with fail
   go_loopw [3] (fun v wx=>∃ j:Nat,j≤Z∧v=.slice (some ⟨w.heap.size+1,j,none⟩) (6 * l.length - j) (6 * l.length - j)∧wx=wr) (fun v _=>match v with|.slice _ n _=>n|_=>0)
   case atStart=>exact ⟨0,by omega,rfl,rfl⟩
   case round =>
    obtain ⟨j,hj,rfl,hwr⟩:=hrel
    subst hwr
    have hcj:=hU.cell (p:=j) (by have:=HOL.out;omega)
    by_cases hjz:j < Z
    ·have h48:(o[j]'(by have:=HOL.out;omega)).toNat=48:=by
      simp only [HOZ.out]
      rw [List.getElem_append_left (by simpa using hjz),List.getElem_replicate]
      rfl
     rw [h48] at hcj
     clear h48
     have hn1:(0:Int) < ((6 * l.length - j:Nat):Int):=by omega
     go_wp2_with fail
     go_roundw
     case rel=>exact ⟨j+1,by omega,by rw [Nat.sub_sub],by trivial⟩
     case measure=>simp;omega
    ·obtain rfl:j=Z:=by omega
     have hne:((o[j]'(by have:=HOL.out;omega)).toNat:Int)≠48:=by
      intro h
      have hh:=decDigits_head' HN0.out
      have hd1:0 < (Lib.decDigits N).length:=List.length_pos_iff.2 (decDigits_ne N)
      have e1:o[j]'(by have:=HOL.out;omega)=(Lib.decDigits N)[0]:=by
       simp only [HOZ.out]
       rw [List.getElem_append_right (by simp)]
       simp
      rw [e1] at h
      have e2:(Lib.decDigits N)[0]=48:=by
       apply UInt8.toNat_inj.1
       show _=48
       omega
      apply hh
      rw [List.head?_eq_getElem?,List.getElem?_eq_getElem hd1,e2]
     have hneb:(((o[j]'(by have:=HOL.out;omega)).toNat:Int) == 48)=false:=by rw [beq_eq_false_iff_ne];exact hne
     have c0':=HXX.out.c0
     obtain ⟨fv,hfv⟩:∃ fv:Int,((o[j]'(by have:=HOL.out;omega)).toNat:Int)=fv:=⟨_,rfl⟩
     rw [hfv] at hcj hneb
     have hcv:=Lib.run_convert_window (P:=Tryz.prog) wr 236 5 9 Tryz.underlying236 Tryz.underlying5 Tryz.underlying9 (w.heap.size+1) 0 ⟨o.toArray⟩ (fun i hi=>by
      rw [Nat.zero_add]
      exact hU.cell hi) j (6 * l.length - j) (6 * l.length - j) (by show _≤o.toArray.size;have:=HOL.out;simp;omega)
     rw [Nat.zero_add] at hcv
     have hn1:(0:Int) < ((6 * l.length - j:Nat):Int):=by omega
     clear hne hfv
     go_wp2_with fail
     go_ret
     refine ⟨_,?_,rfl,hB⟩
     show 45::_=45::_
     congr 1
     rw [Lib.extract_data,show j+(6 * l.length - j) - j=6 * l.length - j by omega]
     show (o.drop j).take _=_
     have hoj:o.drop j=Lib.decDigits N:=by
      rw [HOZ.out,List.drop_append_of_le_length (by simp),List.drop_of_length_le (by simp),List.nil_append]
     rw [hoj]
     exact List.take_of_length_le (by have:=HZ.out;omega)
theorem IsBigG.below {b:Bool} {w w':World} {v:Value} {n:Int} {k:Nat} (h:IsBigG b w v n k) (hB:Below w.heap.size w w'):IsBigG b w' v n k:=by
 obtain ⟨a,l,c,e,hi,hn,hl⟩:=h
 exact ⟨a,l,c,e,hi.below hB,hn,hl⟩
def IsBigS (w:World) (v:Value) (x:Int) (k:Nat):Prop:=IsBigG (decide (x < 0)) w v (x.natAbs:Int) k
theorem read6s {x:Int} (s:ByteArray) (w:World) (hs:s.data.toList=Lib.itoa x) (hl:s.size≤400) :
  Calls Tryz.prog 178 #[.string s] w fun e w'=>∃ v,e=.returned v∧IsBigS w' v x ((s.size+5) / 6)∧Below w.heap.size w w':=by
 unfold IsBigS
 rcases itoa_cases x with ⟨h,e⟩|⟨h,e⟩
 ·rw [decide_eq_true h]
  refine (read6_neg s w (hs.trans e) hl).mono ?_
  rintro e' w' ⟨v,rfl,⟨a,l,c,e1,hi,hn,hk⟩,hB⟩
  exact ⟨v,rfl,⟨a,l,c,e1,hi,hn,by omega⟩,hB⟩
 ·rw [decide_eq_false (by omega)]
  exact read6_ok s w (hs.trans e) hl
theorem write6s {x:Int} {k:Nat} (v:Value) (w:World) (h:IsBigS w v x k) (hk:k≤100):Calls Tryz.prog 182 #[v] w (RetS (Lib.itoa x) w):=by
 unfold IsBigS at h
 rcases itoa_cases x with ⟨hx,e⟩|⟨hx,e⟩
 ·rw [decide_eq_true hx] at h
  obtain ⟨a,l,c,rfl,hi,hn,hl⟩:=h
  have h0:l.length≠0:=fun h0=>by have:=hn.zero.1 h0;omega
  rw [e]
  exact write6_neg a c w hi hn (by omega) h0
 ·rw [decide_eq_false (by omega)] at h
  rw [e]
  exact write6_ok v w h hk
end Go.Proofs.YteepphiomcedfaaGreatDoor.R6
namespace Go.Proofs.YteepphiomcedfaaGreatDoor.R6
open Go.RowKit Go.Shelf
def pcar6 (a b:Nat→Int):Nat→Int
 | 0=>0
 | k+1=>(a k+b k+pcar6 a b k) / 1000000
def pdg6 (a b:Nat→Int) (k:Nat):Int:=(a k+b k+pcar6 a b k) % 1000000
theorem pcar6_bd {a b:List Int} (ha:Digs a) (hb:Digs b) (k:Nat):0≤pcar6 (lim a) (lim b) k∧pcar6 (lim a) (lim b) k≤1:=by
 induction k with
 | zero=>exact ⟨by simp [pcar6],by simp [pcar6]⟩
 | succ k ih =>
  obtain ⟨a1,a2⟩:=ha k
  obtain ⟨b1,b2⟩:=hb k
  unfold pcar6
  omega
theorem pdg6_dig {a b:List Int} (k:Nat):Dig (pdg6 (lim a) (lim b) k):=by
 unfold pdg6
 exact ⟨by omega,by omega⟩
theorem pdg6_sum {a b:List Int} (k:Nat):vt (pdg6 (lim a) (lim b)) k+pcar6 (lim a) (lim b) k * pw k=vt (lim a) k+vt (lim b) k :=
 sum_limbs (d:=pdg6 (lim a) (lim b)) (c:=pcar6 (lim a) (lim b)) rfl (fun k=>by unfold pdg6;show _+1000000 * ((lim a k+lim b k+pcar6 (lim a) (lim b) k) / 1000000)=_;omega) k
theorem plus6_ok {a b:List Int} {x y:Int} (va vb:Value) (w:World) (hva:IsInts w va a) (hvb:IsInts w vb b) (ha:Num a x) (hb:Num b y) (hal:a.length≤1000) (hbl:b.length≤1000) :
  Calls Tryz.prog 238 #[va,vb] w (RetNum6 (x+y) (max a.length b.length+1) w):=by
 obtain ⟨i0,hi0,hz0,hz1,hz2⟩:=info_parts Tryz.infoInt
 have HA:=Lib.hid hva
 have HB:=Lib.hid hvb
 obtain ⟨aa,ac,rfl⟩:=hva.slice
 obtain ⟨ba,bc,rfl⟩:=hvb.slice
 have HNA:=Lib.hid ha
 have HNB:=Lib.hid hb
 have HMC:=Lib.hid (pcar6_bd ha.digs hb.digs)
 clear hva hvb ha hb
 go_enter Tryz.func238,Tryz.ntmps238
 go_wp2_with fail
 have hb0:Below w.heap.size w (w.alloc (.cells #[] 3)):=qbl
 have hr0:OwnInts (w.alloc (.cells #[] 3)) w.heap.size (.slice (some ⟨w.heap.size,0,none⟩) 0 0) []:=⟨rfl,.inr ⟨w.heap.size,0,#[],rfl,Nat.le_refl _,World.alloc_heap_new _ _,Nat.le_refl _,by unfold maxLen;omega,rfl,rfl⟩⟩
 generalize w.alloc (.cells #[] 3)=W0 at *
 go_loopw [5,6,7] (fun s cy i wr=>∃ (k:Nat) (cv:Int),k≤max a.length b.length+1∧Hid (k=max a.length b.length+1→cv=0)∧cy=.int .i64 cv∧Hid (pcar6 (lim a) (lim b) k=cv)∧i=.int .i64 k∧(∃ sg sc,s=.slice (some ⟨sg,0,none⟩) k sc∧Hid (OwnInts wr w.heap.size (.slice (some ⟨sg,0,none⟩) k sc) (limbsTo (pdg6 (lim a) (lim b)) k)))∧Below w.heap.size w wr) (fun _ _ i _=>max a.length b.length+1 - (intOf i).toNat)
 case atStart=>exact ⟨0,0,by omega,Lib.hid (fun _=>rfl),rfl,Lib.hid rfl,rfl,⟨_,_,rfl,Lib.hid hr0⟩,hb0⟩
 case round =>
  clear hr0 hb0
  obtain ⟨k,cv,hk,HKM,rfl,HCV,rfl,⟨sg,sc,rfl,hown⟩,hB⟩:=hrel
  obtain ⟨c0,c1⟩:0≤cv∧cv≤1:=by have:=HMC.out k;rw [HCV.out] at this;exact this
  by_cases hgo:k < a.length∨k < b.length∨0 < cv
  ·have hkm:k < max a.length b.length+1:=by
    have:=HKM.out
    omega
   have hwk:IntKind.i64.wrap ((k:Int)+1)=(k:Int)+1:=IntWalk.i64_in _ (by omega)
   have M1:=Lib.hid (show k+1≤maxLen by unfold maxLen;omega)
   have M2:=Lib.hid (show (k+1) * 8≤140737488355328 by omega)
   obtain ⟨a0,a1⟩:=HNA.out.digs k
   obtain ⟨b0,b1⟩:=HNB.out.digs k
   have LA:=Lib.hid (fun W (h:Below w.heap.size w W)=>limb6_ok a _ k W (HA.out.below h) (by omega))
   have LB:=Lib.hid (fun W (h:Below w.heap.size w W)=>limb6_ok b _ k W (HB.out.below h) (by omega))
   have HCN:Hid (pcar6 (lim a) (lim b) (k+1)=(lim a k+lim b k+cv).tdiv 1000000):=Lib.hid (by
    show (lim a k+lim b k+pcar6 (lim a) (lim b) k) / 1000000=_
    rw [HCV.out,Int.tdiv_eq_ediv_of_nonneg (by omega)])
   have HDN:Hid (pdg6 (lim a) (lim b) k=(lim a k+lim b k+cv).tmod 1000000):=Lib.hid (by
    unfold pdg6
    rw [HCV.out,Int.tmod_eq_emod_of_nonneg (by omega)])
   have HLAST:Hid (k+1=max a.length b.length+1→(lim a k+lim b k+cv).tdiv 1000000=0):=Lib.hid (fun h=>by
    rw [lim_out (by omega),lim_out (by omega),Int.tdiv_eq_ediv_of_nonneg (by omega)]
    omega)
   obtain ⟨x',hx'⟩:∃ t,lim a k=t:=⟨_,rfl⟩
   obtain ⟨y',hy'⟩:∃ t,lim b k=t:=⟨_,rfl⟩
   rw [hx'] at LA HCN HDN HLAST a0 a1
   rw [hy'] at LB HCN HDN HLAST b0 b1
   have hw1:IntKind.i64.wrap (x'+y')=x'+y':=IntWalk.i64_in _ (by omega)
   have hw2:IntKind.i64.wrap (x'+y'+cv)=x'+y'+cv:=IntWalk.i64_in _ (by omega)
   obtain ⟨nv,hnv⟩:∃ t,x'+y'+cv=t:=⟨_,rfl⟩
   rw [hnv] at hw2 HCN HDN HLAST
   have n0:0≤nv∧nv≤2000000:=by omega
   obtain ⟨n0,n1⟩:=n0
   have td0:0≤nv.tdiv 1000000∧nv.tdiv 1000000≤2:=by rw [Int.tdiv_eq_ediv_of_nonneg n0];omega
   have tm0:0≤nv.tmod 1000000∧nv.tmod 1000000≤999999:=by rw [Int.tmod_eq_emod_of_nonneg n0];omega
   obtain ⟨qv,hqv⟩:∃ t,nv.tdiv 1000000=t:=⟨_,rfl⟩
   obtain ⟨dv,hdv⟩:∃ t,nv.tmod 1000000=t:=⟨_,rfl⟩
   rw [hqv] at td0 HCN HLAST
   rw [hdv] at tm0 HDN
   obtain ⟨t0,t1⟩:=td0
   obtain ⟨t2,t3⟩:=tm0
   have hw3:IntKind.i64.wrap qv=qv:=IntWalk.i64_in _ (by omega)
   have hw4:IntKind.i64.wrap dv=dv:=IntWalk.i64_in _ (by omega)
   have HR:Hid (wr.ownsRow w.heap.size 3 1 (.slice (some ⟨sg,0,none⟩) k sc) k (intVs (limbsTo (pdg6 (lim a) (lim b)) k))):=Lib.hid (by have:=hown.out;unfold OwnInts at this;rwa [limbsTo_len] at this)
   have HBL:=Lib.hid hB
   have hsz:=Lib.hid hB.size
   have N4:=Lib.hid (fun (W:World) (o:Obj) (W':World) (hW:Below w.heap.size w W) (h:(W.alloc o).grownBy W' (Value.slice (some ⟨sg,0,none⟩) k sc).ownBlock)=>Below.grown (bw4 hW o) h (by have:=hW.size;simp;omega) (fun j hj=>by
    obtain ⟨_,_,e,hge⟩:=row_shape1 HR.out
    injection e with e1 e2 e3
    subst e1 e3
    exact hge j hj))
   have hcase:(k < a.length)∨(¬ k < a.length∧k < b.length)∨(¬ k < a.length∧¬ k < b.length∧0 < cv):=by omega
   clear hgo hx' hy' hown
   rcases hcase with g1|⟨g1,g2⟩|⟨g1,g2,g3⟩
   all_goals
    go_wp2_with fail
    refine (LA.out _ hB).mono ?_
    rintro e w1 ⟨rfl,rfl⟩
    go_wp2_with fail
    refine (LB.out _ hB).mono ?_
    rintro e w1 ⟨rfl,rfl⟩
    go_wp2_with (at_builtin;refine wpList_append_own _ rfl _ _ 51 rfl w.heap.size 3 i0 (.int .i64 0) 1 8 Tryz.underlying51 hi0 hz0 hz1 hz2 rfl (by decide) _ _ _ rfl (HR.out.alloc _) ⟨_,0,none⟩ 1 1 [.int .i64 dv] rfl rfl (cell_one_new _ _ _) (by simp [Value.oneCell']) M1.out M2.out (by simp;have:=hsz.out;omega) ?_;intro v' w4 hown0 hgrow hnil;have hb4:=Lib.hid (N4.out _ _ _ HBL.out hgrow);obtain ⟨sg',sc',rfl,_⟩:=row_some hown0 (fun h=>by have:=hnil.1 h;simp at this);clear hnil;have hown1:=Lib.hid hown0;clear hown0 hgrow)
    go_roundw
    case rel=>exact ⟨k+1,qv,by omega,HLAST,rfl,HCN,by go_num,⟨_,_,rfl,Lib.hid (by have:=hown1.out;rw [intVs_snoc,show dv=pdg6 (lim a) (lim b) k from HDN.out.symm,← limbsTo_succ] at this;unfold OwnInts;rwa [limbsTo_len])⟩,hb4.out⟩
    case measure=>simp [intOf];omega
  ·have g1:¬ k < a.length:=fun h=>hgo (.inl h)
   have g2:¬ k < b.length:=fun h=>hgo (.inr (.inl h))
   obtain rfl:cv=0:=by omega
   have HO:=Lib.hid (fun m (h:m≤(limbsTo (pdg6 (lim a) (lim b)) k).length)=>hown.out.take' m h)
   have HT:=Lib.hid (trim6_ok (limbsTo (pdg6 (lim a) (lim b)) k) (some ⟨sg,0,none⟩) k sc wr hown.out.is (by rw [limbsTo_len];omega))
   clear hown hgo
   go_wp2_with fail
   refine HT.out.mono ?_
   rintro e w1 ⟨m,hm,rfl,ht,hl,rfl⟩
   have HTR:=Lib.hid ht
   have HL:=Lib.hid hl
   clear ht hl
   rw [limbsTo_len] at hm
   go_wp2_with fail
   go_ret
   refine ⟨(limbsTo (pdg6 (lim a) (lim b)) k).take m,m,sg,sc,by rw [List.length_take,limbsTo_len];omega,rfl,HO.out m (by rw [limbsTo_len];exact hm),⟨fun i=>?_,HTR.out,?_⟩,by omega,hB⟩
   ·rw [HL.out]
    by_cases hi:i < k
    ·rw [lim_limbsTo hi];exact pdg6_dig i
    ·rw [lim_out (by rw [limbsTo_len];omega)];exact ⟨by omega,by omega⟩
   ·rw [val_of_lim HL.out]
    have hs:=pdg6_sum (a:=a) (b:=b) k
    rw [HCV.out,vt_val (l:=a) (n:=k) (by omega),vt_val (l:=b) (n:=k) (by omega),HNA.out.sum,HNB.out.sum] at hs
    have e1:val (limbsTo (pdg6 (lim a) (lim b)) k)=vt (pdg6 (lim a) (lim b)) k:=by
     unfold val
     rw [limbsTo_len]
     exact vt_congr fun i hi=>lim_limbsTo hi
    rw [e1]
    omega
end Go.Proofs.YteepphiomcedfaaGreatDoor.R6
namespace Go.Proofs.YteepphiomcedfaaGreatDoor.R6
open Go.RowKit Go.Shelf
theorem Tryz.infoB6:(Tryz.prog.info? 181).map (·.size)=some 2:=by kernel_rfl
theorem wp_storeB {o:Oper} {a:Act} {Q:Exit→Act→World→Prop} {K:Act→World→Prop} (p x:Operand) (ho:o.op=.store 181 p x) {w:World} {b:Nat} {x0 y0 x1 y1:Value} (hA:BoxB w b x0 y0)
  (h1:x1.oneCell'=true) (h2:y1.oneCell'=true) (hp:a.eval p=.pointer (some ⟨b,0,none⟩)) (hx:a.eval x=.agg #[x1,y1]) (h:∀ W,SameBut b w W→BoxB W b x1 y1→K (a.put o.dst undef) W) :
  o.wp Tryz.prog a w K Q:=by
 have hrow:=run_storeVar_row (P:=Tryz.prog) w b 181 181 #[x0,y0] #[x1,y1] hA Tryz.infoB6 rfl (by simp [h1,h2])
 unfold Oper.wp execOp
 rw [ho]
 simp only [hp,hx,Sem.run_bind,Instr.storeAt,Instr.sureAddr,Sem.run_pure,Result.andThen_ok,hrow]
 exact h _ (setRow_sameBut _ _ _) (setRow_at hA)
theorem own_rng {w:World} {B g m c:Nat} {l:List Int} (h:OwnInts w B (.slice (some ⟨g,0,none⟩) m c) l):B≤g∧g < w.heap.size:=by
 rcases h.2 with hn|⟨g',cap,cur,e,hb,hg,_⟩
 ·cases hn.1
 ·injection e with e1 e2 e3
  injection e1 with e1
  injection e1 with e1
  subst e1
  exact ⟨hb,(Array.getElem?_eq_some_iff.1 hg).1⟩
theorem ints_but {w W:World} {g m c b:Nat} {l:List Int} (h:IsInts w (.slice (some ⟨g,0,none⟩) m c) l) (hs:SameBut b w W) (hne:g≠b):IsInts W (.slice (some ⟨g,0,none⟩) m c) l:=by
 obtain ⟨a,cap,e,h0,h2⟩:=h
 refine ⟨a,cap,e,h0,fun hn=>?_⟩
 obtain ⟨b',off,e',hc⟩:=h2 hn
 refine ⟨b',off,e',fun k hk=>?_⟩
 subst e'
 injection e with e1 _ _
 injection e1 with e1
 injection e1 with e1 e2
 subst e1
 rw [World.cell?_of_block (hs.block g hne)]
 exact hc k hk
def RetBigV (b:Bool) (n:Int) (k:Nat) (w:World) (e:Ending) (w':World):Prop:=∃ v,e=.returned v∧((n=0∧IsBigG false w' v n k)∨(n≠0∧IsBigG b w' v n k))∧Below w.heap.size w w'
theorem mul6_core {m1 m2:Bool} {l1 l2:List Int} {n1 n2:Int} (v1 v2:Value) (w:World) (h1:IsInts w v1 l1) (h2:IsInts w v2 l2) (d1:Num l1 n1) (d2:Num l2 n2) (k1:l1.length≤400) (k2:l2.length≤400) :
  Calls Tryz.prog 247 #[.agg #[.bool m1,v1],.agg #[.bool m2,v2]] w (RetBigV (!(m1 == m2)) (n1 * n2) (l1.length+l2.length+1) w):=by
 obtain ⟨a1,c1,rfl⟩:=h1.slice
 obtain ⟨a2,c2,rfl⟩:=h2.slice
 have HP:=Lib.hid (fun W (hB:Below w.heap.size w W)=>times6_ok _ _ W (h1.below hB) (h2.below hB) d1.w d2.w (by omega) (by omega))
 clear h1 h2 d1 d2
 generalize n1 * n2=nn at *
 go_enter Tryz.func247,Tryz.ntmps247
 go_wp2_with fail
 have hb0:Below w.heap.size w (((w.alloc (.cells #[.bool m1,.slice a1 l1.length c1] 181)).alloc (.cells #[.bool m2,.slice a2 l2.length c2] 181)).alloc (.cells #[.bool false,.slice none 0 0] 181)):=qbl
 have x0:BoxB (((w.alloc (.cells #[.bool m1,.slice a1 l1.length c1] 181)).alloc (.cells #[.bool m2,.slice a2 l2.length c2] 181)).alloc (.cells #[.bool false,.slice none 0 0] 181)) w.heap.size (.bool m1) (.slice a1 l1.length c1):=((BoxB.new rfl).below (bw4 (bw0 _ _) _)).below (bw4 (bw0 _ _) _)
 have x1:BoxB (((w.alloc (.cells #[.bool m1,.slice a1 l1.length c1] 181)).alloc (.cells #[.bool m2,.slice a2 l2.length c2] 181)).alloc (.cells #[.bool false,.slice none 0 0] 181)) (w.heap.size+1) (.bool m2) (.slice a2 l2.length c2):=(BoxB.new (by simp)).below (bw4 (bw0 _ _) _)
 have x2:BoxB (((w.alloc (.cells #[.bool m1,.slice a1 l1.length c1] 181)).alloc (.cells #[.bool m2,.slice a2 l2.length c2] 181)).alloc (.cells #[.bool false,.slice none 0 0] 181)) (w.heap.size+2) (.bool false) (.slice none 0 0):=BoxB.new (by simp)
 have hz0:(((w.alloc (.cells #[.bool m1,.slice a1 l1.length c1] 181)).alloc (.cells #[.bool m2,.slice a2 l2.length c2] 181)).alloc (.cells #[.bool false,.slice none 0 0] 181)).heap.size=w.heap.size+3:=by simp
 generalize (((w.alloc (.cells #[.bool m1,.slice a1 l1.length c1] 181)).alloc (.cells #[.bool m2,.slice a2 l2.length c2] 181)).alloc (.cells #[.bool false,.slice none 0 0] 181))=W0 at *
 have hR:Below W0.heap.size W0 W0.drew:=(bw0 _ _).drew
 refine region_S (F:=[12]) (R:=(fun w'=>Below W0.heap.size W0 w')) 13 #[false,false,false,false,false,false,false,false,false,false,false,false,false] (by kernel_rfl) (by kernel_rfl) (by kernel_rfl) (fun _ _ _ _ _ h=>h) (fun Q' hQ' hN=>?_)
 generalize W0.drew=wd at *
 refine tS 6 0 (hy:=by intro wq hRq;have e0:=(x0.below hRq).c0;have e1:=(x0.below hRq).c1;have e2:=(x1.below hRq).c0;have e3:=(x1.below hRq).c1;go_simp;(try with_reducible rfl)) ?_
 refine tS 7 1 (hy:=by intro wq hRq;have e0:=(x0.below hRq).c0;have e1:=(x0.below hRq).c1;have e2:=(x1.below hRq).c0;have e3:=(x1.below hRq).c1;go_simp;(try with_reducible rfl)) ?_
 refine tS 8 2 (hy:=by intro wq hRq;have e0:=(x0.below hRq).c0;have e1:=(x0.below hRq).c1;have e2:=(x1.below hRq).c0;have e3:=(x1.below hRq).c1;go_simp;(try with_reducible rfl)) ?_
 refine tS 9 3 (hy:=by intro wq hRq;have e0:=(x0.below hRq).c0;have e1:=(x0.below hRq).c1;have e2:=(x1.below hRq).c0;have e3:=(x1.below hRq).c1;go_simp;(try with_reducible rfl)) ?_
 refine tS 10 4 (hy:=by intro wq hRq;have e0:=(x0.below hRq).c0;have e1:=(x0.below hRq).c1;have e2:=(x1.below hRq).c0;have e3:=(x1.below hRq).c1;go_simp;(try with_reducible rfl)) ?_
 refine tS 11 5 (hy:=by intro wq hRq;have e0:=(x0.below hRq).c0;have e1:=(x0.below hRq).c1;have e2:=(x1.below hRq).c0;have e3:=(x1.below hRq).c1;go_simp;(try with_reducible rfl)) ?_
 refine tS 12 6 (hy:=by intro wq hRq;have e0:=(x0.below hRq).c0;have e1:=(x0.below hRq).c1;have e2:=(x1.below hRq).c0;have e3:=(x1.below hRq).c1;go_simp;(try with_reducible rfl)) ?_
 refine tS 13 7 (hy:=by intro wq hRq;have e0:=(x0.below hRq).c0;have e1:=(x0.below hRq).c1;have e2:=(x1.below hRq).c0;have e3:=(x1.below hRq).c1;go_simp;(try with_reducible rfl)) ?_
 refine tS 14 8 (hy:=by intro wq hRq;have e0:=(x0.below hRq).c0;have e1:=(x0.below hRq).c1;have e2:=(x1.below hRq).c0;have e3:=(x1.below hRq).c1;go_simp;(try with_reducible rfl)) ?_
 refine wpAnyS_ready (rs:=[9,11]) (by kernel_rfl) (by simp) ?_
 refine stepR (i:=9) rfl (by kernel_rfl) (fun K hK=>?_) (stepR (i:=11) rfl (by kernel_rfl) (fun K hK=>?_) (AllReadyS.nil))
 ·go_simp
  refine (HP.out _ (below_trans' hb0 hR)).mono ?_
  rintro e wn ⟨lr,mr,gr,cr,hlr,rfl,hown,hnum,hlen,hB'⟩
  have hzr:=hR.size
  have hi:IsInts wn (.slice (some ⟨gr,0,none⟩) mr cr) lr:=hown.is
  obtain ⟨hg1,hg2⟩:=own_rng hown
  have hzn:=hB'.size
  have hR:Below W0.heap.size W0 wn:=below_trans' hR hB'
  clear hB' hown
  refine hK.out _ _ hR ?_
  clear hK K
  (try simp only [Act.put,bw7,bw8,bw9])
  refine tS 16 10 (hy:=by intro wq hRq;have e0:=(x0.below hRq).c0;have e1:=(x0.below hRq).c1;have e2:=(x1.below hRq).c0;have e3:=(x1.below hRq).c1;go_simp;(try with_reducible rfl)) ?_
  refine wpAnyS_ready (rs:=[11]) (by kernel_rfl) (by simp) ?_
  refine stepR (i:=11) rfl (by kernel_rfl) (fun K hK=>?_) (AllReadyS.nil)
  have hzq:=hR.size
  have hlo5:w.heap.size+3≤wn.heap.size:=by omega
  go_simp
  refine after_alloc (fun wb hB' hb5 hz5=>?_)
  have hb5:BoxB wb _ (.bool false) (.slice none 0 0):=hb5
  have hzb:=hB'.size
  have hR:Below W0.heap.size W0 wb:=below_trans' hR hB'
  have hi:=hi.below hB'
  clear hB'
  refine hK.out _ _ hR ?_
  clear hK K
  (try simp only [Act.put,bw7,bw8,bw9])
  refine wpAnyS_ready (rs:=[12]) (by kernel_rfl) (by simp) ?_
  refine stepF (i:=12) rfl (by kernel_rfl) (by kernel_rfl) (fun K hK=>?_) (AllReadyS.nil)
  refine wp_storeB _ _ rfl hb5 rfl rfl rfl rfl (fun wx hS hbx=>?_)
  have hi:=ints_but hi hS (by omega)
  have x2x:=(x2.below hR).but hS (by omega)
  have hBn:=hS.below (hb0.trans (hR.mono hb0.size)) (by omega)
  have hlx:=hbx.lt
  clear hS
  refine hK.out _ _ ?_
  clear hK K
  (try simp only [Act.put,bw7,bw8,bw9])
  refine wpAnyS_done (by kernel_rfl) ?_ _
  refine hN.out _ _ ?_
  generalize wn.heap.size=b5 at *
  have hne5:w.heap.size+2≠b5:=by omega
  have hne6:b5≠w.heap.size+2:=by omega
  have c0:=hbx.c0
  have c1:=hbx.c1
  have f0:=hbx.f 0
  have l5:=hbx.lt
  have r0:=x2x.c0
  have r1:=x2x.c1
  have g0:=x2x.f 0
  have g1:=x2x.f 1
  have l0:=x2x.lt
  have HBX:=Lib.hid hbx
  have HX2:=Lib.hid x2x
  have HI:=Lib.hid hi
  have HBN:=Lib.hid hBn
  clear hbx x2x hi hBn
  by_cases hm0:mr=0
  ·subst hm0
   have hS5:=sameBut_setCell wx b5 0 (.bool false)
   have y5:=HBX.out.set0 (.bool false)
   have y2:=HX2.out.but hS5 hne5
   have s0:=y5.c0
   have s1:=y5.c1
   have t0:=y2.c0
   have t1:=y2.c1
   have u0:=y2.f 0
   have u1:=y2.f 1
   have u2:=y2.lt
   have Y2:=Lib.hid y2
   have HS5:=Lib.hid hS5
   clear y2 y5 hS5
   go_wp2_with fail
   have y3:=(Y2.out.set0 (.bool false)).set1 (.slice (some ⟨gr,0,none⟩) 0 cr)
   refine bodyPost_ret (results_cell_row rfl _ _ (w.heap.size+2) 181 #[.bool false,.slice (some ⟨gr,0,none⟩) 0 cr] (0,0) _ rfl y3 Tryz.underlying181 rfl (by kernel_rfl)) rfl ?_
   have h6:=sameBut_setCell (wx.setCell ⟨b5,0,none⟩ (.bool false)) (w.heap.size+2) 0 (.bool false)
   have h7:=sameBut_setCell ((wx.setCell ⟨b5,0,none⟩ (.bool false)).setCell ⟨w.heap.size+2,0,none⟩ (.bool false)) (w.heap.size+2) 1 (.slice (some ⟨gr,0,none⟩) 0 cr)
   have hn0:=hnum.zero.1 hlr
   exact ⟨_,rfl,.inl ⟨hn0,⟨_,lr,cr,by rw [hlr],by rw [hlr];exact ints_but (ints_but (ints_but HI.out HS5.out (by omega)) h6 (by omega)) h7 (by omega),hnum,by omega⟩⟩,h7.below (h6.below (HS5.out.below HBN.out (by omega)) (by omega)) (by omega)⟩
  ·have hmz:((mr:Int) == 0)=false:=by rw [beq_eq_false_iff_ne];omega
   go_wp2_with fail
   have y3:=(HX2.out.set0 (.bool (!(m1 == m2)))).set1 (.slice (some ⟨gr,0,none⟩) mr cr)
   refine bodyPost_ret (results_cell_row rfl _ _ (w.heap.size+2) 181 #[.bool (!(m1 == m2)),.slice (some ⟨gr,0,none⟩) mr cr] (0,0) _ rfl y3 Tryz.underlying181 rfl (by kernel_rfl)) rfl ?_
   have h6:=sameBut_setCell wx (w.heap.size+2) 0 (.bool (!(m1 == m2)))
   have h7:=sameBut_setCell (wx.setCell ⟨w.heap.size+2,0,none⟩ (.bool (!(m1 == m2)))) (w.heap.size+2) 1 (.slice (some ⟨gr,0,none⟩) mr cr)
   have hn0:=fun h=>hm0 (by have:=hnum.zero.2 h;omega)
   exact ⟨_,rfl,.inr ⟨hn0,⟨_,lr,cr,by rw [hlr],by rw [hlr];exact ints_but (ints_but HI.out h6 (by omega)) h7 (by omega),hnum,by omega⟩⟩,h7.below (h6.below HBN.out (by omega)) (by omega)⟩
 ·have hzq:=hR.size
  have hlo5:w.heap.size+3≤wd.heap.size:=by omega
  go_simp
  refine after_alloc (fun wb hB' hb5 hz5=>?_)
  have hb5:BoxB wb _ (.bool false) (.slice none 0 0):=hb5
  have hzb:=hB'.size
  have hR:Below W0.heap.size W0 wb:=below_trans' hR hB'
  clear hB'
  refine hK.out _ _ hR ?_
  clear hK K
  (try simp only [Act.put,bw7,bw8,bw9])
  refine wpAnyS_ready (rs:=[9]) (by kernel_rfl) (by simp) ?_
  refine stepR (i:=9) rfl (by kernel_rfl) (fun K hK=>?_) (AllReadyS.nil)
  go_simp
  refine (HP.out _ (below_trans' hb0 hR)).mono ?_
  rintro e wn ⟨lr,mr,gr,cr,hlr,rfl,hown,hnum,hlen,hB'⟩
  have hzr:=hR.size
  have hi:IsInts wn (.slice (some ⟨gr,0,none⟩) mr cr) lr:=hown.is
  obtain ⟨hg1,hg2⟩:=own_rng hown
  have hzn:=hB'.size
  have hR:Below W0.heap.size W0 wn:=below_trans' hR hB'
  have hb5:=hb5.below hB'
  clear hB' hown
  refine hK.out _ _ hR ?_
  clear hK K
  (try simp only [Act.put,bw7,bw8,bw9])
  refine tS 16 10 (hy:=by intro wq hRq;have e0:=(x0.below hRq).c0;have e1:=(x0.below hRq).c1;have e2:=(x1.below hRq).c0;have e3:=(x1.below hRq).c1;go_simp;(try with_reducible rfl)) ?_
  refine wpAnyS_ready (rs:=[12]) (by kernel_rfl) (by simp) ?_
  refine stepF (i:=12) rfl (by kernel_rfl) (by kernel_rfl) (fun K hK=>?_) (AllReadyS.nil)
  refine wp_storeB _ _ rfl hb5 rfl rfl rfl rfl (fun wx hS hbx=>?_)
  have hi:=ints_but hi hS (by omega)
  have x2x:=(x2.below hR).but hS (by omega)
  have hBn:=hS.below (hb0.trans (hR.mono hb0.size)) (by omega)
  have hlx:=hbx.lt
  clear hS
  refine hK.out _ _ ?_
  clear hK K
  (try simp only [Act.put,bw7,bw8,bw9])
  refine wpAnyS_done (by kernel_rfl) ?_ _
  refine hN.out _ _ ?_
  generalize wd.heap.size=b5 at *
  have hne5:w.heap.size+2≠b5:=by omega
  have hne6:b5≠w.heap.size+2:=by omega
  have c0:=hbx.c0
  have c1:=hbx.c1
  have f0:=hbx.f 0
  have l5:=hbx.lt
  have r0:=x2x.c0
  have r1:=x2x.c1
  have g0:=x2x.f 0
  have g1:=x2x.f 1
  have l0:=x2x.lt
  have HBX:=Lib.hid hbx
  have HX2:=Lib.hid x2x
  have HI:=Lib.hid hi
  have HBN:=Lib.hid hBn
  clear hbx x2x hi hBn
  by_cases hm0:mr=0
  ·subst hm0
   have hS5:=sameBut_setCell wx b5 0 (.bool false)
   have y5:=HBX.out.set0 (.bool false)
   have y2:=HX2.out.but hS5 hne5
   have s0:=y5.c0
   have s1:=y5.c1
   have t0:=y2.c0
   have t1:=y2.c1
   have u0:=y2.f 0
   have u1:=y2.f 1
   have u2:=y2.lt
   have Y2:=Lib.hid y2
   have HS5:=Lib.hid hS5
   clear y2 y5 hS5
   go_wp2_with fail
   have y3:=(Y2.out.set0 (.bool false)).set1 (.slice (some ⟨gr,0,none⟩) 0 cr)
   refine bodyPost_ret (results_cell_row rfl _ _ (w.heap.size+2) 181 #[.bool false,.slice (some ⟨gr,0,none⟩) 0 cr] (0,0) _ rfl y3 Tryz.underlying181 rfl (by kernel_rfl)) rfl ?_
   have h6:=sameBut_setCell (wx.setCell ⟨b5,0,none⟩ (.bool false)) (w.heap.size+2) 0 (.bool false)
   have h7:=sameBut_setCell ((wx.setCell ⟨b5,0,none⟩ (.bool false)).setCell ⟨w.heap.size+2,0,none⟩ (.bool false)) (w.heap.size+2) 1 (.slice (some ⟨gr,0,none⟩) 0 cr)
   have hn0:=hnum.zero.1 hlr
   exact ⟨_,rfl,.inl ⟨hn0,⟨_,lr,cr,by rw [hlr],by rw [hlr];exact ints_but (ints_but (ints_but HI.out HS5.out (by omega)) h6 (by omega)) h7 (by omega),hnum,by omega⟩⟩,h7.below (h6.below (HS5.out.below HBN.out (by omega)) (by omega)) (by omega)⟩
  ·have hmz:((mr:Int) == 0)=false:=by rw [beq_eq_false_iff_ne];omega
   go_wp2_with fail
   have y3:=(HX2.out.set0 (.bool (!(m1 == m2)))).set1 (.slice (some ⟨gr,0,none⟩) mr cr)
   refine bodyPost_ret (results_cell_row rfl _ _ (w.heap.size+2) 181 #[.bool (!(m1 == m2)),.slice (some ⟨gr,0,none⟩) mr cr] (0,0) _ rfl y3 Tryz.underlying181 rfl (by kernel_rfl)) rfl ?_
   have h6:=sameBut_setCell wx (w.heap.size+2) 0 (.bool (!(m1 == m2)))
   have h7:=sameBut_setCell (wx.setCell ⟨w.heap.size+2,0,none⟩ (.bool (!(m1 == m2)))) (w.heap.size+2) 1 (.slice (some ⟨gr,0,none⟩) mr cr)
   have hn0:=fun h=>hm0 (by have:=hnum.zero.2 h;omega)
   exact ⟨_,rfl,.inr ⟨hn0,⟨_,lr,cr,by rw [hlr],by rw [hlr];exact ints_but (ints_but HI.out h6 (by omega)) h7 (by omega),hnum,by omega⟩⟩,h7.below (h6.below HBN.out (by omega)) (by omega)⟩
theorem add6_same {m1 m2:Bool} {l1 l2:List Int} {n1 n2:Int} (v1 v2:Value) (w:World) (h1:IsInts w v1 l1) (h2:IsInts w v2 l2) (d1:Num l1 n1) (d2:Num l2 n2) (k1:l1.length≤400) (k2:l2.length≤400) (hm:m1=m2) :
  Calls Tryz.prog 180 #[.agg #[.bool m1,v1],.agg #[.bool m2,v2]] w (fun e w'=>∃ v,e=.returned v∧IsBigG m1 w' v (n1+n2) (max l1.length l2.length+1)∧Below w.heap.size w w'):=by
 obtain ⟨a1,c1,rfl⟩:=h1.slice
 obtain ⟨a2,c2,rfl⟩:=h2.slice
 have HP:=Lib.hid (fun W (hB:Below w.heap.size w W)=>plus6_ok _ _ W (h1.below hB) (h2.below hB) d1 d2 (by omega) (by omega))
 subst hm
 have hmb:(m1 == m1)=true:=by simp
 clear h1 h2 d1 d2
 go_enter Tryz.func180,Tryz.ntmps180
 go_wp2_with fail
 have hb0:Below w.heap.size w (((w.alloc (.cells #[.bool m1,.slice a1 l1.length c1] 181)).alloc (.cells #[.bool m1,.slice a2 l2.length c2] 181)).alloc (.cells #[.bool false,.slice none 0 0] 181)):=qbl
 have x0:BoxB (((w.alloc (.cells #[.bool m1,.slice a1 l1.length c1] 181)).alloc (.cells #[.bool m1,.slice a2 l2.length c2] 181)).alloc (.cells #[.bool false,.slice none 0 0] 181)) w.heap.size (.bool m1) (.slice a1 l1.length c1):=((BoxB.new rfl).below (bw4 (bw0 _ _) _)).below (bw4 (bw0 _ _) _)
 have x1:BoxB (((w.alloc (.cells #[.bool m1,.slice a1 l1.length c1] 181)).alloc (.cells #[.bool m1,.slice a2 l2.length c2] 181)).alloc (.cells #[.bool false,.slice none 0 0] 181)) (w.heap.size+1) (.bool m1) (.slice a2 l2.length c2):=(BoxB.new (by simp)).below (bw4 (bw0 _ _) _)
 have x2:BoxB (((w.alloc (.cells #[.bool m1,.slice a1 l1.length c1] 181)).alloc (.cells #[.bool m1,.slice a2 l2.length c2] 181)).alloc (.cells #[.bool false,.slice none 0 0] 181)) (w.heap.size+2) (.bool false) (.slice none 0 0):=BoxB.new (by simp)
 have hz0:(((w.alloc (.cells #[.bool m1,.slice a1 l1.length c1] 181)).alloc (.cells #[.bool m1,.slice a2 l2.length c2] 181)).alloc (.cells #[.bool false,.slice none 0 0] 181)).heap.size=w.heap.size+3:=by simp
 generalize (((w.alloc (.cells #[.bool m1,.slice a1 l1.length c1] 181)).alloc (.cells #[.bool m1,.slice a2 l2.length c2] 181)).alloc (.cells #[.bool false,.slice none 0 0] 181))=W0 at *
 have hR:Below W0.heap.size W0 W0.drew:=(bw0 _ _).drew
 refine region_S (F:=[8]) (R:=(fun w'=>Below W0.heap.size W0 w')) 9 #[false,false,false,false,false,false,false,false,false] (by kernel_rfl) (by kernel_rfl) (by kernel_rfl) (fun _ _ _ _ _ h=>h) (fun Q' hQ' hN=>?_)
 generalize W0.drew=wd at *
 refine tS 11 0 (hy:=by intro wq hRq;have e0:=(x0.below hRq).c0;have e1:=(x0.below hRq).c1;have e2:=(x1.below hRq).c0;have e3:=(x1.below hRq).c1;go_simp;(try with_reducible rfl)) ?_
 refine tS 12 1 (hy:=by intro wq hRq;have e0:=(x0.below hRq).c0;have e1:=(x0.below hRq).c1;have e2:=(x1.below hRq).c0;have e3:=(x1.below hRq).c1;go_simp;(try with_reducible rfl)) ?_
 refine tS 13 2 (hy:=by intro wq hRq;have e0:=(x0.below hRq).c0;have e1:=(x0.below hRq).c1;have e2:=(x1.below hRq).c0;have e3:=(x1.below hRq).c1;go_simp;(try with_reducible rfl)) ?_
 refine tS 14 3 (hy:=by intro wq hRq;have e0:=(x0.below hRq).c0;have e1:=(x0.below hRq).c1;have e2:=(x1.below hRq).c0;have e3:=(x1.below hRq).c1;go_simp;(try with_reducible rfl)) ?_
 refine tS 15 4 (hy:=by intro wq hRq;have e0:=(x0.below hRq).c0;have e1:=(x0.below hRq).c1;have e2:=(x1.below hRq).c0;have e3:=(x1.below hRq).c1;go_simp;(try with_reducible rfl)) ?_
 refine tS 16 5 (hy:=by intro wq hRq;have e0:=(x0.below hRq).c0;have e1:=(x0.below hRq).c1;have e2:=(x1.below hRq).c0;have e3:=(x1.below hRq).c1;go_simp;(try with_reducible rfl)) ?_
 refine wpAnyS_ready (rs:=[6]) (by kernel_rfl) (by simp) ?_
 refine stepR (i:=6) rfl (by kernel_rfl) (fun K hK=>?_) (AllReadyS.nil)
 go_simp
 refine (HP.out _ (below_trans' hb0 hR)).mono ?_
 rintro e wn ⟨lr,mr,gr,cr,hlr,rfl,hown,hnum,hlen,hB'⟩
 have hzr:=hR.size
 have hi:IsInts wn (.slice (some ⟨gr,0,none⟩) mr cr) lr:=hown.is
 obtain ⟨hg1,hg2⟩:=own_rng hown
 have hzn:=hB'.size
 have hR:Below W0.heap.size W0 wn:=below_trans' hR hB'
 clear hB' hown
 refine hK.out _ _ hR ?_
 clear hK K
 (try simp only [Act.put,bw7,bw8,bw9])
 refine tS 18 7 (hy:=by intro wq hRq;have e0:=(x0.below hRq).c0;have e1:=(x0.below hRq).c1;have e2:=(x1.below hRq).c0;have e3:=(x1.below hRq).c1;go_simp;(try with_reducible rfl)) ?_
 refine wpAnyS_ready (rs:=[8]) (by kernel_rfl) (by simp) ?_
 refine stepF (i:=8) rfl (by kernel_rfl) (by kernel_rfl) (fun K hK=>?_) (AllReadyS.nil)
 have hR2:=hR
 refine wp_storeB _ _ rfl (x2.below hR) rfl rfl rfl rfl (fun wx hS hbx=>?_)
 have hi:=ints_but hi hS (by omega)
 have hBn:=hS.below (hb0.trans (hR.mono hb0.size)) (by omega)
 clear hS
 refine hK.out _ _ ?_
 clear hK K
 (try simp only [Act.put,bw7,bw8,bw9])
 refine wpAnyS_done (by kernel_rfl) ?_ _
 refine hN.out _ _ ?_
 go_wp2_with fail
 refine bodyPost_ret (results_cell_row rfl _ _ (w.heap.size+2) 181 #[.bool m1,.slice (some ⟨gr,0,none⟩) mr cr] (0,0) _ rfl hbx Tryz.underlying181 rfl (by kernel_rfl)) rfl ?_
 exact ⟨_,rfl,⟨_,lr,cr,by rw [hlr],by rw [hlr];exact hi,hnum,by omega⟩,hBn⟩
theorem add6_great {m1 m2:Bool} {l1 l2:List Int} {n1 n2:Int} (v1 v2:Value) (w:World) (h1:IsInts w v1 l1) (h2:IsInts w v2 l2) (d1:Num l1 n1) (d2:Num l2 n2) (k1:l1.length≤400) (k2:l2.length≤400) (hm:¬ m1=m2) (hn:n2≤n1) :
  Calls Tryz.prog 180 #[.agg #[.bool m1,v1],.agg #[.bool m2,v2]] w (RetBigV m1 (n1 - n2) (max l1.length l2.length+1) w):=by
 obtain ⟨a1,c1,rfl⟩:=h1.slice
 obtain ⟨a2,c2,rfl⟩:=h2.slice
 have HP:=Lib.hid (fun W (hB:Below w.heap.size w W)=>minus6_ok _ _ W (h1.below hB) (h2.below hB) d1 d2 (by omega) (by omega) hn)
 have hmb:(m1 == m2)=false:=by simp [hm]
 clear hm
 have HSZ:=Lib.hid (fun W (hB:Below w.heap.size w W)=>size6_ok _ _ W (h1.below hB) (h2.below hB) d1 d2 (by omega) (by omega))
 clear h1 h2 d1 d2
 go_enter Tryz.func180,Tryz.ntmps180
 go_wp2_with fail
 have hb0:Below w.heap.size w (((w.alloc (.cells #[.bool m1,.slice a1 l1.length c1] 181)).alloc (.cells #[.bool m2,.slice a2 l2.length c2] 181)).alloc (.cells #[.bool false,.slice none 0 0] 181)):=qbl
 have x0:BoxB (((w.alloc (.cells #[.bool m1,.slice a1 l1.length c1] 181)).alloc (.cells #[.bool m2,.slice a2 l2.length c2] 181)).alloc (.cells #[.bool false,.slice none 0 0] 181)) w.heap.size (.bool m1) (.slice a1 l1.length c1):=((BoxB.new rfl).below (bw4 (bw0 _ _) _)).below (bw4 (bw0 _ _) _)
 have x1:BoxB (((w.alloc (.cells #[.bool m1,.slice a1 l1.length c1] 181)).alloc (.cells #[.bool m2,.slice a2 l2.length c2] 181)).alloc (.cells #[.bool false,.slice none 0 0] 181)) (w.heap.size+1) (.bool m2) (.slice a2 l2.length c2):=(BoxB.new (by simp)).below (bw4 (bw0 _ _) _)
 have x2:BoxB (((w.alloc (.cells #[.bool m1,.slice a1 l1.length c1] 181)).alloc (.cells #[.bool m2,.slice a2 l2.length c2] 181)).alloc (.cells #[.bool false,.slice none 0 0] 181)) (w.heap.size+2) (.bool false) (.slice none 0 0):=BoxB.new (by simp)
 have hz0:(((w.alloc (.cells #[.bool m1,.slice a1 l1.length c1] 181)).alloc (.cells #[.bool m2,.slice a2 l2.length c2] 181)).alloc (.cells #[.bool false,.slice none 0 0] 181)).heap.size=w.heap.size+3:=by simp
 generalize (((w.alloc (.cells #[.bool m1,.slice a1 l1.length c1] 181)).alloc (.cells #[.bool m2,.slice a2 l2.length c2] 181)).alloc (.cells #[.bool false,.slice none 0 0] 181))=W0 at *
 have hR:Below W0.heap.size W0 W0.drew:=(bw0 _ _).drew
 clear hR
 refine (HSZ.out _ hb0).mono ?_
 rintro e w1 ⟨r,rfl,hr1,hr2,hB1⟩
 have hb1:Below w.heap.size w w1:=below_trans' hb0 hB1
 have x0:=x0.below hB1
 have x1:=x1.below hB1
 have x2:=x2.below hB1
 have hz1:=hB1.size
 have hb0:=hb1
 clear hB1 hb1
 have hrl:decide (r < 0)=false:=by simp;omega
 go_wp2_with fail
 have hR:Below w1.heap.size w1 w1.drew:=(bw0 _ _).drew
 refine region_S (F:=[9]) (R:=(fun w'=>Below w1.heap.size w1 w')) 10 #[false,false,false,false,false,false,false,false,false,false] (by kernel_rfl) (by kernel_rfl) (by kernel_rfl) (fun _ _ _ _ _ h=>h) (fun Q' hQ' hN=>?_)
 generalize w1.drew=wd at *
 refine tS 27 0 (hy:=by intro wq hRq;have e0:=(x0.below hRq).c0;have e1:=(x0.below hRq).c1;have e2:=(x1.below hRq).c0;have e3:=(x1.below hRq).c1;go_simp;(try with_reducible rfl)) ?_
 refine tS 28 1 (hy:=by intro wq hRq;have e0:=(x0.below hRq).c0;have e1:=(x0.below hRq).c1;have e2:=(x1.below hRq).c0;have e3:=(x1.below hRq).c1;go_simp;(try with_reducible rfl)) ?_
 refine tS 29 2 (hy:=by intro wq hRq;have e0:=(x0.below hRq).c0;have e1:=(x0.below hRq).c1;have e2:=(x1.below hRq).c0;have e3:=(x1.below hRq).c1;go_simp;(try with_reducible rfl)) ?_
 refine tS 30 3 (hy:=by intro wq hRq;have e0:=(x0.below hRq).c0;have e1:=(x0.below hRq).c1;have e2:=(x1.below hRq).c0;have e3:=(x1.below hRq).c1;go_simp;(try with_reducible rfl)) ?_
 refine tS 31 4 (hy:=by intro wq hRq;have e0:=(x0.below hRq).c0;have e1:=(x0.below hRq).c1;have e2:=(x1.below hRq).c0;have e3:=(x1.below hRq).c1;go_simp;(try with_reducible rfl)) ?_
 refine tS 32 5 (hy:=by intro wq hRq;have e0:=(x0.below hRq).c0;have e1:=(x0.below hRq).c1;have e2:=(x1.below hRq).c0;have e3:=(x1.below hRq).c1;go_simp;(try with_reducible rfl)) ?_
 refine wpAnyS_ready (rs:=[6,8]) (by kernel_rfl) (by simp) ?_
 refine stepR (i:=6) rfl (by kernel_rfl) (fun K hK=>?_) (stepR (i:=8) rfl (by kernel_rfl) (fun K hK=>?_) (AllReadyS.nil))
 ·go_simp
  refine (HP.out _ (below_trans' hb0 hR)).mono ?_
  rintro e wn ⟨lr,mr,gr,cr,hlr,rfl,hown,hnum,hlen,hB'⟩
  have hzr:=hR.size
  have hi:IsInts wn (.slice (some ⟨gr,0,none⟩) mr cr) lr:=hown.is
  obtain ⟨hg1,hg2⟩:=own_rng hown
  have hzn:=hB'.size
  have hR:Below w1.heap.size w1 wn:=below_trans' hR hB'
  clear hB' hown
  refine hK.out _ _ hR ?_
  clear hK K
  (try simp only [Act.put,bw7,bw8,bw9])
  refine tS 34 7 (hy:=by intro wq hRq;have e0:=(x0.below hRq).c0;have e1:=(x0.below hRq).c1;have e2:=(x1.below hRq).c0;have e3:=(x1.below hRq).c1;go_simp;(try with_reducible rfl)) ?_
  refine wpAnyS_ready (rs:=[8]) (by kernel_rfl) (by simp) ?_
  refine stepR (i:=8) rfl (by kernel_rfl) (fun K hK=>?_) (AllReadyS.nil)
  have hzq:=hR.size
  have hlo5:w.heap.size+3≤wn.heap.size:=by omega
  go_simp
  refine after_alloc (fun wb hB' hb5 hz5=>?_)
  have hb5:BoxB wb _ (.bool false) (.slice none 0 0):=hb5
  have hzb:=hB'.size
  have hR:Below w1.heap.size w1 wb:=below_trans' hR hB'
  have hi:=hi.below hB'
  clear hB'
  refine hK.out _ _ hR ?_
  clear hK K
  (try simp only [Act.put,bw7,bw8,bw9])
  refine wpAnyS_ready (rs:=[9]) (by kernel_rfl) (by simp) ?_
  refine stepF (i:=9) rfl (by kernel_rfl) (by kernel_rfl) (fun K hK=>?_) (AllReadyS.nil)
  refine wp_storeB _ _ rfl hb5 rfl rfl rfl rfl (fun wx hS hbx=>?_)
  have hi:=ints_but hi hS (by omega)
  have x2x:=(x2.below hR).but hS (by omega)
  have hBn:=hS.below (hb0.trans (hR.mono hb0.size)) (by omega)
  have hlx:=hbx.lt
  clear hS
  refine hK.out _ _ ?_
  clear hK K
  (try simp only [Act.put,bw7,bw8,bw9])
  refine wpAnyS_done (by kernel_rfl) ?_ _
  refine hN.out _ _ ?_
  generalize wn.heap.size=b5 at *
  have hne5:w.heap.size+2≠b5:=by omega
  have hne6:b5≠w.heap.size+2:=by omega
  have c0:=hbx.c0
  have c1:=hbx.c1
  have f0:=hbx.f 0
  have l5:=hbx.lt
  have r0:=x2x.c0
  have r1:=x2x.c1
  have g0:=x2x.f 0
  have g1:=x2x.f 1
  have l0:=x2x.lt
  have HBX:=Lib.hid hbx
  have HX2:=Lib.hid x2x
  have HI:=Lib.hid hi
  have HBN:=Lib.hid hBn
  clear hbx x2x hi hBn
  by_cases hm0:mr=0
  ·subst hm0
   have hS5:=sameBut_setCell wx b5 0 (.bool false)
   have y5:=HBX.out.set0 (.bool false)
   have y2:=HX2.out.but hS5 hne5
   have s0:=y5.c0
   have s1:=y5.c1
   have t0:=y2.c0
   have t1:=y2.c1
   have u0:=y2.f 0
   have u1:=y2.f 1
   have u2:=y2.lt
   have Y2:=Lib.hid y2
   have HS5:=Lib.hid hS5
   clear y2 y5 hS5
   go_wp2_with fail
   have y3:=(Y2.out.set0 (.bool false)).set1 (.slice (some ⟨gr,0,none⟩) 0 cr)
   refine bodyPost_ret (results_cell_row rfl _ _ (w.heap.size+2) 181 #[.bool false,.slice (some ⟨gr,0,none⟩) 0 cr] (0,0) _ rfl y3 Tryz.underlying181 rfl (by kernel_rfl)) rfl ?_
   have h6:=sameBut_setCell (wx.setCell ⟨b5,0,none⟩ (.bool false)) (w.heap.size+2) 0 (.bool false)
   have h7:=sameBut_setCell ((wx.setCell ⟨b5,0,none⟩ (.bool false)).setCell ⟨w.heap.size+2,0,none⟩ (.bool false)) (w.heap.size+2) 1 (.slice (some ⟨gr,0,none⟩) 0 cr)
   have hn0:=hnum.zero.1 hlr
   exact ⟨_,rfl,.inl ⟨hn0,⟨_,lr,cr,by rw [hlr],by rw [hlr];exact ints_but (ints_but (ints_but HI.out HS5.out (by omega)) h6 (by omega)) h7 (by omega),hnum,by omega⟩⟩,h7.below (h6.below (HS5.out.below HBN.out (by omega)) (by omega)) (by omega)⟩
  ·have hmz:((mr:Int) == 0)=false:=by rw [beq_eq_false_iff_ne];omega
   go_wp2_with fail
   have y3:=(HX2.out.set0 (.bool m1)).set1 (.slice (some ⟨gr,0,none⟩) mr cr)
   refine bodyPost_ret (results_cell_row rfl _ _ (w.heap.size+2) 181 #[.bool m1,.slice (some ⟨gr,0,none⟩) mr cr] (0,0) _ rfl y3 Tryz.underlying181 rfl (by kernel_rfl)) rfl ?_
   have h6:=sameBut_setCell wx (w.heap.size+2) 0 (.bool m1)
   have h7:=sameBut_setCell (wx.setCell ⟨w.heap.size+2,0,none⟩ (.bool m1)) (w.heap.size+2) 1 (.slice (some ⟨gr,0,none⟩) mr cr)
   have hn0:=fun h=>hm0 (by have:=hnum.zero.2 h;omega)
   exact ⟨_,rfl,.inr ⟨hn0,⟨_,lr,cr,by rw [hlr],by rw [hlr];exact ints_but (ints_but HI.out h6 (by omega)) h7 (by omega),hnum,by omega⟩⟩,h7.below (h6.below HBN.out (by omega)) (by omega)⟩
 ·have hzq:=hR.size
  have hlo5:w.heap.size+3≤wd.heap.size:=by omega
  go_simp
  refine after_alloc (fun wb hB' hb5 hz5=>?_)
  have hb5:BoxB wb _ (.bool false) (.slice none 0 0):=hb5
  have hzb:=hB'.size
  have hR:Below w1.heap.size w1 wb:=below_trans' hR hB'
  clear hB'
  refine hK.out _ _ hR ?_
  clear hK K
  (try simp only [Act.put,bw7,bw8,bw9])
  refine wpAnyS_ready (rs:=[6]) (by kernel_rfl) (by simp) ?_
  refine stepR (i:=6) rfl (by kernel_rfl) (fun K hK=>?_) (AllReadyS.nil)
  go_simp
  refine (HP.out _ (below_trans' hb0 hR)).mono ?_
  rintro e wn ⟨lr,mr,gr,cr,hlr,rfl,hown,hnum,hlen,hB'⟩
  have hzr:=hR.size
  have hi:IsInts wn (.slice (some ⟨gr,0,none⟩) mr cr) lr:=hown.is
  obtain ⟨hg1,hg2⟩:=own_rng hown
  have hzn:=hB'.size
  have hR:Below w1.heap.size w1 wn:=below_trans' hR hB'
  have hb5:=hb5.below hB'
  clear hB' hown
  refine hK.out _ _ hR ?_
  clear hK K
  (try simp only [Act.put,bw7,bw8,bw9])
  refine tS 34 7 (hy:=by intro wq hRq;have e0:=(x0.below hRq).c0;have e1:=(x0.below hRq).c1;have e2:=(x1.below hRq).c0;have e3:=(x1.below hRq).c1;go_simp;(try with_reducible rfl)) ?_
  refine wpAnyS_ready (rs:=[9]) (by kernel_rfl) (by simp) ?_
  refine stepF (i:=9) rfl (by kernel_rfl) (by kernel_rfl) (fun K hK=>?_) (AllReadyS.nil)
  refine wp_storeB _ _ rfl hb5 rfl rfl rfl rfl (fun wx hS hbx=>?_)
  have hi:=ints_but hi hS (by omega)
  have x2x:=(x2.below hR).but hS (by omega)
  have hBn:=hS.below (hb0.trans (hR.mono hb0.size)) (by omega)
  have hlx:=hbx.lt
  clear hS
  refine hK.out _ _ ?_
  clear hK K
  (try simp only [Act.put,bw7,bw8,bw9])
  refine wpAnyS_done (by kernel_rfl) ?_ _
  refine hN.out _ _ ?_
  generalize wd.heap.size=b5 at *
  have hne5:w.heap.size+2≠b5:=by omega
  have hne6:b5≠w.heap.size+2:=by omega
  have c0:=hbx.c0
  have c1:=hbx.c1
  have f0:=hbx.f 0
  have l5:=hbx.lt
  have r0:=x2x.c0
  have r1:=x2x.c1
  have g0:=x2x.f 0
  have g1:=x2x.f 1
  have l0:=x2x.lt
  have HBX:=Lib.hid hbx
  have HX2:=Lib.hid x2x
  have HI:=Lib.hid hi
  have HBN:=Lib.hid hBn
  clear hbx x2x hi hBn
  by_cases hm0:mr=0
  ·subst hm0
   have hS5:=sameBut_setCell wx b5 0 (.bool false)
   have y5:=HBX.out.set0 (.bool false)
   have y2:=HX2.out.but hS5 hne5
   have s0:=y5.c0
   have s1:=y5.c1
   have t0:=y2.c0
   have t1:=y2.c1
   have u0:=y2.f 0
   have u1:=y2.f 1
   have u2:=y2.lt
   have Y2:=Lib.hid y2
   have HS5:=Lib.hid hS5
   clear y2 y5 hS5
   go_wp2_with fail
   have y3:=(Y2.out.set0 (.bool false)).set1 (.slice (some ⟨gr,0,none⟩) 0 cr)
   refine bodyPost_ret (results_cell_row rfl _ _ (w.heap.size+2) 181 #[.bool false,.slice (some ⟨gr,0,none⟩) 0 cr] (0,0) _ rfl y3 Tryz.underlying181 rfl (by kernel_rfl)) rfl ?_
   have h6:=sameBut_setCell (wx.setCell ⟨b5,0,none⟩ (.bool false)) (w.heap.size+2) 0 (.bool false)
   have h7:=sameBut_setCell ((wx.setCell ⟨b5,0,none⟩ (.bool false)).setCell ⟨w.heap.size+2,0,none⟩ (.bool false)) (w.heap.size+2) 1 (.slice (some ⟨gr,0,none⟩) 0 cr)
   have hn0:=hnum.zero.1 hlr
   exact ⟨_,rfl,.inl ⟨hn0,⟨_,lr,cr,by rw [hlr],by rw [hlr];exact ints_but (ints_but (ints_but HI.out HS5.out (by omega)) h6 (by omega)) h7 (by omega),hnum,by omega⟩⟩,h7.below (h6.below (HS5.out.below HBN.out (by omega)) (by omega)) (by omega)⟩
  ·have hmz:((mr:Int) == 0)=false:=by rw [beq_eq_false_iff_ne];omega
   go_wp2_with fail
   have y3:=(HX2.out.set0 (.bool m1)).set1 (.slice (some ⟨gr,0,none⟩) mr cr)
   refine bodyPost_ret (results_cell_row rfl _ _ (w.heap.size+2) 181 #[.bool m1,.slice (some ⟨gr,0,none⟩) mr cr] (0,0) _ rfl y3 Tryz.underlying181 rfl (by kernel_rfl)) rfl ?_
   have h6:=sameBut_setCell wx (w.heap.size+2) 0 (.bool m1)
   have h7:=sameBut_setCell (wx.setCell ⟨w.heap.size+2,0,none⟩ (.bool m1)) (w.heap.size+2) 1 (.slice (some ⟨gr,0,none⟩) mr cr)
   have hn0:=fun h=>hm0 (by have:=hnum.zero.2 h;omega)
   exact ⟨_,rfl,.inr ⟨hn0,⟨_,lr,cr,by rw [hlr],by rw [hlr];exact ints_but (ints_but HI.out h6 (by omega)) h7 (by omega),hnum,by omega⟩⟩,h7.below (h6.below HBN.out (by omega)) (by omega)⟩
theorem add6_less {m1 m2:Bool} {l1 l2:List Int} {n1 n2:Int} (v1 v2:Value) (w:World) (h1:IsInts w v1 l1) (h2:IsInts w v2 l2) (d1:Num l1 n1) (d2:Num l2 n2) (k1:l1.length≤400) (k2:l2.length≤400) (hm:¬ m1=m2) (hn:n1 < n2) :
  Calls Tryz.prog 180 #[.agg #[.bool m1,v1],.agg #[.bool m2,v2]] w (RetBigV m2 (n2 - n1) (max l1.length l2.length+1) w):=by
 obtain ⟨a1,c1,rfl⟩:=h1.slice
 obtain ⟨a2,c2,rfl⟩:=h2.slice
 have HP:=Lib.hid (fun W (hB:Below w.heap.size w W)=>minus6_ok _ _ W (h2.below hB) (h1.below hB) d2 d1 (by omega) (by omega) (by omega))
 have hmb:(m1 == m2)=false:=by simp [hm]
 clear hm
 have HSZ:=Lib.hid (fun W (hB:Below w.heap.size w W)=>size6_ok _ _ W (h1.below hB) (h2.below hB) d1 d2 (by omega) (by omega))
 clear h1 h2 d1 d2
 go_enter Tryz.func180,Tryz.ntmps180
 go_wp2_with fail
 have hb0:Below w.heap.size w (((w.alloc (.cells #[.bool m1,.slice a1 l1.length c1] 181)).alloc (.cells #[.bool m2,.slice a2 l2.length c2] 181)).alloc (.cells #[.bool false,.slice none 0 0] 181)):=qbl
 have x0:BoxB (((w.alloc (.cells #[.bool m1,.slice a1 l1.length c1] 181)).alloc (.cells #[.bool m2,.slice a2 l2.length c2] 181)).alloc (.cells #[.bool false,.slice none 0 0] 181)) w.heap.size (.bool m1) (.slice a1 l1.length c1):=((BoxB.new rfl).below (bw4 (bw0 _ _) _)).below (bw4 (bw0 _ _) _)
 have x1:BoxB (((w.alloc (.cells #[.bool m1,.slice a1 l1.length c1] 181)).alloc (.cells #[.bool m2,.slice a2 l2.length c2] 181)).alloc (.cells #[.bool false,.slice none 0 0] 181)) (w.heap.size+1) (.bool m2) (.slice a2 l2.length c2):=(BoxB.new (by simp)).below (bw4 (bw0 _ _) _)
 have x2:BoxB (((w.alloc (.cells #[.bool m1,.slice a1 l1.length c1] 181)).alloc (.cells #[.bool m2,.slice a2 l2.length c2] 181)).alloc (.cells #[.bool false,.slice none 0 0] 181)) (w.heap.size+2) (.bool false) (.slice none 0 0):=BoxB.new (by simp)
 have hz0:(((w.alloc (.cells #[.bool m1,.slice a1 l1.length c1] 181)).alloc (.cells #[.bool m2,.slice a2 l2.length c2] 181)).alloc (.cells #[.bool false,.slice none 0 0] 181)).heap.size=w.heap.size+3:=by simp
 generalize (((w.alloc (.cells #[.bool m1,.slice a1 l1.length c1] 181)).alloc (.cells #[.bool m2,.slice a2 l2.length c2] 181)).alloc (.cells #[.bool false,.slice none 0 0] 181))=W0 at *
 have hR:Below W0.heap.size W0 W0.drew:=(bw0 _ _).drew
 clear hR
 refine (HSZ.out _ hb0).mono ?_
 rintro e w1 ⟨r,rfl,hr1,hr2,hB1⟩
 have hb1:Below w.heap.size w w1:=below_trans' hb0 hB1
 have x0:=x0.below hB1
 have x1:=x1.below hB1
 have x2:=x2.below hB1
 have hz1:=hB1.size
 have hb0:=hb1
 clear hB1 hb1
 have hrl:decide (r < 0)=true:=by simp;omega
 have p0:=x0.c0
 have p1:=x0.c1
 have p2:=x0.f 0
 have p3:=x0.f 1
 have p4:=x0.lt
 have q0:=x1.c0
 have q1:=x1.c1
 have q2:=x1.f 0
 have q3:=x1.f 1
 have q4:=x1.lt
 have hs1:=sameBut_setCell w1 w.heap.size 0 (.bool m2)
 have hs2:=sameBut_setCell (w1.setCell ⟨w.heap.size,0,none⟩ (.bool m2)) w.heap.size 1 (.slice a2 l2.length c2)
 have hs3:=sameBut_setCell ((w1.setCell ⟨w.heap.size,0,none⟩ (.bool m2)).setCell ⟨w.heap.size,1,none⟩ (.slice a2 l2.length c2)) (w.heap.size+1) 0 (.bool m1)
 have hs4:=sameBut_setCell (((w1.setCell ⟨w.heap.size,0,none⟩ (.bool m2)).setCell ⟨w.heap.size,1,none⟩ (.slice a2 l2.length c2)).setCell ⟨w.heap.size+1,0,none⟩ (.bool m1)) (w.heap.size+1) 1 (.slice a1 l1.length c1)
 have z0:=Lib.hid (((((x0.set0 (.bool m2)).set1 (.slice a2 l2.length c2)).but hs3 (by omega)).but hs4 (by omega)))
 have z1:=Lib.hid ((((x1.but hs1 (by omega)).but hs2 (by omega)).set0 (.bool m1)).set1 (.slice a1 l1.length c1))
 have z2:=Lib.hid ((((x2.but hs1 (by omega)).but hs2 (by omega)).but hs3 (by omega)).but hs4 (by omega))
 have hb5:=Lib.hid (hs4.below (hs3.below (hs2.below (hs1.below hb0 (by omega)) (by omega)) (by omega)) (by omega))
 have hz5:Hid (w.heap.size+3≤((((w1.setCell ⟨w.heap.size,0,none⟩ (.bool m2)).setCell ⟨w.heap.size,1,none⟩ (.slice a2 l2.length c2)).setCell ⟨w.heap.size+1,0,none⟩ (.bool m1)).setCell ⟨w.heap.size+1,1,none⟩ (.slice a1 l1.length c1)).heap.size):=Lib.hid (by have h:=hs4.size;have h3:=hs3.size;have h2:=hs2.size;have h1:=hs1.size;omega)
 clear hs1 hs2 hs3 hs4 x0 x1 x2 hb0
 go_wp2_with fail
 have x0:=z0.out
 have x1:=z1.out
 have x2:=z2.out
 have hb0:=hb5.out
 have hz0:=hz5.out
 clear z0 z1 z2 hb5 hz5 p0 p1 p2 p3 p4 q0 q1 q2 q3 q4 hz1
 generalize ((((w1.setCell ⟨w.heap.size,0,none⟩ (.bool m2)).setCell ⟨w.heap.size,1,none⟩ (.slice a2 l2.length c2)).setCell ⟨w.heap.size+1,0,none⟩ (.bool m1)).setCell ⟨w.heap.size+1,1,none⟩ (.slice a1 l1.length c1))=W5 at *
 have hR:Below W5.heap.size W5 W5.drew:=(bw0 _ _).drew
 refine region_S (F:=[9]) (R:=(fun w'=>Below W5.heap.size W5 w')) 10 #[false,false,false,false,false,false,false,false,false,false] (by kernel_rfl) (by kernel_rfl) (by kernel_rfl) (fun _ _ _ _ _ h=>h) (fun Q' hQ' hN=>?_)
 generalize W5.drew=wd at *
 refine tS 27 0 (hy:=by intro wq hRq;have e0:=(x0.below hRq).c0;have e1:=(x0.below hRq).c1;have e2:=(x1.below hRq).c0;have e3:=(x1.below hRq).c1;go_simp;(try with_reducible rfl)) ?_
 refine tS 28 1 (hy:=by intro wq hRq;have e0:=(x0.below hRq).c0;have e1:=(x0.below hRq).c1;have e2:=(x1.below hRq).c0;have e3:=(x1.below hRq).c1;go_simp;(try with_reducible rfl)) ?_
 refine tS 29 2 (hy:=by intro wq hRq;have e0:=(x0.below hRq).c0;have e1:=(x0.below hRq).c1;have e2:=(x1.below hRq).c0;have e3:=(x1.below hRq).c1;go_simp;(try with_reducible rfl)) ?_
 refine tS 30 3 (hy:=by intro wq hRq;have e0:=(x0.below hRq).c0;have e1:=(x0.below hRq).c1;have e2:=(x1.below hRq).c0;have e3:=(x1.below hRq).c1;go_simp;(try with_reducible rfl)) ?_
 refine tS 31 4 (hy:=by intro wq hRq;have e0:=(x0.below hRq).c0;have e1:=(x0.below hRq).c1;have e2:=(x1.below hRq).c0;have e3:=(x1.below hRq).c1;go_simp;(try with_reducible rfl)) ?_
 refine tS 32 5 (hy:=by intro wq hRq;have e0:=(x0.below hRq).c0;have e1:=(x0.below hRq).c1;have e2:=(x1.below hRq).c0;have e3:=(x1.below hRq).c1;go_simp;(try with_reducible rfl)) ?_
 refine wpAnyS_ready (rs:=[6,8]) (by kernel_rfl) (by simp) ?_
 refine stepR (i:=6) rfl (by kernel_rfl) (fun K hK=>?_) (stepR (i:=8) rfl (by kernel_rfl) (fun K hK=>?_) (AllReadyS.nil))
 ·go_simp
  refine (HP.out _ (below_trans' hb0 hR)).mono ?_
  rintro e wn ⟨lr,mr,gr,cr,hlr,rfl,hown,hnum,hlen,hB'⟩
  have hzr:=hR.size
  have hi:IsInts wn (.slice (some ⟨gr,0,none⟩) mr cr) lr:=hown.is
  obtain ⟨hg1,hg2⟩:=own_rng hown
  have hzn:=hB'.size
  have hR:Below W5.heap.size W5 wn:=below_trans' hR hB'
  clear hB' hown
  refine hK.out _ _ hR ?_
  clear hK K
  (try simp only [Act.put,bw7,bw8,bw9])
  refine tS 34 7 (hy:=by intro wq hRq;have e0:=(x0.below hRq).c0;have e1:=(x0.below hRq).c1;have e2:=(x1.below hRq).c0;have e3:=(x1.below hRq).c1;go_simp;(try with_reducible rfl)) ?_
  refine wpAnyS_ready (rs:=[8]) (by kernel_rfl) (by simp) ?_
  refine stepR (i:=8) rfl (by kernel_rfl) (fun K hK=>?_) (AllReadyS.nil)
  have hzq:=hR.size
  have hlo5:w.heap.size+3≤wn.heap.size:=by omega
  go_simp
  refine after_alloc (fun wb hB' hb5 hz5=>?_)
  have hb5:BoxB wb _ (.bool false) (.slice none 0 0):=hb5
  have hzb:=hB'.size
  have hR:Below W5.heap.size W5 wb:=below_trans' hR hB'
  have hi:=hi.below hB'
  clear hB'
  refine hK.out _ _ hR ?_
  clear hK K
  (try simp only [Act.put,bw7,bw8,bw9])
  refine wpAnyS_ready (rs:=[9]) (by kernel_rfl) (by simp) ?_
  refine stepF (i:=9) rfl (by kernel_rfl) (by kernel_rfl) (fun K hK=>?_) (AllReadyS.nil)
  refine wp_storeB _ _ rfl hb5 rfl rfl rfl rfl (fun wx hS hbx=>?_)
  have hi:=ints_but hi hS (by omega)
  have x2x:=(x2.below hR).but hS (by omega)
  have hBn:=hS.below (hb0.trans (hR.mono hb0.size)) (by omega)
  have hlx:=hbx.lt
  clear hS
  refine hK.out _ _ ?_
  clear hK K
  (try simp only [Act.put,bw7,bw8,bw9])
  refine wpAnyS_done (by kernel_rfl) ?_ _
  refine hN.out _ _ ?_
  generalize wn.heap.size=b5 at *
  have hne5:w.heap.size+2≠b5:=by omega
  have hne6:b5≠w.heap.size+2:=by omega
  have c0:=hbx.c0
  have c1:=hbx.c1
  have f0:=hbx.f 0
  have l5:=hbx.lt
  have r0:=x2x.c0
  have r1:=x2x.c1
  have g0:=x2x.f 0
  have g1:=x2x.f 1
  have l0:=x2x.lt
  have HBX:=Lib.hid hbx
  have HX2:=Lib.hid x2x
  have HI:=Lib.hid hi
  have HBN:=Lib.hid hBn
  clear hbx x2x hi hBn
  by_cases hm0:mr=0
  ·subst hm0
   have hS5:=sameBut_setCell wx b5 0 (.bool false)
   have y5:=HBX.out.set0 (.bool false)
   have y2:=HX2.out.but hS5 hne5
   have s0:=y5.c0
   have s1:=y5.c1
   have t0:=y2.c0
   have t1:=y2.c1
   have u0:=y2.f 0
   have u1:=y2.f 1
   have u2:=y2.lt
   have Y2:=Lib.hid y2
   have HS5:=Lib.hid hS5
   clear y2 y5 hS5
   go_wp2_with fail
   have y3:=(Y2.out.set0 (.bool false)).set1 (.slice (some ⟨gr,0,none⟩) 0 cr)
   refine bodyPost_ret (results_cell_row rfl _ _ (w.heap.size+2) 181 #[.bool false,.slice (some ⟨gr,0,none⟩) 0 cr] (0,0) _ rfl y3 Tryz.underlying181 rfl (by kernel_rfl)) rfl ?_
   have h6:=sameBut_setCell (wx.setCell ⟨b5,0,none⟩ (.bool false)) (w.heap.size+2) 0 (.bool false)
   have h7:=sameBut_setCell ((wx.setCell ⟨b5,0,none⟩ (.bool false)).setCell ⟨w.heap.size+2,0,none⟩ (.bool false)) (w.heap.size+2) 1 (.slice (some ⟨gr,0,none⟩) 0 cr)
   have hn0:=hnum.zero.1 hlr
   exact ⟨_,rfl,.inl ⟨hn0,⟨_,lr,cr,by rw [hlr],by rw [hlr];exact ints_but (ints_but (ints_but HI.out HS5.out (by omega)) h6 (by omega)) h7 (by omega),hnum,by omega⟩⟩,h7.below (h6.below (HS5.out.below HBN.out (by omega)) (by omega)) (by omega)⟩
  ·have hmz:((mr:Int) == 0)=false:=by rw [beq_eq_false_iff_ne];omega
   go_wp2_with fail
   have y3:=(HX2.out.set0 (.bool m2)).set1 (.slice (some ⟨gr,0,none⟩) mr cr)
   refine bodyPost_ret (results_cell_row rfl _ _ (w.heap.size+2) 181 #[.bool m2,.slice (some ⟨gr,0,none⟩) mr cr] (0,0) _ rfl y3 Tryz.underlying181 rfl (by kernel_rfl)) rfl ?_
   have h6:=sameBut_setCell wx (w.heap.size+2) 0 (.bool m2)
   have h7:=sameBut_setCell (wx.setCell ⟨w.heap.size+2,0,none⟩ (.bool m2)) (w.heap.size+2) 1 (.slice (some ⟨gr,0,none⟩) mr cr)
   have hn0:=fun h=>hm0 (by have:=hnum.zero.2 h;omega)
   exact ⟨_,rfl,.inr ⟨hn0,⟨_,lr,cr,by rw [hlr],by rw [hlr];exact ints_but (ints_but HI.out h6 (by omega)) h7 (by omega),hnum,by omega⟩⟩,h7.below (h6.below HBN.out (by omega)) (by omega)⟩
 ·have hzq:=hR.size
  have hlo5:w.heap.size+3≤wd.heap.size:=by omega
  go_simp
  refine after_alloc (fun wb hB' hb5 hz5=>?_)
  have hb5:BoxB wb _ (.bool false) (.slice none 0 0):=hb5
  have hzb:=hB'.size
  have hR:Below W5.heap.size W5 wb:=below_trans' hR hB'
  clear hB'
  refine hK.out _ _ hR ?_
  clear hK K
  (try simp only [Act.put,bw7,bw8,bw9])
  refine wpAnyS_ready (rs:=[6]) (by kernel_rfl) (by simp) ?_
  refine stepR (i:=6) rfl (by kernel_rfl) (fun K hK=>?_) (AllReadyS.nil)
  go_simp
  refine (HP.out _ (below_trans' hb0 hR)).mono ?_
  rintro e wn ⟨lr,mr,gr,cr,hlr,rfl,hown,hnum,hlen,hB'⟩
  have hzr:=hR.size
  have hi:IsInts wn (.slice (some ⟨gr,0,none⟩) mr cr) lr:=hown.is
  obtain ⟨hg1,hg2⟩:=own_rng hown
  have hzn:=hB'.size
  have hR:Below W5.heap.size W5 wn:=below_trans' hR hB'
  have hb5:=hb5.below hB'
  clear hB' hown
  refine hK.out _ _ hR ?_
  clear hK K
  (try simp only [Act.put,bw7,bw8,bw9])
  refine tS 34 7 (hy:=by intro wq hRq;have e0:=(x0.below hRq).c0;have e1:=(x0.below hRq).c1;have e2:=(x1.below hRq).c0;have e3:=(x1.below hRq).c1;go_simp;(try with_reducible rfl)) ?_
  refine wpAnyS_ready (rs:=[9]) (by kernel_rfl) (by simp) ?_
  refine stepF (i:=9) rfl (by kernel_rfl) (by kernel_rfl) (fun K hK=>?_) (AllReadyS.nil)
  refine wp_storeB _ _ rfl hb5 rfl rfl rfl rfl (fun wx hS hbx=>?_)
  have hi:=ints_but hi hS (by omega)
  have x2x:=(x2.below hR).but hS (by omega)
  have hBn:=hS.below (hb0.trans (hR.mono hb0.size)) (by omega)
  have hlx:=hbx.lt
  clear hS
  refine hK.out _ _ ?_
  clear hK K
  (try simp only [Act.put,bw7,bw8,bw9])
  refine wpAnyS_done (by kernel_rfl) ?_ _
  refine hN.out _ _ ?_
  generalize wd.heap.size=b5 at *
  have hne5:w.heap.size+2≠b5:=by omega
  have hne6:b5≠w.heap.size+2:=by omega
  have c0:=hbx.c0
  have c1:=hbx.c1
  have f0:=hbx.f 0
  have l5:=hbx.lt
  have r0:=x2x.c0
  have r1:=x2x.c1
  have g0:=x2x.f 0
  have g1:=x2x.f 1
  have l0:=x2x.lt
  have HBX:=Lib.hid hbx
  have HX2:=Lib.hid x2x
  have HI:=Lib.hid hi
  have HBN:=Lib.hid hBn
  clear hbx x2x hi hBn
  by_cases hm0:mr=0
  ·subst hm0
   have hS5:=sameBut_setCell wx b5 0 (.bool false)
   have y5:=HBX.out.set0 (.bool false)
   have y2:=HX2.out.but hS5 hne5
   have s0:=y5.c0
   have s1:=y5.c1
   have t0:=y2.c0
   have t1:=y2.c1
   have u0:=y2.f 0
   have u1:=y2.f 1
   have u2:=y2.lt
   have Y2:=Lib.hid y2
   have HS5:=Lib.hid hS5
   clear y2 y5 hS5
   go_wp2_with fail
   have y3:=(Y2.out.set0 (.bool false)).set1 (.slice (some ⟨gr,0,none⟩) 0 cr)
   refine bodyPost_ret (results_cell_row rfl _ _ (w.heap.size+2) 181 #[.bool false,.slice (some ⟨gr,0,none⟩) 0 cr] (0,0) _ rfl y3 Tryz.underlying181 rfl (by kernel_rfl)) rfl ?_
   have h6:=sameBut_setCell (wx.setCell ⟨b5,0,none⟩ (.bool false)) (w.heap.size+2) 0 (.bool false)
   have h7:=sameBut_setCell ((wx.setCell ⟨b5,0,none⟩ (.bool false)).setCell ⟨w.heap.size+2,0,none⟩ (.bool false)) (w.heap.size+2) 1 (.slice (some ⟨gr,0,none⟩) 0 cr)
   have hn0:=hnum.zero.1 hlr
   exact ⟨_,rfl,.inl ⟨hn0,⟨_,lr,cr,by rw [hlr],by rw [hlr];exact ints_but (ints_but (ints_but HI.out HS5.out (by omega)) h6 (by omega)) h7 (by omega),hnum,by omega⟩⟩,h7.below (h6.below (HS5.out.below HBN.out (by omega)) (by omega)) (by omega)⟩
  ·have hmz:((mr:Int) == 0)=false:=by rw [beq_eq_false_iff_ne];omega
   go_wp2_with fail
   have y3:=(HX2.out.set0 (.bool m2)).set1 (.slice (some ⟨gr,0,none⟩) mr cr)
   refine bodyPost_ret (results_cell_row rfl _ _ (w.heap.size+2) 181 #[.bool m2,.slice (some ⟨gr,0,none⟩) mr cr] (0,0) _ rfl y3 Tryz.underlying181 rfl (by kernel_rfl)) rfl ?_
   have h6:=sameBut_setCell wx (w.heap.size+2) 0 (.bool m2)
   have h7:=sameBut_setCell (wx.setCell ⟨w.heap.size+2,0,none⟩ (.bool m2)) (w.heap.size+2) 1 (.slice (some ⟨gr,0,none⟩) mr cr)
   have hn0:=fun h=>hm0 (by have:=hnum.zero.2 h;omega)
   exact ⟨_,rfl,.inr ⟨hn0,⟨_,lr,cr,by rw [hlr],by rw [hlr];exact ints_but (ints_but HI.out h6 (by omega)) h7 (by omega),hnum,by omega⟩⟩,h7.below (h6.below HBN.out (by omega)) (by omega)⟩
theorem neg6_none (b:Bool) (a:Option Addr) (c:Nat) (w:World):Calls Tryz.prog 195 #[.agg #[.bool b,.slice a 0 c]] w fun e w'=>e=.returned (.agg #[.bool b,.slice a 0 c])∧Below w.heap.size w w':=by
 go_enter Tryz.func195,Tryz.ntmps195
 go_wp2_with fail
 refine bodyPost_ret (v:=.agg #[.bool b,.slice a 0 c]) (by simp [results,Tryz.results195,go_sem]) rfl ⟨rfl,qbl⟩
theorem neg6_some (b:Bool) (a:Option Addr) (n c:Nat) (w:World) (h:n≠0):Calls Tryz.prog 195 #[.agg #[.bool b,.slice a n c]] w fun e w'=>e=.returned (.agg #[.bool (!b),.slice a n c])∧Below w.heap.size w w':=by
 have h0:((n:Int) == 0)=false:=by rw [beq_eq_false_iff_ne];omega
 go_enter Tryz.func195,Tryz.ntmps195
 go_wp2_with fail
 refine bodyPost_ret (v:=.agg #[.bool (!b),.slice a n c]) (by simp [results,Tryz.results195,go_sem]) rfl ⟨rfl,qbl⟩
end Go.Proofs.YteepphiomcedfaaGreatDoor.R6
namespace Go.Proofs.YteepphiomcedfaaGreatDoor.R6
open Go.RowKit Go.Shelf
theorem IsBigS.below {w w':World} {v:Value} {x:Int} {k:Nat} (h:IsBigS w v x k) (hB:Below w.heap.size w w'):IsBigS w' v x k:=IsBigG.below h hB
theorem IsBigS.len {w:World} {v:Value} {x:Int} {k j:Nat} (h:IsBigS w v x k) (hx:x.natAbs < 10 ^ (6 * j)):IsBigS w v x j:=by
 obtain ⟨a,l,c,e,hi,hn,hl⟩:=h
 exact ⟨a,l,c,e,hi,hn,hn.length_le (by rw [pw_six];omega)⟩
theorem IsBigS.of {w:World} {v:Value} {x n:Int} {b:Bool} {k:Nat} (h:IsBigG b w v n k) (hb:b=decide (x < 0)) (hn:n=(x.natAbs:Int)):IsBigS w v x k:=by
 subst hb;subst hn;exact h
def RetBig6 (x:Int) (k:Nat) (w:World) (e:Ending) (w':World):Prop:=∃ v,e=.returned v∧IsBigS w' v x k∧Below w.heap.size w w'
theorem RetBigV.s {b:Bool} {n x:Int} {k:Nat} {w:World} {e:Ending} {w':World} (h:RetBigV b n k w e w') (hn:n=(x.natAbs:Int)) (hb:x≠0→b=decide (x < 0)):RetBig6 x k w e w':=by
 obtain ⟨v,he,hc,hB⟩:=h
 refine ⟨v,he,?_,hB⟩
 rcases hc with ⟨h0,hg⟩|⟨h0,hg⟩
 ·obtain rfl:x=0:=by omega
  exact IsBigS.of hg rfl hn
 ·exact IsBigS.of hg (hb (by omega)) hn
theorem mul6s {x y:Int} {k1 k2:Nat} (v1 v2:Value) (w:World) (h1:IsBigS w v1 x k1) (h2:IsBigS w v2 y k2) (q1:k1≤200) (q2:k2≤200) :
  Calls Tryz.prog 247 #[v1,v2] w (RetBig6 (x * y) (k1+k2+1) w):=by
 obtain ⟨a1,l1,c1,rfl,i1,d1,g1⟩:=h1
 obtain ⟨a2,l2,c2,rfl,i2,d2,g2⟩:=h2
 refine (mul6_core _ _ w i1 i2 d1 d2 (by omega) (by omega)).mono fun e w' h=>?_
 obtain ⟨v,he,hi,hB⟩:=h.s (x:=x * y) (by rw [Int.natAbs_mul,Int.natCast_mul]) (fun hne=>by
  have hx0:x≠0:=fun h=>hne (by rw [h,Int.zero_mul])
  have hy0:y≠0:=fun h=>hne (by rw [h,Int.mul_zero])
  by_cases hx:x < 0
  ·by_cases hy:y < 0
   ·have:=Int.mul_pos_of_neg_of_neg hx hy
    simp [hx,hy,show ¬ x * y < 0 by omega]
   ·have:=Int.mul_neg_of_neg_of_pos hx (show 0 < y by omega)
    simp [hx,hy,this]
  ·by_cases hy:y < 0
   ·have:=Int.mul_neg_of_pos_of_neg (show 0 < x by omega) hy
    simp [hx,hy,this]
   ·have:=Int.mul_pos (show 0 < x by omega) (show 0 < y by omega)
    simp [hx,hy,show ¬ x * y < 0 by omega])
 obtain ⟨a,l,c,e',hi',hn',hl'⟩:=hi
 exact ⟨v,he,⟨a,l,c,e',hi',hn',by omega⟩,hB⟩
theorem add6s {x y:Int} {k1 k2:Nat} (v1 v2:Value) (w:World) (h1:IsBigS w v1 x k1) (h2:IsBigS w v2 y k2) (q1:k1≤200) (q2:k2≤200) :
  Calls Tryz.prog 180 #[v1,v2] w (RetBig6 (x+y) (max k1 k2+1) w):=by
 obtain ⟨a1,l1,c1,rfl,i1,d1,g1⟩:=h1
 obtain ⟨a2,l2,c2,rfl,i2,d2,g2⟩:=h2
 have key:∀ {e w'},RetBig6 (x+y) (max l1.length l2.length+1) w e w'→RetBig6 (x+y) (max k1 k2+1) w e w':=by
  rintro e w' ⟨v,he,⟨a,l,c,e',hi',hn',hl'⟩,hB⟩
  exact ⟨v,he,⟨a,l,c,e',hi',hn',by omega⟩,hB⟩
 by_cases hm:decide (x < 0)=decide (y < 0)
 ·refine (add6_same _ _ w i1 i2 d1 d2 (by omega) (by omega) hm).mono ?_
  rintro e w' ⟨v,he,hg,hB⟩
  refine key ⟨v,he,IsBigS.of hg ?_ ?_,hB⟩
  ·rw [decide_eq_decide] at hm ⊢;omega
  ·rw [decide_eq_decide] at hm;omega
 ·have hm':¬ (x < 0↔y < 0):=fun h=>hm (decide_eq_decide.2 h)
  by_cases hn:(y.natAbs:Int)≤(x.natAbs:Int)
  ·refine (add6_great _ _ w i1 i2 d1 d2 (by omega) (by omega) hm hn).mono fun e w' h=>key (h.s (by omega) (fun hne=>?_))
   rw [decide_eq_decide];omega
  ·refine (add6_less _ _ w i1 i2 d1 d2 (by omega) (by omega) hm (by omega)).mono fun e w' h=>key (h.s (by omega) (fun hne=>?_))
   rw [decide_eq_decide];omega
theorem neg6s {x:Int} {k:Nat} (v:Value) (w:World) (h:IsBigS w v x k):Calls Tryz.prog 195 #[v] w (RetBig6 (-x) k w):=by
 obtain ⟨a,l,c,rfl,hi,hn,hl⟩:=h
 by_cases h0:l.length=0
 ·have hx:x=0:=by have:=hn.zero.1 h0;omega
  rw [h0]
  refine (neg6_none _ a c w).mono ?_
  rintro e w' ⟨rfl,hB⟩
  subst hx
  exact ⟨_,rfl,⟨a,l,c,by rw [h0];rfl,by have:=hi.below hB;rwa [h0] at this ⊢,hn,hl⟩,hB⟩
 ·have hx:x≠0:=fun h=>h0 (hn.zero.2 (by omega))
  refine (neg6_some _ a l.length c w h0).mono ?_
  rintro e w' ⟨rfl,hB⟩
  refine ⟨_,rfl,⟨a,l,c,?_,hi.below hB,by rw [Int.natAbs_neg];exact hn,hl⟩,hB⟩
  congr 1
  have:(!decide (x < 0))=decide (-x < 0):=by
   by_cases hlt:x < 0
   ·simp [hlt];omega
   ·simp [hlt];omega
  rw [this]
theorem fits_lt {x:Int} (h:Fit x):x.natAbs < 10 ^ (6 * 50):=by
 rw [show (6 * 50:Nat)=300 from rfl]
 exact pow_le_of_lt (k:=300) h
theorem result6s {x:Int} {k:Nat} (v:Value) (w:World) (h:IsBigS w v x k) (hf:Fit x):Calls Tryz.prog 181 #[v] w (RetI x w):=by
 have hv:=h.len (fits_lt hf)
 have HW:=Lib.hid (fun W (hB:Below w.heap.size w W)=>write6s (k:=50) v W (hv.below hB) (by omega))
 obtain ⟨a,l,c,rfl,-,-,-⟩:=hv
 have HC:=Lib.hid (fun (s:ByteArray) W hs=>check6s s (x:=x) W hs hf)
 clear h
 generalize decide (x < 0)=b at *
 go_enter Tryz.func181,Tryz.ntmps181
 go_wp2_with fail
 refine (HW.out _ qbl).mono ?_
 rintro e w1 ⟨s,hs,rfl,hB1⟩
 have HS:=Lib.hid hs
 have hb1:Below w.heap.size w w1:=qbl
 clear hB1 hs
 go_wp2_with fail
 refine (HC.out _ _ HS.out).mono ?_
 rintro e w2 ⟨rfl,rfl⟩
 go_wp2_with fail
 go_ret2
 exact ⟨s,HS.out,rfl,hb1⟩
theorem Mul6_ok {x y:Int} (s t:ByteArray) (w:World) (hG:Glo w) (hs:s.data.toList=Lib.itoa x) (hx:Fit x) (ht:t.data.toList=Lib.itoa y) (hy:Fit y) (hxy:Fit (x * y)) :
  Calls Tryz.prog 194 #[.string s,.string t] w (RetI (x * y) w):=by
 have HB:=Lib.hid (fun W=>both6s s t W hs hx ht hy)
 have HR1:=Lib.hid (fun W=>read6s s W hs (by have:=fits_size hs hx;omega))
 have HR2:=Lib.hid (fun W=>read6s t W ht (by have:=fits_size ht hy;omega))
 have z1:=fits_size hs hx
 have z2:=fits_size ht hy
 have HG:=Lib.hid hG
 have HF:=Lib.hid hxy
 by_cases h17:s.size≤17∧t.size≤17
 ·have HT:=Lib.hid (fun W=>two6s s t W hs h17.1 ht h17.2)
  have p1:x.natAbs < 10 ^ s.size:=itoa_lt (k:=s.size) (by rw [← hs];exact Nat.le_refl _)
  have p2:y.natAbs < 10 ^ t.size:=itoa_lt (k:=t.size) (by rw [← ht];exact Nat.le_refl _)
  by_cases h18:s.size+t.size≤18
  ·have p3:(x * y).natAbs < 10 ^ 18:=Nat.lt_of_lt_of_le (mul_lt p1 p2) (Nat.pow_le_pow_right (by omega) h18)
   have h18I:(s.size:Int)+(t.size:Int)≤18:=by omega
   have hw1:IntKind.i64.wrap ((s.size:Int)+(t.size:Int))=(s.size:Int)+(t.size:Int):=IntWalk.i64_in _ (by omega)
   have hw2:IntKind.i64.wrap (x * y)=x * y:=IntWalk.i64_in _ (by omega)
   have HI:=Lib.hid (fun W hG=>itoa_any (x * y) (by omega) (by omega) W hG)
   clear hs ht hG hxy p1 p2
   go_enter Tryz.func194,Tryz.ntmps194
   go_wp2_with fail
   refine (HB.out _).mono ?_
   rintro e w1 ⟨rfl,rfl⟩
   go_wp2_with fail
   refine (HT.out _).mono ?_
   rintro e w1 ⟨rfl,rfl⟩
   go_wp2_with fail
   refine (HI.out _ HG.out).mono ?_
   rintro e w2 ⟨r,hr,rfl,hB⟩
   have HR:=Lib.hid hr
   clear hr
   go_wp2_with fail
   go_ret2
   exact ⟨r,HR.out,rfl,hB⟩
  ·have h18I:decide ((s.size:Int)+(t.size:Int)≤18)=false:=by simp;omega
   have hw1:IntKind.i64.wrap ((s.size:Int)+(t.size:Int))=(s.size:Int)+(t.size:Int):=IntWalk.i64_in _ (by omega)
   clear hs ht hG hxy p1 p2
   go_enter Tryz.func194,Tryz.ntmps194
   go_wp2_with fail
   refine (HB.out _).mono ?_
   rintro e w1 ⟨rfl,rfl⟩
   go_wp2_with fail
   refine (HT.out _).mono ?_
   rintro e w1 ⟨rfl,rfl⟩
   go_wp2_with fail
   refine (HR1.out _).mono ?_
   rintro e w2 ⟨v1,rfl,i1,hB2⟩
   have I1:=Lib.hid i1
   obtain ⟨a1,l1,c1,rfl,-,-,-⟩:=i1
   generalize decide (x < 0)=b1 at *
   go_wp2_with fail
   refine (HR2.out _).mono ?_
   rintro e w3 ⟨v2,rfl,i2,hB3⟩
   have I2:=Lib.hid i2
   have I1':=Lib.hid (I1.out.below hB3)
   obtain ⟨a2,l2,c2,rfl,-,-,-⟩:=i2
   have hb3:=below_trans' hB2 hB3
   generalize decide (y < 0)=b2 at *
   clear hB2 hB3 I1
   go_wp2_with fail
   refine (mul6s _ _ _ I1'.out I2.out (by omega) (by omega)).mono ?_
   rintro e w4 ⟨v3,rfl,i3,hB4⟩
   have I3:=Lib.hid i3
   have hb4:=below_trans' hb3 hB4
   obtain ⟨a3,l3,c3,rfl,-,-,-⟩:=i3
   generalize decide (x * y < 0)=b3 at *
   clear hB4 hb3 I1' I2
   go_wp2_with fail
   refine (result6s _ _ I3.out HF.out).mono ?_
   rintro e w5 ⟨r,hr,rfl,hB5⟩
   have HR:=Lib.hid hr
   have hb5:=below_trans' hb4 hB5
   clear hr hB5
   go_wp2_with fail
   go_ret2
   exact ⟨r,HR.out,rfl,hb5⟩
 ·have HT:=Lib.hid (fun W=>two6s_long s t W hs h17)
  clear hs ht hG hxy
  go_enter Tryz.func194,Tryz.ntmps194
  go_wp2_with fail
  refine (HB.out _).mono ?_
  rintro e w1 ⟨rfl,rfl⟩
  go_wp2_with fail
  refine (HT.out _).mono ?_
  rintro e w1 ⟨⟨u1,u2,rfl⟩,rfl⟩
  go_wp2_with fail
  refine (HR1.out _).mono ?_
  rintro e w2 ⟨v1,rfl,i1,hB2⟩
  have I1:=Lib.hid i1
  obtain ⟨a1,l1,c1,rfl,-,-,-⟩:=i1
  generalize decide (x < 0)=b1 at *
  go_wp2_with fail
  refine (HR2.out _).mono ?_
  rintro e w3 ⟨v2,rfl,i2,hB3⟩
  have I2:=Lib.hid i2
  have I1':=Lib.hid (I1.out.below hB3)
  obtain ⟨a2,l2,c2,rfl,-,-,-⟩:=i2
  have hb3:=below_trans' hB2 hB3
  generalize decide (y < 0)=b2 at *
  clear hB2 hB3 I1
  go_wp2_with fail
  refine (mul6s _ _ _ I1'.out I2.out (by omega) (by omega)).mono ?_
  rintro e w4 ⟨v3,rfl,i3,hB4⟩
  have I3:=Lib.hid i3
  have hb4:=below_trans' hb3 hB4
  obtain ⟨a3,l3,c3,rfl,-,-,-⟩:=i3
  generalize decide (x * y < 0)=b3 at *
  clear hB4 hb3 I1' I2
  go_wp2_with fail
  refine (result6s _ _ I3.out HF.out).mono ?_
  rintro e w5 ⟨r,hr,rfl,hB5⟩
  have HR:=Lib.hid hr
  have hb5:=below_trans' hb4 hB5
  clear hr hB5
  go_wp2_with fail
  go_ret2
  exact ⟨r,HR.out,rfl,hb5⟩
end Go.Proofs.YteepphiomcedfaaGreatDoor.R6
namespace Go.Proofs.YteepphiomcedfaaGreatDoor.R6
open Go.RowKit Go.Shelf
theorem IsBigG.row {b b':Bool} {w:World} {a:Option Addr} {n c:Nat} {x:Int} {k:Nat} (h:IsBigG b w (.agg #[.bool b',.slice a n c]) x k):∃ l,l.length=n∧IsInts w (.slice a n c) l∧Num l x∧n≤k:=by
 obtain ⟨a',l,c',e,hi,hn,hl⟩:=h
 injection e with e
 simp at e
 obtain ⟨_,rfl,rfl,rfl⟩:=e
 exact ⟨l,rfl,hi,hn,hl⟩
theorem compareInt_lt {x y:Int} (h:x < y):Lib.compareInt x y=-1:=by unfold Lib.compareInt;rw [if_pos h]
theorem compareInt_gt {x y:Int} (h:y < x):Lib.compareInt x y=1:=by unfold Lib.compareInt;rw [if_neg (by omega),if_pos h]
theorem compareInt_eq {x y:Int} (h:x=y):Lib.compareInt x y=0:=by unfold Lib.compareInt;rw [if_neg (by omega),if_neg (by omega)]
theorem Add6_ok {x y:Int} (s t:ByteArray) (w:World) (hG:Glo w) (hs:s.data.toList=Lib.itoa x) (hx:Fit x) (ht:t.data.toList=Lib.itoa y) (hy:Fit y) (hxy:Fit (x+y)) :
  Calls Tryz.prog 183 #[.string s,.string t] w (RetI (x+y) w):=by
 have HB:=Lib.hid (fun W=>both6s s t W hs hx ht hy)
 have HR1:=Lib.hid (fun W=>read6s s W hs (by have:=fits_size hs hx;omega))
 have HR2:=Lib.hid (fun W=>read6s t W ht (by have:=fits_size ht hy;omega))
 have z1:=fits_size hs hx
 have z2:=fits_size ht hy
 have HG:=Lib.hid hG
 have HF:=Lib.hid hxy
 by_cases h17:s.size≤17∧t.size≤17
 ·have HT:=Lib.hid (fun W=>two6s s t W hs h17.1 ht h17.2)
  have p1:x.natAbs < 10 ^ 17:=itoa_lt (by rw [← hs];exact h17.1)
  have p2:y.natAbs < 10 ^ 17:=itoa_lt (by rw [← ht];exact h17.2)
  have hw2:IntKind.i64.wrap (x+y)=x+y:=IntWalk.i64_in _ (by omega)
  have HI:=Lib.hid (fun W hG=>itoa_any (x+y) (by omega) (by omega) W hG)
  clear hs ht hG hxy p1 p2
  go_enter Tryz.func183,Tryz.ntmps183
  go_wp2_with fail
  refine (HB.out _).mono ?_
  rintro e w1 ⟨rfl,rfl⟩
  go_wp2_with fail
  refine (HT.out _).mono ?_
  rintro e w1 ⟨rfl,rfl⟩
  go_wp2_with fail
  refine (HI.out _ HG.out).mono ?_
  rintro e w2 ⟨r,hr,rfl,hB⟩
  have HR:=Lib.hid hr
  clear hr
  go_wp2_with fail
  go_ret2
  exact ⟨r,HR.out,rfl,hB⟩
 ·have HT:=Lib.hid (fun W=>two6s_long s t W hs h17)
  clear hs ht hG hxy
  go_enter Tryz.func183,Tryz.ntmps183
  go_wp2_with fail
  refine (HB.out _).mono ?_
  rintro e w1 ⟨rfl,rfl⟩
  go_wp2_with fail
  refine (HT.out _).mono ?_
  rintro e w1 ⟨⟨u1,u2,rfl⟩,rfl⟩
  go_wp2_with fail
  refine (HR1.out _).mono ?_
  rintro e w2 ⟨v1,rfl,i1,hB2⟩
  have I1:=Lib.hid i1
  obtain ⟨a1,l1,c1,rfl,-,-,-⟩:=i1
  generalize decide (x < 0)=b1 at *
  go_wp2_with fail
  refine (HR2.out _).mono ?_
  rintro e w3 ⟨v2,rfl,i2,hB3⟩
  have I2:=Lib.hid i2
  have I1':=Lib.hid (I1.out.below hB3)
  obtain ⟨a2,l2,c2,rfl,-,-,-⟩:=i2
  have hb3:=below_trans' hB2 hB3
  generalize decide (y < 0)=b2 at *
  clear hB2 hB3 I1
  go_wp2_with fail
  refine (add6s _ _ _ I1'.out I2.out (by omega) (by omega)).mono ?_
  rintro e w4 ⟨v3,rfl,i3,hB4⟩
  have I3:=Lib.hid i3
  have hb4:=below_trans' hb3 hB4
  obtain ⟨a3,l3,c3,rfl,-,-,-⟩:=i3
  generalize decide (x+y < 0)=b3 at *
  clear hB4 hb3 I1' I2
  go_wp2_with fail
  refine (result6s _ _ I3.out HF.out).mono ?_
  rintro e w5 ⟨r,hr,rfl,hB5⟩
  have HR:=Lib.hid hr
  have hb5:=below_trans' hb4 hB5
  clear hr hB5
  go_wp2_with fail
  go_ret2
  exact ⟨r,HR.out,rfl,hb5⟩
theorem Compare6_ok {x y:Int} (s t:ByteArray) (w:World) (hG:Glo w) (hs:s.data.toList=Lib.itoa x) (hx:Fit x) (ht:t.data.toList=Lib.itoa y) (hy:Fit y) :
  Calls Tryz.prog 141 #[.string s,.string t] w (RetB (.tuple #[.int .i64 (Lib.compareInt x y),.int .i64 0]) w):=by
 have HB:=Lib.hid (fun W=>both6s s t W hs hx ht hy)
 have HR1:=Lib.hid (fun W=>read6s s W hs (by have:=fits_size hs hx;omega))
 have HR2:=Lib.hid (fun W=>read6s t W ht (by have:=fits_size ht hy;omega))
 have z1:=fits_size hs hx
 have z2:=fits_size ht hy
 have HG:=Lib.hid hG
 by_cases h17:s.size≤17∧t.size≤17
 ·have HT:=Lib.hid (fun W=>two6s s t W hs h17.1 ht h17.2)
  rcases Int.lt_trichotomy x y with h|h|h
  ·rw [compareInt_lt h]
   clear hs ht hG
   go_enter Tryz.func141,Tryz.ntmps141
   go_wp2_with fail
   refine (HB.out _).mono ?_
   rintro e w1 ⟨rfl,rfl⟩
   go_wp2_with fail
   refine (HT.out _).mono ?_
   rintro e w1 ⟨rfl,rfl⟩
   go_wp2_with fail
   go_ret2
   exact ⟨rfl,bw0 _ _⟩
  ·rw [compareInt_eq h]
   have h1:¬ x < y:=by omega
   have h2:¬ y < x:=by omega
   clear h
   clear hs ht hG
   go_enter Tryz.func141,Tryz.ntmps141
   go_wp2_with fail
   refine (HB.out _).mono ?_
   rintro e w1 ⟨rfl,rfl⟩
   go_wp2_with fail
   refine (HT.out _).mono ?_
   rintro e w1 ⟨rfl,rfl⟩
   go_wp2_with fail
   go_ret2
   exact ⟨rfl,bw0 _ _⟩
  ·rw [compareInt_gt h]
   have h1:¬ x < y:=by omega
   clear hs ht hG
   go_enter Tryz.func141,Tryz.ntmps141
   go_wp2_with fail
   refine (HB.out _).mono ?_
   rintro e w1 ⟨rfl,rfl⟩
   go_wp2_with fail
   refine (HT.out _).mono ?_
   rintro e w1 ⟨rfl,rfl⟩
   go_wp2_with fail
   go_ret2
   exact ⟨rfl,bw0 _ _⟩
 ·have HT:=Lib.hid (fun W=>two6s_long s t W hs h17)
  obtain ⟨cv,hcv⟩:∃ c,Lib.compareInt x y=c:=⟨_,rfl⟩
  have HCV:=Lib.hid hcv
  rw [hcv]
  clear hcv
  clear hs ht hG
  go_enter Tryz.func141,Tryz.ntmps141
  go_wp2_with fail
  refine (HB.out _).mono ?_
  rintro e w1 ⟨rfl,rfl⟩
  go_wp2_with fail
  refine (HT.out _).mono ?_
  rintro e w1 ⟨⟨u1,u2,rfl⟩,rfl⟩
  go_wp2_with fail
  refine (HR1.out _).mono ?_
  rintro e w2 ⟨v1,rfl,i1,hB2⟩
  have I1:=Lib.hid i1
  obtain ⟨a1,l1,c1,rfl,-,-,-⟩:=i1
  generalize decide (x < 0)=b1 at *
  go_wp2_with fail
  refine (HR2.out _).mono ?_
  rintro e w3 ⟨v2,rfl,i2,hB3⟩
  have I2:=Lib.hid i2
  have I1':=Lib.hid (I1.out.below hB3)
  obtain ⟨a2,l2,c2,rfl,-,-,-⟩:=i2
  have hb3:=below_trans' hB2 hB3
  generalize decide (y < 0)=b2 at *
  clear hB2 hB3 I1
  go_wp2_with fail
  refine (neg6s _ _ I2.out).mono ?_
  rintro e w4 ⟨v3,rfl,i3,hB4⟩
  have I3:=Lib.hid i3
  have I1x:=Lib.hid (I1'.out.below hB4)
  have hb4:=below_trans' hb3 hB4
  obtain ⟨a3,l3,c3,rfl,-,-,-⟩:=i3
  generalize decide (-y < 0)=b3 at *
  clear hB4 hb3 I1' I2
  go_wp2_with fail
  refine (add6s _ _ _ I1x.out I3.out (by omega) (by omega)).mono ?_
  rintro e w5 ⟨v4,rfl,i4,hB5⟩
  have hb5:=below_trans' hb4 hB5
  obtain ⟨a4,l4,c4,rfl,i4,d4,-⟩:=i4
  have hz:=d4.zero
  clear hB5 hb4 I1x I3 i4 d4
  by_cases h0:l4.length=0
  ·have hc:cv=0:=by rw [← HCV.out];exact compareInt_eq (by have:=hz.1 h0;omega)
   have hl0:((l4.length:Int) == 0)=true:=by rw [h0];rfl
   generalize decide (x+-y < 0)=b4 at *
   subst hc
   clear hz h0
   go_wp2_with fail
   go_ret2
   exact ⟨rfl,qbl⟩
  ·have hl0:((l4.length:Int) == 0)=false:=by rw [beq_eq_false_iff_ne];omega
   have hne:x≠y:=fun h=>h0 (hz.2 (by omega))
   cases hb4:decide (x+-y < 0)
   ·have hc:cv=1:=by rw [← HCV.out];exact compareInt_gt (by simp at hb4;omega)
    subst hc
    clear hz h0 hb4 hne
    go_wp2_with fail
    go_ret2
    exact ⟨rfl,qbl⟩
   ·have hc:cv=-1:=by rw [← HCV.out];exact compareInt_lt (by simp at hb4;omega)
    subst hc
    clear hz h0 hb4 hne
    go_wp2_with fail
    go_ret2
    exact ⟨rfl,qbl⟩
theorem Divide6_ok {x y:Int} (s t:ByteArray) (w:World) (hG:Glo w) (hs:s.data.toList=Lib.itoa x) (hx:Fit x) (ht:t.data.toList=Lib.itoa y) (hy:Fit y) (h0:0 < y) (hd:x % y=0) :
  Calls Tryz.prog 109 #[.string s,.string t] w (RetQR (x / y) 0 w):=by
 have HB:=Lib.hid (fun W=>both6s s t W hs hx ht hy)
 have HR1:=Lib.hid (fun W=>read6s s W hs (by have:=fits_size hs hx;omega))
 have HR2:=Lib.hid (fun W=>read6s t W ht (by have:=fits_size ht hy;omega))
 have z1:=fits_size hs hx
 have z2:=fits_size ht hy
 have HG:=Lib.hid hG
 have hqx:(x / y).natAbs≤x.natAbs:=by
  have h1:=Int.ediv_mul_cancel (Int.dvd_of_emod_eq_zero hd)
  conv=>rhs;rw [← h1,Int.natAbs_mul]
  exact Nat.le_mul_of_pos_right _ (by omega)
 have HF:=Lib.hid (fit_le hqx hx)
 have h48:(t.toList == [48])=false:=by
  rw [Lib.toList_data,ht,pos_text (by omega)]
  have:Lib.decDigits y.natAbs≠[48]:=fun e=>by have:=congrArg dval e;rw [dval_decDigits] at this;have h2:dval [48]=0:=rfl;omega
  simpa using this
 by_cases h17:s.size≤17∧t.size≤17
 ·have HT:=Lib.hid (fun W=>two6s s t W hs h17.1 ht h17.2)
  have p1:x.natAbs < 10 ^ 17:=itoa_lt (by rw [← hs];exact h17.1)
  have p2:y.natAbs < 10 ^ 17:=itoa_lt (by rw [← ht];exact h17.2)
  have hdvd:y ∣ x:=Int.dvd_of_emod_eq_zero hd
  have htd:x.tdiv y=x / y:=by rw [Int.tdiv_eq_ediv_of_dvd hdvd]
  have htm:x.tmod y=0:=Int.tmod_eq_zero_of_dvd hdvd
  have hyz:¬ y=0:=by omega
  have hyb:(y == 0)=false:=by simpa using hyz
  obtain ⟨q,hq⟩:∃ q,x / y=q:=⟨_,rfl⟩
  rw [hq] at hqx htd HF
  have hw1:IntKind.i64.wrap q=q:=IntWalk.i64_in _ (by omega)
  have HI:=Lib.hid (fun W hG=>itoa_any q (by omega) (by omega) W hG)
  have H0:=Lib.hid (fun W hG=>itoa_any 0 (by omega) (by omega) W hG)
  rw [hq]
  have hx0 : -100000000000000000 < x:=by omega
  have hx1:x < 100000000000000000:=by omega
  have hy1:y < 100000000000000000:=by omega
  clear hdvd hqx hd hq
  clear hs ht hG p1 p2
  go_enter Tryz.func109,Tryz.ntmps109
  go_wp2_with fail
  refine (HB.out _).mono ?_
  rintro e w1 ⟨rfl,rfl⟩
  go_wp2_with fail
  refine (HT.out _).mono ?_
  rintro e w1 ⟨rfl,rfl⟩
  go_wp2_with fail
  go_quiet (fail)
  go_wp2_with fail
  refine (HI.out _ (HG.out.below qbl)).mono ?_
  rintro e w2 ⟨r,hr,rfl,hB⟩
  have HR:=Lib.hid hr
  have hb2:Below w1.heap.size w1 w2:=qbl
  clear hr hB
  go_wp2_with fail
  refine (H0.out _ (HG.out.below hb2)).mono ?_
  rintro e w3 ⟨r',hr',rfl,hB3⟩
  have HR':=Lib.hid hr'
  have hb3:Below w1.heap.size w1 w3:=qbl
  clear hr' hB3
  go_wp2_with fail
  go_ret3
  exact ⟨r,r',HR.out,HR'.out,rfl,hb3⟩
 ·have HT:=Lib.hid (fun W=>two6s_long s t W hs h17)
  have HD:=Lib.hid hd
  have b2f:decide (y < 0)=false:=by simp;omega
  have HB2:=Lib.hid b2f
  have H0:=Lib.hid h0
  have HXL:=Lib.hid (fits_lt hx)
  have HYL:=Lib.hid (fits_lt hy)
  clear hs ht hG hd hqx b2f
  go_enter Tryz.func109,Tryz.ntmps109
  go_wp2_with fail
  refine (HB.out _).mono ?_
  rintro e w1 ⟨rfl,rfl⟩
  go_wp2_with fail
  refine (HT.out _).mono ?_
  rintro e w1 ⟨⟨u1,u2,rfl⟩,rfl⟩
  go_wp2_with fail
  refine (HR1.out _).mono ?_
  rintro e w2 ⟨v1,rfl,i1,hB2⟩
  have I1:=Lib.hid i1
  obtain ⟨a1,l1,c1,rfl,-,-,-⟩:=i1
  obtain ⟨b1,hb1⟩:∃ b,decide (x < 0)=b:=⟨_,rfl⟩
  rw [hb1]
  have HB1x:=Lib.hid hb1
  clear hb1
  go_wp2_with fail
  refine (HR2.out _).mono ?_
  rintro e w3 ⟨v2,rfl,i2,hB3⟩
  have I2:=Lib.hid i2
  have I1':=Lib.hid (I1.out.below hB3)
  obtain ⟨a2,l2,c2,rfl,-,-,-⟩:=i2
  have hb3:=below_trans' hB2 hB3
  rw [HB2.out]
  clear hB2 hB3 I1
  go_wp2_with fail
  obtain ⟨k1,hk1,i1,d1,g1⟩:=(I1'.out.len HXL.out).row
  obtain ⟨k2,hk2,i2,d2,g2⟩:=(I2.out.len HYL.out).row
  have HI1:=Lib.hid i1
  have HI2:=Lib.hid i2
  have HDV:=Lib.hid (fun W (hB:Below w3.heap.size w3 W)=>divide6_ok _ _ W (HI1.out.below hB) (HI2.out.below hB) d1 d2 (by omega) (by omega) (by omega))
  have HB1:=HB1x.out
  clear i1 i2 d1 d2 hk1 hk2 I1' I2
  go_wp2_with fail
  refine (HDV.out _ qbl).mono ?_
  rintro e w4 ⟨lq,vq,lr,vr,rfl,iq,ir,nq,nr,kq,kr,hB4⟩
  have hb4:Below w1.heap.size w1 w4:=qbl
  have k0:w4.cell? ⟨w3.heap.size,0,none⟩=some (.bool b1):=keep hB4 (by simp [go_sem])
  have k1':w4.cell? ⟨w3.heap.size+1,0,none⟩=some (.bool false):=keep hB4 (by simp [go_sem])
  obtain ⟨qa,qc,rfl⟩:=iq.slice
  obtain ⟨ra,rc,rfl⟩:=ir.slice
  have hmz:(x.natAbs:Int) % (y.natAbs:Int)=0:=by
   rw [show (y.natAbs:Int)=y by have:=H0.out;omega]
   rcases Int.natAbs_eq x with h|h
   ·rw [← h];exact HD.out
   ·have h2:(x.natAbs:Int)=-x:=by omega
    rw [h2];exact Int.emod_eq_zero_of_dvd (Int.dvd_neg.2 (Int.dvd_of_emod_eq_zero HD.out))
  have hlr:lr.length=0:=nr.zero.2 hmz
  rw [hlr]
  have IR:Hid (IsBigS w4 (.agg #[.bool false,.slice ra 0 rc]) 0 50):=Lib.hid ⟨ra,lr,rc,by rw [hlr];rfl,by rw [hlr] at ir ⊢;exact ir,by have:=nr;rw [hmz] at this;exact this,by omega⟩
  have hqa:(x.natAbs:Int) / (y.natAbs:Int)=((x / y).natAbs:Int):=by
   have e:=Int.ediv_mul_cancel (Int.dvd_of_emod_eq_zero HD.out)
   have e2:x.natAbs=(x / y).natAbs * y.natAbs:=by rw [← Int.natAbs_mul,e]
   rw [e2]
   have hy:(y.natAbs:Int)≠0:=by have:=H0.out;omega
   rw [Int.natCast_mul,Int.mul_ediv_cancel _ hy]
  have hsg:(x / y < 0)↔x < 0:=by
   have e:=Int.ediv_mul_cancel (Int.dvd_of_emod_eq_zero HD.out)
   have hy:=H0.out
   constructor
   ·intro h
    rw [← e];exact Int.mul_neg_of_neg_of_pos h hy
   ·intro h
    refine Int.not_le.1 fun h'=>?_
    have:=Int.mul_nonneg h' (Int.le_of_lt hy)
    omega
  have IQ:Hid (IsBigS w4 (.agg #[.bool b1,.slice qa lq.length qc]) (x / y) (max k1.length k2.length)):=Lib.hid ⟨qa,lq,qc,by rw [← HB1,decide_eq_decide.2 hsg],iq,by rw [hqa] at nq;exact nq,by omega⟩
  have hpos:b1=true→lq.length≠0:=fun h hz=>by
   have:=nq.zero.1 hz
   rw [hqa] at this
   rw [h,decide_eq_true_eq] at HB1
   have:=hsg.2 HB1
   omega
  have HRS:=Lib.hid (fun W (hB:Below w4.heap.size w4 W)=>result6s _ W (IQ.out.below hB) HF.out)
  have HWR:=Lib.hid (fun W (hB:Below w4.heap.size w4 W)=>write6s _ W (IR.out.below hB) (by omega))
  clear iq ir nq nr kq kr hmz hlr hqa hsg hB4 HB1 HD H0 HDV HI1 HI2 hb3
  cases b1
  ·clear hpos
   go_wp2_with fail
   refine (HRS.out _ qbl).mono ?_
   rintro e w5 ⟨r,hr,rfl,hB5⟩
   have HR:=Lib.hid hr
   have hb45:Below w4.heap.size w4 w5:=qbl
   have hb5:Below w1.heap.size w1 w5:=qbl
   have r0:w5.cell? ⟨w4.heap.size+1,0,none⟩=some (.bool false):=keep hB5 (by simp [go_sem])
   have r1:w5.cell? ⟨w4.heap.size+1,1,none⟩=some (.slice ra 0 rc):=keep hB5 (by simp [go_sem])
   clear hr hB5
   go_wp2_with fail
   refine (HWR.out _ hb45).mono ?_
   rintro e w6 ⟨z,hz,rfl,hB6⟩
   have HZ:=Lib.hid hz
   have hb6:Below w1.heap.size w1 w6:=qbl
   clear hz hB6
   go_wp2_with fail
   go_ret3
   exact ⟨r,z,HR.out,HZ.out,rfl,hb6⟩
  ·have hl0:decide (0 < lq.length)=true:=by have:=hpos rfl;simp;omega
   clear hpos
   go_wp2_with fail
   refine (HRS.out _ qbl).mono ?_
   rintro e w5 ⟨r,hr,rfl,hB5⟩
   have HR:=Lib.hid hr
   have hb45:Below w4.heap.size w4 w5:=qbl
   have hb5:Below w1.heap.size w1 w5:=qbl
   have r0:w5.cell? ⟨w4.heap.size+1,0,none⟩=some (.bool false):=keep hB5 (by simp [go_sem])
   have r1:w5.cell? ⟨w4.heap.size+1,1,none⟩=some (.slice ra 0 rc):=keep hB5 (by simp [go_sem])
   clear hr hB5
   go_wp2_with fail
   refine (HWR.out _ hb45).mono ?_
   rintro e w6 ⟨z,hz,rfl,hB6⟩
   have HZ:=Lib.hid hz
   have hb6:Below w1.heap.size w1 w6:=qbl
   clear hz hB6
   go_wp2_with fail
   go_ret3
   exact ⟨r,z,HR.out,HZ.out,rfl,hb6⟩
end Go.Proofs.YteepphiomcedfaaGreatDoor.R6
