/- Walks: the reference's courses (kingpostref47): short, compare, sub, right, spans, Area at one course (printed by mk_w47.py). -/
import Derived.Test.YteepphiomcedfaaGreatDoorJ28
set_option maxRecDepth 100000
set_option linter.unusedVariables false
set_option linter.unusedSimpArgs false
set_option maxHeartbeats 6400000
namespace Go.Proofs.YteepphiomcedfaaGreatDoor
open Go.RowKit
attribute [local go_sem ↓] Go.wp_at_zero Go.wp_at_succ
theorem rParts02_q {k:Nat} {q:Rat} (s:ByteArray) (w:World) (hG:Glo w) (hs:s.data.toList=ratText q) (hq:Sz k q) (hk:k≤300) :
  Calls Tryz.prog 97 #[.string s] w fun e w'=>∃ a b:ByteArray,Hid (a.data.toList=Lib.itoa q.num)∧Hid (b.data.toList=Lib.decDigits q.den)∧e=.returned (.tuple #[.string a,.string b,.int .i64 0])∧Below w.heap.size w w':=by
 have HC:=Lib.hid (rCheck02_q s w hG hs hq hk)
 have HP:=Lib.hid (fun W=>rparts_q s W hs hq hk)
 clear hs hG
 go_enter Tryz.func97,Tryz.ntmps97
 go_wp2_with fail
 refine HC.out.mono ?_
 rintro e w1 ⟨rfl,hB1⟩
 go_wp2_with fail
 refine (HP.out _).mono ?_
 rintro e w2 ⟨a,b,ha,hb,rfl,hB2⟩
 go_wp2_with fail
 go_ret3
 exact ⟨a,b,ha,hb,rfl,qbl⟩
theorem rshort47_any (s:ByteArray) (w:World) (hG:Glo w) (hsz:s.size≤9223372036854775807) :
  Calls Tryz.prog 40 #[.string s] w (RetB (.bool (isShort s)) w):=by
 by_cases hN:IsNum s
 ·obtain ⟨q,hs,hq⟩:=hN
  have HC:=Lib.hid (fun W hG=>rCheck02_q s W hG hs hq (by decide))
  have HP:=Lib.hid (fun W hG=>rParts02_q s W hG hs hq (by decide))
  obtain ⟨bv,hbv⟩:∃ b,isShort s=b:=⟨_,rfl⟩
  have HI:=Lib.hid (show bv=true↔(Lib.decDigits q.num.natAbs).length≤36∧(Lib.decDigits q.den).length≤36 by
   rw [← hbv,isShort_num hs,dig36,dig36];exact Iff.rfl)
  have HM1:=Lib.hid (fun h:minusB q=true=>(show Lib.itoa q.num=45::Lib.decDigits q.num.natAbs from R6.neg_text (of_decide_eq_true h)))
  have HM2:=Lib.hid (fun h:minusB q=false=>(show Lib.itoa q.num=Lib.decDigits q.num.natAbs from R6.pos_text (by have h1:¬ q.num < 0:=of_decide_eq_false h;omega)))
  have HG:=Lib.hid hG
  rw [hbv]
  clear hs hG hbv hq
  go_enter Tryz.func40,Tryz.ntmps40
  go_wp2_with fail
  refine (HC.out _ HG.out).mono ?_
  rintro e w1 ⟨rfl,hB1⟩
  go_wp2_with fail
  refine (HP.out _ (HG.out.below hB1)).mono ?_
  rintro e w2 ⟨a,b,ha,hb,rfl,hB2⟩
  have hB2':Below w.heap.size w w2:=qbl
  have hbl:b.size=(Lib.decDigits q.den).length:=by rw [← hb.out];rfl
  clear hB1 hB2
  cases hmb:minusB q
  ·have hat:=HM2.out hmb
   have hal:a.size=(Lib.decDigits q.num.natAbs).length:=by rw [← hat,← ha.out];rfl
   have h0:0 < a.size:=R6.dec_pos (ha.out.trans hat)
   have h45:((a[0].toNat:Int) == 45)=false:=R6.dec_no45 (ha.out.trans hat) h0
   have hI:(0:Int) < (a.size:Int):=by omega
   clear hat hmb HM1 HM2
   by_cases hp1:(a.size:Int)≤36
   ·by_cases hp2:(b.size:Int)≤36
    ·obtain rfl:bv=true:=HI.out.2 ⟨by omega,by omega⟩
     have hd2:decide ((b.size:Int)≤36)=true:=by simpa using hp2
     clear HI hal hbl hp2
     go_wp2_with fail
     go_ret
     exact ⟨rfl,qbl⟩
    ·obtain rfl:bv=false:=Bool.eq_false_iff.2 fun h=>by have:=HI.out.1 h;omega
     clear HI hal hbl
     have hd2:decide ((b.size:Int)≤36)=false:=by simpa using hp2
     clear hp2
     go_wp2_with fail
     go_ret
     exact ⟨rfl,qbl⟩
   ·obtain rfl:bv=false:=Bool.eq_false_iff.2 fun h=>by have:=HI.out.1 h;omega
    clear HI hal hbl
    have hp2':(36:Int) < (a.size:Int):=by omega
    go_wp2_with fail
    go_ret
    exact ⟨rfl,qbl⟩
  ·have hat:=HM1.out hmb
   have hal:a.size=(Lib.decDigits q.num.natAbs).length+1:=by
    have:a.size=a.data.toList.length:=rfl
    rw [this,ha.out,hat];simp
   have h0:0 < a.size:=by omega
   have h45:((a[0].toNat:Int) == 45)=true:=headq45' h0 (by rw [ha.out,hat];rfl)
   have hI:(0:Int) < (a.size:Int):=by omega
   clear hat hmb HM1 HM2
   by_cases hp1:(a.size:Int) - 1≤36
   ·by_cases hp2:(b.size:Int)≤36
    ·obtain rfl:bv=true:=HI.out.2 ⟨by omega,by omega⟩
     have hd2:decide ((b.size:Int)≤36)=true:=by simpa using hp2
     clear HI hal hbl hp2
     go_wp2_with fail
     go_ret
     exact ⟨rfl,qbl⟩
    ·obtain rfl:bv=false:=Bool.eq_false_iff.2 fun h=>by have:=HI.out.1 h;omega
     clear HI hal hbl
     have hd2:decide ((b.size:Int)≤36)=false:=by simpa using hp2
     clear hp2
     go_wp2_with fail
     go_ret
     exact ⟨rfl,qbl⟩
   ·obtain rfl:bv=false:=Bool.eq_false_iff.2 fun h=>by have:=HI.out.1 h;omega
    clear HI hal hbl
    have hp2':(36:Int) < (a.size:Int) - 1:=by omega
    go_wp2_with fail
    go_ret
    exact ⟨rfl,qbl⟩
 ·rw [isShort_bad hN]
  have HP:=Lib.hid (rCheck02_codeM s w hG hsz)
  have HN:=Lib.hid hN
  clear hN hG
  go_enter Tryz.func40,Tryz.ntmps40
  go_wp2_with fail
  refine HP.out.mono ?_
  rintro e w1 ⟨c,rfl,hc,hB1⟩
  have hc1:(c == 0)=false:=by
   have:c≠0:=fun h=>HN.out (hc.out.1.1 h)
   simpa using this
  clear hc
  go_wp2_with fail
  go_ret
  exact ⟨rfl,qbl⟩
theorem rcmp47_q {k m:Nat} {p q:Rat} (s t:ByteArray) (w:World) (hG:Glo w) (hs:s.data.toList=ratText p) (hp:Sz k p) (ht:t.data.toList=ratText q) (hq:Sz m q) (hkm:k+m≤300) (o:Int) (ho:ordQ p q=o) :
  Calls Tryz.prog 229 #[.string s,.string t] w (RetB (.int .i64 o) w):=by
 have H:=Lib.hid (RCompare02_q s t w hG hs hp ht hq hkm)
 rw [compareInt_rat,ho] at H
 clear hG hs ht ho
 go_enter Tryz.func229,Tryz.ntmps229
 go_wp2_with fail
 refine H.out.mono ?_
 rintro e w1 ⟨rfl,hB⟩
 go_wp2_with fail
 go_ret
 exact ⟨rfl,qbl⟩
theorem rsub47_q {a b:Nat} {p q:Rat} (s t:ByteArray) (w:World) (hG:Glo w) (hs:s.data.toList=ratText p) (hp:Sz a p) (ht:t.data.toList=ratText q) (hq:Sz b q) (hab:a+b+1≤300) :
  Calls Tryz.prog 174 #[.string s,.string t] w (RetS (ratText (p - q)) w):=by
 have H:=Lib.hid (RSub02_q s t w hG hs hp ht hq hab)
 clear hG hs ht
 go_enter Tryz.func174,Tryz.ntmps174
 go_wp2_with fail
 refine H.out.mono ?_
 rintro e w1 ⟨r,hr,rfl,hB⟩
 have HR:=Lib.hid hr
 clear hr
 go_wp2_with fail
 go_ret
 exact ⟨r,HR.out,rfl,qbl⟩
theorem rshort_is {b:Bool} (s:ByteArray) (w:World) (hG:Glo w) (hsz:s.size≤1000) (h:isShort s=b):Calls Tryz.prog 40 #[.string s] w (RetB (.bool b) w):=by
 rw [← h];exact rshort47_any s w hG (by omega)
theorem ordQ_gt0 {p q:Rat} (h:q < p):decide (ordQ p q≤0)=false:=by
 unfold ordQ
 rw [if_neg (Rat.not_lt.2 (Rat.le_of_lt h)),if_pos h];rfl
theorem ordQ_le0 {p q:Rat} (h:¬ q < p):decide (ordQ p q≤0)=true:=by
 unfold ordQ
 rw [if_neg h]
 split<;>decide
theorem rright47_any (b0 o0 cap0:Nat) (lo hi:ByteArray) (S:Texts) (v0:Value) (w:World) (hG:Glo w)
  (c0:w.cell? ⟨b0,o0,none⟩=some (.string lo)) (c1:w.cell? ⟨b0,o0+1,none⟩=some (.string hi)) (c2:w.cell? ⟨b0,o0+2,none⟩=some v0)
  (hv:SpansAt w v0 S) (hlo:lo.size≤1000) (hhi:hi.size≤1000) (hbr:Brief S) :
  Calls Tryz.prog 172 #[.slice (some ⟨b0,o0,none⟩) 1 cap0] w (RetB (.bool (rightB lo hi S)) w):=by
 obtain ⟨a,cap,rfl,hmx,hcells⟩:=hv
 have hmx':S.length≤9223372036854775807:=hmx
 have HG:=Lib.hid hG
 have HC:=Lib.hid hcells
 have HBR:=Lib.hid hbr
 clear hG hcells hbr hmx
 go_enter Tryz.func172,Tryz.ntmps172
 go_wp2_with fail
 go_loopw [3] (fun i wr=>∃ k:Nat,k≤1∧i=.int .i64 k∧Hid (k=1→rightB lo hi S=true)∧Below w.heap.size w wr) (fun i _=>1 - (intOf i).toNat)
 case atStart=>exact ⟨0,by omega,rfl,Lib.hid (fun h=>by omega),bw0 _ _⟩
 case round =>
  obtain ⟨k,hk,rfl,hdone,hB0⟩:=hrel
  by_cases hk1:k=1
  ·subst hk1
   have HRB:=Lib.hid (hdone.out rfl)
   clear hdone
   go_wp2_with fail
   go_ret
   exact ⟨by rw [HRB.out];first|done|rfl,hB0⟩
  ·obtain rfl:k=0:=by omega
   clear hk hk1 hdone
   have d0:=keep hB0 c0
   have d1:=keep hB0 c1
   have d2:=keep hB0 c2
   clear c0 c1 c2
   have z1:=lt_of_cell d2
   obtain ⟨wo,rfl⟩:∃ wo:World,wo=wr:=⟨_,rfl⟩
   obtain ⟨bl,hbl⟩:∃ b,isShort lo=b:=⟨_,rfl⟩
   have HL:=Lib.hid hbl
   obtain ⟨bh,hbh⟩:∃ b,isShort hi=b:=⟨_,rfl⟩
   have HH:=Lib.hid hbh
   obtain ⟨o,hoo⟩:∃ o,ordQ (qOf lo) (qOf hi)=o:=⟨_,rfl⟩
   have HO:=Lib.hid hoo
   clear hoo hbh hbl
   have hS6:wo.drew.cell? ⟨b0,o0,none⟩=some (.string lo)∧wo.drew.cell? ⟨b0,o0+1,none⟩=some (.string hi)∧wo.drew.cell? ⟨b0,o0+2,none⟩=some (.slice a S.length cap)∧Below w.heap.size w wo.drew:=⟨by simpa using d0,by simpa using d1,by simpa using d2,bw3 hB0⟩
   have hEnd:∀ B':World,True:=fun _=>trivial
   clear hEnd
   go_wp2_with fail
   by_cases hn:S.length≤64
   rotate_left
   ·have hF:=Lib.hid (rightB_head (lo:=lo) (hi:=hi) (S:=S) (by unfold headB;rw [show decide (S.length≤64)=false by simpa using hn];rfl))
    have hn2:Hid (decide ((64:Int) < (S.length:Int))=true):=Lib.hid (by simp;omega)
    clear hn
    refine region_held_abs (S:=(fun w'=>w'.cell? ⟨b0,o0,none⟩=some (.string lo)∧w'.cell? ⟨b0,o0+1,none⟩=some (.string hi)∧w'.cell? ⟨b0,o0+2,none⟩=some (.slice a S.length cap)∧Below w.heap.size w w')) 39 #[false,false,false,false,false,false,false,false,false,false,false,false,false,false,false,false,false,false,false,false,false,false,false,false,false,false,false,false,false,false,false,false,false,false,false,false,false,false,false] (by kernel_rfl) (by kernel_rfl) (by kernel_rfl) (fun _ _ _ _ _ h=>h) hS6 (fun Q' hQ' hN hHeld=>?_)
    refine tT 15 0 ?_
    refine tT 16 1 ?_
    refine tT 17 2 ?_
    refine tT 18 3 ?_
    refine tT 19 4 ?_
    refine tT 20 5 ?_
    refine tT 21 6 (v:=.bool true) (hy:=(by intro w hSw;(try dsimp only at hSw);go_simp;have hx:=hn2.out;simp at hx;first|exact hx|omega)) ?_
    refine tT 22 7 ?_
    refine tF 23 8 ?_
    refine tF 24 9 ?_
    refine tF 25 10 ?_
    refine tF 26 11 ?_
    refine tF 27 12 ?_
    refine tF 28 13 ?_
    refine tF 29 14 ?_
    refine tT 30 15 ?_
    refine tT 31 16 ?_
    refine tF 32 17 ?_
    refine tF 33 18 ?_
    refine tF 34 19 ?_
    refine tF 35 20 ?_
    refine tF 36 21 ?_
    refine tF 37 22 ?_
    refine tF 38 23 ?_
    refine tT 39 24 ?_
    refine tT 40 25 ?_
    refine tF 41 26 ?_
    refine tF 42 27 ?_
    refine tF 43 28 ?_
    refine tF 44 29 ?_
    refine tF 45 30 ?_
    refine tF 46 31 ?_
    refine tF 47 32 ?_
    refine tF 48 33 ?_
    refine tF 49 34 ?_
    refine tF 50 35 ?_
    refine tF 51 36 ?_
    refine tF 52 37 ?_
    refine tT 53 38 ?_
    refine wpAnyH_done (by kernel_rfl) ?_ _
    refine hN.out _ _ ?_
    go_wp2_with fail
    go_ret
    exact ⟨by rw [hF.out];first|done|rfl,hHeld.2.2.2⟩
   have hn2:Hid (decide ((64:Int) < (S.length:Int))=false):=Lib.hid (by simp;omega)
   cases bl
   ·have hF:=Lib.hid (rightB_head (lo:=lo) (hi:=hi) (S:=S) (by unfold headB;rw [HL.out];simp))
    refine region_held_abs (S:=(fun w'=>w'.cell? ⟨b0,o0,none⟩=some (.string lo)∧w'.cell? ⟨b0,o0+1,none⟩=some (.string hi)∧w'.cell? ⟨b0,o0+2,none⟩=some (.slice a S.length cap)∧Below w.heap.size w w')) 39 #[false,false,false,false,false,false,false,false,false,false,false,false,false,false,false,false,false,false,false,false,false,false,false,false,false,false,false,false,false,false,false,false,false,false,false,false,false,false,false] (by kernel_rfl) (by kernel_rfl) (by kernel_rfl) (fun _ _ _ _ _ h=>h) hS6 (fun Q' hQ' hN hHeld=>?_)
    refine tT 15 0 ?_
    refine tT 16 1 ?_
    refine tT 17 2 ?_
    refine tT 18 3 ?_
    refine tT 19 4 ?_
    refine tT 20 5 ?_
    refine tT 21 6 (v:=.bool false) (hy:=(by intro w hSw;(try dsimp only at hSw);go_simp;have hx:=hn2.out;simp at hx;first|exact hx|omega)) ?_
    refine tT 22 7 ?_
    refine tT 23 8 ?_
    refine tT 24 9 ?_
    refine tT 25 10 ?_
    refine tT 26 11 ?_
    refine tT 27 12 ?_
    refine wpAnyH_ready (rs:=[13]) (by kernel_rfl) (by simp) ?_
    refine consW (i:=13) rfl (by kernel_rfl) (fun K hK=>?_)
    go_simp
    refine (rshort_is lo _ (glo3 HG.out hHeld) hlo HL.out).mono ?_
    rintro e w' ⟨rfl,hBx⟩
    go_simp
    refine hK.out _ _ ?_ (fun hHeld=>?_)
    ·exact keep3 hHeld hBx
    clear hK K
    (try simp only [Act.put,bw7,bw8,bw9])
    refine tT 29 14 ?_
    refine tT 30 15 ?_
    refine tT 31 16 ?_
    refine tF 32 17 ?_
    refine tF 33 18 ?_
    refine tF 34 19 ?_
    refine tF 35 20 ?_
    refine tF 36 21 ?_
    refine tF 37 22 ?_
    refine tF 38 23 ?_
    refine tT 39 24 ?_
    refine tT 40 25 ?_
    refine tF 41 26 ?_
    refine tF 42 27 ?_
    refine tF 43 28 ?_
    refine tF 44 29 ?_
    refine tF 45 30 ?_
    refine tF 46 31 ?_
    refine tF 47 32 ?_
    refine tF 48 33 ?_
    refine tF 49 34 ?_
    refine tF 50 35 ?_
    refine tF 51 36 ?_
    refine tF 52 37 ?_
    refine tT 53 38 ?_
    refine wpAnyH_done (by kernel_rfl) ?_ _
    refine hN.out _ _ ?_
    go_wp2_with fail
    go_ret
    exact ⟨by rw [hF.out];first|done|rfl,hHeld.2.2.2⟩
   cases bh
   ·have hF:=Lib.hid (rightB_head (lo:=lo) (hi:=hi) (S:=S) (by unfold headB;rw [HH.out];simp))
    refine region_held_abs (S:=(fun w'=>w'.cell? ⟨b0,o0,none⟩=some (.string lo)∧w'.cell? ⟨b0,o0+1,none⟩=some (.string hi)∧w'.cell? ⟨b0,o0+2,none⟩=some (.slice a S.length cap)∧Below w.heap.size w w')) 39 #[false,false,false,false,false,false,false,false,false,false,false,false,false,false,false,false,false,false,false,false,false,false,false,false,false,false,false,false,false,false,false,false,false,false,false,false,false,false,false] (by kernel_rfl) (by kernel_rfl) (by kernel_rfl) (fun _ _ _ _ _ h=>h) hS6 (fun Q' hQ' hN hHeld=>?_)
    refine tT 15 0 ?_
    refine tT 16 1 ?_
    refine tT 17 2 ?_
    refine tT 18 3 ?_
    refine tT 19 4 ?_
    refine tT 20 5 ?_
    refine tT 21 6 (v:=.bool false) (hy:=(by intro w hSw;(try dsimp only at hSw);go_simp;have hx:=hn2.out;simp at hx;first|exact hx|omega)) ?_
    refine tT 22 7 ?_
    refine tT 23 8 ?_
    refine tT 24 9 ?_
    refine tT 25 10 ?_
    refine tT 26 11 ?_
    refine tT 27 12 ?_
    refine wpAnyH_ready (rs:=[13]) (by kernel_rfl) (by simp) ?_
    refine consW (i:=13) rfl (by kernel_rfl) (fun K hK=>?_)
    go_simp
    refine (rshort_is lo _ (glo3 HG.out hHeld) hlo HL.out).mono ?_
    rintro e w' ⟨rfl,hBx⟩
    go_simp
    refine hK.out _ _ ?_ (fun hHeld=>?_)
    ·exact keep3 hHeld hBx
    clear hK K
    (try simp only [Act.put,bw7,bw8,bw9])
    refine tT 29 14 ?_
    refine tT 30 15 ?_
    refine tT 31 16 ?_
    refine tT 32 17 ?_
    refine tT 33 18 ?_
    refine tT 34 19 ?_
    refine tT 35 20 ?_
    refine tT 36 21 ?_
    refine wpAnyH_ready (rs:=[22]) (by kernel_rfl) (by simp) ?_
    refine consW (i:=22) rfl (by kernel_rfl) (fun K hK=>?_)
    go_simp
    refine (rshort_is hi _ (glo3 HG.out hHeld) hhi HH.out).mono ?_
    rintro e w' ⟨rfl,hBx⟩
    go_simp
    refine hK.out _ _ ?_ (fun hHeld=>?_)
    ·exact keep3 hHeld hBx
    clear hK K
    (try simp only [Act.put,bw7,bw8,bw9])
    refine tT 38 23 ?_
    refine tT 39 24 ?_
    refine tT 40 25 ?_
    refine tF 41 26 ?_
    refine tF 42 27 ?_
    refine tF 43 28 ?_
    refine tF 44 29 ?_
    refine tF 45 30 ?_
    refine tF 46 31 ?_
    refine tF 47 32 ?_
    refine tF 48 33 ?_
    refine tF 49 34 ?_
    refine tF 50 35 ?_
    refine tF 51 36 ?_
    refine tF 52 37 ?_
    refine tT 53 38 ?_
    refine wpAnyH_done (by kernel_rfl) ?_ _
    refine hN.out _ _ ?_
    go_wp2_with fail
    go_ret
    exact ⟨by rw [hF.out];first|done|rfl,hHeld.2.2.2⟩
   by_cases hlt:qOf lo < qOf hi
   rotate_left
   ·have hge:=Lib.hid (ordQ_ge hlt)
    rw [HO.out] at hge
    have hF:=Lib.hid (rightB_head (lo:=lo) (hi:=hi) (S:=S) (by unfold headB;rw [show decide (qOf lo < qOf hi)=false by simpa using hlt];simp))
    clear hlt
    refine region_held_abs (S:=(fun w'=>w'.cell? ⟨b0,o0,none⟩=some (.string lo)∧w'.cell? ⟨b0,o0+1,none⟩=some (.string hi)∧w'.cell? ⟨b0,o0+2,none⟩=some (.slice a S.length cap)∧Below w.heap.size w w')) 39 #[false,false,false,false,false,false,false,false,false,false,false,false,false,false,false,false,false,false,false,false,false,false,false,false,false,false,false,false,false,false,false,false,false,false,false,false,false,false,false] (by kernel_rfl) (by kernel_rfl) (by kernel_rfl) (fun _ _ _ _ _ h=>h) hS6 (fun Q' hQ' hN hHeld=>?_)
    refine tT 15 0 ?_
    refine tT 16 1 ?_
    refine tT 17 2 ?_
    refine tT 18 3 ?_
    refine tT 19 4 ?_
    refine tT 20 5 ?_
    refine tT 21 6 (v:=.bool false) (hy:=(by intro w hSw;(try dsimp only at hSw);go_simp;have hx:=hn2.out;simp at hx;first|exact hx|omega)) ?_
    refine tT 22 7 ?_
    refine tT 23 8 ?_
    refine tT 24 9 ?_
    refine tT 25 10 ?_
    refine tT 26 11 ?_
    refine tT 27 12 ?_
    refine wpAnyH_ready (rs:=[13]) (by kernel_rfl) (by simp) ?_
    refine consW (i:=13) rfl (by kernel_rfl) (fun K hK=>?_)
    go_simp
    refine (rshort_is lo _ (glo3 HG.out hHeld) hlo HL.out).mono ?_
    rintro e w' ⟨rfl,hBx⟩
    go_simp
    refine hK.out _ _ ?_ (fun hHeld=>?_)
    ·exact keep3 hHeld hBx
    clear hK K
    (try simp only [Act.put,bw7,bw8,bw9])
    refine tT 29 14 ?_
    refine tT 30 15 ?_
    refine tT 31 16 ?_
    refine tT 32 17 ?_
    refine tT 33 18 ?_
    refine tT 34 19 ?_
    refine tT 35 20 ?_
    refine tT 36 21 ?_
    refine wpAnyH_ready (rs:=[22]) (by kernel_rfl) (by simp) ?_
    refine consW (i:=22) rfl (by kernel_rfl) (fun K hK=>?_)
    go_simp
    refine (rshort_is hi _ (glo3 HG.out hHeld) hhi HH.out).mono ?_
    rintro e w' ⟨rfl,hBx⟩
    go_simp
    refine hK.out _ _ ?_ (fun hHeld=>?_)
    ·exact keep3 hHeld hBx
    clear hK K
    (try simp only [Act.put,bw7,bw8,bw9])
    refine tT 38 23 ?_
    refine tT 39 24 ?_
    refine tT 40 25 ?_
    refine tT 41 26 ?_
    refine tT 42 27 ?_
    refine tT 43 28 ?_
    refine tT 44 29 ?_
    refine tT 45 30 ?_
    refine tT 46 31 ?_
    refine tT 47 32 ?_
    refine tT 48 33 ?_
    refine tT 49 34 ?_
    refine tT 50 35 ?_
    refine wpAnyH_ready (rs:=[36]) (by kernel_rfl) (by simp) ?_
    refine consW (i:=36) rfl (by kernel_rfl) (fun K hK=>?_)
    go_simp
    refine (rcmp47_q lo hi _ (glo3 HG.out hHeld) (isShort_spec HL.out).1 (isShort_spec HL.out).2 (isShort_spec HH.out).1 (isShort_spec HH.out).2 (by decide) _ HO.out).mono ?_
    rintro e w' ⟨rfl,hBx⟩
    go_simp
    refine hK.out _ _ ?_ (fun hHeld=>?_)
    ·exact keep3 hHeld hBx
    clear hK K
    (try simp only [Act.put,bw7,bw8,bw9])
    refine tT 52 37 (v:=.bool true) (hy:=(by intro w hSw;(try dsimp only at hSw);go_simp;have hx:=hge.out;simp at hx;first|exact hx|omega)) ?_
    refine tT 53 38 ?_
    refine wpAnyH_done (by kernel_rfl) ?_ _
    refine hN.out _ _ ?_
    go_wp2_with fail
    go_ret
    exact ⟨by rw [hF.out];first|done|rfl,hHeld.2.2.2⟩
   have hm1:o=-1:=by rw [← HO.out,ordQ_lt hlt]
   have HHD:=Lib.hid (show headB lo hi S=true by unfold headB;rw [HL.out,HH.out,show decide (S.length≤64)=true by simpa using hn,show decide (qOf lo < qOf hi)=true by simpa using hlt];rfl)
   subst hm1
   refine region_held_abs (S:=(fun w'=>w'.cell? ⟨b0,o0,none⟩=some (.string lo)∧w'.cell? ⟨b0,o0+1,none⟩=some (.string hi)∧w'.cell? ⟨b0,o0+2,none⟩=some (.slice a S.length cap)∧Below w.heap.size w w')) 39 #[false,false,false,false,false,false,false,false,false,false,false,false,false,false,false,false,false,false,false,false,false,false,false,false,false,false,false,false,false,false,false,false,false,false,false,false,false,false,false] (by kernel_rfl) (by kernel_rfl) (by kernel_rfl) (fun _ _ _ _ _ h=>h) hS6 (fun Q' hQ' hN hHeld=>?_)
   refine tT 15 0 ?_
   refine tT 16 1 ?_
   refine tT 17 2 ?_
   refine tT 18 3 ?_
   refine tT 19 4 ?_
   refine tT 20 5 ?_
   refine tT 21 6 (v:=.bool false) (hy:=(by intro w hSw;(try dsimp only at hSw);go_simp;have hx:=hn2.out;simp at hx;first|exact hx|omega)) ?_
   refine tT 22 7 ?_
   refine tT 23 8 ?_
   refine tT 24 9 ?_
   refine tT 25 10 ?_
   refine tT 26 11 ?_
   refine tT 27 12 ?_
   refine wpAnyH_ready (rs:=[13]) (by kernel_rfl) (by simp) ?_
   refine consW (i:=13) rfl (by kernel_rfl) (fun K hK=>?_)
   go_simp
   refine (rshort_is lo _ (glo3 HG.out hHeld) hlo HL.out).mono ?_
   rintro e w' ⟨rfl,hBx⟩
   go_simp
   refine hK.out _ _ ?_ (fun hHeld=>?_)
   ·exact keep3 hHeld hBx
   clear hK K
   (try simp only [Act.put,bw7,bw8,bw9])
   refine tT 29 14 ?_
   refine tT 30 15 ?_
   refine tT 31 16 ?_
   refine tT 32 17 ?_
   refine tT 33 18 ?_
   refine tT 34 19 ?_
   refine tT 35 20 ?_
   refine tT 36 21 ?_
   refine wpAnyH_ready (rs:=[22]) (by kernel_rfl) (by simp) ?_
   refine consW (i:=22) rfl (by kernel_rfl) (fun K hK=>?_)
   go_simp
   refine (rshort_is hi _ (glo3 HG.out hHeld) hhi HH.out).mono ?_
   rintro e w' ⟨rfl,hBx⟩
   go_simp
   refine hK.out _ _ ?_ (fun hHeld=>?_)
   ·exact keep3 hHeld hBx
   clear hK K
   (try simp only [Act.put,bw7,bw8,bw9])
   refine tT 38 23 ?_
   refine tT 39 24 ?_
   refine tT 40 25 ?_
   refine tT 41 26 ?_
   refine tT 42 27 ?_
   refine tT 43 28 ?_
   refine tT 44 29 ?_
   refine tT 45 30 ?_
   refine tT 46 31 ?_
   refine tT 47 32 ?_
   refine tT 48 33 ?_
   refine tT 49 34 ?_
   refine tT 50 35 ?_
   refine wpAnyH_ready (rs:=[36]) (by kernel_rfl) (by simp) ?_
   refine consW (i:=36) rfl (by kernel_rfl) (fun K hK=>?_)
   go_simp
   refine (rcmp47_q lo hi _ (glo3 HG.out hHeld) (isShort_spec HL.out).1 (isShort_spec HL.out).2 (isShort_spec HH.out).1 (isShort_spec HH.out).2 (by decide) _ HO.out).mono ?_
   rintro e w' ⟨rfl,hBx⟩
   go_simp
   refine hK.out _ _ ?_ (fun hHeld=>?_)
   ·exact keep3 hHeld hBx
   clear hK K
   (try simp only [Act.put,bw7,bw8,bw9])
   refine tT 52 37 ?_
   refine tT 53 38 ?_
   refine wpAnyH_done (by kernel_rfl) ?_ _
   refine hN.out _ _ ?_
   clear HO HL HH hlt hS6 d0 d1 d2 hB0
   go_wp2_with fail
   go_loopw [4] (fun i wq=>∃ j:Nat,j≤S.length∧i=.int .i64 j∧Hid (∀ k,k < j→spanB S k=true)∧Below w.heap.size w wq∧wq.cell? ⟨b0,o0+2,none⟩=some (.slice a S.length cap)) (fun i _=>S.length - (intOf i).toNat)
   case atStart=>exact ⟨0,by omega,rfl,Lib.hid (fun k hk=>by omega),hHeld.2.2.2,hHeld.2.2.1⟩
   case round =>
    obtain ⟨j,hj,rfl,HSP,hBj,kj⟩:=hrel
    clear hHeld
    by_cases hjn:j=S.length
    ·subst hjn
     have HRT:=Lib.hid (rightB_true HHD.out HSP.out)
     clear HSP
     go_wp2_with fail
     go_roundw
     case rel=>exact ⟨1,by omega,rfl,Lib.hid (fun _=>HRT.out),hBj⟩
     case measure=>simp [intOf]
    ·have hj1:j < S.length:=by omega
     obtain ⟨b,off,rfl,hbb,hcc⟩:=HC.out (fun h=>by rw [h] at hj1;simp at hj1)
     obtain ⟨e0,e1⟩:=hcc j hj1
     have q0:=keep hBj e0
     have q1:=keep hBj e1
     have hji:(j:Int) < (S.length:Int):=by omega
     obtain ⟨hus,hvs⟩:=HBR.out j hj1
     have hSB:spanB S j=(isShort (tx S j).1 && isShort (tx S j).2 && decide (qOf (tx S j).1 < qOf (tx S j).2) && (decide (j=0) || decide (qOf (tx S (j - 1)).2 < qOf (tx S j).1))):=rfl
     have HSB0:=Lib.hid hSB
     obtain ⟨u,hu⟩:∃ u,(tx S j).1=u:=⟨_,rfl⟩
     obtain ⟨v,hv⟩:∃ v,(tx S j).2=v:=⟨_,rfl⟩
     rw [hu,hv] at HSB0
     rw [hu] at q0 hus
     rw [hv] at q1 hvs
     have HCC:=Lib.hid hcc
     clear hu hv e0 e1 hjn hcc hSB
     go_wp2_with fail
     obtain ⟨bu,hbu⟩:∃ b,isShort u=b:=⟨_,rfl⟩
     obtain ⟨bv,hbv⟩:∃ b,isShort v=b:=⟨_,rfl⟩
     obtain ⟨o,hoo⟩:∃ o,ordQ (qOf u) (qOf v)=o:=⟨_,rfl⟩
     have HU:=Lib.hid hbu
     have HV:=Lib.hid hbv
     have HO:=Lib.hid hoo
     clear hbu hbv hoo
     have x0:(wr.alloc (.cells #[.string u,.string v] 77)).cell? ⟨wr.heap.size,0,none⟩=some (.string u):=by simp [go_sem]
     have x1:(wr.alloc (.cells #[.string u,.string v] 77)).cell? ⟨wr.heap.size,1,none⟩=some (.string v):=by simp [go_sem]
     have hBk:Below w.heap.size w (wr.alloc (.cells #[.string u,.string v] 77)):=(by repeat (first|(with_reducible first|exact bw0 _ _|exact hB|refine bw1 ?_ ?_ _|refine bw2 ?_ _|refine bw3 ?_|refine bw4 ?_ _|refine bw5 (by assumption) ?_)|exact Nat.le_refl _|(focus (simp;done))|(focus (simp;omega))|omega))
     have kj':(wr.alloc (.cells #[.string u,.string v] 77)).cell? ⟨b0,o0+2,none⟩=some (.slice (some ⟨b,off,none⟩) S.length cap):=keep (bw4 (bw0 _ _) _) kj
     have hBw:Below wr.heap.size wr (wr.alloc (.cells #[.string u,.string v] 77)):=bw4 (bw0 _ _) _
     have hS:(wr.alloc (.cells #[.string u,.string v] 77)).drew.cell? ⟨wr.heap.size,0,none⟩=some (.string u)∧(wr.alloc (.cells #[.string u,.string v] 77)).drew.cell? ⟨wr.heap.size,1,none⟩=some (.string v)∧(wr.alloc (.cells #[.string u,.string v] 77)).drew.cell? ⟨b0,o0+2,none⟩=some (.slice (some ⟨b,off,none⟩) S.length cap)∧Below w.heap.size w (wr.alloc (.cells #[.string u,.string v] 77)).drew:=⟨by simp,by simp,by simpa using kj',bw3 hBk⟩
     generalize wr.alloc (.cells #[.string u,.string v] 77)=W at *
     clear x0 x1 kj' hBk q0 q1
     cases bu
     ·as_aux_lemma =>
      have HSB:=Lib.hid (show spanB S j=false by rw [HSB0.out,HU.out];simp)
      clear HSB0
      refine region_held_abs (S:=(fun w'=>w'.cell? ⟨wr.heap.size,0,none⟩=some (.string u)∧w'.cell? ⟨wr.heap.size,1,none⟩=some (.string v)∧w'.cell? ⟨b0,o0+2,none⟩=some (.slice (some ⟨b,off,none⟩) S.length cap)∧Below w.heap.size w w')) 38 #[false,false,false,false,false,false,false,false,false,false,false,false,false,false,false,false,false,false,false,false,false,false,false,false,false,false,false,false,false,false,false,false,false,false,false,false,false,false] (by kernel_rfl) (by kernel_rfl) (by kernel_rfl) (fun _ _ _ _ _ h=>h) hS (fun Q' hQ' hN hHeld=>?_)
      refine tT 72 0 ?_
      refine tT 73 1 ?_
      refine wpAnyH_ready (rs:=[2]) (by kernel_rfl) (by simp) ?_
      refine consW (i:=2) rfl (by kernel_rfl) (fun K hK=>?_)
      go_simp
      refine (rshort_is u _ (glo3 HG.out hHeld) hus HU.out).mono ?_
      rintro e w' ⟨rfl,hBx⟩
      go_simp
      refine hK.out _ _ ?_ (fun hHeld=>?_)
      ·exact keep3 hHeld hBx
      clear hK K
      (try simp only [Act.put,bw7,bw8,bw9])
      refine tT 75 3 ?_
      refine tT 76 4 ?_
      refine tF 77 5 ?_
      refine tF 78 6 ?_
      refine tF 79 7 ?_
      refine tF 80 8 ?_
      refine tT 81 9 ?_
      refine tT 82 10 ?_
      refine tF 83 11 ?_
      refine tF 84 12 ?_
      refine tF 85 13 ?_
      refine tF 86 14 ?_
      refine tF 87 15 ?_
      refine tF 88 16 ?_
      refine tT 89 17 ?_
      refine tT 90 18 ?_
      refine tF 91 19 ?_
      refine tF 92 20 ?_
      refine tF 93 21 ?_
      refine tF 94 22 ?_
      refine tF 95 23 ?_
      refine tF 96 24 ?_
      refine tF 97 25 ?_
      refine tF 98 26 ?_
      refine tF 99 27 ?_
      refine tF 100 28 ?_
      refine tF 101 29 ?_
      refine tF 102 30 ?_
      refine tF 103 31 ?_
      refine tF 104 32 ?_
      refine tF 105 33 ?_
      refine tF 106 34 ?_
      refine tF 107 35 ?_
      refine tF 108 36 ?_
      refine tT 109 37 ?_
      refine wpAnyH_done (by kernel_rfl) ?_ _
      refine hN.out _ _ ?_
      go_wp2_with fail
      go_ret
      exact ⟨by rw [rightB_span hj1 HSB.out];first|done|rfl,hHeld.2.2.2⟩
     cases bv
     ·as_aux_lemma =>
      have HSB:=Lib.hid (show spanB S j=false by rw [HSB0.out,HV.out];simp)
      clear HSB0
      refine region_held_abs (S:=(fun w'=>w'.cell? ⟨wr.heap.size,0,none⟩=some (.string u)∧w'.cell? ⟨wr.heap.size,1,none⟩=some (.string v)∧w'.cell? ⟨b0,o0+2,none⟩=some (.slice (some ⟨b,off,none⟩) S.length cap)∧Below w.heap.size w w')) 38 #[false,false,false,false,false,false,false,false,false,false,false,false,false,false,false,false,false,false,false,false,false,false,false,false,false,false,false,false,false,false,false,false,false,false,false,false,false,false] (by kernel_rfl) (by kernel_rfl) (by kernel_rfl) (fun _ _ _ _ _ h=>h) hS (fun Q' hQ' hN hHeld=>?_)
      refine tT 72 0 ?_
      refine tT 73 1 ?_
      refine wpAnyH_ready (rs:=[2]) (by kernel_rfl) (by simp) ?_
      refine consW (i:=2) rfl (by kernel_rfl) (fun K hK=>?_)
      go_simp
      refine (rshort_is u _ (glo3 HG.out hHeld) hus HU.out).mono ?_
      rintro e w' ⟨rfl,hBx⟩
      go_simp
      refine hK.out _ _ ?_ (fun hHeld=>?_)
      ·exact keep3 hHeld hBx
      clear hK K
      (try simp only [Act.put,bw7,bw8,bw9])
      refine tT 75 3 ?_
      refine tT 76 4 ?_
      refine tT 77 5 ?_
      refine tT 78 6 ?_
      refine wpAnyH_ready (rs:=[7]) (by kernel_rfl) (by simp) ?_
      refine consW (i:=7) rfl (by kernel_rfl) (fun K hK=>?_)
      go_simp
      refine (rshort_is v _ (glo3 HG.out hHeld) hvs HV.out).mono ?_
      rintro e w' ⟨rfl,hBx⟩
      go_simp
      refine hK.out _ _ ?_ (fun hHeld=>?_)
      ·exact keep3 hHeld hBx
      clear hK K
      (try simp only [Act.put,bw7,bw8,bw9])
      refine tT 80 8 ?_
      refine tT 81 9 ?_
      refine tT 82 10 ?_
      refine tF 83 11 ?_
      refine tF 84 12 ?_
      refine tF 85 13 ?_
      refine tF 86 14 ?_
      refine tF 87 15 ?_
      refine tF 88 16 ?_
      refine tT 89 17 ?_
      refine tT 90 18 ?_
      refine tF 91 19 ?_
      refine tF 92 20 ?_
      refine tF 93 21 ?_
      refine tF 94 22 ?_
      refine tF 95 23 ?_
      refine tF 96 24 ?_
      refine tF 97 25 ?_
      refine tF 98 26 ?_
      refine tF 99 27 ?_
      refine tF 100 28 ?_
      refine tF 101 29 ?_
      refine tF 102 30 ?_
      refine tF 103 31 ?_
      refine tF 104 32 ?_
      refine tF 105 33 ?_
      refine tF 106 34 ?_
      refine tF 107 35 ?_
      refine tF 108 36 ?_
      refine tT 109 37 ?_
      refine wpAnyH_done (by kernel_rfl) ?_ _
      refine hN.out _ _ ?_
      go_wp2_with fail
      go_ret
      exact ⟨by rw [rightB_span hj1 HSB.out];first|done|rfl,hHeld.2.2.2⟩
     by_cases hlt:qOf u < qOf v
     rotate_left
     ·as_aux_lemma =>
      have hge:=Lib.hid (ordQ_ge hlt)
      rw [HO.out] at hge
      have HSB:=Lib.hid (show spanB S j=false by rw [HSB0.out,show decide (qOf u < qOf v)=false by simpa using hlt];simp)
      clear HSB0 hlt
      refine region_held_abs (S:=(fun w'=>w'.cell? ⟨wr.heap.size,0,none⟩=some (.string u)∧w'.cell? ⟨wr.heap.size,1,none⟩=some (.string v)∧w'.cell? ⟨b0,o0+2,none⟩=some (.slice (some ⟨b,off,none⟩) S.length cap)∧Below w.heap.size w w')) 38 #[false,false,false,false,false,false,false,false,false,false,false,false,false,false,false,false,false,false,false,false,false,false,false,false,false,false,false,false,false,false,false,false,false,false,false,false,false,false] (by kernel_rfl) (by kernel_rfl) (by kernel_rfl) (fun _ _ _ _ _ h=>h) hS (fun Q' hQ' hN hHeld=>?_)
      refine tT 72 0 ?_
      refine tT 73 1 ?_
      refine wpAnyH_ready (rs:=[2]) (by kernel_rfl) (by simp) ?_
      refine consW (i:=2) rfl (by kernel_rfl) (fun K hK=>?_)
      go_simp
      refine (rshort_is u _ (glo3 HG.out hHeld) hus HU.out).mono ?_
      rintro e w' ⟨rfl,hBx⟩
      go_simp
      refine hK.out _ _ ?_ (fun hHeld=>?_)
      ·exact keep3 hHeld hBx
      clear hK K
      (try simp only [Act.put,bw7,bw8,bw9])
      refine tT 75 3 ?_
      refine tT 76 4 ?_
      refine tT 77 5 ?_
      refine tT 78 6 ?_
      refine wpAnyH_ready (rs:=[7]) (by kernel_rfl) (by simp) ?_
      refine consW (i:=7) rfl (by kernel_rfl) (fun K hK=>?_)
      go_simp
      refine (rshort_is v _ (glo3 HG.out hHeld) hvs HV.out).mono ?_
      rintro e w' ⟨rfl,hBx⟩
      go_simp
      refine hK.out _ _ ?_ (fun hHeld=>?_)
      ·exact keep3 hHeld hBx
      clear hK K
      (try simp only [Act.put,bw7,bw8,bw9])
      refine tT 80 8 ?_
      refine tT 81 9 ?_
      refine tT 82 10 ?_
      refine tT 83 11 ?_
      refine tT 84 12 ?_
      refine tT 85 13 ?_
      refine tT 86 14 ?_
      refine wpAnyH_ready (rs:=[15]) (by kernel_rfl) (by simp) ?_
      refine consW (i:=15) rfl (by kernel_rfl) (fun K hK=>?_)
      go_simp
      refine (rcmp47_q u v _ (glo3 HG.out hHeld) (isShort_spec HU.out).1 (isShort_spec HU.out).2 (isShort_spec HV.out).1 (isShort_spec HV.out).2 (by decide) _ HO.out).mono ?_
      rintro e w' ⟨rfl,hBx⟩
      go_simp
      refine hK.out _ _ ?_ (fun hHeld=>?_)
      ·exact keep3 hHeld hBx
      clear hK K
      (try simp only [Act.put,bw7,bw8,bw9])
      refine tT 88 16 (v:=.bool true) (hy:=(by intro w hSw;(try dsimp only at hSw);go_simp;have hx:=hge.out;simp at hx;first|exact hx|omega)) ?_
      refine tT 89 17 ?_
      refine tT 90 18 ?_
      refine tF 91 19 ?_
      refine tF 92 20 ?_
      refine tF 93 21 ?_
      refine tF 94 22 ?_
      refine tF 95 23 ?_
      refine tF 96 24 ?_
      refine tF 97 25 ?_
      refine tF 98 26 ?_
      refine tF 99 27 ?_
      refine tF 100 28 ?_
      refine tF 101 29 ?_
      refine tF 102 30 ?_
      refine tF 103 31 ?_
      refine tF 104 32 ?_
      refine tF 105 33 ?_
      refine tF 106 34 ?_
      refine tF 107 35 ?_
      refine tF 108 36 ?_
      refine tT 109 37 ?_
      refine wpAnyH_done (by kernel_rfl) ?_ _
      refine hN.out _ _ ?_
      go_wp2_with fail
      go_ret
      exact ⟨by rw [rightB_span hj1 HSB.out];first|done|rfl,hHeld.2.2.2⟩
     have hm1:o=-1:=by rw [← HO.out,ordQ_lt hlt]
     subst hm1
     by_cases hj0:j=0
     ·as_aux_lemma =>
      subst hj0
      have HSB:=Lib.hid (show spanB S 0=true by rw [HSB0.out,HU.out,HV.out,show decide (qOf u < qOf v)=true by simpa using hlt];rfl)
      clear HSB0 hlt
      refine region_held_abs (S:=(fun w'=>w'.cell? ⟨wr.heap.size,0,none⟩=some (.string u)∧w'.cell? ⟨wr.heap.size,1,none⟩=some (.string v)∧w'.cell? ⟨b0,o0+2,none⟩=some (.slice (some ⟨b,off,none⟩) S.length cap)∧Below w.heap.size w w')) 38 #[false,false,false,false,false,false,false,false,false,false,false,false,false,false,false,false,false,false,false,false,false,false,false,false,false,false,false,false,false,false,false,false,false,false,false,false,false,false] (by kernel_rfl) (by kernel_rfl) (by kernel_rfl) (fun _ _ _ _ _ h=>h) hS (fun Q' hQ' hN hHeld=>?_)
      refine tT 72 0 ?_
      refine tT 73 1 ?_
      refine wpAnyH_ready (rs:=[2]) (by kernel_rfl) (by simp) ?_
      refine consW (i:=2) rfl (by kernel_rfl) (fun K hK=>?_)
      go_simp
      refine (rshort_is u _ (glo3 HG.out hHeld) hus HU.out).mono ?_
      rintro e w' ⟨rfl,hBx⟩
      go_simp
      refine hK.out _ _ ?_ (fun hHeld=>?_)
      ·exact keep3 hHeld hBx
      clear hK K
      (try simp only [Act.put,bw7,bw8,bw9])
      refine tT 75 3 ?_
      refine tT 76 4 ?_
      refine tT 77 5 ?_
      refine tT 78 6 ?_
      refine wpAnyH_ready (rs:=[7]) (by kernel_rfl) (by simp) ?_
      refine consW (i:=7) rfl (by kernel_rfl) (fun K hK=>?_)
      go_simp
      refine (rshort_is v _ (glo3 HG.out hHeld) hvs HV.out).mono ?_
      rintro e w' ⟨rfl,hBx⟩
      go_simp
      refine hK.out _ _ ?_ (fun hHeld=>?_)
      ·exact keep3 hHeld hBx
      clear hK K
      (try simp only [Act.put,bw7,bw8,bw9])
      refine tT 80 8 ?_
      refine tT 81 9 ?_
      refine tT 82 10 ?_
      refine tT 83 11 ?_
      refine tT 84 12 ?_
      refine tT 85 13 ?_
      refine tT 86 14 ?_
      refine wpAnyH_ready (rs:=[15]) (by kernel_rfl) (by simp) ?_
      refine consW (i:=15) rfl (by kernel_rfl) (fun K hK=>?_)
      go_simp
      refine (rcmp47_q u v _ (glo3 HG.out hHeld) (isShort_spec HU.out).1 (isShort_spec HU.out).2 (isShort_spec HV.out).1 (isShort_spec HV.out).2 (by decide) _ HO.out).mono ?_
      rintro e w' ⟨rfl,hBx⟩
      go_simp
      refine hK.out _ _ ?_ (fun hHeld=>?_)
      ·exact keep3 hHeld hBx
      clear hK K
      (try simp only [Act.put,bw7,bw8,bw9])
      refine tT 88 16 ?_
      refine tT 89 17 ?_
      refine tT 90 18 ?_
      refine tT 91 19 ?_
      refine tT 92 20 ?_
      refine tT 93 21 ?_
      refine tF 94 22 ?_
      refine tF 95 23 ?_
      refine tF 96 24 ?_
      refine tF 97 25 ?_
      refine tF 98 26 ?_
      refine tF 99 27 ?_
      refine tF 100 28 ?_
      refine tF 101 29 ?_
      refine tF 102 30 ?_
      refine tF 103 31 ?_
      refine tF 104 32 ?_
      refine tF 105 33 ?_
      refine tF 106 34 ?_
      refine tF 107 35 ?_
      refine tT 108 36 ?_
      refine tT 109 37 ?_
      refine wpAnyH_done (by kernel_rfl) ?_ _
      refine hN.out _ _ ?_
      go_wp2_with fail
      go_roundw
      case rel=>exact ⟨1,by omega,by go_num,Lib.hid (fun k hk=>by
       rcases Nat.lt_or_eq_of_le (Nat.le_of_lt_succ hk) with h|h
       ·exact absurd h (by omega)
       ·rw [h];exact HSB.out),hHeld.2.2.2,hHeld.2.2.1⟩
      case measure=>simp [intOf];omega
     have hi1:j - 1 < S.length:=by omega
     obtain ⟨_,ez⟩:=HCC.out (j - 1) hi1
     have q2:=keep hBw (keep hBj ez)
     have HZS:=HSP.out (j - 1) (by omega)
     unfold spanB at HZS
     obtain ⟨z,hz⟩:∃ z,(tx S (j - 1)).2=z:=⟨_,rfl⟩
     rw [hz] at q2 HSB0
     have hzs:isShort z=true:=by
      rw [hz] at HZS
      simp only [Bool.and_eq_true] at HZS
      exact HZS.1.1.2
     have HZ:=Lib.hid hzs
     obtain ⟨o2,hoo2⟩:∃ o,ordQ (qOf u) (qOf z)=o:=⟨_,rfl⟩
     have HO2:=Lib.hid hoo2
     have hjz:(0:Int) < (j:Int):=by omega
     have hjN:0 < j:=by omega
     have hii:(j:Int) - 1 < (S.length:Int):=by omega
     have hii0:(0:Int)≤(j:Int) - 1:=by omega
     have hii1:(1:Int)≤(j:Int):=by omega
     have hii2:(j:Int) < (S.length:Int)+1:=by omega
     have hii3:(j:Int)≤(S.length:Int):=by omega
     have hwj:IntKind.i64.wrap ((j:Int) - 1)=(j:Int) - 1:=IntWalk.i64_in _ (by omega)
     have hcap':(S.length:Int)≤64:=by omega
     have hS2:W.drew.cell? ⟨wr.heap.size,0,none⟩=some (.string u)∧W.drew.cell? ⟨wr.heap.size,1,none⟩=some (.string v)∧W.drew.cell? ⟨b0,o0+2,none⟩=some (.slice (some ⟨b,off,none⟩) S.length cap)∧W.drew.cell? ⟨b,off+(j - 1) * 2+1,none⟩=some (.string z)∧Below w.heap.size w W.drew:=⟨hS.1,hS.2.1,hS.2.2.1,by simpa using q2,hS.2.2.2⟩
     clear hS q2 ez HZS hzs hoo2 hz
     have hS:=hS2
     clear hS2
     by_cases hlt2:qOf z < qOf u
     ·as_aux_lemma =>
      have hle:=Lib.hid (ordQ_gt0 hlt2)
      rw [HO2.out] at hle
      have HSB:=Lib.hid (show spanB S j=true by rw [HSB0.out,HU.out,HV.out,show decide (qOf u < qOf v)=true by simpa using hlt,show decide (qOf z < qOf u)=true by simpa using hlt2];simp)
      clear HSB0 hlt hlt2 hj0 HCC
      refine region_held_abs (S:=(fun w'=>w'.cell? ⟨wr.heap.size,0,none⟩=some (.string u)∧w'.cell? ⟨wr.heap.size,1,none⟩=some (.string v)∧w'.cell? ⟨b0,o0+2,none⟩=some (.slice (some ⟨b,off,none⟩) S.length cap)∧w'.cell? ⟨b,off+(j - 1) * 2+1,none⟩=some (.string z)∧Below w.heap.size w w')) 38 #[false,false,false,false,false,false,false,false,false,false,false,false,false,false,false,false,false,false,false,false,false,false,false,false,false,false,false,false,false,false,false,false,false,false,false,false,false,false] (by kernel_rfl) (by kernel_rfl) (by kernel_rfl) (fun _ _ _ _ _ h=>h) hS (fun Q' hQ' hN hHeld=>?_)
      refine tT 72 0 ?_
      refine tT 73 1 ?_
      refine wpAnyH_ready (rs:=[2]) (by kernel_rfl) (by simp) ?_
      refine consW (i:=2) rfl (by kernel_rfl) (fun K hK=>?_)
      go_simp
      refine (rshort_is u _ (glo4 HG.out hHeld) hus HU.out).mono ?_
      rintro e w' ⟨rfl,hBx⟩
      go_simp
      refine hK.out _ _ ?_ (fun hHeld=>?_)
      ·exact keep4 hHeld hBx
      clear hK K
      (try simp only [Act.put,bw7,bw8,bw9])
      refine tT 75 3 ?_
      refine tT 76 4 ?_
      refine tT 77 5 ?_
      refine tT 78 6 ?_
      refine wpAnyH_ready (rs:=[7]) (by kernel_rfl) (by simp) ?_
      refine consW (i:=7) rfl (by kernel_rfl) (fun K hK=>?_)
      go_simp
      refine (rshort_is v _ (glo4 HG.out hHeld) hvs HV.out).mono ?_
      rintro e w' ⟨rfl,hBx⟩
      go_simp
      refine hK.out _ _ ?_ (fun hHeld=>?_)
      ·exact keep4 hHeld hBx
      clear hK K
      (try simp only [Act.put,bw7,bw8,bw9])
      refine tT 80 8 ?_
      refine tT 81 9 ?_
      refine tT 82 10 ?_
      refine tT 83 11 ?_
      refine tT 84 12 ?_
      refine tT 85 13 ?_
      refine tT 86 14 ?_
      refine wpAnyH_ready (rs:=[15]) (by kernel_rfl) (by simp) ?_
      refine consW (i:=15) rfl (by kernel_rfl) (fun K hK=>?_)
      go_simp
      refine (rcmp47_q u v _ (glo4 HG.out hHeld) (isShort_spec HU.out).1 (isShort_spec HU.out).2 (isShort_spec HV.out).1 (isShort_spec HV.out).2 (by decide) _ HO.out).mono ?_
      rintro e w' ⟨rfl,hBx⟩
      go_simp
      refine hK.out _ _ ?_ (fun hHeld=>?_)
      ·exact keep4 hHeld hBx
      clear hK K
      (try simp only [Act.put,bw7,bw8,bw9])
      refine tT 88 16 ?_
      refine tT 89 17 ?_
      refine tT 90 18 ?_
      refine tT 91 19 ?_
      refine tT 92 20 ?_
      refine tT 93 21 ?_
      refine tT 94 22 ?_
      refine tT 95 23 ?_
      refine tT 96 24 ?_
      refine tT 97 25 ?_
      refine tT 98 26 ?_
      refine tT 99 27 ?_
      refine tT 100 28 ?_
      refine tT 101 29 ?_
      refine tT 102 30 ?_
      refine tT 103 31 ?_
      refine tT 104 32 ?_
      refine tT 105 33 ?_
      refine wpAnyH_ready (rs:=[34]) (by kernel_rfl) (by simp) ?_
      refine consW (i:=34) rfl (by kernel_rfl) (fun K hK=>?_)
      go_simp
      refine (rcmp47_q u z _ (glo4 HG.out hHeld) (isShort_spec HU.out).1 (isShort_spec HU.out).2 (isShort_spec HZ.out).1 (isShort_spec HZ.out).2 (by decide) _ HO2.out).mono ?_
      rintro e w' ⟨rfl,hBx⟩
      go_simp
      refine hK.out _ _ ?_ (fun hHeld=>?_)
      ·exact keep4 hHeld hBx
      clear hK K
      (try simp only [Act.put,bw7,bw8,bw9])
      refine tT 107 35 (v:=.bool false) (hy:=(by intro w hSw;(try dsimp only at hSw);go_simp;have hx:=hle.out;simp at hx;first|exact hx|omega)) ?_
      refine tT 108 36 ?_
      refine tT 109 37 ?_
      refine wpAnyH_done (by kernel_rfl) ?_ _
      refine hN.out _ _ ?_
      go_wp2_with fail
      go_roundw
      case rel=>exact ⟨j+1,by omega,by go_num,Lib.hid (fun k hk=>by
       rcases Nat.lt_or_eq_of_le (Nat.le_of_lt_succ hk) with h|h
       ·exact HSP.out k h
       ·rw [h];exact HSB.out),hHeld.2.2.2.2,hHeld.2.2.1⟩
      case measure=>simp [intOf];omega
     ·as_aux_lemma =>
      have hle:=Lib.hid (ordQ_le0 hlt2)
      rw [HO2.out] at hle
      have HSB:=Lib.hid (show spanB S j=false by rw [HSB0.out,show decide (qOf z < qOf u)=false by simpa using hlt2,show decide (j=0)=false by simpa using hj0];simp)
      clear HSB0 hlt hlt2 hj0 HCC
      refine region_held_abs (S:=(fun w'=>w'.cell? ⟨wr.heap.size,0,none⟩=some (.string u)∧w'.cell? ⟨wr.heap.size,1,none⟩=some (.string v)∧w'.cell? ⟨b0,o0+2,none⟩=some (.slice (some ⟨b,off,none⟩) S.length cap)∧w'.cell? ⟨b,off+(j - 1) * 2+1,none⟩=some (.string z)∧Below w.heap.size w w')) 38 #[false,false,false,false,false,false,false,false,false,false,false,false,false,false,false,false,false,false,false,false,false,false,false,false,false,false,false,false,false,false,false,false,false,false,false,false,false,false] (by kernel_rfl) (by kernel_rfl) (by kernel_rfl) (fun _ _ _ _ _ h=>h) hS (fun Q' hQ' hN hHeld=>?_)
      refine tT 72 0 ?_
      refine tT 73 1 ?_
      refine wpAnyH_ready (rs:=[2]) (by kernel_rfl) (by simp) ?_
      refine consW (i:=2) rfl (by kernel_rfl) (fun K hK=>?_)
      go_simp
      refine (rshort_is u _ (glo4 HG.out hHeld) hus HU.out).mono ?_
      rintro e w' ⟨rfl,hBx⟩
      go_simp
      refine hK.out _ _ ?_ (fun hHeld=>?_)
      ·exact keep4 hHeld hBx
      clear hK K
      (try simp only [Act.put,bw7,bw8,bw9])
      refine tT 75 3 ?_
      refine tT 76 4 ?_
      refine tT 77 5 ?_
      refine tT 78 6 ?_
      refine wpAnyH_ready (rs:=[7]) (by kernel_rfl) (by simp) ?_
      refine consW (i:=7) rfl (by kernel_rfl) (fun K hK=>?_)
      go_simp
      refine (rshort_is v _ (glo4 HG.out hHeld) hvs HV.out).mono ?_
      rintro e w' ⟨rfl,hBx⟩
      go_simp
      refine hK.out _ _ ?_ (fun hHeld=>?_)
      ·exact keep4 hHeld hBx
      clear hK K
      (try simp only [Act.put,bw7,bw8,bw9])
      refine tT 80 8 ?_
      refine tT 81 9 ?_
      refine tT 82 10 ?_
      refine tT 83 11 ?_
      refine tT 84 12 ?_
      refine tT 85 13 ?_
      refine tT 86 14 ?_
      refine wpAnyH_ready (rs:=[15]) (by kernel_rfl) (by simp) ?_
      refine consW (i:=15) rfl (by kernel_rfl) (fun K hK=>?_)
      go_simp
      refine (rcmp47_q u v _ (glo4 HG.out hHeld) (isShort_spec HU.out).1 (isShort_spec HU.out).2 (isShort_spec HV.out).1 (isShort_spec HV.out).2 (by decide) _ HO.out).mono ?_
      rintro e w' ⟨rfl,hBx⟩
      go_simp
      refine hK.out _ _ ?_ (fun hHeld=>?_)
      ·exact keep4 hHeld hBx
      clear hK K
      (try simp only [Act.put,bw7,bw8,bw9])
      refine tT 88 16 ?_
      refine tT 89 17 ?_
      refine tT 90 18 ?_
      refine tT 91 19 ?_
      refine tT 92 20 ?_
      refine tT 93 21 ?_
      refine tT 94 22 ?_
      refine tT 95 23 ?_
      refine tT 96 24 ?_
      refine tT 97 25 ?_
      refine tT 98 26 ?_
      refine tT 99 27 ?_
      refine tT 100 28 ?_
      refine tT 101 29 ?_
      refine tT 102 30 ?_
      refine tT 103 31 ?_
      refine tT 104 32 ?_
      refine tT 105 33 ?_
      refine wpAnyH_ready (rs:=[34]) (by kernel_rfl) (by simp) ?_
      refine consW (i:=34) rfl (by kernel_rfl) (fun K hK=>?_)
      go_simp
      refine (rcmp47_q u z _ (glo4 HG.out hHeld) (isShort_spec HU.out).1 (isShort_spec HU.out).2 (isShort_spec HZ.out).1 (isShort_spec HZ.out).2 (by decide) _ HO2.out).mono ?_
      rintro e w' ⟨rfl,hBx⟩
      go_simp
      refine hK.out _ _ ?_ (fun hHeld=>?_)
      ·exact keep4 hHeld hBx
      clear hK K
      (try simp only [Act.put,bw7,bw8,bw9])
      refine tT 107 35 (v:=.bool true) (hy:=(by intro w hSw;(try dsimp only at hSw);go_simp;have hx:=hle.out;simp at hx;first|exact hx|omega)) ?_
      refine tT 108 36 ?_
      refine tT 109 37 ?_
      refine wpAnyH_done (by kernel_rfl) ?_ _
      refine hN.out _ _ ?_
      go_wp2_with fail
      go_ret
      exact ⟨by rw [rightB_span hj1 HSB.out];first|done|rfl,hHeld.2.2.2.2⟩
theorem rspans47_any (lo hi:ByteArray) (S:Texts) (v0:Value) (w:World) (hG:Glo w) (hv:SpansAt w v0 S) (hss:∀ k,k < S.length→isShort (tx S k).1=true∧isShort (tx S k).2=true) (hn:S.length≤64) :
  Calls Tryz.prog 173 #[.agg #[.string lo,.string hi,v0]] w (RetT SomeN w):=by
 obtain ⟨a,cap,rfl,hmx,hcells⟩:=hv
 have HG:=Lib.hid hG
 have HC:=Lib.hid hcells
 have HSS:=Lib.hid hss
 clear hG hcells hss hmx
 go_enter Tryz.func173,Tryz.ntmps173
 go_wp2_with fail
 go_loopw [4,5] (fun len i wr=>∃ j:Nat,j≤S.length∧i=.int .i64 j∧(∃ q:ByteArray,len=.string q∧Hid (∃ x:Rat,q.data.toList=ratText x∧Sz 300 x))∧wr.cell? ⟨w.heap.size,2,none⟩=some (.slice a S.length cap)∧Below w.heap.size w wr) (fun _ i _=>S.length - (intOf i).toNat)
 case atStart=>exact ⟨0,by omega,rfl,⟨_,rfl,Lib.hid ⟨0,by rw [zero_text],sz300_zero⟩⟩,by simp [go_sem],qbl⟩
 case round =>
  obtain ⟨j,hj,rfl,⟨q,rfl,hq⟩,e2,hBj⟩:=hrel
  by_cases hjn:j=S.length
  ·subst hjn
   obtain ⟨x,hx1,hx2⟩:=hq.out
   have HX:=Lib.hid hx1
   clear hq hx1
   go_wp2_with fail
   go_ret2
   exact ⟨q,0,rfl,Lib.hid (.inl ⟨rfl,x,HX.out,hx2⟩),hBj⟩
  ·have hj1:j < S.length:=by omega
   obtain ⟨x,hx1,hx2⟩:=hq.out
   have HX:=Lib.hid hx1
   obtain ⟨b,off,rfl,hbb,hcc⟩:=HC.out (fun h=>by rw [h] at hj1;simp at hj1)
   obtain ⟨f0,f1⟩:=hcc j hj1
   have q0:=keep hBj f0
   have q1:=keep hBj f1
   obtain ⟨hus,hvs⟩:=HSS.out j hj1
   obtain ⟨u,hu⟩:∃ u,(tx S j).1=u:=⟨_,rfl⟩
   obtain ⟨v,hv⟩:∃ v,(tx S j).2=v:=⟨_,rfl⟩
   rw [hu] at q0 hus
   rw [hv] at q1 hvs
   have HU:=Lib.hid (isShort_spec hus)
   have HV:=Lib.hid (isShort_spec hvs)
   have hji:(j:Int) < (S.length:Int):=by omega
   clear hu hv f0 f1 hjn hcc hus hvs hq hx1
   have hS:wr.drew.cell? ⟨w.heap.size,2,none⟩=some (.slice (some ⟨b,off,none⟩) S.length cap)∧wr.drew.cell? ⟨b,off+j * 2,none⟩=some (.string u)∧wr.drew.cell? ⟨b,off+j * 2+1,none⟩=some (.string v)∧Below w.heap.size w wr.drew:=⟨by simpa using e2,by simpa using q0,by simpa using q1,bw3 hBj⟩
   go_wp2_with fail
   clear e2 q0 q1 hBj
   refine region_held_abs (S:=(fun w'=>w'.cell? ⟨w.heap.size,2,none⟩=some (.slice (some ⟨b,off,none⟩) S.length cap)∧w'.cell? ⟨b,off+j * 2,none⟩=some (.string u)∧w'.cell? ⟨b,off+j * 2+1,none⟩=some (.string v)∧Below w.heap.size w w')) 20 #[false,false,false,false,false,false,false,false,false,false,false,false,false,false,false,false,false,false,false,false] (by kernel_rfl) (by kernel_rfl) (by kernel_rfl) (fun _ _ _ _ _ h=>h) hS (fun Q' hQ' hN hHeld=>?_)
   refine tT 15 0 ?_
   refine tT 16 1 ?_
   refine tT 17 2 ?_
   refine tT 18 3 ?_
   refine tT 19 4 ?_
   refine tT 20 5 ?_
   refine tT 21 6 ?_
   refine tT 22 7 ?_
   refine tT 23 8 ?_
   refine tT 24 9 ?_
   refine tT 25 10 ?_
   refine tT 26 11 ?_
   refine tT 27 12 ?_
   refine wpAnyH_ready (rs:=[13]) (by kernel_rfl) (by simp) ?_
   refine consW (i:=13) rfl (by kernel_rfl) (fun K hK=>?_)
   go_simp
   refine (rsub47_q v u _ (glo3 HG.out hHeld) HV.out.1 HV.out.2 HU.out.1 HU.out.2 (by decide)).mono ?_
   rintro e w' ⟨m,hm,rfl,hBx⟩
   have HMx:=Lib.hid hm
   have hmz:=(Sz.add HV.out.2 HU.out.2.neg').mono (show 36+36+1≤300 by decide)
   rw [← Rat.sub_eq_add_neg] at hmz
   clear hm
   go_simp
   refine hK.out _ _ ?_ (fun hHeld=>?_)
   ·exact keep3 hHeld hBx
   clear hK K
   (try simp only [Act.put,bw7,bw8,bw9])
   refine wpAnyH_ready (rs:=[14]) (by kernel_rfl) (by simp) ?_
   refine consW (i:=14) rfl (by kernel_rfl) (fun K hK=>?_)
   go_simp
   refine (RAdd02W q m _ (glo3 HG.out hHeld) HX.out hx2 HMx.out hmz).mono ?_
   rintro e w' ⟨m',c',rfl,hm',hBx⟩
   clear HMx hmz
   go_simp
   refine hK.out _ _ ?_ (fun hHeld=>?_)
   ·exact keep3 hHeld hBx
   clear hK K
   (try simp only [Act.put,bw7,bw8,bw9])
   refine tT 14 15 ?_
   refine tT 30 16 ?_
   refine tT 31 17 ?_
   refine tT 4 18 ?_
   refine tT 6 19 ?_
   refine wpAnyH_done (by kernel_rfl) ?_ _
   refine hN.out _ _ ?_
   rcases hm'.out with ⟨rfl,hm1,hm2⟩|⟨rfl,rfl⟩
   rotate_left
   ·clear hm'
    go_wp2_with fail
    go_ret2
    exact ⟨_,4,rfl,Lib.hid (.inr ⟨rfl,rfl⟩),hHeld.2.2.2⟩
   have HM:=Lib.hid hm1
   clear hm' hm1
   go_wp2_with fail
   go_roundw
   case rel=>exact ⟨j+1,by omega,by go_num,⟨m',rfl,Lib.hid ⟨_,HM.out,hm2⟩⟩,hHeld.1,hHeld.2.2.2⟩
   case measure=>simp [intOf];omega
theorem rarea47_any (b0 o0 cap0:Nat) (lo hi:ByteArray) (S:Texts) (v0:Value) (w:World) (hG:Glo w)
  (c0:w.cell? ⟨b0,o0,none⟩=some (.string lo)) (c1:w.cell? ⟨b0,o0+1,none⟩=some (.string hi)) (c2:w.cell? ⟨b0,o0+2,none⟩=some v0)
  (hv:SpansAt w v0 S) (hlo:lo.size≤1000) (hhi:hi.size≤1000) (hbr:Brief S) :
  Calls Tryz.prog 105 #[.slice (some ⟨b0,o0,none⟩) 1 cap0] w (RetAr (rightB lo hi S) w):=by
 have hright:=rright47_any b0 o0 cap0 lo hi S v0 w hG c0 c1 c2 hv hlo hhi hbr
 obtain ⟨B,hB⟩:∃ B,rightB lo hi S=B:=⟨_,rfl⟩
 rw [hB] at hright ⊢
 have HRI:=Lib.hid hright
 have HV:=Lib.hid hv
 obtain ⟨a,cap,rfl,hmx,hcells⟩:=hv
 have HG:=Lib.hid hG
 cases B
 ·clear hG hcells hright hB hbr
  go_enter Tryz.func105,Tryz.ntmps105
  go_wp2_with fail
  refine (HRI.out).mono ?_
  rintro e w1 ⟨rfl,hB1⟩
  go_wp2_with fail
  go_ret2
  exact ⟨_,1,rfl,.inr (.inl rfl),Lib.hid ⟨fun _=>rfl,fun _=>rfl⟩,hB1⟩
 ·obtain ⟨hl1,hl2,hn,hss⟩:=rightB_short hB
  have HLO:=Lib.hid (isShort_spec hl1)
  have HHI:=Lib.hid (isShort_spec hl2)
  have HSP:=Lib.hid (fun W (hB:Below w.heap.size w W) hG=>rspans47_any lo hi S (.slice a S.length cap) W hG (HV.out.below hB) hss hn)
  clear hG hcells hright hB hbr hl1 hl2 hss
  go_enter Tryz.func105,Tryz.ntmps105
  go_wp2_with fail
  refine (HRI.out).mono ?_
  rintro e w1 ⟨rfl,hB1⟩
  go_wp2_with fail
  go_loopw [4,5] (fun tot i wr=>∃ k:Nat,(k=0∧i=.int .i64 0∨k=1∧i=.int .i64 1)∧Below w.heap.size w wr∧∃ r:ByteArray,tot=.string r∧Hid (∃ q:Rat,r.data.toList=ratText q∧Sz 300 q)) (fun _ i _=>1 - (intOf i).toNat)
  case atStart=>exact ⟨0,Or.inl ⟨rfl,rfl⟩,hB1,_,rfl,Lib.hid ⟨0,by rw [zero_text],sz300_zero⟩⟩
  case round =>
   obtain ⟨k,hk,hB0,r,rfl,hrt⟩:=hrel
   rcases hk.symm with ⟨rfl,rfl⟩|⟨rfl,rfl⟩
   ·clear hk
    go_wp2_with fail
    go_ret2
    exact ⟨r,0,rfl,.inl rfl,Lib.hid (by simp),hB0⟩
   ·clear hk
    have d0:=keep hB0 c0
    have d1:=keep hB0 c1
    have d2:=keep hB0 c2
    go_wp2_with fail
    refine (HSP.out _ hB0 (HG.out.below hB0)).mono ?_
    rintro e w2 ⟨q,c,rfl,hq,hB2⟩
    have hB2':=below_trans' hB0 hB2
    have g0:=keep hB2 d0
    have g1:=keep hB2 d1
    have g2:=keep hB2 d2
    clear d0 d1 d2 hB2
    rcases hq.out with ⟨rfl,x,hx1,hx2⟩|⟨rfl,rfl⟩
    rotate_left
    ·clear hq
     go_wp2_with fail
     go_ret2
     exact ⟨_,4,rfl,.inr (.inr rfl),Lib.hid (by simp),hB2'⟩
    have HX:=Lib.hid hx1
    clear hq hx1
    have hS:w2.drew.cell? ⟨b0,o0,none⟩=some (.string lo)∧w2.drew.cell? ⟨b0,o0+1,none⟩=some (.string hi)∧w2.drew.cell? ⟨b0,o0+2,none⟩=some (.slice a S.length cap)∧Below w.heap.size w w2.drew:=⟨by simpa using g0,by simpa using g1,by simpa using g2,bw3 hB2'⟩
    go_wp2_with fail
    clear g0 g1 g2 hB2'
    refine region_held_abs (S:=(fun w'=>w'.cell? ⟨b0,o0,none⟩=some (.string lo)∧w'.cell? ⟨b0,o0+1,none⟩=some (.string hi)∧w'.cell? ⟨b0,o0+2,none⟩=some (.slice a S.length cap)∧Below w.heap.size w w')) 18 #[false,false,false,false,false,false,false,false,false,false,false,false,false,false,false,false,false,false] (by kernel_rfl) (by kernel_rfl) (by kernel_rfl) (fun _ _ _ _ _ h=>h) hS (fun Q' hQ' hN hHeld=>?_)
    refine tT 29 0 ?_
    refine tT 30 1 ?_
    refine tT 31 2 ?_
    refine tT 32 3 ?_
    refine tT 33 4 ?_
    refine tT 34 5 ?_
    refine tT 35 6 ?_
    refine tT 36 7 ?_
    refine tT 37 8 ?_
    refine tT 38 9 ?_
    refine tT 39 10 ?_
    refine wpAnyH_ready (rs:=[11]) (by kernel_rfl) (by simp) ?_
    refine consW (i:=11) rfl (by kernel_rfl) (fun K hK=>?_)
    go_simp
    refine (rsub47_q hi lo _ (glo3 HG.out hHeld) HHI.out.1 HHI.out.2 HLO.out.1 HLO.out.2 (by decide)).mono ?_
    rintro e w' ⟨m,hm,rfl,hBx⟩
    have HMx:=Lib.hid hm
    have hmz:=(Sz.add HHI.out.2 HLO.out.2.neg').mono (show 36+36+1≤300 by decide)
    rw [← Rat.sub_eq_add_neg] at hmz
    clear hm
    go_simp
    refine hK.out _ _ ?_ (fun hHeld=>?_)
    ·exact keep3 hHeld hBx
    clear hK K
    (try simp only [Act.put,bw7,bw8,bw9])
    refine wpAnyH_ready (rs:=[12]) (by kernel_rfl) (by simp) ?_
    refine consW (i:=12) rfl (by kernel_rfl) (fun K hK=>?_)
    go_simp
    refine (RMul02W q m _ (glo3 HG.out hHeld) HX.out hx2 HMx.out hmz).mono ?_
    rintro e w' ⟨m',c',rfl,hm',hBx⟩
    clear HMx hmz
    go_simp
    refine hK.out _ _ ?_ (fun hHeld=>?_)
    ·exact keep3 hHeld hBx
    clear hK K
    (try simp only [Act.put,bw7,bw8,bw9])
    refine tT 28 13 ?_
    refine tT 42 14 ?_
    refine tT 43 15 ?_
    refine tT 6 16 ?_
    refine tT 7 17 ?_
    refine wpAnyH_done (by kernel_rfl) ?_ _
    refine hN.out _ _ ?_
    rcases hm'.out with ⟨rfl,hm1,hm2⟩|⟨rfl,rfl⟩
    rotate_left
    ·clear hm'
     go_wp2_with fail
     go_ret2
     exact ⟨_,4,rfl,.inr (.inr rfl),Lib.hid (by simp),hHeld.2.2.2⟩
    have HM:=Lib.hid hm1
    obtain ⟨z,hz1,hz2⟩:=hrt.out
    have HZ:=Lib.hid hz1
    clear hm' hm1 hz1 hrt
    go_wp2_with fail
    refine (RAdd02W r m' _ (HG.out.below hHeld.2.2.2) HZ.out hz2 HM.out hm2).mono ?_
    rintro e w3 ⟨t,c',rfl,ht,hB3⟩
    have hB3':=below_trans' hHeld.2.2.2 hB3
    clear hB3 hHeld
    rcases ht.out with ⟨rfl,ht1,ht2⟩|⟨rfl,rfl⟩
    rotate_left
    ·clear ht
     go_wp2_with fail
     go_ret2
     exact ⟨_,4,rfl,.inr (.inr rfl),Lib.hid (by simp),hB3'⟩
    have HT:=Lib.hid ht1
    clear ht ht1
    go_wp2_with fail
    go_roundw
    case rel=>exact ⟨1,Or.inr ⟨rfl,rfl⟩,hB3',t,rfl,Lib.hid ⟨_,HT.out,ht2⟩⟩
    case measure=>simp [intOf]
end Go.Proofs.YteepphiomcedfaaGreatDoor
