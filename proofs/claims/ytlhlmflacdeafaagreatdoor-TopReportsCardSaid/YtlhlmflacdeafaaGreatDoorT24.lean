/-
  A part of the walk of TopReports.
-/
import Derived.Test.YtlhlmflacdeafaaGreatDoorT23
set_option maxRecDepth 100000
set_option maxHeartbeats 4000000
set_option linter.unusedVariables false
set_option linter.unusedSimpArgs false
namespace Go.Proofs.YtlhlmflacdeafaaGreatDoor
section
open Go.Conc Go.RowKit
variable {x0 x1 x2 x4 x5 x6 x7 x8 x9 x10 x11 x12 x13 x14 x15 x16 x17 x18 x19 x20 x21 x22 x23 x24 x25 x26 x27 x28 x29 x30 x31 x32 x33 x34 x35 x36 x37:Value} {r:List Value}
theorem anew_r4 (C i num kb kc ro rc:Nat)(l:List (Nat×Nat×Nat))(cur:Array Value)(w:World)(Q:QT)(hC:At w C (.cells (cfc i num kb kc ro l.length rc 100) 72))(hr1:At w ro (.cells cur 103))(hr2:cur.toList.take (l.length*9)=l.flatMap fun r=>(rtc r).toList)(hln:l.length≤9)
 (hQ:∀(y19 y20 y21 y22 y23 y24 y25 y26:Value) (g cp:Nat) (cur2:Array Value) (w9:World),Upd (·=C) w w9→At w9 C (.cells (cfc i num kb kc g l.length cp 100) 72)→At w9 g (.cells cur2 103)→cur2.toList.take (l.length*9)=(l.flatMap fun r=>(rtc r).toList)→l.length≤cp→w.heap.size≤g→Q .normal ⟨(x0::x1::x2::.pointer (some ⟨C,0,none⟩)::x4::x5::x6::x7::x8::x9::x10::x11::x12::x13::x14::x15::x16::x17::x18::y19::y20::y21::y22::y23::y24::y25::y26::r).toArray,[]⟩ w9):
 Code.wp Tryz.prog (rg Tryz.f45 4) Q ⟨(x0::x1::x2::.pointer (some ⟨C,0,none⟩)::x4::x5::x6::x7::x8::x9::x10::x11::x12::x13::x14::x15::x16::x17::x18::x19::x20::x21::x22::x23::x24::x25::x26::r).toArray,[]⟩ w:=by
 have HQ:=hid hQ;clear hQ;conv=>arg 2;whnf
 refine reg (fun w'=>w'.cell? ⟨C,6,none⟩=some nS∧w'.cell? ⟨C,7,none⟩=some (.slice (some ⟨ro,0,none⟩) l.length rc)) (fun j=>j==9) (fun w' hu=>⟨cfc_cell (hC.kp hu) 6 _ rfl,cfc_cell (hC.kp hu) 7 _ rfl⟩) fun HS HU0 hHeld=>?_;have HC0:=hid hC;have HR:=hid (And.intro hr1 (And.intro hr2 hln));clear hC hr1 hr2 hln;refine t3 0 ?_;refine t3 1 ?_;refine t3 3 ?_;refine t3 4 ?_;refine rd1 2 rfl fun K hK=>?_;go_simp;(with_reducible refine(rclone_nil (w.drew)).mono ?_);rintro e_ w1 ⟨rfl,hb⟩;have HU1:=tR HU0 hb;clear hb;refine kK hK (HS.out _ HU1.out) fun hHeld=>?_;try simp only[Act.put,fr]
 refine t3 6 ?_;refine rd1 5 rfl fun K hK=>?_;go_simp;(with_reducible refine(rtclone ro rc l cur (w1) (HR.out.1.kp HU1.out) HR.out.2.1 HR.out.2.2).mono ?_);rintro e_ w2 ⟨g,cp,cur2,rfl,h1,h2,h3,h4,hb⟩;have HGQ:=hid (And.intro h2 (And.intro h3 (Nat.le_trans HU1.out.size h4)));clear h2 h3 h4;have HU2:=tR HU1 hb;have G2:=hid h1;clear hb h1;refine kK hK (HS.out _ HU2.out) fun hHeld=>?_;try simp only[Act.put,fr]
 refine rd1 7 rfl fun K hK=>?_;have hC8:=HC0.out.kp HU2.out;have f6:=frozen_of_row w2 C 6 _ 72 hC8;have hu9:=upd_setCell w2 ⟨C,6,none⟩ nS;have HC9:=hid (show At (w2.setCell ⟨C,6,none⟩ nS) C (.cells (cfc i num kb kc ro l.length rc 100) 72)from At.setc hC8 6 _);have HG9:=hid (G2.out.upd hu9 (show ¬g=C by have:=HC0.out.lt;have h2:=HGQ.out.2.2;omega));have HU9:=hid (Upd.trans (upd_of_below (S:=(·=C)) HU2.out) hu9);go_simp;clear hC8 f6 hu9;refine hK.out _ _ (fun _=>⟨cfc_cell HC9.out 6 _ rfl,cfc_cell HC9.out 7 _ rfl⟩) (fun hHeld=>?_);generalize (w2.setCell ⟨C,6,none⟩ nS)=w9 at*;clear hK K;try simp only[Act.put,fr]
 refine t3 8 ?_;refine wpAnyT_ready (rs:=[9]) (by kernel_rfl) (by simp) ?_;refine AllReadyT.last (o:=_) rfl (fun K hK=>?_) (by kernel_rfl);have f7:=frozen_of_row w9 C 7 _ 72 HC9.out;have hu9:=upd_setCell w9 ⟨C,7,none⟩ (.slice (some ⟨g,0,none⟩) l.length cp);have HCA:=hid (show At (w9.setCell ⟨C,7,none⟩ (.slice (some ⟨g,0,none⟩) l.length cp)) C (.cells (cfc i num kb kc g l.length cp 100) 72)from At.setc HC9.out 7 _);have HGA:=hid (HG9.out.upd hu9 (show ¬g=C by have:=HC0.out.lt;have h2:=HGQ.out.2.2;omega));have HUA:=hid (Upd.trans HU9.out hu9);go_simp;clear f7 hu9;refine hK.out _ _ ?_;clear hK K;try simp only[Act.put,fr]
 exact dN (HQ.out _ _ _ _ _ _ _ _ g cp cur2 _ HUA.out HCA.out HGA.out HGQ.out.1 HGQ.out.2.1 HGQ.out.2.2)
theorem anew_r5 (C i n num kb kc g cp:Nat)(ga ka:Option Addr)(w:World)(Q:QT)(hC:At w C (.cells (cfc i num kb kc g (rts i n).length cp 100) 72))
 (hQ:∀(y27 y28 y29 y30 y31 y32 y33 y34 y35 y36 y37:Value) (B c0 c1 T J JT M A:Nat) (w6:World),Below w.heap.size w w6→At w6 B (.cells #[.chan (some c0),.chan (some c1)] 199)→Lane w6 c0 8 []→Lane w6 c1 8 []→At w6 T (.cells #[.int .i64 32,nS] 202)→At w6 J (.cells #[.pointer (some ⟨JT,0,none⟩)] 207)→At w6 JT (.cells (tbc 4) 261)→At w6 M (.map #[] 0)→At w6 A (.cells (agc (Ag.mk i n num (.slice (some ⟨kb,0,none⟩) 3 kc) g cp 100 ga ka 100 0 B c0 c1 T J JT (M) nS [] [] nS)) 125)→c0≠c1→(∀k∈[A,B,c0,c1,T,J,JT,M],w.heap.size≤k∧k<w6.heap.size)→Q .normal ⟨(.pointer ga::x1::x2::.pointer (some ⟨C,0,none⟩)::.pointer (some ⟨A,0,none⟩)::.int .i64 0::.pointer ka::x7::x8::x9::x10::x11::x12::x13::x14::x15::x16::x17::x18::x19::x20::x21::x22::x23::x24::x25::x26::y27::y28::y29::y30::y31::y32::y33::y34::y35::y36::y37::[]).toArray,[]⟩ w6):
 Code.wp Tryz.prog (rg Tryz.f45 5) Q ⟨(.pointer ga::x1::x2::.pointer (some ⟨C,0,none⟩)::x4::x5::.pointer ka::x7::x8::x9::x10::x11::x12::x13::x14::x15::x16::x17::x18::x19::x20::x21::x22::x23::x24::x25::x26::x27::x28::x29::x30::x31::x32::x33::x34::x35::x36::x37::[]).toArray,[]⟩ w:=by
 have HQ:=hid hQ;clear hQ;conv=>arg 2;whnf
 refine reg (fun w'=>w'.rangeAt C 0 (cfc i num kb kc g (rts i n).length cp 100).toList∧w'.cell? ⟨C,9,none⟩=some (.int .u64 100)) (fun _=>false) (fun w' hu=>⟨at_range (hC.kp hu),cfc_cell (hC.kp hu) 9 _ rfl⟩) fun HS HU0 hHeld=>?_;have hmm:=@run_makeMap Tryz.prog;clear hC;refine u2 0 _ rfl (yQ 72 3 C (0) (cfc i num kb kc g (rts i n).length cp 100) (fun w h=>h.1)) ?_;refine t2 1 ?_;refine t2 2 ?_;refine t2 3 ?_;refine t2 4 ?_;refine wpAnyT_ready (rs:=[5,8]) (by kernel_rfl) (by simp) ?_;refine AllReadyT.cons (o:=_) rfl (fun K hK=>?_) (by kernel_rfl) ?_
 · go_simp;(with_reducible refine(wnew (w.drew)).mono ?_);rintro e_ w1 ⟨B,c0,c1,rfl,h1,h2,h3,hb,h4,h5,h6,h7⟩;have HPB:=hid (And.intro (Nat.le_trans HU0.out.size h4) (And.intro (Nat.le_trans HU0.out.size h5) (And.intro (Nat.le_trans HU0.out.size h6) h7)));clear h4 h5 h6 h7;have HU1:=tR HU0 hb;have QB1:=hid h1;have QL1:=hid h2;have QN1:=hid h3;clear hb h1 h2 h3;refine kK hK (HS.out _ HU1.out) fun hHeld=>?_;try simp only[Act.put,fr]
   refine wpAnyT_ready (rs:=[6,8]) (by kernel_rfl) (by simp) ?_;refine AllReadyT.cons (o:=_) rfl (fun K hK=>?_) (by kernel_rfl) ?_
   · go_simp;(with_reducible refine(tnew (w1)).mono ?_);rintro e_ w2 ⟨T,rfl,h1,hb,h4⟩;have HPT:=hid (Nat.le_trans HU1.out.size h4);clear h4;have HU2:=tR HU1 hb;have QB2:=hid (QB1.out.kp hb);have QL2:=hid (QL1.out.kp hb);have QN2:=hid (QN1.out.kp hb);have QT2:=hid h1;clear hb h1;refine kK hK (HS.out _ HU2.out) fun hHeld=>?_;try simp only[Act.put,fr]
     refine wpAnyT_ready (rs:=[7,8]) (by kernel_rfl) (by simp) ?_;refine AllReadyT.cons (o:=_) rfl (fun K hK=>?_) (by kernel_rfl) ?_
     · go_simp;(with_reducible refine(jnew (w2)).mono ?_);rintro e_ w3 ⟨J,JT,rfl,h1,h2,hb,h4,h5⟩;have HPJ:=hid (And.intro (Nat.le_trans HU2.out.size h4) (Nat.le_trans HU2.out.size h5));clear h4 h5;have HU3:=tR HU2 hb;have QB3:=hid (QB2.out.kp hb);have QL3:=hid (QL2.out.kp hb);have QN3:=hid (QN2.out.kp hb);have QT3:=hid (QT2.out.kp hb);have QJ3:=hid h1;have QK3:=hid h2;clear hb h1 h2;refine kK hK (HS.out _ HU3.out) fun hHeld=>?_;try simp only[Act.put,fr]
       refine rd1 8 rfl fun K hK=>?_;go_simp;refine aL ?_;intro w4 hb hnew;have HPmp:=hid (show w.heap.size≤w3.heap.size from HU3.out.size);have HU4:=tR HU3 hb;have QB4:=hid (QB3.out.kp hb);have QL4:=hid (QL3.out.kp hb);have QN4:=hid (QN3.out.kp hb);have QT4:=hid (QT3.out.kp hb);have QJ4:=hid (QJ3.out.kp hb);have QK4:=hid (QK3.out.kp hb);have QM4:=hid hnew;clear hb hnew;refine kK hK (HS.out _ HU4.out) fun hHeld=>?_;try simp only[Act.put,fr]
       refine u2 9 (.agg (agc (Ag.mk i n num (.slice (some ⟨kb,0,none⟩) 3 kc) g cp 100 ga ka 100 0 B c0 c1 T J JT (w3.heap.size) nS [] [] nS))) rfl (Or.inl ⟨by rfl,?_⟩) ?_
       · intro w' hSw;go_split_ands;exact run_exec_build 125 _ (by rfl) (agc (Ag.mk i n num (.slice (some ⟨kb,0,none⟩) 3 kc) g cp 100 ga ka 100 0 B c0 c1 T J JT (w3.heap.size) nS [] [] nS)) (by kernel_rfl)
       try simp only[Act.put,fr]
       refine rd1 10 rfl fun K hK=>?_;go_simp;refine aL ?_;intro w5 hb hnew;have HPap:=hid (show w.heap.size≤w4.heap.size from HU4.out.size);have HU5:=tR HU4 hb;have QB5:=hid (QB4.out.kp hb);have QL5:=hid (QL4.out.kp hb);have QN5:=hid (QN4.out.kp hb);have QT5:=hid (QT4.out.kp hb);have QJ5:=hid (QJ4.out.kp hb);have QK5:=hid (QK4.out.kp hb);have QM5:=hid (QM4.out.kp hb);have A5:=hid hnew;clear hb hnew;refine kK hK (HS.out _ HU5.out) fun hHeld=>?_;try simp only[Act.put,fr]
       refine t2 11 ?_;refine t2 12 ?_;refine wpAnyT_done (by kernel_rfl) ?_ _;refine NoPanic.normal ?_;refine HQ.out _ _ _ _ _ _ _ _ _ _ _ B c0 c1 T J JT (w3.heap.size) (w4.heap.size) _ HU5.out QB5.out QL5.out QN5.out QT5.out QJ5.out QK5.out QM5.out A5.out HPB.out.2.2.2 ?_;have h1:=HPB.out;have h2:=HPT.out;have h3:=HPJ.out;have h4:=HPmp.out;have h5:=HPap.out;intro k hk;simp only[List.mem_cons,List.not_mem_nil,or_false]at hk;rcases hk with rfl|rfl|rfl|rfl|rfl|rfl|rfl|rfl
       · exact⟨h5,A5.out.lt⟩
       · exact⟨h1.1,QB5.out.lt⟩
       · exact⟨h1.2.1,QL5.out.lt⟩
       · exact⟨h1.2.2.1,QN5.out.lt⟩
       · exact⟨h2,QT5.out.lt⟩
       · exact⟨h3.1,QJ5.out.lt⟩
       · exact⟨h3.2,QK5.out.lt⟩
       · exact⟨h4,QM5.out.lt⟩
     refine AllReadyT.cons (o:=_) rfl (fun K hK=>?_) (by kernel_rfl) AllReadyT.nil;go_simp;refine aL ?_;intro w3 hb hnew;have HPmp:=hid (show w.heap.size≤w2.heap.size from HU2.out.size);have HU3:=tR HU2 hb;have QB3:=hid (QB2.out.kp hb);have QL3:=hid (QL2.out.kp hb);have QN3:=hid (QN2.out.kp hb);have QT3:=hid (QT2.out.kp hb);have QM3:=hid hnew;clear hb hnew;refine kK hK (HS.out _ HU3.out) fun hHeld=>?_;try simp only[Act.put,fr]
     refine rd1 7 rfl fun K hK=>?_;go_simp;(with_reducible refine(jnew (w3)).mono ?_);rintro e_ w4 ⟨J,JT,rfl,h1,h2,hb,h4,h5⟩;have HPJ:=hid (And.intro (Nat.le_trans HU3.out.size h4) (Nat.le_trans HU3.out.size h5));clear h4 h5;have HU4:=tR HU3 hb;have QB4:=hid (QB3.out.kp hb);have QL4:=hid (QL3.out.kp hb);have QN4:=hid (QN3.out.kp hb);have QT4:=hid (QT3.out.kp hb);have QM4:=hid (QM3.out.kp hb);have QJ4:=hid h1;have QK4:=hid h2;clear hb h1 h2;refine kK hK (HS.out _ HU4.out) fun hHeld=>?_;try simp only[Act.put,fr]
     refine u2 9 (.agg (agc (Ag.mk i n num (.slice (some ⟨kb,0,none⟩) 3 kc) g cp 100 ga ka 100 0 B c0 c1 T J JT (w2.heap.size) nS [] [] nS))) rfl (Or.inl ⟨by rfl,?_⟩) ?_
     · intro w' hSw;go_split_ands;exact run_exec_build 125 _ (by rfl) (agc (Ag.mk i n num (.slice (some ⟨kb,0,none⟩) 3 kc) g cp 100 ga ka 100 0 B c0 c1 T J JT (w2.heap.size) nS [] [] nS)) (by kernel_rfl)
     try simp only[Act.put,fr]
     refine rd1 10 rfl fun K hK=>?_;go_simp;refine aL ?_;intro w5 hb hnew;have HPap:=hid (show w.heap.size≤w4.heap.size from HU4.out.size);have HU5:=tR HU4 hb;have QB5:=hid (QB4.out.kp hb);have QL5:=hid (QL4.out.kp hb);have QN5:=hid (QN4.out.kp hb);have QT5:=hid (QT4.out.kp hb);have QM5:=hid (QM4.out.kp hb);have QJ5:=hid (QJ4.out.kp hb);have QK5:=hid (QK4.out.kp hb);have A5:=hid hnew;clear hb hnew;refine kK hK (HS.out _ HU5.out) fun hHeld=>?_;try simp only[Act.put,fr]
     refine t2 11 ?_;refine t2 12 ?_;refine wpAnyT_done (by kernel_rfl) ?_ _;refine NoPanic.normal ?_;refine HQ.out _ _ _ _ _ _ _ _ _ _ _ B c0 c1 T J JT (w2.heap.size) (w4.heap.size) _ HU5.out QB5.out QL5.out QN5.out QT5.out QJ5.out QK5.out QM5.out A5.out HPB.out.2.2.2 ?_;have h1:=HPB.out;have h2:=HPT.out;have h3:=HPJ.out;have h4:=HPmp.out;have h5:=HPap.out;intro k hk;simp only[List.mem_cons,List.not_mem_nil,or_false]at hk;rcases hk with rfl|rfl|rfl|rfl|rfl|rfl|rfl|rfl
     · exact⟨h5,A5.out.lt⟩
     · exact⟨h1.1,QB5.out.lt⟩
     · exact⟨h1.2.1,QL5.out.lt⟩
     · exact⟨h1.2.2.1,QN5.out.lt⟩
     · exact⟨h2,QT5.out.lt⟩
     · exact⟨h3.1,QJ5.out.lt⟩
     · exact⟨h3.2,QK5.out.lt⟩
     · exact⟨h4,QM5.out.lt⟩
   refine AllReadyT.cons (o:=_) rfl (fun K hK=>?_) (by kernel_rfl) AllReadyT.nil;go_simp;refine aL ?_;intro w2 hb hnew;have HPmp:=hid (show w.heap.size≤w1.heap.size from HU1.out.size);have HU2:=tR HU1 hb;have QB2:=hid (QB1.out.kp hb);have QL2:=hid (QL1.out.kp hb);have QN2:=hid (QN1.out.kp hb);have QM2:=hid hnew;clear hb hnew;refine kK hK (HS.out _ HU2.out) fun hHeld=>?_;try simp only[Act.put,fr]
   refine rd1 6 rfl fun K hK=>?_;go_simp;(with_reducible refine(tnew (w2)).mono ?_);rintro e_ w3 ⟨T,rfl,h1,hb,h4⟩;have HPT:=hid (Nat.le_trans HU2.out.size h4);clear h4;have HU3:=tR HU2 hb;have QB3:=hid (QB2.out.kp hb);have QL3:=hid (QL2.out.kp hb);have QN3:=hid (QN2.out.kp hb);have QM3:=hid (QM2.out.kp hb);have QT3:=hid h1;clear hb h1;refine kK hK (HS.out _ HU3.out) fun hHeld=>?_;try simp only[Act.put,fr]
   refine rd1 7 rfl fun K hK=>?_;go_simp;(with_reducible refine(jnew (w3)).mono ?_);rintro e_ w4 ⟨J,JT,rfl,h1,h2,hb,h4,h5⟩;have HPJ:=hid (And.intro (Nat.le_trans HU3.out.size h4) (Nat.le_trans HU3.out.size h5));clear h4 h5;have HU4:=tR HU3 hb;have QB4:=hid (QB3.out.kp hb);have QL4:=hid (QL3.out.kp hb);have QN4:=hid (QN3.out.kp hb);have QM4:=hid (QM3.out.kp hb);have QT4:=hid (QT3.out.kp hb);have QJ4:=hid h1;have QK4:=hid h2;clear hb h1 h2;refine kK hK (HS.out _ HU4.out) fun hHeld=>?_;try simp only[Act.put,fr]
   refine u2 9 (.agg (agc (Ag.mk i n num (.slice (some ⟨kb,0,none⟩) 3 kc) g cp 100 ga ka 100 0 B c0 c1 T J JT (w1.heap.size) nS [] [] nS))) rfl (Or.inl ⟨by rfl,?_⟩) ?_
   · intro w' hSw;go_split_ands;exact run_exec_build 125 _ (by rfl) (agc (Ag.mk i n num (.slice (some ⟨kb,0,none⟩) 3 kc) g cp 100 ga ka 100 0 B c0 c1 T J JT (w1.heap.size) nS [] [] nS)) (by kernel_rfl)
   try simp only[Act.put,fr]
   refine rd1 10 rfl fun K hK=>?_;go_simp;refine aL ?_;intro w5 hb hnew;have HPap:=hid (show w.heap.size≤w4.heap.size from HU4.out.size);have HU5:=tR HU4 hb;have QB5:=hid (QB4.out.kp hb);have QL5:=hid (QL4.out.kp hb);have QN5:=hid (QN4.out.kp hb);have QM5:=hid (QM4.out.kp hb);have QT5:=hid (QT4.out.kp hb);have QJ5:=hid (QJ4.out.kp hb);have QK5:=hid (QK4.out.kp hb);have A5:=hid hnew;clear hb hnew;refine kK hK (HS.out _ HU5.out) fun hHeld=>?_;try simp only[Act.put,fr]
   refine t2 11 ?_;refine t2 12 ?_;refine wpAnyT_done (by kernel_rfl) ?_ _;refine NoPanic.normal ?_;refine HQ.out _ _ _ _ _ _ _ _ _ _ _ B c0 c1 T J JT (w1.heap.size) (w4.heap.size) _ HU5.out QB5.out QL5.out QN5.out QT5.out QJ5.out QK5.out QM5.out A5.out HPB.out.2.2.2 ?_;have h1:=HPB.out;have h2:=HPT.out;have h3:=HPJ.out;have h4:=HPmp.out;have h5:=HPap.out;intro k hk;simp only[List.mem_cons,List.not_mem_nil,or_false]at hk;rcases hk with rfl|rfl|rfl|rfl|rfl|rfl|rfl|rfl
   · exact⟨h5,A5.out.lt⟩
   · exact⟨h1.1,QB5.out.lt⟩
   · exact⟨h1.2.1,QL5.out.lt⟩
   · exact⟨h1.2.2.1,QN5.out.lt⟩
   · exact⟨h2,QT5.out.lt⟩
   · exact⟨h3.1,QJ5.out.lt⟩
   · exact⟨h3.2,QK5.out.lt⟩
   · exact⟨h4,QM5.out.lt⟩
 refine AllReadyT.cons (o:=_) rfl (fun K hK=>?_) (by kernel_rfl) AllReadyT.nil;go_simp;refine aD ?_;intro w1 hb hnew;have HPmp:=hid (show w.heap.size≤w.heap.size from HU0.out.size);have HU1:=tR HU0 hb;have QM1:=hid hnew;clear hb hnew;refine kK hK (HS.out _ HU1.out) fun hHeld=>?_;try simp only[Act.put,fr]
 refine rd1 5 rfl fun K hK=>?_;go_simp;(with_reducible refine(wnew (w1)).mono ?_);rintro e_ w2 ⟨B,c0,c1,rfl,h1,h2,h3,hb,h4,h5,h6,h7⟩;have HPB:=hid (And.intro (Nat.le_trans HU1.out.size h4) (And.intro (Nat.le_trans HU1.out.size h5) (And.intro (Nat.le_trans HU1.out.size h6) h7)));clear h4 h5 h6 h7;have HU2:=tR HU1 hb;have QM2:=hid (QM1.out.kp hb);have QB2:=hid h1;have QL2:=hid h2;have QN2:=hid h3;clear hb h1 h2 h3;refine kK hK (HS.out _ HU2.out) fun hHeld=>?_;try simp only[Act.put,fr]
 refine rd1 6 rfl fun K hK=>?_;go_simp;(with_reducible refine(tnew (w2)).mono ?_);rintro e_ w3 ⟨T,rfl,h1,hb,h4⟩;have HPT:=hid (Nat.le_trans HU2.out.size h4);clear h4;have HU3:=tR HU2 hb;have QM3:=hid (QM2.out.kp hb);have QB3:=hid (QB2.out.kp hb);have QL3:=hid (QL2.out.kp hb);have QN3:=hid (QN2.out.kp hb);have QT3:=hid h1;clear hb h1;refine kK hK (HS.out _ HU3.out) fun hHeld=>?_;try simp only[Act.put,fr]
 refine rd1 7 rfl fun K hK=>?_;go_simp;(with_reducible refine(jnew (w3)).mono ?_);rintro e_ w4 ⟨J,JT,rfl,h1,h2,hb,h4,h5⟩;have HPJ:=hid (And.intro (Nat.le_trans HU3.out.size h4) (Nat.le_trans HU3.out.size h5));clear h4 h5;have HU4:=tR HU3 hb;have QM4:=hid (QM3.out.kp hb);have QB4:=hid (QB3.out.kp hb);have QL4:=hid (QL3.out.kp hb);have QN4:=hid (QN3.out.kp hb);have QT4:=hid (QT3.out.kp hb);have QJ4:=hid h1;have QK4:=hid h2;clear hb h1 h2;refine kK hK (HS.out _ HU4.out) fun hHeld=>?_;try simp only[Act.put,fr]
 refine u2 9 (.agg (agc (Ag.mk i n num (.slice (some ⟨kb,0,none⟩) 3 kc) g cp 100 ga ka 100 0 B c0 c1 T J JT (w.heap.size) nS [] [] nS))) rfl (Or.inl ⟨by rfl,?_⟩) ?_
 · intro w' hSw;go_split_ands;exact run_exec_build 125 _ (by rfl) (agc (Ag.mk i n num (.slice (some ⟨kb,0,none⟩) 3 kc) g cp 100 ga ka 100 0 B c0 c1 T J JT (w.heap.size) nS [] [] nS)) (by kernel_rfl)
 try simp only[Act.put,fr]
 refine rd1 10 rfl fun K hK=>?_;go_simp;refine aL ?_;intro w5 hb hnew;have HPap:=hid (show w.heap.size≤w4.heap.size from HU4.out.size);have HU5:=tR HU4 hb;have QM5:=hid (QM4.out.kp hb);have QB5:=hid (QB4.out.kp hb);have QL5:=hid (QL4.out.kp hb);have QN5:=hid (QN4.out.kp hb);have QT5:=hid (QT4.out.kp hb);have QJ5:=hid (QJ4.out.kp hb);have QK5:=hid (QK4.out.kp hb);have A5:=hid hnew;clear hb hnew;refine kK hK (HS.out _ HU5.out) fun hHeld=>?_;try simp only[Act.put,fr]
 refine t2 11 ?_;refine t2 12 ?_;refine wpAnyT_done (by kernel_rfl) ?_ _;refine NoPanic.normal ?_;refine HQ.out _ _ _ _ _ _ _ _ _ _ _ B c0 c1 T J JT (w.heap.size) (w4.heap.size) _ HU5.out QB5.out QL5.out QN5.out QT5.out QJ5.out QK5.out QM5.out A5.out HPB.out.2.2.2 ?_;have h1:=HPB.out;have h2:=HPT.out;have h3:=HPJ.out;have h4:=HPmp.out;have h5:=HPap.out;intro k hk;simp only[List.mem_cons,List.not_mem_nil,or_false]at hk;rcases hk with rfl|rfl|rfl|rfl|rfl|rfl|rfl|rfl
 · exact⟨h5,A5.out.lt⟩
 · exact⟨h1.1,QB5.out.lt⟩
 · exact⟨h1.2.1,QL5.out.lt⟩
 · exact⟨h1.2.2.1,QN5.out.lt⟩
 · exact⟨h2,QT5.out.lt⟩
 · exact⟨h3.1,QJ5.out.lt⟩
 · exact⟨h3.2,QK5.out.lt⟩
 · exact⟨h4,QM5.out.lt⟩
theorem anew_any (i n num kb kc ro rc:Nat)(cur:Array Value)(ga:Option Addr)(w:World)(hin:i<n)(hn4:n≤4)(hnum:num≤100)(hK:At w kb (.cells ky6 186))(hkc:3≤kc)(hr1:At w ro (.cells cur 103))(hr2:cur.toList.take ((rts i n).length*9)=(rts i n).flatMap fun r=>(rtc r).toList)(hrc:(rts i n).length≤rc):
 Calls Tryz.prog 45 #[.pointer ga,.agg (cfc i num kb kc ro (rts i n).length rc 100)] w fun e w'=>∃A a,e= .returned (.tuple #[.pointer (some ⟨A,0,none⟩),.int .i64 0])∧AgOk w.heap.size w'.heap.size w' A a∧a.i=i∧a.n=n∧a.now=100∧a.seq=0∧a.giv=nS∧a.l0=[]∧a.l1=[]∧a.seen=nS∧Below w.heap.size w w':=by
 have hln:(rts i n).length≤8:=by
  rw[rts,List.length_append];have:=List.length_filterMap_le (fun j=>if j=i then none else some (2,j,if j<i then i-1 else i+1)) (List.range n);rw[List.length_range]at this;simp only[List.length_cons,List.length_nil];omega
 have HI:=hid (And.intro hin (And.intro hn4 (And.intro hnum (And.intro hkc (And.intro hrc hln)))));have HR:=hid (And.intro hr1 hr2);have HK:=hid hK;have HOK:=hid (rts_ok i n ⟨hin,by omega⟩);clear hin hn4 hnum hkc hrc hln hr1 hr2 hK;obtain⟨w1,HE,U0,C'⟩:=mH1 w (cfc i num kb kc ro (rts i n).length rc 100) 72;go_enter Tryz.func45,Tryz.ntmps45;go_upto_region 1 with(fail);rw[←HE.out];clear HE;have HSW:=hid (show w.heap.size<w1.heap.size from(C'.out).lt);go_wp2_with (refine lQ 72 3 C'.out ?_);refine(aright_any i num kb kc ro rc (rts i n) cur w1 (by have:=HI.out;omega) HI.out.2.2.1 (HK.out.kp U0.out) HI.out.2.2.2.1 (HR.out.1.kp U0.out) HR.out.2 HOK.out HI.out.2.2.2.2.1 HI.out.2.2.2.2.2).mono ?_;rintro e w_1 ⟨rfl,hb⟩;replace C':=hid (C'.out.kp hb);have U':=tR U0 hb;clear U0;clear hb;have c4:=cfc_cell C'.out 4 (.int .u64 num) rfl;have c5:=cfc_cell C'.out 5 (.slice (some ⟨kb,0,none⟩) 3 kc) rfl;go_wp2_with fail;refine(knew_any num kb kc w_1 (by have:=HI.out.2.2.1;omega) HI.out.2.2.2.1 (HK.out.kp U'.out)).mono ?_;rintro e w_4 ⟨ka,rfl,hb⟩;replace C':=hid (C'.out.kp hb);replace U':=tR U' hb;clear hb c4 c5;have HG0:=hid U'.out.size;go_upto_region 4 with(fail);refine ent (C:=rg Tryz.f45 4) (by kernel_rfl) ?_;refine anew_r4 (w.heap.size) i num kb kc ro rc (rts i n) cur _ _ C'.out (HR.out.1.kp U'.out) HR.out.2 (by have:=HI.out.2.2.2.2.2;omega) ?_;intro y19 y20 y21 y22 y23 y24 y25 y26 g cp cur2 w9 hu hC hg hg1 hg2 hg3;replace U':=hid (U'.out.trans (hu.below U'.out.size (fun k e=>by have e:k=_:=e;exact e▸Nat.le_refl _)));replace C':=hid (hC);have G':=hid (hg);have HG:=hid (And.intro hg1 (And.intro hg2 hg3));clear hu hC hg hg1 hg2 hg3;go_upto_region 5 with(fail);refine ent (C:=rg Tryz.f45 5) (by kernel_rfl) ?_;refine anew_r5 (w.heap.size) i n num kb kc g cp ga ka _ _ C'.out ?_;intro y27 y28 y29 y30 y31 y32 y33 y34 y35 y36 y37 B c0 c1 T J JT M A w6 hb hB hL0 hL1 hT hJ hJT hM hA hne hin;have HWW:=hid (U'.out).size;replace C':=hid (C'.out.kp hb);replace G':=hid (G'.out.kp hb);replace U':=tR U' hb;go_wp2_with fail;go_ret2;refine⟨A,_,rfl,⟨hA,hB,hL0,hL1,hT,hJ,hJT,hM,⟨cur2,G'.out,HG.out.1⟩,HG.out.2.1,hne,⟨HI.out.1,by have:=HI.out.2.1;show n≤8;omega⟩,by show 100≤1099511627776;decide,?_⟩,rfl,rfl,rfl,rfl,rfl,rfl,rfl,rfl,U'.out⟩;intro k hk;have hk:k∈[A,B,c0,c1,T,J,JT,M,g]:=hk;have h1:=HWW.out;have h2:=HG.out.2.2;have h3:=HG0.out;have h4:=(G'.out).lt;simp only[List.mem_cons,List.not_mem_nil,or_false]at hk hin;have h5:=hb.size;rcases hk with rfl|rfl|rfl|rfl|rfl|rfl|rfl|rfl|rfl
 · have:=hin _ (.inl rfl);omega
 · have:=hin _ (.inr (.inl rfl));omega
 · have:=hin _ (.inr (.inr (.inl rfl)));omega
 · have:=hin _ (.inr (.inr (.inr (.inl rfl))));omega
 · have:=hin _ (.inr (.inr (.inr (.inr (.inl rfl)))));omega
 · have:=hin _ (.inr (.inr (.inr (.inr (.inr (.inl rfl))))));omega
 · have:=hin _ (.inr (.inr (.inr (.inr (.inr (.inr (.inl rfl)))))));omega
 · have:=hin _ (.inr (.inr (.inr (.inr (.inr (.inr (.inr rfl)))))));omega
 · omega
end
section
open Go.Conc Go.RowKit
theorem Node_any (i:Nat)(w:World)(hi:i≤100):
 Rv 32 #[.int .i64 i] w (.agg (ec (nd i))):=by
 have e1:IntKind.i64.wrap (1+(i:Int))=((i+1:Nat):Int):=by rw[IntKind.wrap_i64];omega
 have e2:IntKind.u64.wrap ((i+1:Nat):Int)=((i+1:Nat):Int):=by rw[IntKind.wrap_u64];omega
 have e3:(i:Int)+1=((i+1:Nat):Int):=by omega
 have e4:1+(i:Int)=((i+1:Nat):Int):=by omega
 have hi9:(i:Int)≤100:=by omega
 have hi8:((i+1:Nat):Int)≤101:=by omega
 generalize hm:((i+1:Nat):Int)=m at*;have HM:=hid hm;clear hm;have hz34:=zero34;obtain⟨w1,HE,U0,S'⟩:=mH1 w (ec eZ) 34;go_enter Tryz.func32,Tryz.ntmps32;go_upto_region 1 with(fail);rw[←HE.out];clear HE;go_wp2_with (refine sR 34 2 6 (w.heap.size) (#[.int .i64 2,.string ⟨#[]⟩,.int .u64 m,.int .u64 0]) S'.out (size34 rfl) (by simp[Value.oneCell']) ?_);have hu9:=upd_setRow w1 (w.heap.size) (#[.int .i64 2,.string ⟨#[]⟩,.int .u64 m,.int .u64 0]);have hb9:=hu9.below (U0.out).size (fun k e=>by rw[e];first|exact Nat.le_refl _|omega);exact bodyPost_ret (rQ ((S'.out).row _)) rfl ⟨by rw[←HM.out];rfl,(U0.out).trans (hb9.mono (Nat.le_refl _))⟩
theorem node_any (i:Nat)(w:World)(hi:i≤100):
 Rv 12 #[.int .i64 i] w (.agg (ec (nd i))):=by
 have HI:=hid hi;clear hi;generalize hz:ec (nd i)=z;have HZ:=hid hz;clear hz;have hz34:=zero34;obtain⟨w1,HE,U0,S'⟩:=mH1 w (ec eZ) 34;go_enter Tryz.func12,Tryz.ntmps12;go_upto_region 1 with(fail);rw[←HE.out];clear HE;go_wp2_with fail;refine(show Calls Tryz.prog 32 #[.int .i64 i] w1 (fun e w'=>e= .returned (.agg z)∧_)from by rw[←HZ.out];exact Node_any i w1 HI.out).mono ?_;rintro e w_1 ⟨rfl,hb⟩;replace S':=hid (S'.out.kp hb);have U':=tR U0 hb;clear U0;clear hb;go_wp2_with (refine wpList_store_row rfl 34 (.tmp 2) (.tmp 4) rfl (w.heap.size) (z) rfl rfl 34 _ S'.out (size34 (by rw[←HZ.out];rfl)) ((by rw[←HZ.out];rfl)) (by rw[←HZ.out];exact ec_one _) ?_);have hu9:=upd_setRow w_1 (w.heap.size) (z);have hb9:=hu9.below (U'.out).size (fun k e=>by rw[e];first|exact Nat.le_refl _|omega);exact bodyPost_ret (rC ((S'.out).row _) Tryz.underlying34 (size34 (by rw[←HZ.out];rfl))) rfl ⟨rfl,(U'.out).trans (hb9.mono (Nat.le_refl _))⟩
theorem Keys_any (w:World):
 Calls Tryz.prog 60 #[] w fun e w'=>∃kb,e= .returned (.slice (some ⟨kb,0,none⟩) 3 3)∧At w' kb (.cells ky6 186)∧Below w.heap.size w w'∧w.heap.size≤kb:=by
 have U0:=hid (Below.refl w.heap.size w);go_enter Tryz.func60,Tryz.ntmps60;go_wp2_with fail;go_ret;exact⟨w.heap.size,rfl,heap_new w _,(Below.refl w.heap.size w).alloc (Nat.le_refl _) _,Nat.le_refl _⟩
abbrev cfZ:Array Value:=#[.int .i64 0,.string (st []),.int .u64 0,.int .u64 0,.int .u64 0,nS,nS,nS,.int .i64 0,.int .u64 0]
theorem zero72 (w:World):(zeroValue 72).run Tryz.prog w= .ok (.agg cfZ) w:=by kernel_rfl
theorem rt1_built (x:Nat):Tryz.prog.built 103 [(1,.agg (ec (nd x)))]=some (rtc (0,0,x)):=by kernel_rfl
theorem cf_built (i kb r:Nat):Tryz.prog.built 72 [(0,.agg (ec (nd i))),(1,.int .u64 i),(2,.slice (some ⟨kb,0,none⟩) 3 3),(4,.slice (some ⟨r,0,none⟩) 1 1),(6,.int .u64 100)]=some (cfc i i kb 3 r 1 1 100):=by kernel_rfl
theorem bs103 (r:Nat×Nat×Nat):Tryz.prog.builtSlice 103 1 [(0,.agg (rtc r))]=some (rtc r):=by kernel_rfl
theorem Cfg_any (i:Nat)(w:World)(hi:i≤99):
 Calls Tryz.prog 42 #[.int .i64 i] w fun e w'=>∃kb r,e= .returned (.agg (cfc i i kb 3 r 1 1 100))∧Below w.heap.size w w'∧At w' kb (.cells ky6 186):=by
 have HI:=hid hi;have e2:IntKind.u64.wrap (i:Int)=(i:Int):=by rw[IntKind.wrap_u64];omega
 have e5:IntKind.i64.wrap ((i:Int)+1)=((i+1:Nat):Int):=by rw[IntKind.wrap_i64];omega
 have hi9:(i:Int)≤100:=by omega
 clear hi;generalize hz:ec (nd i)=z;have HZ:=hid hz;clear hz;have hz72:=zero72;obtain⟨w1,HE,U0,S'⟩:=mH1 w (cfZ) 72;go_enter Tryz.func42,Tryz.ntmps42;go_upto_region 1 with(fail);rw[←HE.out];clear HE;go_wp2_with fail;refine(show Calls Tryz.prog 32 #[.int .i64 i] w1 (fun e w'=>e= .returned (.agg z)∧_)from by rw[←HZ.out];exact Node_any i w1 (Nat.le_trans HI.out (by decide))).mono ?_;rintro e w_1 ⟨rfl,hb⟩;replace S':=hid (S'.out.kp hb);have U':=tR U0 hb;clear U0;clear hb;go_wp2_with fail;refine(Keys_any w_1).mono ?_;rintro e w_4 ⟨kb,rfl,hK,hb,hkb⟩;replace S':=hid (S'.out.kp hb);replace U':=tR U' hb;have K':=hid (hK);clear hb hK hkb;go_wp2_with fail;refine(show Calls Tryz.prog 32 #[.int .i64 ((i:Int)+1)] w_4 _ from Node_any (i+1) w_4 (by have:=HI.out;omega)).mono ?_;rintro e w_8 ⟨rfl,hb⟩;replace S':=hid (S'.out.kp hb);replace K':=hid (K'.out.kp hb);replace U':=tR U' hb;clear hb;generalize hy:rtc (0,0,i+1)=y;have HY:=hid hy;clear hy;have hby:Tryz.prog.built 103 [(1,.agg (ec (nd (i+1))))]=some y:=by rw[←HY.out];exact rt1_built (i+1)
 generalize ec (nd (i+1))=z2 at*;generalize hm:w_8.heap.size=m;have HM:=hid hm;have hcf:Tryz.prog.built 72 [(0,.agg z),(1,.int .u64 i),(2,.slice (some ⟨kb,0,none⟩) 3 3),(4,.slice (some ⟨m,0,none⟩) 1 1),(6,.int .u64 100)]=some (cfc i i kb 3 m 1 1 100):=by rw[←HZ.out];exact cf_built i kb m
 have hbs:Tryz.prog.builtSlice 103 1 [(0,.agg y)]=some y:=by rw[←HY.out];exact bs103 _
 have HBY:=hid hby;have HBS:=hid hbs;have HCF:=hid hcf;clear hby hbs hcf;have hb:=(Below.refl w_8.heap.size w_8).alloc (Nat.le_refl _) (.cells y 103);dsimp only;refine(‹∀(a':Act) (w':World),wpList Tryz.prog _ _ _ a' w'→_›) _ _ ?_;refine wpList_build_to (o:=⟨some 11,_,_,_,_,_⟩) rfl 103 _ rfl y (by rw[←HBY.out];kernel_rfl) ?_;refine Go.Great.wpList_buildSliceTo (o:=⟨some 12,_,_,_,_,_⟩) rfl 68 103 1 _ rfl m hm (some 12) rfl Tryz.underlying68 y (by rw[←HBS.out];kernel_rfl) ?_;refine wpList_build_to (o:=⟨some 13,_,_,_,_,_⟩) rfl 72 _ rfl (cfc i i kb 3 m 1 1 100) (by rw[←HCF.out];kernel_rfl) ?_;refine sR 72 2 13 (w.heap.size) (cfc i i kb 3 m 1 1 100) ((S'.out).kp hb) (size72 rfl) (cfc_one ..) ?_;generalize w_8.alloc (.cells y 103)=w8 at*;replace S':=hid (S'.out.kp hb);replace K':=hid (K'.out.kp hb);replace U':=tR U' hb;go_wp2_with fail;have hu9:=upd_setRow w8 (w.heap.size) (cfc i i kb 3 m 1 1 100);have hb9:=hu9.below (U'.out).size (fun k e=>by rw[e];exact Nat.le_refl _);have hKW:¬kb=w.heap.size:=(K'.out).cne (S'.out) (by decide);exact bodyPost_ret (rQ ((S'.out).row _)) rfl ⟨kb,m,rfl,(U'.out).trans hb9,(K'.out).upd hu9 hKW⟩
end
section
open Go.Conc Go.RowKit
section
variable {w:World} {base n size k b:Nat} {e t:TypeId} {v:Value} {xs:List Value} {cs:Array Value}
theorem own_at (h:w.ownsRow base e size v n xs)(hk:v.ownBlock=some k):∃cur,At w k (.cells cur e)∧base≤k:=by
 rcases h.2 with⟨rfl,-⟩|⟨g,cap,cur,rfl,hb,hg,-⟩
 · cases hk
 · injection hk with hk
   have hk:g=k:=hk;subst hk;exact⟨cur,hg,hb⟩
theorem own_ne (h:w.ownsRow base e size v n xs)(hb:At w b (.cells cs t))(ht:t≠e):v.ownBlock≠some b:=fun hk=>by
 obtain⟨cur,h1,-⟩:=own_at h hk;exact hb.cne h1 ht rfl
end
def cfl:Nat→List (Nat×Nat)→List Value
 |_,[]=>[]
 |j,x::l=>(cfc j j x.1 3 x.2 1 1 100).toList++cfl (j+1) l
theorem cfl_app:∀(j:Nat) (l:List (Nat×Nat)) (x:Nat×Nat),cfl j (l++[x])=cfl j l++(cfc (j+l.length) (j+l.length) x.1 3 x.2 1 1 100).toList
 |j,[],x=>by simp[cfl]
 |j,y::l,x=>by
  rw[List.cons_append,cfl,cfl,cfl_app (j+1) l x,List.length_cons,show j+1+l.length=j+(l.length+1) by omega,List.append_assoc]
theorem info72:(Tryz.prog.info? 72).map (fun i=>(i.zero,i.size,i.bytes))=some (some (.agg cfZ),10,136):=by kernel_rfl
theorem zero66 (w:World):(zeroValue 66).run Tryz.prog w= .ok (.agg #[.bool false,nS]) w:=by kernel_rfl
theorem size66 {cs:Array Value}(h:cs.size=2):(Tryz.prog.info? 66).map (·.size)=some cs.size:=by rw[h];kernel_rfl
theorem c66_cells {w:World}{b:Nat}{u v:Value}(h:At w b (.cells #[u,v] 66)):w.cell? ⟨b,0,none⟩=some u∧w.cell? ⟨b,1,none⟩=some v:=by
 refine⟨?_,?_⟩<;>(rw[cell_of_row _ _ _ _ 66 (0,0) h];rfl)
theorem Cfg28_any (n:Nat)(id:Bool)(w:World)(hn1:2≤n)(hn:n≤4):
 Calls Tryz.prog 20 #[.int .i64 n,.bool id,nS] w fun e_ w'=>∃(cs:List (Nat×Nat)) (g cp:Nat),e_= .returned (.agg #[.bool id,.slice (some ⟨g,0,none⟩) n cp])∧Below w.heap.size w w'∧cs.length=n∧w'.ownsRow w.heap.size 72 10 (.slice (some ⟨g,0,none⟩) n cp) n (cfl 0 cs)∧(∀x∈cs,At w' x.1 (.cells ky6 186)):=by
 have HN:=hid (And.intro hn1 hn);have hn4:(n:Int)≤4:=by omega
 have hn0:2≤(n:Int):=by omega
 clear hn hn1;have hz66:=zero66;have hz72:=zero72;obtain⟨w1,HE,U0,S_0⟩:=mH1 w (#[.bool false,nS]) 66;go_enter Tryz.func20,Tryz.ntmps20;go_upto_region 1 with(fail);rw[←HE.out];clear HE;go_upto_region 2 with fail;have HCB:=hid (show w.heap.size<w1.heap.size from(S_0.out).lt);obtain⟨w_1,he,hb,hk⟩:=mk1 w1 (#[.bool id,nS]) 66;rw[←he];clear he;have S_2:=hid (S_0.out.kp hb);have U_3:=tR U0 hb;clear S_0 U0;have C_4:=hid hk;clear hb hk;generalize hcb:w1.heap.size=CB at*;have HCW:=hid (C_4.out).lt;go_wp2_with fail;go_loopw [8] (fun i wr=>∃(j:Nat) (cs:List (Nat×Nat)) (v:Value),j≤n∧cs.length=j∧i= .int .i64 j∧At wr CB (.cells #[.bool id,v] 66)∧wr.ownsRow w.heap.size 72 10 v j (cfl 0 cs)∧(∀x∈cs,At wr x.1 (.cells ky6 186))∧At wr w.heap.size (.cells #[.bool false,nS] 66)∧Below w.heap.size w wr) (fun i _=>n-(intOf i).toNat);case atStart=>exact⟨0,[],nS,Nat.zero_le _,rfl,rfl,C_4.out,rowZ _ _ _ _,(fun x hx=>absurd hx (by simp)),S_2.out,U_3.out⟩
 case round=>
  obtain⟨j,cs,v,hj,hcl,rfl,hC,hown,hky,hS,hu⟩:=hrel;have U9:=hid hu;have C9:=hid hC;have S9:=hid hS;have HOW:=hid hown;have HKY:=hid (And.intro hcl hky);clear hu hC hS hown hky hcl;by_cases hjn:j<n
  · have HJ:=hid hjn;have hj0:(j:Int)<(n:Int):=by omega
    clear hj;go_wp2_with fail;refine(Cfg_any j wr (by have:=HJ.out;have:=HN.out.2;omega)).mono ?_;rintro e_ w_501 ⟨kb,r0,rfl,hb,hK⟩;have C_502:=hid (C9.out.kp hb);have S_503:=hid (S9.out.kp hb);have U_504:=tR U9 hb;clear C9 S9 U9;have K_505:=hid (hK);have HOB:=hid (row_keep HOW.out hb);have HKB:=hid (fun x hx=>(HKY.out.2 x hx).kp hb);clear hb hK;have UB:=hid (Below.refl w_501.heap.size w_501);go_upto_region 6 with(refine sV 72 9 18 (cfc j j kb 3 r0 1 1 100) (size72 rfl) (cfc_one ..) ?_;intro w_601 hb hk);have U_602:=tR UB hb;clear UB;have X_603:=hid hk;clear hb hk;by_cases hl:j+1=n
    · have e1:IntKind.i64.wrap ((n:Int)-1)=(j:Int):=by rw[IntKind.wrap_i64];omega
      have hj1:1≤j:=by have:=HN.out.1;omega
      have HL:=hid hl;clear hl;have e2:IntKind.i64.wrap ((j:Int)-1)=((j-1:Nat):Int):=by rw[IntKind.wrap_i64];omega
      have HJ1:=hid hj1;go_wp2_with fail;refine(show Calls Tryz.prog 32 #[.int .i64 ((j-1:Nat):Int)] w_601 _ from Node_any (j-1) w_601 (by have:=HJ.out;have:=HN.out.2;omega)).mono ?_;rintro e_ w_804 ⟨rfl,hb⟩;have X_805:=hid (X_603.out.kp hb);have U_806:=tR U_602 hb;clear X_603 U_602;clear hb;generalize hy:rtc (0,0,j-1)=y;have HY:=hid hy;clear hy;have HBY:=hid (show Tryz.prog.built 103 [(1,.agg (ec (nd (j-1))))]=some y by rw[←HY.out];exact rt1_built (j-1));have HBS:=hid (show Tryz.prog.builtSlice 103 1 [(0,.agg y)]=some y by rw[←HY.out];exact bs103 _);generalize ec (nd (j-1))=z2 at*;generalize hm:w_804.heap.size=ma;have HMA:=hid hm;have hb:=(Below.refl w_804.heap.size w_804).alloc (Nat.le_refl _) (.cells y 103);dsimp only;refine(‹∀(a':Act) (w':World),wpList Tryz.prog _ _ _ a' w'→_›) _ _ ?_;refine wpList_build_to (o:=⟨some 26,_,_,_,_,_⟩) rfl 103 _ rfl y (by rw[←HBY.out];kernel_rfl) ?_;refine Go.Great.wpList_buildSliceTo (o:=⟨some 27,_,_,_,_,_⟩) rfl 68 103 1 _ rfl ma hm (some 27) rfl Tryz.underlying68 y (by rw[←HBS.out];kernel_rfl) ?_;generalize w_804.alloc (.cells y 103)=w8a at*;have X_807:=hid (X_805.out.kp hb);have U_808:=tR U_806 hb;clear X_805 U_806;clear hb hm;have x7:=cfc_cell X_807.out 7 (.slice (some ⟨r0,0,none⟩) 1 1) rfl;have f7:=frozen_of_row w8a (w_501.heap.size) 7 _ 72 X_807.out;go_upto_region 8 with fail;clear x7 f7;have hu:=upd_setCell w8a ⟨w_501.heap.size,7,none⟩ (.slice (some ⟨ma,0,none⟩) 1 1);have he:At (w8a.setCell ⟨w_501.heap.size,7,none⟩ (.slice (some ⟨ma,0,none⟩) 1 1)) (w_501.heap.size) (.cells (cfc j j kb 3 ma 1 1 100) 72):=At.setc X_807.out 7 _;generalize World.setCell w8a ⟨w_501.heap.size,7,none⟩ (.slice (some ⟨ma,0,none⟩) 1 1)=w_809 at*;have X_810:=hid (he);have U_811:=hid (U_808.out.trans (hu.below U_808.out.size (fun k e=>by have e:k=w_501.heap.size:=e;omega)));clear hu he X_807 U_808;have hjneg:¬(j:Int)<0:=by omega
      go_upto_region 10 with fail;have HC1:=hid (C_502.out.kp U_811.out);obtain⟨c0,c1⟩:=c66_cells HC1.out;generalize hm:w_809.heap.size=m;have HM:=hid hm;have HNB:=hid (show At (w_809.alloc (.cells (cfc j j kb 3 ma 1 1 100) 72)) m (.cells (cfc j j kb 3 ma 1 1 100) 72)from by have:=heap_new w_809 (.cells (cfc j j kb 3 ma 1 1 100) 72);rw[HM.out]at this;exact this);obtain⟨i0,hi,hz0,hz1,hz2⟩:=info_parts info72;have HBA:=hid ((U_811.out).trans (((Below.refl w_809.heap.size w_809).alloc (Nat.le_refl _) (.cells (cfc j j kb 3 ma 1 1 100) 72)).mono (U_811.out).size));have HBP:=hid (show w.heap.size≤(w_809.alloc (.cells (cfc j j kb 3 ma 1 1 100) 72)).heap.size from Nat.le_trans (U_504.out).size HBA.out.size);have HOA:=hid (row_keep HOB.out HBA.out);have HCA:=hid (C_502.out.kp HBA.out);refine wp_region_list ?_;refine Go.Great.wpList_readTo rfl (some 38) rfl (.pointer (some ⟨CB,1,none⟩)) (by go_simp;try rfl) ?_;refine Go.Great.wpList_readTo rfl (some 39) rfl v (by go_simp;try rfl) ?_;refine lQ 72 9 X_810.out ?_;refine Go.Great.wpList_buildSliceTo (o:=⟨some 41,_,_,_,_,_⟩) rfl 64 72 1 _ rfl m hm (some 41) rfl Tryz.underlying64 (cfc j j kb 3 ma 1 1 100) (by kernel_rfl) ?_;refine wpList_append_lies _ rfl (.tmp 39) (.tmp 41) 64 rfl w.heap.size 72 i0 _ 10 136 Tryz.underlying64 hi hz0 hz1 hz2 rfl (by decide) v j (cfl 0 cs) rfl HOA.out ⟨m,0,none⟩ 1 1 (cfc j j kb 3 ma 1 1 100).toList rfl (by rfl) (World.news_of_block HNB.out) (all_one (cfc_one ..)) (by decide) (by have:=HJ.out;have h2:=HN.out.2;unfold maxLen;omega) (by have:=HJ.out;have h2:=HN.out.2;omega) HBP.out _ rfl ?_;intro g1 cp1 w8 hown hgrow hat hlt;have hup:=upd_grown hgrow;have HC8:=HCA.out.upd hup (fun h=>own_ne HOA.out HCA.out (by decide) h.symm);have c8:=(c66_cells HC8).2;have f8:=frozen_of_row w8 CB 1 _ 66 HC8;have HHH:=hid (And.intro hown (And.intro hup (And.intro hgrow (And.intro hat (And.intro hlt HC8)))));clear hown hup hgrow hat hlt HC8 hi hz0 hz1 hz2 hm c0 c1;go_wp2_with fail;obtain⟨hown,hup,hgrow,hat,hlt,HC8⟩:=HHH.out;go_roundw;case rel=>
       have hu2:=upd_setCell w8 ⟨CB,1,none⟩ (.slice (some ⟨g1,0,none⟩) (j+1) cp1);have hUa:=(U_504.out).trans (HBA.out.mono (U_504.out).size);have hUb:Below w.heap.size w w8:=hUa.trans (hup.below HBP.out fun k e=>by obtain⟨_,_,h⟩:=own_at HOA.out e.symm;exact h);refine⟨j+1,cs++[(kb,ma)],.slice (some ⟨g1,0,none⟩) (j+1) cp1,by have:=HJ.out;omega,by rw[List.length_append,HKY.out.1];rfl,by go_num,At.setc HC8 1 _,?_,?_,?_,?_⟩
       · rw[cfl_app,Nat.zero_add,HKY.out.1];exact row_upd hown hu2 fun k hk=>by
          have hk:some g1=some k:=hk;injection hk with hk
          subst hk;intro e;exact own_ne hown HC8 (by decide) (by rw[show CB=g1 from e.symm];rfl)
       · intro x hx;have q1:At w8 x.1 (.cells ky6 186):=by
          rcases List.mem_append.1 hx with h|h
          · have h1:=(HKB.out x h).kp HBA.out;exact h1.upd hup (fun h=>own_ne HOA.out h1 (by decide) h.symm)
          · rw[List.mem_singleton.1 h];have h1:=(K_505.out).kp HBA.out;exact h1.upd hup (fun h=>own_ne HOA.out h1 (by decide) h.symm)
         exact q1.upd hu2 (q1.cne HC8 (by decide))
       · have h1:=(S_503.out).kp HBA.out;have h2:=h1.upd hup (fun h=>own_ne HOA.out h1 (by decide) h.symm);exact h2.upd hu2 (show ¬w.heap.size=CB by have:=HCB.out;omega)
       · exact hUb.trans (hu2.below hUb.size fun k e=>by have e:k=CB:=e;have:=HCB.out;omega)
      case measure=>simp[intOf];have:=HJ.out;omega
    · have e1:IntKind.i64.wrap ((n:Int)-1)=((n-1:Nat):Int):=by rw[IntKind.wrap_i64];omega
      have hje:¬(j:Int)=((n-1:Nat):Int):=by omega
      have hjneg:¬(j:Int)<0:=by omega
      go_upto_region 10 with fail;have HC1:=hid (C_502.out.kp U_602.out);obtain⟨c0,c1⟩:=c66_cells HC1.out;generalize hm:w_601.heap.size=m;have HM:=hid hm;have HNB:=hid (show At (w_601.alloc (.cells (cfc j j kb 3 r0 1 1 100) 72)) m (.cells (cfc j j kb 3 r0 1 1 100) 72)from by have:=heap_new w_601 (.cells (cfc j j kb 3 r0 1 1 100) 72);rw[HM.out]at this;exact this);obtain⟨i0,hi,hz0,hz1,hz2⟩:=info_parts info72;have HBA:=hid ((U_602.out).trans (((Below.refl w_601.heap.size w_601).alloc (Nat.le_refl _) (.cells (cfc j j kb 3 r0 1 1 100) 72)).mono (U_602.out).size));have HBP:=hid (show w.heap.size≤(w_601.alloc (.cells (cfc j j kb 3 r0 1 1 100) 72)).heap.size from Nat.le_trans (U_504.out).size HBA.out.size);have HOA:=hid (row_keep HOB.out HBA.out);have HCA:=hid (C_502.out.kp HBA.out);refine wp_region_list ?_;refine Go.Great.wpList_readTo rfl (some 38) rfl (.pointer (some ⟨CB,1,none⟩)) (by go_simp;try rfl) ?_;refine Go.Great.wpList_readTo rfl (some 39) rfl v (by go_simp;try rfl) ?_;refine lQ 72 9 X_603.out ?_;refine Go.Great.wpList_buildSliceTo (o:=⟨some 41,_,_,_,_,_⟩) rfl 64 72 1 _ rfl m hm (some 41) rfl Tryz.underlying64 (cfc j j kb 3 r0 1 1 100) (by kernel_rfl) ?_;refine wpList_append_lies _ rfl (.tmp 39) (.tmp 41) 64 rfl w.heap.size 72 i0 _ 10 136 Tryz.underlying64 hi hz0 hz1 hz2 rfl (by decide) v j (cfl 0 cs) rfl HOA.out ⟨m,0,none⟩ 1 1 (cfc j j kb 3 r0 1 1 100).toList rfl (by rfl) (World.news_of_block HNB.out) (all_one (cfc_one ..)) (by decide) (by have:=HJ.out;have h2:=HN.out.2;unfold maxLen;omega) (by have:=HJ.out;have h2:=HN.out.2;omega) HBP.out _ rfl ?_;intro g1 cp1 w8 hown hgrow hat hlt;have hup:=upd_grown hgrow;have HC8:=HCA.out.upd hup (fun h=>own_ne HOA.out HCA.out (by decide) h.symm);have c8:=(c66_cells HC8).2;have f8:=frozen_of_row w8 CB 1 _ 66 HC8;have HHH:=hid (And.intro hown (And.intro hup (And.intro hgrow (And.intro hat (And.intro hlt HC8)))));clear hown hup hgrow hat hlt HC8 hi hz0 hz1 hz2 hm c0 c1;go_wp2_with fail;obtain⟨hown,hup,hgrow,hat,hlt,HC8⟩:=HHH.out;go_roundw;case rel=>
       have hu2:=upd_setCell w8 ⟨CB,1,none⟩ (.slice (some ⟨g1,0,none⟩) (j+1) cp1);have hUa:=(U_504.out).trans (HBA.out.mono (U_504.out).size);have hUb:Below w.heap.size w w8:=hUa.trans (hup.below HBP.out fun k e=>by obtain⟨_,_,h⟩:=own_at HOA.out e.symm;exact h);refine⟨j+1,cs++[(kb,r0)],.slice (some ⟨g1,0,none⟩) (j+1) cp1,by have:=HJ.out;omega,by rw[List.length_append,HKY.out.1];rfl,by go_num,At.setc HC8 1 _,?_,?_,?_,?_⟩
       · rw[cfl_app,Nat.zero_add,HKY.out.1];exact row_upd hown hu2 fun k hk=>by
          have hk:some g1=some k:=hk;injection hk with hk
          subst hk;intro e;exact own_ne hown HC8 (by decide) (by rw[show CB=g1 from e.symm];rfl)
       · intro x hx;have q1:At w8 x.1 (.cells ky6 186):=by
          rcases List.mem_append.1 hx with h|h
          · have h1:=(HKB.out x h).kp HBA.out;exact h1.upd hup (fun h=>own_ne HOA.out h1 (by decide) h.symm)
          · rw[List.mem_singleton.1 h];have h1:=(K_505.out).kp HBA.out;exact h1.upd hup (fun h=>own_ne HOA.out h1 (by decide) h.symm)
         exact q1.upd hu2 (q1.cne HC8 (by decide))
       · have h1:=(S_503.out).kp HBA.out;have h2:=h1.upd hup (fun h=>own_ne HOA.out h1 (by decide) h.symm);exact h2.upd hu2 (show ¬w.heap.size=CB by have:=HCB.out;omega)
       · exact hUb.trans (hu2.below hUb.size fun k e=>by have e:k=CB:=e;have:=HCB.out;omega)
      case measure=>simp[intOf];have:=HJ.out;omega
  · obtain rfl:j=n:=by omega
    have hj9:¬(j:Int)<(j:Int):=by omega
    obtain⟨g,cp,hv⟩:∃g cp,v= .slice (some ⟨g,0,none⟩) j cp:=by
     rcases HOW.out.2 with⟨-,h⟩|⟨g,cap,cur,h,-⟩
     · exact absurd h (by have:=HN.out.1;omega)
     · exact⟨g,cap,h⟩
    subst hv;have hrow9:=row_upd HOW.out (upd_setRow wr w.heap.size #[.bool id,.slice (some ⟨g,0,none⟩) j cp]) (fun k hk e=>own_ne HOW.out (S9.out) (by decide) (by rw[hk,show k=_ from e]));have hky9:∀x∈cs,At (wr.setRow w.heap.size #[.bool id,.slice (some ⟨g,0,none⟩) j cp]) x.1 (.cells ky6 186):=fun x hx=>(HKY.out.2 x hx).upd (upd_setRow wr w.heap.size _) ((HKY.out.2 x hx).cne (S9.out) (by decide));go_wp2_with (first|refine sR 66 6 44 (w.heap.size) (#[.bool id,.slice (some ⟨g,0,none⟩) j cp]) S9.out (size66 rfl) (by simp[Value.oneCell']) ?_|refine wpList_load_row rfl 66 (.tmp 7) rfl (CB) rfl 66 (#[.bool id,.slice (some ⟨g,0,none⟩) j cp]) (0,0) _ C9.out Tryz.underlying66 rfl (size66 rfl) ?_);have hu9:=upd_setRow wr (w.heap.size) (#[.bool id,.slice (some ⟨g,0,none⟩) j cp]);have hb9:=hu9.below (U9.out).size (fun k e=>by rw[e];first|exact Nat.le_refl _|omega);exact bodyPost_ret (rQ ((S9.out).row _)) rfl ⟨cs,g,cp,rfl,(U9.out).trans (hb9.mono (Nat.le_refl _)),HKY.out.1,hrow9,by first|exact hky9|exact fun a b h=>hky9 (a,b) h⟩
end
end Go.Proofs.YtlhlmflacdeafaaGreatDoor
