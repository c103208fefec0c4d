/-
  A part of the walk of TopReports.
-/
import Derived.Test.YtlhlmflacdeafaaGreatDoorT30
set_option maxRecDepth 100000
set_option maxHeartbeats 4000000
set_option linter.unusedVariables false
set_option linter.unusedSimpArgs false
namespace Go.Proofs.YtlhlmflacdeafaaGreatDoor
section
open Go.Conc Go.RowKit
variable {x0 x2 x3 x4 x5 x6 x7 x8 x9 x10 x11 x12 x13 x14 x15 x16 x17 x18 x19 x20 x21 x22 x23 x24 x25 x26 x27 x28 x29 x30 x31 x32 x33 x34 x35 x36 x37 x38 x39 x40 x41 x42 x43 x44 x45 x46 x47 x48 x49 x50 x51:Value}
theorem one_0 (w:World):
 Rv 37 #[.agg (ic 0 0 [] nS false)] w (.bool false):=by
 obtain⟨c0,c1,c2,c3,c4⟩:=boxed w 0 0 [] nS false;have HU:=hid ((Below.refl w.heap.size w).alloc (Nat.le_refl _) (.cells (ic 0 0 [] nS false) 93));rw[show((0:Nat):Int)=0 from rfl]at c0;rw[show((0:Nat):Int)=0 from rfl]at c1;go_enter Tryz.func37,Tryz.ntmps37;go_upto_region 1 with(fail);generalize World.alloc w _=w1 at*;go_wp2_with fail;go_ret;exact⟨rfl,HU.out⟩
theorem rbit_0 (w:World):
 Rv 59 #[.bool false] w (.string (st [0])):=by
 go_enter Tryz.func59,Tryz.ntmps59;go_wp2_with fail;go_ret;exact⟨rfl,Below.refl _ _⟩
theorem one_1 (w:World):
 Rv 37 #[.agg (ic 0 1 [] nS false)] w (.bool true):=by
 obtain⟨c0,c1,c2,c3,c4⟩:=boxed w 0 1 [] nS false;have HU:=hid ((Below.refl w.heap.size w).alloc (Nat.le_refl _) (.cells (ic 0 1 [] nS false) 93));rw[show((0:Nat):Int)=0 from rfl]at c0;rw[show((1:Nat):Int)=1 from rfl]at c1;go_enter Tryz.func37,Tryz.ntmps37;go_upto_region 1 with(fail);generalize World.alloc w _=w1 at*;go_wp2_with fail;go_ret;exact⟨rfl,HU.out⟩
theorem rbit_1 (w:World):
 Rv 59 #[.bool true] w (.string (st [1])):=by
 go_enter Tryz.func59,Tryz.ntmps59;go_wp2_with fail;go_ret;exact⟨rfl,Below.refl _ _⟩
def nq:Nm:=⟨nd 0,100,0⟩
theorem nq_cells {w:World}{B:Nat}(h:At w B (.cells (repc nq) 53)):w.cell? ⟨B,0,none⟩=some (.bool false)∧w.cell? ⟨B,1,none⟩=some (.bool true)∧w.cell? ⟨B,2,none⟩=some (.int .i64 11)∧w.cell? ⟨B,7,none⟩=some (.int .u64 100)∧w.cell? ⟨B,8,none⟩=some (.int .u64 0)∧w.cell? ⟨B,9,none⟩=some (.bool false)∧w.cell? ⟨B,10,none⟩=some (.int .u64 0)∧w.cell? ⟨B,11,none⟩=some (.int .u64 0):=by
 refine⟨?_,?_,?_,?_,?_,?_,?_,?_⟩<;>(rw[cell_of_row _ _ _ _ 53 (0,0) h];rfl)
theorem nitem_nd (w:World):Calls Tryz.prog 57 #[.agg (ec (nd 0))] w fun e w'=>∃g2,e=Ending.returned (.agg (ic 4 0 [] (.slice (some ⟨g2,0,none⟩) 2 2) false))∧Below w.heap.size w w'∧IsI w' (ic 4 0 [] (.slice (some ⟨g2,0,none⟩) 2 2) false) (eitm (nd 0)):=nitem_ipn 1 0 w
theorem nq_src {w:World}{B:Nat}(h:At w B (.cells (repc nq) 53)):w.rangeAt B 3 (ec (nd 0)).toList:=repc_src h
theorem rright_nq (w:World):
 Rv 38 #[.agg (repc nq)] w (.bool true):=by
 obtain⟨w1,HE,U0,P'⟩:=mH1 w (repc nq) 53;go_enter Tryz.func38,Tryz.ntmps38;go_upto_region 1 with(fail);rw[←HE.out];clear HE;obtain⟨c0,c1,c2,c7,c8,c9,c10,c11⟩:=nq_cells P'.out;have r3:=nq_src P'.out;go_wp2_with (refine wpList_load_g (by rfl) 34 (.tmp 24) rfl (w.heap.size) 3 (by rfl) (ec (nd 0)) _ r3 Tryz.underlying34 rfl (size34 rfl) ?_);clear c0 c1 c2 c7 c8 c9 c10 c11 r3;refine(show Calls Tryz.prog 55 #[.agg (ec (nd 0))] w1 _ from nright_ipn 1 0 w1 (by decide) (by decide)).mono ?_;rintro e w_1 ⟨rfl,hb⟩;replace P':=hid (P'.out.kp hb);have U':=tR U0 hb;clear U0;clear hb;obtain⟨c0,c1,c2,c7,c8,c9,c10,c11⟩:=nq_cells P'.out;go_wp2_with fail;go_ret;exact⟨rfl,U'.out⟩
theorem rbytes_r5 (P:Nat)(w:World)(Q:QT)(hP:At w P (.cells (repc nq) 53))
 (hQ:∀(y18 y19 y20 y21 y22 y23 y24 y25 y26 y27 y28 y29 y30 y31 y32 y33 y34 y35 y36 y37:Value) (w6:World),Below w.heap.size w w6→Q .normal ⟨(x0::.pointer (some ⟨P,0,none⟩)::x2::.string (st ([130,1,132,130]:List UInt8))::x4::.string (st ((((([130,1,132,130]:List UInt8)++[0])++[1])++hd 0 11)++enc (eitm (nd 0))))::x6::x7::x8::x9::x10::x11::x12::x13::x14::x15::x16::x17::y18::y19::y20::y21::y22::y23::y24::y25::y26::y27::y28::y29::y30::y31::y32::y33::y34::y35::y36::y37::x38::x39::x40::x41::x42::x43::x44::x45::x46::x47::x48::x49::x50::x51::[]).toArray,[]⟩ w6):
 Code.wp Tryz.prog (rg Tryz.f39 5) Q ⟨(x0::.pointer (some ⟨P,0,none⟩)::x2::.string (st ([130,1,132,130]:List UInt8))::x4::x5::x6::x7::x8::x9::x10::x11::x12::x13::x14::x15::x16::x17::x18::x19::x20::x21::x22::x23::x24::x25::x26::x27::x28::x29::x30::x31::x32::x33::x34::x35::x36::x37::x38::x39::x40::x41::x42::x43::x44::x45::x46::x47::x48::x49::x50::x51::[]).toArray,[]⟩ w:=by
 have HQ:=hid hQ;clear hQ;conv=>arg 2;whnf
 refine reg (fun w'=>w'.cell? ⟨P,0,none⟩=some (.bool false)∧w'.cell? ⟨P,1,none⟩=some (.bool true)∧w'.cell? ⟨P,2,none⟩=some (.int .i64 11)∧w'.rangeAt P 3 (ec (nd 0)).toList) (fun _=>false) (fun w' hu=>⟨(nq_cells (hP.kp hu)).1,(nq_cells (hP.kp hu)).2.1,(nq_cells (hP.kp hu)).2.2.1,nq_src (hP.kp hu)⟩) fun HS HU0 hHeld=>?_;clear hP;refine t2 0 ?_;refine t2 1 ?_;refine t2 2 ?_;refine t2 5 ?_;refine t2 6 ?_;refine t2 9 ?_;refine t2 10 ?_;refine u2 11 (.int .u64 11) rfl (Or.inl ⟨by rfl,?_⟩) ?_
 · intro w' hSw;go_split_ands;go_simp;try rfl
 try simp only[Act.put,fr]
 refine t2 14 ?_;refine t2 15 ?_;refine u2 16 _ rfl (yQ 34 33 P (3) (ec (nd 0)) (fun w h=>h.2.2.2)) ?_;refine rd1 3 rfl fun K hK=>?_;go_simp;(with_reducible refine(rbit_0 w.drew).mono ?_);rintro e_ w1 ⟨rfl,hb⟩;have HU1:=tR HU0 hb;clear hb;refine kK hK (HS.out _ HU1.out) fun hHeld=>?_;try simp only[Act.put,fr]
 refine u2 4 (.string (st (([130,1,132,130]:List UInt8)++[0]))) rfl (Or.inl ⟨by rfl,?_⟩) ?_
 · intro w' hSw;go_split_ands;exact run_exec_binOp .add 9 _ _ _ (by rfl) _ _ _ (by rfl) (by rfl) (by rfl) (sadd (([130,1,132,130]:List UInt8)) ([0]) (by decide) _)
 try simp only[Act.put,fr]
 refine rd1 7 rfl fun K hK=>?_;go_simp;(with_reducible refine(rbit_1 w1).mono ?_);rintro e_ w2 ⟨rfl,hb⟩;have HU2:=tR HU1 hb;clear hb;refine kK hK (HS.out _ HU2.out) fun hHeld=>?_;try simp only[Act.put,fr]
 refine u2 8 (.string (st ((([130,1,132,130]:List UInt8)++[0])++[1]))) rfl (Or.inl ⟨by rfl,?_⟩) ?_
 · intro w' hSw;go_split_ands;exact run_exec_binOp .add 9 _ _ _ (by rfl) _ _ _ (by rfl) (by rfl) (by rfl) (sadd (([130,1,132,130]:List UInt8)++[0]) ([1]) (by decide) _)
 try simp only[Act.put,fr]
 refine rd1 12 rfl fun K hK=>?_;go_simp;(with_reducible refine(show Calls Tryz.prog 58 #[.int .i64 0,.int .u64 11] (w2) _ from rhd_small 0 11 (w2) (by decide) (by decide)).mono ?_);rintro e_ w3 ⟨rfl,hb⟩;have HU3:=tR HU2 hb;clear hb;refine kK hK (HS.out _ HU3.out) fun hHeld=>?_;try simp only[Act.put,fr]
 refine u2 13 (.string (st (((([130,1,132,130]:List UInt8)++[0])++[1])++hd 0 11))) rfl (Or.inl ⟨by rfl,?_⟩) ?_
 · intro w' hSw;go_split_ands;exact run_exec_binOp .add 9 _ _ _ (by rfl) _ _ _ (by rfl) (by rfl) (by rfl) (sadd ((([130,1,132,130]:List UInt8)++[0])++[1]) (hd 0 11) (by decide) _)
 try simp only[Act.put,fr]
 refine rd1 17 rfl fun K hK=>?_;go_simp;(with_reducible refine(nitem_nd w3).mono ?_);rintro e_ w4 ⟨g5,rfl,hb,hq⟩;have HQ5:=hid hq;clear hq;have HU4:=tR HU3 hb;clear hb;refine kK hK (HS.out _ HU4.out) fun hHeld=>?_;try simp only[Act.put,fr]
 refine rd1 18 rfl fun K hK=>?_;go_simp;(with_reducible refine(ibytes_any 3 (eitm (nd 0)) _ w4 HQ5.out (by simp[eitm,nd,Sm,Sms,Sn]) (by decide) (by decide)).mono ?_);rintro e_ w5 ⟨rfl,hb⟩;have HU5:=tR HU4 hb;clear hb;refine kK hK (HS.out _ HU5.out) fun hHeld=>?_;try simp only[Act.put,fr]
 refine u2 19 (.string (st ((((([130,1,132,130]:List UInt8)++[0])++[1])++hd 0 11)++enc (eitm (nd 0))))) rfl (Or.inl ⟨by rfl,?_⟩) ?_
 · intro w' hSw;go_split_ands;exact run_exec_binOp .add 9 _ _ _ (by rfl) _ _ _ (by rfl) (by rfl) (by rfl) (sadd (((([130,1,132,130]:List UInt8)++[0])++[1])++hd 0 11) (enc (eitm (nd 0))) (by decide) _)
 try simp only[Act.put,fr]
 refine t2 20 ?_;exact dN (HQ.out _ _ _ _ _ _ _ _ _ _ _ _ _ _ _ _ _ _ _ _ _ HU5.out)
theorem rbytes_r6 (P:Nat)(w:World)(Q:QT)(hP:At w P (.cells (repc nq) 53))
 (hQ:∀(y38 y39 y40 y41 y42 y43 y44 y45 y46 y47 y48 y49 y50 y51:Value) (w6:World),Below w.heap.size w w6→Q .normal ⟨(x0::.pointer (some ⟨P,0,none⟩)::.string (st ((((((((([130,1,132,130]:List UInt8)++[0])++[1])++hd 0 11)++enc (eitm (nd 0)))++[130])++hd 0 100)++hd 0 0)++[]))::x3::.string ⟨#[]⟩::.string (st ((((([130,1,132,130]:List UInt8)++[0])++[1])++hd 0 11)++enc (eitm (nd 0))))::x6::x7::x8::x9::x10::x11::x12::x13::x14::x15::x16::x17::x18::x19::x20::x21::x22::x23::x24::x25::x26::x27::x28::x29::x30::x31::x32::x33::x34::x35::x36::x37::y38::y39::y40::y41::y42::y43::y44::y45::y46::y47::y48::y49::y50::y51::[]).toArray,[]⟩ w6):
 Code.wp Tryz.prog (rg Tryz.f39 6) Q ⟨(x0::.pointer (some ⟨P,0,none⟩)::x2::x3::.string ⟨#[]⟩::.string (st ((((([130,1,132,130]:List UInt8)++[0])++[1])++hd 0 11)++enc (eitm (nd 0))))::x6::x7::x8::x9::x10::x11::x12::x13::x14::x15::x16::x17::x18::x19::x20::x21::x22::x23::x24::x25::x26::x27::x28::x29::x30::x31::x32::x33::x34::x35::x36::x37::x38::x39::x40::x41::x42::x43::x44::x45::x46::x47::x48::x49::x50::x51::[]).toArray,[]⟩ w:=by
 have HQ:=hid hQ;clear hQ;conv=>arg 2;whnf
 refine reg (fun w'=>w'.cell? ⟨P,7,none⟩=some (.int .u64 100)∧w'.cell? ⟨P,8,none⟩=some (.int .u64 0)) (fun _=>false) (fun w' hu=>⟨(nq_cells (hP.kp hu)).2.2.2.1,(nq_cells (hP.kp hu)).2.2.2.2.1⟩) fun HS HU0 hHeld=>?_;clear hP;refine t2 0 ?_;refine u2 1 (.string (st (((((([130,1,132,130]:List UInt8)++[0])++[1])++hd 0 11)++enc (eitm (nd 0)))++[130]))) rfl (Or.inl ⟨by rfl,?_⟩) ?_
 · intro w' hSw;go_split_ands;exact run_exec_binOp .add 9 _ _ _ (by rfl) _ _ _ (by rfl) (by rfl) (by rfl) (sadd ((((([130,1,132,130]:List UInt8)++[0])++[1])++hd 0 11)++enc (eitm (nd 0))) ([130]) (by decide) _)
 try simp only[Act.put,fr]
 refine t2 2 ?_;refine t2 3 ?_;refine t2 4 ?_;refine t2 7 ?_;refine t2 8 ?_;refine t2 9 ?_;refine t2 12 ?_;refine rd1 5 rfl fun K hK=>?_;go_simp;(with_reducible refine(rhd_100 w.drew).mono ?_);rintro e_ w1 ⟨rfl,hb⟩;have HU1:=tR HU0 hb;clear hb;refine kK hK (HS.out _ HU1.out) fun hHeld=>?_;try simp only[Act.put,fr]
 refine u2 6 (.string (st ((((((([130,1,132,130]:List UInt8)++[0])++[1])++hd 0 11)++enc (eitm (nd 0)))++[130])++hd 0 100))) rfl (Or.inl ⟨by rfl,?_⟩) ?_
 · intro w' hSw;go_split_ands;exact run_exec_binOp .add 9 _ _ _ (by rfl) _ _ _ (by rfl) (by rfl) (by rfl) (sadd (((((([130,1,132,130]:List UInt8)++[0])++[1])++hd 0 11)++enc (eitm (nd 0)))++[130]) (hd 0 100) (by decide) _)
 try simp only[Act.put,fr]
 refine rd1 10 rfl fun K hK=>?_;go_simp;(with_reducible refine(show Calls Tryz.prog 58 #[.int .i64 0,.int .u64 0] (w1) _ from rhd_small 0 0 (w1) (by decide) (by decide)).mono ?_);rintro e_ w2 ⟨rfl,hb⟩;have HU2:=tR HU1 hb;clear hb;refine kK hK (HS.out _ HU2.out) fun hHeld=>?_;try simp only[Act.put,fr]
 refine u2 11 (.string (st (((((((([130,1,132,130]:List UInt8)++[0])++[1])++hd 0 11)++enc (eitm (nd 0)))++[130])++hd 0 100)++hd 0 0))) rfl (Or.inl ⟨by rfl,?_⟩) ?_
 · intro w' hSw;go_split_ands;exact run_exec_binOp .add 9 _ _ _ (by rfl) _ _ _ (by rfl) (by rfl) (by rfl) (sadd ((((((([130,1,132,130]:List UInt8)++[0])++[1])++hd 0 11)++enc (eitm (nd 0)))++[130])++hd 0 100) (hd 0 0) (by decide) _)
 try simp only[Act.put,fr]
 refine u2 13 (.string (st ((((((((([130,1,132,130]:List UInt8)++[0])++[1])++hd 0 11)++enc (eitm (nd 0)))++[130])++hd 0 100)++hd 0 0)++[]))) rfl (Or.inl ⟨by rfl,?_⟩) ?_
 · intro w' hSw;go_split_ands;exact run_exec_binOp .add 9 _ _ _ (by rfl) _ _ _ (by rfl) (by rfl) (by rfl) (sadd (((((((([130,1,132,130]:List UInt8)++[0])++[1])++hd 0 11)++enc (eitm (nd 0)))++[130])++hd 0 100)++hd 0 0) ([]) (by decide) _)
 try simp only[Act.put,fr]
 refine t2 14 ?_;exact dN (HQ.out _ _ _ _ _ _ _ _ _ _ _ _ _ _ _ HU2.out)
theorem rbytes_nq (w:World):
 Rv 39 #[.agg (repc nq)] w (.string (st (enc (ritm nq)))):=by
 obtain⟨w1,HE,U0,P'⟩:=mH1 w (repc nq) 53;go_enter Tryz.func39,Tryz.ntmps39;go_upto_region 1 with(fail);rw[←HE.out];clear HE;obtain⟨c0,c1,c2,c7,c8,c9,c10,c11⟩:=nq_cells P'.out;go_upto_region 5 with fail;clear c0 c1 c2 c7 c8 c9 c10 c11;refine ent (C:=rg Tryz.f39 5) (by kernel_rfl) ?_;refine rbytes_r5 (w.heap.size) _ _ P'.out ?_;intro y18 y19 y20 y21 y22 y23 y24 y25 y26 y27 y28 y29 y30 y31 y32 y33 y34 y35 y36 y37 w6 hb;replace P':=hid (P'.out.kp hb);have U':=tR U0 hb;clear U0;clear hb;go_upto_region 6 with(fail);refine ent (C:=rg Tryz.f39 6) (by kernel_rfl) ?_;refine rbytes_r6 (w.heap.size) _ _ P'.out ?_;intro y38 y39 y40 y41 y42 y43 y44 y45 y46 y47 y48 y49 y50 y51 w7 hb;replace P':=hid (P'.out.kp hb);replace U':=tR U' hb;clear hb;go_wp2_with fail;go_ret;exact⟨by rw[show enc (ritm nq)=(((((((([130,1,132,130]:List UInt8)++[0])++[1])++hd 0 11)++enc (eitm (nd 0)))++[130])++hd 0 100)++hd 0 0)++[]from by decide];rfl,U'.out⟩
end
section
open Go.Conc Go.RowKit
structure Rit (M:Nat) (w:World) (b o c b2 o2 c2 b3 o3 c3 b4 o4 c4:Nat) (cs:Array Value):Prop where
 lt:b<M∧b2<M∧b3<M∧b4<M
 le:M≤w.heap.size
 cp:2≤c∧4≤c2∧2≤c3∧2≤c4
 r1:w.rangeAt b (o+5) (ic 4 0 [] (.slice (some ⟨b2,o2,none⟩) 4 c2) false).toList
 r2:w.rangeAt b2 o2 (ic 4 0 [] (.slice (some ⟨b3,o3,none⟩) 2 c3) false).toList
 r3:w.rangeAt b2 (o2+5) (ic 0 11 [] nS false).toList
 r4:w.rangeAt b2 (o2+10) cs.toList
 r5:w.rangeAt b2 (o2+15) (ic 4 0 [] (.slice (some ⟨b4,o4,none⟩) 2 c4) false).toList
 r6:w.rangeAt b3 o3 (ic 0 0 [] nS false).toList
 r7:w.rangeAt b3 (o3+5) (ic 0 1 [] nS false).toList
 r8:w.rangeAt b4 o4 (ic 0 100 [] nS false).toList
 r9:w.rangeAt b4 (o4+5) (ic 0 0 [] nS false).toList
section
variable {M b o c b2 o2 c2 b3 o3 c3 b4 o4 c4:Nat} {w w':World} {cs:Array Value} {S:Nat→Prop}
theorem Rit.upd (h:Rit M w b o c b2 o2 c2 b3 o3 c3 b4 o4 c4 cs)(hu:Upd S w w')(hn:∀k,S k→M≤k):Rit M w' b o c b2 o2 c2 b3 o3 c3 b4 o4 c4 cs:=by
 have q:∀{k x:Nat} {l:List Value},k<M→w.rangeAt k x l→w'.rangeAt k x l:=fun {k x l} hk hr=>range_of hr (hu.block k (Nat.lt_of_lt_of_le hk h.le) (fun hS=>by have:=hn k hS;omega));exact⟨h.lt,Nat.le_trans h.le hu.size,h.cp,q h.lt.1 h.r1,q h.lt.2.1 h.r2,q h.lt.2.1 h.r3,q h.lt.2.1 h.r4,q h.lt.2.1 h.r5,q h.lt.2.2.1 h.r6,q h.lt.2.2.1 h.r7,q h.lt.2.2.2 h.r8,q h.lt.2.2.2 h.r9⟩
theorem Rit.kp (h:Rit M w b o c b2 o2 c2 b3 o3 c3 b4 o4 c4 cs)(hb:Below w.heap.size w w'):Rit M w' b o c b2 o2 c2 b3 o3 c3 b4 o4 c4 cs:=h.upd (S:=fun _=>False) (upd_of_below hb) (fun _ h=>h.elim)
end
theorem ritm_inv {w:World}{cs:Array Value}(h:IsI w cs (ritm nq)):∃b o c b2 o2 c2 b3 o3 c3 b4 o4 c4 cs3,cs=ic 4 0 [] (.slice (some ⟨b,o,none⟩) 2 c) false∧Rit w.heap.size w b o c b2 o2 c2 b3 o3 c3 b4 o4 c4 cs3∧IsI w cs3 (eitm (nd 0)):=by
 rw[show ritm nq= .arr false [.num 1,.arr false [.arr false [.num 0,.num 1],.num 11,eitm (nd 0),.arr false [.num 100,.num 0]]]from rfl]at h;rw[IsI]at h;obtain⟨a,c,h1,h2,h3⟩:=h;obtain⟨b,o,rfl,h4⟩:=h3.resolve_left (by simp);simp only[IsL]at h4;obtain⟨-,⟨d2,_,s2,i2⟩,-⟩:=h4;rw[IsI]at i2;obtain⟨a2,c2,rfl,k2,k3⟩:=i2;obtain⟨b2,o2,rfl,h5⟩:=k3.resolve_left (by simp);simp only[IsL]at h5;obtain⟨⟨e1,_,s3,i3⟩,⟨e2,_,s4,i4⟩,⟨e3,_,s5,i5⟩,⟨e4,_,s6,i6⟩,-⟩:=h5;simp only[IsI]at i3 i4 i6;obtain⟨a3,c3,rfl,k4,k5⟩:=i3;obtain⟨b3,o3,rfl,h6⟩:=k5.resolve_left (by simp);obtain⟨a4,c4,rfl,k6,k7⟩:=i6;obtain⟨b4,o4,rfl,h7⟩:=k7.resolve_left (by simp);simp only[IsL,IsI]at h6 h7;obtain⟨⟨f1,_,t1,j1⟩,⟨f2,_,t2,j2⟩,-⟩:=h6;obtain⟨⟨f3,_,t3,j3⟩,⟨f4,_,t4,j4⟩,-⟩:=h7;subst j1 j2 j3 j4 i4;exact⟨b,o,c,b2,o2,c2,b3,o3,c3,b4,o4,c4,e3,h1,⟨⟨range_lt s2 (by simp[ic]),range_lt s3 (by simp[ic]),range_lt t1 (by simp[ic]),range_lt t3 (by simp[ic])⟩,Nat.le_refl _,⟨h2,k2,k4,k6⟩,s2,s3,s4,s5,s6,t1,t2,t3,t4⟩,i5⟩
theorem eitm0_sm:Sm (eitm (nd 0))∧deep (eitm (nd 0))≤3∧(enc (eitm (nd 0))).length≤900∧¬st (enc (eitm eNone))=st (enc (eitm (nd 0))):=
 ⟨by simp[eitm,nd,Sm,Sms,Sn],by decide,by decide,fun h=>by have h:=congrArg (fun s:ByteArray=>s.data.toList) h;simp only[st]at h;revert h;decide⟩
def repz:Array Value:=#[.bool false,.bool false,.int .i64 0]++nmc nZ
theorem zeroz (w:World):(zeroValue 53).run Tryz.prog w= .ok (.agg repz) w:=zero53 w
theorem repz_one:repz.all (·.oneCell')=true:=by simp[repz,nmc,nZ,eZ,Value.oneCell']
theorem built53z:Tryz.prog.built 53 []=some repz:=by kernel_rfl
theorem rparse_nq (w:World):
 Rv 16 #[.string (st (enc (ritm nq)))] w (.tuple #[.agg (repc nq),.bool true]):=by
 have HF:=hid (show ∀u,Calls Tryz.prog 34 #[.string (st (enc (ritm nq))),.int .i64 0,.int .i64 8] u fun e w'=>e= .returned (.tuple #[.int .i64 16,.int .i64 0])∧Below u.heap.size u w' from fun u=>
  fault_any 8 (ritm nq) (enc (ritm nq)) [] 0 u (by simp[ritm,nq,eitm,nd,Sm,Sms,Sn]) (by decide) (by decide) (by rw[List.append_nil];rfl) (Nat.zero_le _) (by decide))
 have HT:=hid (fun u=>ritem_any 8 (ritm nq) u (by simp[ritm,nq,eitm,nd,Sm,Sms,Sn]) (by decide) (by decide) (by decide));have HY:=hid (fun u=>rbytes_nq u);have hsz:(st (enc (ritm nq))).size=16:=by rw[st_size];decide
 generalize st (enc (ritm nq))=T at*;have hbz:=built53z;have hz34:=zero34;have hz53:=zeroz;have hz93:=zero93;obtain⟨w1,HE,U0,R'⟩:=mH1 w (repz) 53;go_enter Tryz.func16,Tryz.ntmps16;go_upto_region 1 with(fail);rw[←HE.out];clear HE;go_upto_region 2 with(first|(refine sV 53 4 12 (repz) (size53 rfl) repz_one ?_;intro w_1 hb hk)|refine wpList_build_to (o:=⟨some 12,_,_,_,_,_⟩) rfl 53 _ rfl repz (by kernel_rfl) ?_);replace R':=hid (R'.out.kp hb);have U':=tR U0 hb;clear U0;have N':=hid hk;clear hb;clear hbz;go_wp2_with fail;refine(HF.out w_1).mono ?_;rintro e w_5 ⟨rfl,hb⟩;replace R':=hid (R'.out.kp hb);replace N':=hid (N'.out.kp hb);replace U':=tR U' hb;clear hb;go_upto_region 5 with fail;go_wp2_with fail;refine(HT.out w_5).mono ?_;rintro e w_9 ⟨cs,rfl,hcs5,hcs1,hb,hk⟩;replace R':=hid (R'.out.kp hb);replace N':=hid (N'.out.kp hb);replace U':=tR U' hb;clear hb;have HKI:=hid hk.here;clear hk;obtain⟨b,o,c,b2,o2,c2,b3,o3,c3,b4,o4,c4,cs3,rfl,hrit,his3⟩:=ritm_inv HKI.out;clear HKI hcs5 hcs1;have HS3:=hid (size93L his3.size);generalize hMM:w_9.heap.size=M at hrit;have I':=hid (hrit);have J':=hid (his3);clear hrit his3;have HMM:=hid hMM;clear hMM;go_upto_region 6 with(refine sV 93 7 28 (ic 4 0 [] (.slice (some ⟨b,o,none⟩) 2 c) false) (size93 rfl) (ic_one ..) ?_;intro w_15 hb hk);replace R':=hid (R'.out.kp hb);replace N':=hid (N'.out.kp hb);replace I':=hid (I'.out.kp hb);replace J':=hid (J'.out.kp hb);replace U':=tR U' hb;have X':=hid hk;clear hb hk;obtain⟨_,_,_,x3,_⟩:=five X'.out;have hcp:=(I'.out).cp;have hc0:(2:Int)≤(c:Int):=by omega
 have hc20:(4:Int)≤(c2:Int):=by omega
 have hc30:(2:Int)≤(c3:Int):=by omega
 have hc40:(2:Int)≤(c4:Int):=by omega
 clear hcp;have q1:w_15.cell? ⟨b,o+5+3,none⟩=some (.slice (some ⟨b2,o2,none⟩) 4 c2):=(I'.out).r1 3 _ rfl;have q2:w_15.cell? ⟨b2,o2+3,none⟩=some (.slice (some ⟨b3,o3,none⟩) 2 c3):=(I'.out).r2 3 _ rfl;have q5:w_15.cell? ⟨b2,o2+15+3,none⟩=some (.slice (some ⟨b4,o4,none⟩) 2 c4):=(I'.out).r5 3 _ rfl;go_upto_region 11 with fail;have HTK:=hid eitm0_sm;have HUX:=hid (U'.out);go_wp2_with (refine wpList_load_mid rfl 93 (.tmp 74) rfl b2 (o2+10) (by rfl) cs3.toList _ (I'.out).r4 Tryz.underlying93 rfl HS3.out ?_);refine(nof_ipn 1 0 cs3 w_15 J'.out eitm0_sm (by decide)).mono ?_;rintro e w_22 ⟨rfl,hb⟩;replace R':=hid (R'.out.kp hb);replace N':=hid (N'.out.kp hb);replace I':=hid (I'.out.kp hb);replace J':=hid (J'.out.kp hb);replace X':=hid (X'.out.kp hb);replace U':=tR U' hb;clear hb x3 hc0 hc20 hc30 hc40 q1 q2 q5;go_upto_region 12 with(refine sV 34 9 77 (ec (nd 0)) (size34 rfl) (ec_one _) ?_;intro w_29 hb hk);replace R':=hid (R'.out.kp hb);replace N':=hid (N'.out.kp hb);replace I':=hid (I'.out.kp hb);replace J':=hid (J'.out.kp hb);replace X':=hid (X'.out.kp hb);replace U':=tR U' hb;have E':=hid hk;clear hb hk;go_upto_region 14 with fail;go_upto_region 15 with fail;have HMT:=hid (I'.out.le);have HRT:=hid (R'.out.lt);have HET:=hid (E'.out.lt);obtain⟨w_37,he,hb,hk⟩:=mk1 w_29 (repz) 53;rw[←he];clear he;replace R':=hid (R'.out.kp hb);replace N':=hid (N'.out.kp hb);replace I':=hid (I'.out.kp hb);replace J':=hid (J'.out.kp hb);replace X':=hid (X'.out.kp hb);replace E':=hid (E'.out.kp hb);replace U':=tR U' hb;have T':=hid hk;clear hb hk;clear J';clear N';clear X';have HTB:=hid (show M≤w_29.heap.size∧w.heap.size<w_29.heap.size from⟨HMT.out,HRT.out⟩);have HEB:=hid (show w_22.heap.size<w_29.heap.size from HET.out);generalize htb:w_29.heap.size=TB at*;generalize heb:w_22.heap.size=EB at*;clear htb heb;have HT0:=hid (show At w_37 TB (.cells (#[.bool false,.bool false,.int .i64 0,.int .i64 0,.string (st []),.int .u64 0,.int .u64 0,.int .u64 0,.int .u64 0,.bool false,.int .u64 0,.int .u64 0]) 53)from T'.out);clear T';have hcp:=(I'.out).cp;have hc20:(4:Int)≤(c2:Int):=by omega
 have hc30:(2:Int)≤(c3:Int):=by omega
 have hc40:(2:Int)≤(c4:Int):=by omega
 clear hcp;have q2:w_37.cell? ⟨b2,o2+3,none⟩=some (.slice (some ⟨b3,o3,none⟩) 2 c3):=(I'.out).r2 3 _ rfl;have r9:=(I'.out).r6;go_wp2_with (refine lM 93 86 b3 (o3) (ic 0 0 [] nS false) r9 Tryz.underlying93 i93 ?_);refine(one_0 w_37).mono ?_;rintro e w_46 ⟨rfl,hb⟩;replace R':=hid (R'.out.kp hb);replace I':=hid (I'.out.kp hb);replace E':=hid (E'.out.kp hb);replace T':=hid (HT0.out.kp hb);replace U':=tR U' hb;clear HT0;clear hb r9 hc20 hc30 hc40 q2;have k8:w_46.cell? ⟨TB,0,none⟩=some (.bool false):=by rw[cell_of_row _ _ _ _ 53 (0,0) T'.out];rfl
 have f8:=frozen_of_row w_46 TB 0 _ 53 T'.out;go_upto_region 16 with(fail);clear k8 f8;have hTB:=HTB.out;have hEB:=HEB.out;have hu:=upd_setCell w_46 ⟨TB,0,none⟩ (.bool false);have he:At (w_46.setCell ⟨TB,0,none⟩ (.bool false)) (TB) (.cells (#[.bool false,.bool false,.int .i64 0,.int .i64 0,.string (st []),.int .u64 0,.int .u64 0,.int .u64 0,.int .u64 0,.bool false,.int .u64 0,.int .u64 0]) 53):=At.setc T'.out 0 _;generalize World.setCell w_46 ⟨TB,0,none⟩ (.bool false)=w_52 at*;replace R':=hid (R'.out.upd hu (by show ¬w.heap.size=TB;omega));replace I':=hid (I'.out.upd hu (fun k e=>by have e:k=TB:=e;omega));replace E':=hid (E'.out.upd hu (by show ¬EB=TB;omega));replace T':=hid (he);replace U':=hid (U'.out.trans (hu.below U'.out.size (fun k e=>by have e:k=TB:=e;omega)));clear hu he;clear hTB hEB;have hcp:=(I'.out).cp;have hc20:(4:Int)≤(c2:Int):=by omega
 have hc30:(2:Int)≤(c3:Int):=by omega
 have hc40:(2:Int)≤(c4:Int):=by omega
 clear hcp;have q2:w_52.cell? ⟨b2,o2+3,none⟩=some (.slice (some ⟨b3,o3,none⟩) 2 c3):=(I'.out).r2 3 _ rfl;have r9:=(I'.out).r7;go_wp2_with (refine lM 93 94 b3 (o3+5) (ic 0 1 [] nS false) r9 Tryz.underlying93 i93 ?_);refine(one_1 w_52).mono ?_;rintro e w_58 ⟨rfl,hb⟩;replace R':=hid (R'.out.kp hb);replace I':=hid (I'.out.kp hb);replace E':=hid (E'.out.kp hb);replace T':=hid (T'.out.kp hb);replace U':=tR U' hb;clear hb r9 hc20 hc30 hc40 q2;have k8:w_58.cell? ⟨TB,1,none⟩=some (.bool false):=by rw[cell_of_row _ _ _ _ 53 (0,0) T'.out];rfl
 have f8:=frozen_of_row w_58 TB 1 _ 53 T'.out;go_upto_region 17 with(fail);clear k8 f8;have hTB:=HTB.out;have hEB:=HEB.out;have hu:=upd_setCell w_58 ⟨TB,1,none⟩ (.bool true);have he:At (w_58.setCell ⟨TB,1,none⟩ (.bool true)) (TB) (.cells (#[.bool false,.bool true,.int .i64 0,.int .i64 0,.string (st []),.int .u64 0,.int .u64 0,.int .u64 0,.int .u64 0,.bool false,.int .u64 0,.int .u64 0]) 53):=At.setc T'.out 1 _;generalize World.setCell w_58 ⟨TB,1,none⟩ (.bool true)=w_64 at*;replace R':=hid (R'.out.upd hu (by show ¬w.heap.size=TB;omega));replace I':=hid (I'.out.upd hu (fun k e=>by have e:k=TB:=e;omega));replace E':=hid (E'.out.upd hu (by show ¬EB=TB;omega));replace T':=hid (he);replace U':=hid (U'.out.trans (hu.below U'.out.size (fun k e=>by have e:k=TB:=e;omega)));clear hu he;clear hTB hEB;have hcp:=(I'.out).cp;have hc20:(4:Int)≤(c2:Int):=by omega
 have hc30:(2:Int)≤(c3:Int):=by omega
 have hc40:(2:Int)≤(c4:Int):=by omega
 clear hcp;have q3:w_64.cell? ⟨b2,o2+5+1,none⟩=some (.int .u64 11):=(I'.out).r3 1 _ rfl;have k8:w_64.cell? ⟨TB,2,none⟩=some (.int .i64 0):=by rw[cell_of_row _ _ _ _ 53 (0,0) T'.out];rfl
 have f8:=frozen_of_row w_64 TB 2 _ 53 T'.out;go_upto_region 18 with(fail);clear k8 f8 hc20 hc30 hc40 q3;rw[show(min 11 65536:Int)=11 from rfl];have hTB:=HTB.out;have hEB:=HEB.out;have hu:=upd_setCell w_64 ⟨TB,2,none⟩ (.int .i64 11);have he:At (w_64.setCell ⟨TB,2,none⟩ (.int .i64 11)) (TB) (.cells (#[.bool false,.bool true,.int .i64 11,.int .i64 0,.string (st []),.int .u64 0,.int .u64 0,.int .u64 0,.int .u64 0,.bool false,.int .u64 0,.int .u64 0]) 53):=At.setc T'.out 2 _;generalize World.setCell w_64 ⟨TB,2,none⟩ (.int .i64 11)=w_70 at*;replace R':=hid (R'.out.upd hu (by show ¬w.heap.size=TB;omega));replace I':=hid (I'.out.upd hu (fun k e=>by have e:k=TB:=e;omega));replace E':=hid (E'.out.upd hu (by show ¬EB=TB;omega));replace T':=hid (he);replace U':=hid (U'.out.trans (hu.below U'.out.size (fun k e=>by have e:k=TB:=e;omega)));clear hu he;clear hTB hEB;have hth:=there_at T'.out 3 4 (show _≤12 by decide);go_upto_region 19 with(first|refine wpList_store_mid (op:=⟨none,_,_,_,_,_⟩) rfl 34 (.tmp 107) (.tmp 105) rfl TB 3 (ec (nd 0)) (by first|rfl|simp[Act.eval]) rfl hth (size34 rfl) (ec_one _) ?_|refine lQ 34 9 E'.out ?_);have hu:=upd_setCells TB (ec (nd 0)).toList 3 w_70;have he:At (w_70.setCells TB 3 (ec (nd 0)).toList) TB (.cells (#[.bool false,.bool true,.int .i64 11,.int .i64 2,.string (st []),.int .u64 1,.int .u64 0,.int .u64 0,.int .u64 0,.bool false,.int .u64 0,.int .u64 0]) 53):=At.setCells4 T'.out 3 (.int .i64 2) (.string (st [])) (.int .u64 1) (.int .u64 0);generalize World.setCells w_70 TB 3 (ec (nd 0)).toList=w9 at*;have hTB:=HTB.out;have hEB:=HEB.out;replace R':=hid (R'.out.upd hu (by show ¬w.heap.size=TB;omega));replace I':=hid (I'.out.upd hu (fun k e=>by have e:k=TB:=e;omega));replace E':=hid (E'.out.upd hu (by show ¬EB=TB;omega));replace T':=hid (he);replace U':=hid (U'.out.trans (hu.below U'.out.size (fun k e=>by have e:k=TB:=e;omega)));clear hu he hTB hEB hth;have hcp:=(I'.out).cp;have hc20:(4:Int)≤(c2:Int):=by omega
 have hc30:(2:Int)≤(c3:Int):=by omega
 have hc40:(2:Int)≤(c4:Int):=by omega
 clear hcp;have q5:w9.cell? ⟨b2,o2+15+3,none⟩=some (.slice (some ⟨b4,o4,none⟩) 2 c4):=(I'.out).r5 3 _ rfl;have q8:w9.cell? ⟨b4,o4+1,none⟩=some (.int .u64 100):=(I'.out).r8 1 _ rfl;have k8:w9.cell? ⟨TB,7,none⟩=some (.int .u64 0):=by rw[cell_of_row _ _ _ _ 53 (0,0) T'.out];rfl
 have f8:=frozen_of_row w9 TB 7 _ 53 T'.out;go_upto_region 20 with(fail);clear k8 f8 hc20 hc30 hc40 q5 q8;have hTB:=HTB.out;have hEB:=HEB.out;have hu:=upd_setCell w9 ⟨TB,7,none⟩ (.int .u64 100);have he:At (w9.setCell ⟨TB,7,none⟩ (.int .u64 100)) (TB) (.cells (#[.bool false,.bool true,.int .i64 11,.int .i64 2,.string (st []),.int .u64 1,.int .u64 0,.int .u64 100,.int .u64 0,.bool false,.int .u64 0,.int .u64 0]) 53):=At.setc T'.out 7 _;generalize World.setCell w9 ⟨TB,7,none⟩ (.int .u64 100)=w_81 at*;replace R':=hid (R'.out.upd hu (by show ¬w.heap.size=TB;omega));replace I':=hid (I'.out.upd hu (fun k e=>by have e:k=TB:=e;omega));replace E':=hid (E'.out.upd hu (by show ¬EB=TB;omega));replace T':=hid (he);replace U':=hid (U'.out.trans (hu.below U'.out.size (fun k e=>by have e:k=TB:=e;omega)));clear hu he;clear hTB hEB;have hcp:=(I'.out).cp;have hc20:(4:Int)≤(c2:Int):=by omega
 have hc30:(2:Int)≤(c3:Int):=by omega
 have hc40:(2:Int)≤(c4:Int):=by omega
 clear hcp;have q5:w_81.cell? ⟨b2,o2+15+3,none⟩=some (.slice (some ⟨b4,o4,none⟩) 2 c4):=(I'.out).r5 3 _ rfl;have q9:w_81.cell? ⟨b4,o4+5+1,none⟩=some (.int .u64 0):=(I'.out).r9 1 _ rfl;have k8:w_81.cell? ⟨TB,8,none⟩=some (.int .u64 0):=by rw[cell_of_row _ _ _ _ 53 (0,0) T'.out];rfl
 have f8:=frozen_of_row w_81 TB 8 _ 53 T'.out;go_upto_region 21 with(fail);clear k8 f8 hc20 hc30 hc40 q5 q9;have hTB:=HTB.out;have hEB:=HEB.out;have hu:=upd_setCell w_81 ⟨TB,8,none⟩ (.int .u64 0);have he:At (w_81.setCell ⟨TB,8,none⟩ (.int .u64 0)) (TB) (.cells (#[.bool false,.bool true,.int .i64 11,.int .i64 2,.string (st []),.int .u64 1,.int .u64 0,.int .u64 100,.int .u64 0,.bool false,.int .u64 0,.int .u64 0]) 53):=At.setc T'.out 8 _;generalize World.setCell w_81 ⟨TB,8,none⟩ (.int .u64 0)=w_87 at*;replace R':=hid (R'.out.upd hu (by show ¬w.heap.size=TB;omega));replace I':=hid (I'.out.upd hu (fun k e=>by have e:k=TB:=e;omega));replace E':=hid (E'.out.upd hu (by show ¬EB=TB;omega));replace T':=hid (he);replace U':=hid (U'.out.trans (hu.below U'.out.size (fun k e=>by have e:k=TB:=e;omega)));clear hu he;clear hTB hEB;have HTN:=hid (show At w_87 TB (.cells (repc nq) 53)from T'.out);clear T';clear I' E';go_wp2_with (refine lQ 53 11 HTN.out ?_);refine(rright_nq w_87).mono ?_;rintro e w_93 ⟨rfl,hb⟩;replace R':=hid (R'.out.kp hb);replace T':=hid (HTN.out.kp hb);replace U':=tR U' hb;clear HTN;clear hb;have r9:=at_range T'.out;go_wp2_with (refine wpList_load_g (by rfl) 53 (.tmp 11) rfl TB 0 (by rfl) (repc nq) _ r9 Tryz.underlying53 rfl (size53 rfl) ?_);refine(HY.out w_93).mono ?_;rintro e w_97 ⟨rfl,hb⟩;replace R':=hid (R'.out.kp hb);replace T':=hid (T'.out.kp hb);replace U':=tR U' hb;clear hb r9;go_wp2_with (first|refine sR 53 2 153 (w.heap.size) (repc nq) R'.out (size53 rfl) (repc_one _) ?_|refine lQ 53 11 T'.out ?_);have hu9:=upd_setRow w_97 (w.heap.size) (repc nq);have hb9:=hu9.below (U'.out).size (fun k e=>by rw[e];first|exact Nat.le_refl _|omega);exact bodyPost_ret (rU ((R'.out).row _)) rfl ⟨rfl,(U'.out).trans (hb9.mono (Nat.le_refl _))⟩
end
section
open Go.Conc Go.RowKit
theorem upa_upa (L:Nat→Nd)(i:Nat)(a b:Ag):upa (upa L i a) i b=upa L i b:=by
 funext t;by_cases h:t=i
 · subst h;rw[upa_at,upa_at,upa_at]
 · rw[upa_ne _ _ h,upa_ne _ _ h,upa_ne _ _ h]
def fS (k LI:Nat)(s:List UInt8):Fam:=⟨⟨262144,1,nd (k-1),nd 0,nd 0,100,0,LI⟩,1,0,some 0,none,s⟩
def fR (LI:Nat):Fam:=(repf (nd 1) (nd 0) (100+(LI+1)) 0 LI nq).stg 1 0 3
section
variable (k LI:Nat) (s:List UInt8)
def Q1 (w0:World)(WB:Nat)(u:World):Prop:=∃L g2 cap2,(∀t,t<k→Fresh (L t).a t k)∧
 St w0 k WB (upa L 0 { (L 0).a with seq:=1,l1:=[.agg (wtc (fS k LI s).p (.slice (some ⟨g2,0,none⟩) (fS k LI s).l.length cap2) (nd 1) (L 0).a.now)] }) 0 [] nS u∧RB u g2 0 (fS k LI s).l∧(fS k LI s).l.length≤cap2∧∀t,t<k→(L t).hi≤g2
def a0 (L:Nat→Nd):Ag:={ (L 0).a with seq:=1,l1:=[] }
def Q2 (w0:World)(WB:Nat)(u:World):Prop:=∃L v2,(∀t,t<k→Fresh (L t).a t k)∧St w0 k WB (upa L 0 (a0 L)) 1 (emc 0 (nd 1) ((fS k LI s).stg 0 0 3).bun.enc).toList v2 u
def Q34 (now:Nat)(w0:World)(WB:Nat)(u:World):Prop:=∃L v2 v g3 cap3,(∀t,t<k→Fresh (L t).a t k)∧
 St w0 k WB (upa (upa L 0 (a0 L)) 1 { (L 1).a with l1:=[.agg (wtc ((fS k LI s).stg 0 0 3).p (.slice (some ⟨g3,0,none⟩) ((fS k LI s).stg 0 0 3).l.length cap3) (nd 2) 100)],seen:=v,now:=now }) 1 (emc 0 (nd 1) ((fS k LI s).stg 0 0 3).bun.enc).toList v2 u∧
 RB u g3 0 ((fS k LI s).stg 0 0 3).l∧((fS k LI s).stg 0 0 3).l.length≤cap3∧∀t,t<k→(L t).hi≤g3
def Q5 (w0:World)(WB:Nat)(u:World):Prop:=∃L xs2 v2 g4 c4 q4 k4,(L 0).a.giv= .slice (some ⟨g4,0,none⟩) 1 c4∧(∀t,2≤t→t<k→(L t).a.giv=nS)∧St w0 k WB L 2 xs2 v2 u∧RB u q4 0 (fR LI).l∧3≤k4∧RG u g4 (bv (fR LI).bun q4 0 k4).toList∧1≤c4
end
theorem Q5.kp {k LI:Nat}{w0:World}{WB:Nat}{u u':World}(h:Q5 k LI w0 WB u)(hb:Below u.heap.size u u'):Q5 k LI w0 WB u':=by
 obtain⟨L,xs2,v2,g4,c4,q4,k4,h1,h2,h3,h4,h5,h6,h7⟩:=h;exact⟨L,xs2,v2,g4,c4,q4,k4,h1,h2,h3.kp hb,h4.kp hb,h5,⟨range_of h6.1 (hb.block _ h6.2),Nat.lt_of_lt_of_le h6.2 hb.size⟩,h7⟩
theorem Q5.fr {k LI:Nat}{w0:World}{WB:Nat}{u:World}(h:Q5 k LI w0 WB u):Below w0.heap.size w0 u:=by
 obtain⟨L,xs2,v2,g4,c4,q4,k4,h1,h2,h3,-⟩:=h;exact h3.fr
section
variable {k LI:Nat} {s:List UInt8}
theorem fS_usr {L:Nat→Nd}(hf:Fresh (L 0).a 0 k):usr (L 0).a 262144 (nd (k-1)) (nd 0) LI s=fS k LI s:=by
 obtain⟨h1,h2,h3,h4,-⟩:=hf;simp only[usr,fS,h1,h3,h4]
theorem fS_can (hk:k≤4)(hl:LI≤65535)(hs:s.length≤300):(fS k LI s).can 0:=
 usr_can { (default:Ag)with i:=0,now:=100,seq:=0 } 262144 (k-1) LI s (.inl rfl) (Nat.zero_le _) (by omega) rfl rfl (by omega) hs
theorem s0 (hk2:2≤k)(hk:k≤4)(w:World):Calls Tryz.prog 9 #[.int .i64 k,.bool false,nS,.int .i64 0] w fun e w'=>∃WB,e= .returned (.pointer (some ⟨WB,0,none⟩))∧Q0 k w WB w':=by
 refine(chain_any false k w hk2 hk).mono ?_;rintro e w' ⟨WB,L,rfl,h1,h2,h3⟩;have h:=St.start h1 h2 h3;exact⟨WB,rfl,_,h.2,h.1⟩
theorem s1 (hk2:3≤k)(hk:k≤4)(hl:LI≤65535)(hs:s.length≤300){w0:World}{WB:Nat}(u:World)(h:Q0 k w0 WB u):
 Calls Tryz.prog 14 #[.pointer (some ⟨WB,0,none⟩),.int .i64 0,.int .i64 (k-1:Nat),.string (st s),.int .u64 262144,.int .u64 LI] u fun e w'=>e= .returned (.int .i64 0)∧Q1 k LI s w0 WB w':=by
 obtain⟨L,hf,hS⟩:=h;have h0:=hf 0 (by omega);have hc:=run_send w0 k WB 0 (k-1) 1 262144 LI s L _ 0 [] u hS (by omega) hk (by omega) (by omega) (by rw[pick_next 0 (k-1) hk (by omega) (by omega) (by omega),if_neg (Nat.not_lt_zero _)]) h0.2.2.2.2.2.2.1 h0.2.2.2.1 (by decide) (by rw[fS_usr h0];exact(fS_can hk hl hs).ok) (by rw[fS_usr h0];exact fS_can hk hl hs);rw[fS_usr h0]at hc;refine hc.mono ?_;rintro e w' ⟨rfl,g2,cap2,h1,h2,h3,h4⟩;exact⟨rfl,L,g2,cap2,hf,h1,h2,h3,fun t ht=>Nat.le_trans (hS.hi t ht) h4⟩
theorem s2 (hk2:3≤k)(hk:k≤4)(hl:LI≤65535)(hs:s.length≤300){w0:World}{WB:Nat}(u:World)(h:Q1 k LI s w0 WB u):
 Calls Tryz.prog 10 #[.pointer (some ⟨WB,0,none⟩),.agg (opc 5 0 0 0 0 [] eZ eZ 0 0)] u fun e w'=>e= .returned (.int .i64 0)∧Q2 k LI s w0 WB w':=by
 obtain⟨L,g2,cap2,hf,hS,hr,hc,hg⟩:=h;have h0:=hf 0 (by omega);have e9:a0 L={ ({ (L 0).a with seq:=1,l1:=[.agg (wtc (fS k LI s).p (.slice (some ⟨g2,0,none⟩) (fS k LI s).l.length cap2) (nd 1) (L 0).a.now)] }:Ag)with l1:=[] }:=rfl;generalize hb1:({ (L 0).a with seq:=1,l1:=[.agg (wtc (fS k LI s).p (.slice (some ⟨g2,0,none⟩) (fS k LI s).l.length cap2) (nd 1) (L 0).a.now)] }:Ag)=b1 at hS e9;have E0:upa L 0 b1 0={ L 0 with a:=b1 }:=upa_at _ _ _;have hi1:b1.i=0:=by rw[←hb1];exact h0.1
 have hz1:b1.l0=[]:=by rw[←hb1];exact h0.2.2.2.2.2.1
 refine(Do_poll WB k 0 0 0 0 0 0 [] eZ eZ _ _ (fun r9 u'=>r9=0∧Q2 k LI s w0 WB u') u hS.wo (by omega) hk (fun u2 hb=>?_)).mono ?_
 · refine(run_poll w0 k WB 0 0 0 0 0 0 0 [] eZ eZ _ _ [] (nd 1) ((fS k LI s).stg 0 0 3).bun.enc (a0 L) u2 (hS.kp hb) (by omega) hk (by omega) h0.1 h0.2.1 (fun u3 hb3 hS3=>?_) 5 0).mono ?_
   · obtain⟨ha,hai,han⟩:=hS3.wo.ag 0 (by omega);have hhi:=hS3.hi 0 (by omega);rw[E0]at ha hhi ⊢;have hpl:=poll_one _ _ _ b1 (fS k LI s) g2 cap2 0 (L 0).a.now (nd 1) u3 hhi ha hz1 (by rw[←hb1]) (Nat.zero_le _) (fS_can hk hl hs) (by rw[←hb1];rfl) (Nat.zero_le _) (hg 0 (by omega)) hc ((hr.kp hb).kp hb3);have e:(fS k LI s).stg b1.i 0 3=(fS k LI s).stg 0 0 3:=by rw[hi1]
     rw[e, ←e9]at hpl;exact hpl
   · rintro e w' ⟨rfl,v2,h1⟩;rw[upa_upa]at h1;exact⟨0,rfl,rfl,L,v2,hf,h1⟩
 · rintro e w' ⟨r9,rfl,rfl,h1⟩;exact⟨rfl,h1⟩
theorem s3 (hk2:3≤k)(hk:k≤4)(hl:LI≤65535)(hs:s.length≤300){w0:World}{WB:Nat}(u:World)(h:Q2 k LI s w0 WB u):
 Calls Tryz.prog 10 #[.pointer (some ⟨WB,0,none⟩),.agg (opc 2 1 0 0 0 [] eZ eZ 0 0)] u fun e w'=>e= .returned (.int .i64 0)∧Q34 k LI s 100 w0 WB w':=by
 obtain⟨L,v2,hf,hS⟩:=h;have h1:=hf 1 (by omega);have hcan:((fS k LI s).stg 0 0 3).can 0:=⟨stg3_ok _ (fS_can hk hl hs) 0 (by omega) 0 (Nat.zero_le _),Nat.zero_le _,fun c e=>by have e:(1:Nat)=c:=Option.some.inj e;omega⟩;refine(Do_again WB k 1 0 0 0 0 0 [] eZ eZ _ _ (fun r9 u'=>r9=0∧Q34 k LI s 100 w0 WB u') u hS.wo (by omega) hk (fun u2 hb=>?_)).mono ?_
 · have hS2:=hS.kp hb;have e1:upa L 0 (a0 L) 1=L 1:=upa_ne _ _ (by decide);refine(run_again w0 k WB 1 0 (k-1) 2 1 0 0 0 0 [] eZ eZ _ _ (nd 1) ((fS k LI s).stg 0 0 3) u2 hS2 (by omega) hk (by rw[e1];exact h1.2.2.2.2.2.2.2) (Nat.zero_le _) (fun v=>wants_b _ rfl rfl v) rfl (by omega) (by rw[pick_next 1 (k-1) hk (by omega) (by omega) (by omega),if_neg (by omega)]) (by rw[e1];exact h1.2.2.2.2.2.2.1) (by omega) hcan).mono ?_;rintro e w' ⟨rfl,v,g3,cap3,r1,r2,r3,r4⟩;rw[e1]at r1;refine⟨0,rfl,rfl,L,v2,v,g3,cap3,hf,?_,r2,r3,fun t ht=>Nat.le_trans ?_ r4⟩
   · have en:(L 1).a.now=100:=h1.2.2.1;have ea:({ (L 1).a with l1:=[.agg (wtc ((fS k LI s).stg 0 0 3).p (.slice (some ⟨g3,0,none⟩) ((fS k LI s).stg 0 0 3).l.length cap3) (nd 2) (L 1).a.now)],seen:=v }:Ag)={ (L 1).a with l1:=[.agg (wtc ((fS k LI s).stg 0 0 3).p (.slice (some ⟨g3,0,none⟩) ((fS k LI s).stg 0 0 3).l.length cap3) (nd 2) 100)],seen:=v,now:=100 }:=by rw[←en]
     rw[ea]at r1;exact r1
   · have:=hS2.hi t ht;rw[(upa_place L 0 t _).2.2]at this;exact this
 · rintro e w' ⟨r9,rfl,rfl,h1⟩;exact⟨rfl,h1⟩
theorem s4 (hk2:3≤k)(hk:k≤4)(hl:LI≤65535){w0:World}{WB:Nat}(u:World)(h:Q34 k LI s 100 w0 WB u):
 Calls Tryz.prog 10 #[.pointer (some ⟨WB,0,none⟩),.agg (opc 4 1 0 0 0 [] eZ eZ 0 (LI+1))] u fun e w'=>e= .returned (.int .i64 0)∧Q34 k LI s (100+(LI+1)) w0 WB w':=by
 obtain⟨L,v2,v,g3,cap3,hf,hS,hr,hc,hg⟩:=h;refine(Do_tick WB k 1 0 0 0 0 (LI+1) [] eZ eZ _ _ (fun r9 u'=>r9=0∧Q34 k LI s (100+(LI+1)) w0 WB u') u hS.wo (by omega) hk (fun u2 hb=>?_)).mono ?_
 · have hS2:=hS.kp hb;have hne:g3≠(L 1).A:=fun e=>by
    have h1:=(hS2.wo.ag 1 (by omega)).1.lo _ (.head _);rw[upa_at]at h1;have h2:=hg 1 (by omega);have h3:((upa L 0 (a0 L)) 1)=L 1:=upa_ne _ _ (by decide);simp only[h3]at h1;omega
   have e3:((upa L 0 (a0 L)) 1)=L 1:=upa_ne _ _ (by decide);refine(run_tick w0 k WB 1 1 0 0 0 0 (LI+1) g3 1 _ [] eZ eZ _ _ v2 u2 hS2 (by omega) hk (by rw[upa_at];show 100+(LI+1)≤_;omega) (hr.kp hb) (by rw[upa_at];simp only[e3];exact hne)).mono ?_;rintro e w' ⟨rfl,r1,r2⟩;rw[upa_upa,upa_at]at r1;exact⟨0,rfl,rfl,L,v2,v,g3,cap3,hf,r1,r2,hc,hg⟩
 · rintro e w' ⟨r9,rfl,rfl,h1⟩;exact⟨rfl,h1⟩
theorem fR0_ok (hl:LI≤65535):(repf (nd 1) (nd 0) (100+(LI+1)) 0 LI nq).ok:=by
 refine⟨⟨.inr (.inr ⟨rfl,rfl⟩),⟨rfl,rfl,Nat.le_of_ble_eq_true rfl,Nat.le_of_ble_eq_true rfl⟩,⟨rfl,rfl,Nat.le_of_ble_eq_true rfl,Nat.le_of_ble_eq_true rfl⟩,.inr rfl,?_,Nat.zero_le _,?_⟩,?_,Nat.zero_le _,Nat.zero_le _,fun c e=>(by cases e),fun c e=>(by cases e),Nat.le_of_ble_eq_true rfl⟩
 · show 100+(LI+1)≤_;omega
 · show LI≤_;omega
 · show 1≤100+(LI+1);omega
theorem s5 (hk2:3≤k)(hk:k≤4)(hl:LI≤65535)(hs:s.length≤300){w0:World}{WB:Nat}(u:World)(h:Q34 k LI s (100+(LI+1)) w0 WB u):
 Calls Tryz.prog 15 #[.pointer (some ⟨WB,0,none⟩),.int .i64 50] u fun e w'=>e= .returned (.int .i64 1)∧Q5 k LI w0 WB w':=by
 obtain⟨L,v2,v,g3,cap3,hf,hS,hr,hc,hg⟩:=h;have h0:=hf 0 (by omega);have h1:=hf 1 (by omega);have hcan:((fS k LI s).stg 0 0 3).can 0:=⟨stg3_ok _ (fS_can hk hl hs) 0 (by omega) 0 (Nat.zero_le _),Nat.zero_le _,fun c e=>by have e:(1:Nat)=c:=Option.some.inj e;omega⟩;have e10:(upa L 0 (a0 L)) 1=L 1:=upa_ne _ _ (by decide);generalize hb1:({ (L 1).a with l1:=[.agg (wtc ((fS k LI s).stg 0 0 3).p (.slice (some ⟨g3,0,none⟩) ((fS k LI s).stg 0 0 3).l.length cap3) (nd 2) 100)],seen:=v,now:=100+(LI+1) }:Ag)=b1 at hS;have E0:upa (upa L 0 (a0 L)) 1 b1 0={ L 0 with a:=a0 L }:=by rw[upa_ne _ _ (by decide),upa_at]
 have E1:upa (upa L 0 (a0 L)) 1 b1 1={ L 1 with a:=b1 }:=by rw[upa_at,e10]
 have hi1:b1.i=1:=by rw[←hb1];exact h1.1
 have hn1:b1.n=k:=by rw[←hb1];exact h1.2.1
 have hz1:b1.l0=[]:=by rw[←hb1];exact h1.2.2.2.2.2.1
 have hq1:b1.seq=0:=by rw[←hb1];exact h1.2.2.2.1
 have hc:=run_flow w0 k WB 1 0 1 50 _ _ v2 { b1 with seq:=1,l0:=[],l1:=[] } (fR LI) (fun u=>RB u g3 0 ((fS k LI s).stg 0 0 3).l) u hS hr (fun u u' hb h=>h.kp hb) (.inr rfl) (by omega) (by omega) (by decide) hk (by decide)
  (fun t ht hne=>by
   rw[upa_ne _ _ hne];by_cases e:t=0
   · subst e;rw[upa_at];exact⟨h0.2.2.2.2.2.1,rfl⟩
   · rw[upa_ne _ _ e];exact⟨(hf t ht).2.2.2.2.2.1,(hf t ht).2.2.2.2.2.2.1⟩)
  hi1 hn1 ⟨rfl,rfl⟩
  (fun u2 hS2 hr2=>by
   obtain⟨ha,hai,han⟩:=hS2.wo.ag 1 (by omega);have hhi:=hS2.hi 1 (by omega);rw[E1]at ha hhi ⊢;have hpl:=poll_gone _ _ _ b1 0 ((fS k LI s).stg 0 0 3) g3 cap3 (LI+1) 100 (nd 2) u2 hhi ha hz1 (by rw[←hb1]) (show LI<0+0+(LI+1) by omega) hcan (by rw[←hb1]) (show 0+0+(LI+1)≤_ by omega) (hg 1 (by omega)) hc hr2 rfl rfl (show nq.ok from⟨.inl ⟨rfl,rfl,by decide,by decide⟩,by decide,by decide⟩) (by rw[hi1,hq1,show b1.now=100+(LI+1)from by rw[←hb1]];exact fR0_ok hl) (by rw[hi1];decide) (by rw[hi1,hn1,pick_next 1 0 hk (by omega) (by omega) (by decide),if_pos (by decide)]) hq1;have e:(repf (nd b1.i) ((fS k LI s).stg 0 0 3).p.rpt b1.now b1.seq ((fS k LI s).stg 0 0 3).p.life ((fS k LI s).stg 0 0 3).p.nm).stg b1.i 0 3=fR LI:=by
    rw[hi1,hq1,show b1.now=100+(LI+1)from by rw[←hb1]];rfl
   rw[e]at hpl;exact hpl)
  (by rw[E0];exact h0.2.2.2.2.2.2.2) (by rw[E0];exact h0.2.2.2.2.1) (Nat.zero_le _) (fun v=>wants_d _ rfl v) rfl (stg3_ok _ ⟨fR0_ok hl,Nat.zero_le _,fun c e=>(by cases e)⟩ 1 (by decide) 0 (Nat.zero_le _))
 refine hc.mono ?_;rintro e w' ⟨rfl,L2,out2,xs2,v9,g4,c4,q4,k4,r1,r2,r3,r4,r5,r6,r7⟩;refine⟨rfl,L2,xs2,out2,g4,c4,q4,k4,by rw[r2],fun t h2 ht=>?_,r1,r4,r5,r6,r7⟩;rw[r3 t (by omega) (by omega),upa_ne _ _ (by omega),upa_ne _ _ (by omega)];exact(hf t ht).2.2.2.2.1
theorem s6 (hk2:3≤k)(hk:k≤4){w0:World}{WB:Nat}(u:World)(h:Q5 k LI w0 WB u):
 Calls Tryz.prog 11 #[.pointer (some ⟨WB,0,none⟩),.int .i64 0] u fun e w'=>∃g c q kq,e= .returned (.slice (some ⟨g,0,none⟩) 1 c)∧Q5 k LI w0 WB w'∧RG w' g (bv (fR LI).bun q 0 kq).toList∧RB w' q 0 (fR LI).l∧3≤kq∧1≤c:=by
 have h':=h;obtain⟨L,xs2,v2,g4,c4,q4,k4,h1,h2,h3,h4,h5,h6,h7⟩:=h;refine(tgiven k WB 0 L v2 (fun v u'=>∃g c q kq,v= .slice (some ⟨g,0,none⟩) 1 c∧Q5 k LI w0 WB u'∧RG u' g (bv (fR LI).bun q 0 kq).toList∧RB u' q 0 (fR LI).l∧3≤kq∧1≤c) u h3.wo (by omega) hk (fun u2 hb=>?_)).mono ?_
 · refine(given_one (L 0).A g4 c4 q4 k4 (L 0).a (fR LI).bun u2 ((h3.kp hb).wo.ag 0 (by omega)).1.ag h1 h7 ⟨range_of h6.1 (hb.block _ h6.2),Nat.lt_of_lt_of_le h6.2 hb.size⟩ (Nat.le_trans (fam_len _) (by decide)) h5 (h4.kp hb)).mono ?_;rintro e u' ⟨g,c,q,kq,rfl,r1,r2,r3,r4,r5,r6⟩;exact⟨_,rfl,g,c,q,kq,rfl,(h'.kp hb).kp r1,r5,r2,r4,r6⟩
 · rintro e w' ⟨v,rfl,g,c,q,kq,rfl,r1,r2,r3,r4⟩;exact⟨g,c,q,kq,rfl,r1,r2,r3,r4⟩
theorem s7 (hk2:3≤k)(hk:k≤4){w0:World}{WB:Nat}(u:World)(h:Q5 k LI w0 WB u):
 Rv 11 #[.pointer (some ⟨WB,0,none⟩),.int .i64 (k-1:Nat)] u nS:=by
 obtain⟨L,xs2,v2,g4,c4,q4,k4,h1,h2,h3,h4,h5,h6,h7⟩:=h;refine(tgiven k WB (k-1) L v2 (fun v u'=>v=nS∧Below u.heap.size u u') u h3.wo (by omega) hk (fun u2 hb=>?_)).mono ?_
 · refine(given_none (L (k-1)).A (L (k-1)).a u2 ((h3.kp hb).wo.ag (k-1) (by omega)).1.ag (h2 (k-1) (by omega) (by omega))).mono ?_;rintro e u' ⟨rfl,r1⟩;exact⟨_,rfl,rfl,hb.trans (r1.mono hb.size)⟩
 · rintro e w' ⟨v,rfl,rfl,r1⟩;exact⟨rfl,r1⟩
end
end
end Go.Proofs.YtlhlmflacdeafaaGreatDoor
