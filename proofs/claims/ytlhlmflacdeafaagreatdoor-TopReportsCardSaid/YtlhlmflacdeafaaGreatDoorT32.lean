/-
  A part of the walk of TopReports.
-/
import Derived.Test.YtlhlmflacdeafaaGreatDoorT31
set_option maxRecDepth 100000
set_option maxHeartbeats 4000000
set_option linter.unusedVariables false
set_option linter.unusedSimpArgs false
namespace Go.Proofs.YtlhlmflacdeafaaGreatDoor
section
open Go.Conc Go.RowKit
variable {x0 x1 x2 x3 x4 x5 x6 x7 x8 x9 x10 x11 x12 x13 x14 x15 x16 x17 x18 x19 x20 x21 x22 x23 x24 x25 x26 x27 x28 x29 x30 x31 x32 x33 x34 x35 x36 x37 x38 x39 x40 x41 x42 x43 x44 x45 x46 x47 x48 x49 x50 x51 x52 x53 x54 x55 x56 x57 x58 x59 x60 x61 x62 x63 x64 x65 x66 x67 x68 x69 x70 x71 x72 x73 x74 x75 x76 x77 x78 x79 x80 x81 x82 x83 x84 x85 x86 x87 x88 x89 x90 x91 x92 x93 x94 x95 x96 x97 x98 x99 x100 x101 x102 x103 x104 x105 x106 x107 x108 x109 x110 x111 x112 x113 x114 x115 x116 x117 x118 x119 x120 x121 x122 x123 x124 x125:Value} {r:List Value}
theorem fR_data {w:World}{q LI:Nat}(h:RB w q 0 (fR LI).l):w.cell? ⟨q,14,none⟩=some (.string (st (enc (ritm nq)))):=(h.cell 2 (show 2<3 by decide)).2.2.2.2
theorem neq1 (w:World):(binOp .neq 34 (.agg (ec (nd 1))) (.agg (ec (nd 1)))).run Tryz.prog w= .ok (.bool false) w:=by kernel_rfl
theorem eql0 (w:World):(binOp .eql 34 (.agg (ec (nd 0))) (.agg (ec (nd 0)))).run Tryz.prog w= .ok (.bool true) w:=by kernel_rfl
theorem gd34n (a b:Array Value)(x y:Operand)(w:World):(eqGuard .neq 34 x y (.agg a) (.agg b)).run Tryz.prog w= .ok () w:=run_eqGuard_agg w .neq 34 x y a b (by kernel_rfl)
theorem bun_src {w:World}{g:Nat}{p:Prim}{l:Value}(h:RG w g (bunc p l).toList):w.rangeAt g 6 (ec p.src).toList:=fun j v hj=>by
 have hj4:j<4:=by have:=(List.getElem?_eq_some_iff.1 hj).1;simpa[ec]using this
 have h2:=h.1 (6+j) v (by rcases(show j=0∨j=1∨j=2∨j=3 by omega)with rfl|rfl|rfl|rfl<;>simpa[bunc,ec]using hj);rw[Nat.zero_add]at h2;exact h2
theorem nq_src0 {w:World}{B:Nat}(h:At w B (.cells (repc nq) 53)):w.rangeAt B 3 (ec (nd 0)).toList:=nq_src h
theorem tr_r12 (WB k j g c:Nat)(w:World)(Q:QT)(hg:w.rangeAt g 6 (ec (nd 1)).toList)(hgl:g<w.heap.size)(hk:(k:Int)-1=(j:Int))(hj:(j:Int)≤3)(hc:1≤c)(hcall:∀u,Below w.heap.size w u→Calls Tryz.prog 11 #[.pointer (some ⟨WB,0,none⟩),.int .i64 j] u fun e u'=>e= .returned nS∧Below u.heap.size u u')
 (hQ:∀(y58 y59 y60 y61 y62 y63 y64 y65 y66 y67 y68 y69 y70 y71 y72 y73 y74 y75 y76:Value) (w6:World),Below w.heap.size w w6→Q .normal ⟨(x0::x1::x2::x3::x4::x5::x6::.int .i64 k::.pointer (some ⟨WB,0,none⟩)::.slice (some ⟨g,0,none⟩) 1 c::x10::x11::x12::x13::x14::x15::x16::x17::x18::x19::x20::x21::x22::x23::x24::x25::x26::x27::x28::x29::x30::x31::x32::x33::x34::x35::x36::x37::x38::x39::x40::x41::x42::x43::x44::x45::x46::x47::x48::x49::x50::x51::x52::x53::x54::x55::x56::x57::y58::y59::y60::y61::y62::y63::y64::y65::y66::y67::y68::y69::y70::y71::y72::y73::y74::y75::y76::.bool false::r).toArray,[]⟩ w6):
 Code.wp Tryz.prog (rg Tryz.f4 12) Q ⟨(x0::x1::x2::x3::x4::x5::x6::.int .i64 k::.pointer (some ⟨WB,0,none⟩)::.slice (some ⟨g,0,none⟩) 1 c::x10::x11::x12::x13::x14::x15::x16::x17::x18::x19::x20::x21::x22::x23::x24::x25::x26::x27::x28::x29::x30::x31::x32::x33::x34::x35::x36::x37::x38::x39::x40::x41::x42::x43::x44::x45::x46::x47::x48::x49::x50::x51::x52::x53::x54::x55::x56::x57::x58::x59::x60::x61::x62::x63::x64::x65::x66::x67::x68::x69::x70::x71::x72::x73::x74::x75::x76::x77::r).toArray,[]⟩ w:=by
 have HQ:=hid hQ;clear hQ;conv=>arg 2;whnf
 refine reg (fun w'=>w'.rangeAt g 6 (ec (nd 1)).toList) (fun _=>false) (fun w' hu=>range_of hg (hu.block g hgl)) fun HS HU0 hHeld=>?_;have HCL:=hid hcall;have hc0:(0:Int)<(c:Int):=by omega
 have hwj:IntKind.i64.wrap (j:Int)=(j:Int):=by rw[IntKind.wrap_i64];omega
 clear hg hgl hcall hc;refine t2 0 ?_;refine t2 1 ?_;refine t2 2 ?_;refine t2 3 ?_;refine t2 4 ?_;refine t2 5 ?_;refine t2 6 ?_;refine rd1 7 rfl fun K hK=>?_;go_simp;(with_reducible refine(HCL.out (w.drew) HU0.out).mono ?_);rintro e_ w1 ⟨rfl,hb⟩;have HU1:=tR HU0 hb;clear hb;refine kK hK (HS.out _ HU1.out) fun hHeld=>?_;try simp only[Act.put,fr]
 refine t2 8 ?_;refine t2 9 ?_;refine t2 10 ?_;refine t2 11 ?_;refine t2 12 ?_;refine u2 13 (.pointer (some ⟨g,0,none⟩)) rfl (Or.inl ⟨by rfl,?_⟩) ?_
 · intro w' hSw;go_split_ands;go_simp;try rfl
 try simp only[Act.put,fr]
 refine u2 14 (.pointer (some ⟨g,0,none⟩)) rfl (Or.inl ⟨by rfl,?_⟩) ?_
 · intro w' hSw;go_split_ands;go_simp;try rfl
 try simp only[Act.put,fr]
 refine u2 15 (.pointer (some ⟨g,6,none⟩)) rfl (Or.inl ⟨by rfl,?_⟩) ?_
 · intro w' hSw;go_split_ands;go_simp;try rfl
 try simp only[Act.put,fr]
 refine u2 16 _ rfl (yQ 34 73 g (6) (ec (nd 1)) (fun w h=>h)) ?_;refine rd1 17 rfl fun K hK=>?_;go_simp;(with_reducible refine(show Calls Tryz.prog 12 #[.int .i64 1] (w1) _ from node_any 1 (w1) (by decide)).mono ?_);rintro e_ w2 ⟨rfl,hb⟩;have HU2:=tR HU1 hb;clear hb;refine kK hK (HS.out _ HU2.out) fun hHeld=>?_;try simp only[Act.put,fr]
 refine u2 18 (.bool false) rfl (Or.inl ⟨by rfl,?_⟩) ?_
 · intro w' hSw;go_split_ands;exact run_exec_binOp .neq 34 _ _ _ (by rfl) _ _ _ (by rfl) (by rfl) (gd34n _ _ _ _ _) (neq1 _)
 try simp only[Act.put,fr]
 refine t2 19 ?_;exact dN (HQ.out _ _ _ _ _ _ _ _ _ _ _ _ _ _ _ _ _ _ _ _ HU2.out)
theorem tr_r15 (B:Nat)(w:World)(Q:QT)(hB:At w B (.cells (repc nq) 53))
 (hQ:∀(y86 y87 y88 y89 y90 y91 y92 y93 y94 y95 y96 y97 y98 y99 y100 y101 y102 y103 y104 y105 y106 y107 y108 y109 y110 y111 y112 y113 y114 y115 y116 y117 y118 y119 y120 y121 y122 y123 y124 y125:Value) (w6:World),Below w.heap.size w w6→Q .normal ⟨(x0::x1::x2::x3::x4::x5::.bool true::x7::x8::x9::.pointer (some ⟨B,0,none⟩)::.bool true::x12::x13::x14::x15::x16::x17::x18::x19::x20::x21::x22::x23::x24::x25::x26::x27::x28::x29::x30::x31::x32::x33::x34::x35::x36::x37::x38::x39::x40::x41::x42::x43::x44::x45::x46::x47::x48::x49::x50::x51::x52::x53::x54::x55::x56::x57::x58::x59::x60::x61::x62::x63::x64::x65::x66::x67::x68::x69::x70::x71::x72::x73::x74::x75::x76::x77::x78::x79::x80::x81::x82::x83::x84::x85::y86::y87::y88::y89::y90::y91::y92::y93::y94::y95::y96::y97::y98::y99::y100::y101::y102::y103::y104::y105::y106::y107::y108::y109::y110::y111::y112::y113::y114::y115::y116::y117::y118::y119::y120::y121::y122::y123::y124::y125::[]).toArray,[]⟩ w6):
 Code.wp Tryz.prog (rg Tryz.f4 15) Q ⟨(x0::x1::x2::x3::x4::x5::x6::x7::x8::x9::.pointer (some ⟨B,0,none⟩)::.bool true::x12::x13::x14::x15::x16::x17::x18::x19::x20::x21::x22::x23::x24::x25::x26::x27::x28::x29::x30::x31::x32::x33::x34::x35::x36::x37::x38::x39::x40::x41::x42::x43::x44::x45::x46::x47::x48::x49::x50::x51::x52::x53::x54::x55::x56::x57::x58::x59::x60::x61::x62::x63::x64::x65::x66::x67::x68::x69::x70::x71::x72::x73::x74::x75::x76::x77::x78::x79::x80::x81::x82::x83::x84::x85::x86::x87::x88::x89::x90::x91::x92::x93::x94::x95::x96::x97::x98::x99::x100::x101::x102::x103::x104::x105::x106::x107::x108::x109::x110::x111::x112::x113::x114::x115::x116::x117::x118::x119::x120::x121::x122::x123::x124::x125::[]).toArray,[]⟩ w:=by
 have HQ:=hid hQ;clear hQ;conv=>arg 2;whnf
 refine reg (fun w'=>w'.cell? ⟨B,0,none⟩=some (.bool false)∧w'.cell? ⟨B,1,none⟩=some (.bool true)∧w'.cell? ⟨B,2,none⟩=some (.int .i64 11)∧w'.cell? ⟨B,7,none⟩=some (.int .u64 100)∧w'.cell? ⟨B,8,none⟩=some (.int .u64 0)∧w'.cell? ⟨B,9,none⟩=some (.bool false)∧w'.rangeAt B 3 (ec (nd 0)).toList) (fun _=>false) (fun w' hu=>⟨(nq_cells (hB.kp hu)).1,(nq_cells (hB.kp hu)).2.1,(nq_cells (hB.kp hu)).2.2.1,(nq_cells (hB.kp hu)).2.2.2.1,(nq_cells (hB.kp hu)).2.2.2.2.1,(nq_cells (hB.kp hu)).2.2.2.2.2.1,nq_src0 (hB.kp hu)⟩) fun HS HU0 hHeld=>?_;clear hB;refine t2 0 ?_;refine t2 1 ?_;refine t2 2 ?_;refine t2 3 ?_;refine t2 4 ?_;refine t2 5 ?_;refine t2 6 ?_;refine t2 7 ?_;refine t2 8 ?_;refine t2 9 ?_;refine t2 10 ?_;refine t2 11 ?_;refine t2 12 ?_;refine t2 13 ?_;refine t2 14 ?_;refine t2 15 ?_;refine t2 16 ?_;refine u2 17 (.pointer (some ⟨B,3,none⟩)) rfl (Or.inl ⟨by rfl,?_⟩) ?_
 · intro w' hSw;go_split_ands;go_simp;try rfl
 try simp only[Act.put,fr]
 refine u2 18 _ rfl (yQ 34 103 B (3) (ec (nd 0)) (fun w h=>h.2.2.2.2.2.2)) ?_;refine rd1 19 rfl fun K hK=>?_;go_simp;(with_reducible refine(show Calls Tryz.prog 12 #[.int .i64 0] (w.drew) _ from node_any 0 (w.drew) (by decide)).mono ?_);rintro e_ w1 ⟨rfl,hb⟩;have HU1:=tR HU0 hb;clear hb;refine kK hK (HS.out _ HU1.out) fun hHeld=>?_;try simp only[Act.put,fr]
 refine u2 20 (.bool true) rfl (Or.inl ⟨by rfl,?_⟩) ?_
 · intro w' hSw;go_split_ands;exact run_exec_binOp .eql 34 _ _ _ (by rfl) _ _ _ (by rfl) (by rfl) (guard34 _ _ _ _ _) (eql0 _)
 try simp only[Act.put,fr]
 refine t2 21 ?_;refine t2 22 ?_;refine t2 23 ?_;refine t2 24 ?_;refine t2 25 ?_;refine t2 26 ?_;refine t2 27 ?_;refine t2 28 ?_;refine t2 29 ?_;refine t2 30 ?_;refine t2 31 ?_;refine t2 32 ?_;refine t2 33 ?_;refine t2 34 ?_;refine t2 35 ?_;refine t2 36 ?_;refine t2 37 ?_;refine t2 38 ?_;refine t2 39 ?_;refine t2 40 ?_;exact dN (HQ.out _ _ _ _ _ _ _ _ _ _ _ _ _ _ _ _ _ _ _ _ _ _ _ _ _ _ _ _ _ _ _ _ _ _ _ _ _ _ _ _ _ HU1.out)
theorem tr_long (N LI:Nat)(s:List UInt8)(w:World)(hl:300<s.length):
 Rv 4 #[.int .u8 N,.string (st s),.int .u16 LI] w (.bool true):=by
 have hsz:(300:Int)<((st s).size:Int):=by rw[st_size];omega
 have HAW:=hid (fun u=>awake_any u);generalize st s=T at*;clear hl;have U0:=hid (Below.refl w.heap.size w);go_enter Tryz.func4,Tryz.ntmps4;go_wp2_with fail;refine(HAW.out w).mono ?_;rintro e w_1 ⟨rfl,hb⟩;have U':=tR U0 hb;clear U0;clear hb;go_wp2_with fail;go_wp2_with fail;refine(HAW.out w_1).mono ?_;rintro e w_3 ⟨rfl,hb⟩;replace U':=tR U' hb;clear hb;go_wp2_with fail;go_ret;exact⟨rfl,U'.out⟩
structure Rf (k j LI:Nat) (s:List UInt8):Prop where
 k2:3≤k
 k4:k≤4
 hl:LI≤65535
 hs:s.length≤300
 hj:j=k-1
 hkj:(k:Int)-1=(j:Int)
 j3:(j:Int)≤3
 l0:(LI:Int)<65536
 wj:IntKind.i64.wrap (j:Int)=(j:Int)
 nil:∀(q:Addr) (W:World),(binOp .eql 28 (.pointer (some q)) (.pointer none)).run Tryz.prog W= .ok (.bool false) W
theorem tr_run (N LI:Nat)(s:List UInt8)(w:World)(hN:N<256)(hL:LI<65536)(hs:s.length≤300):
 Rv 4 #[.int .u8 N,.string (st s),.int .u16 LI] w (.bool true):=by
 have hsz:¬(300:Int)<((st s).size:Int):=by rw[st_size];omega
 obtain⟨r,hr⟩:∃r,r=N%2:=⟨_,rfl⟩;have hrem:(N:Int).tmod 2=(r:Int):=by rw[Int.tmod_eq_emod_of_nonneg (by omega)];omega
 obtain⟨k,hk⟩:∃k,k=3+r:=⟨_,rfl⟩;have hkr:(3:Int)+(r:Int)=(k:Int):=by omega
 have hk2:3≤k:=by omega
 have hk4:k≤4:=by omega
 obtain⟨j,hj⟩:∃j,j=k-1:=⟨_,rfl⟩;have hkj:(k:Int)-1=(j:Int):=by omega
 have hj3:(j:Int)≤3:=by omega
 have hr2:(r:Int)<2:=by omega
 have hN0:(N:Int)<256:=by omega
 have HAW:=hid (fun u=>awake_any u);have hnil:∀(q:Addr) (W:World),(binOp .eql 28 (.pointer (some q)) (.pointer none)).run Tryz.prog W= .ok (.bool false) W:=fun q W=>rfl;have HA:Rf k j LI s:=⟨hk2,hk4,by omega,hs,hj,hkj,hj3,by omega,by rw[IntKind.wrap_i64];omega,hnil⟩;clear hr hk hk2 hk4 hj hN hL hs hkj hj3 hnil;have U0:=hid (Below.refl w.heap.size w);go_enter Tryz.func4,Tryz.ntmps4;go_wp2_with fail;refine(HAW.out w).mono ?_;rintro e w_1 ⟨rfl,hb⟩;have U':=tR U0 hb;clear U0;clear hb;clear HAW;have H0:=hid (s0 (k:=k) (by have:=HA.k2;omega) HA.k4 w_1);have H1:=hid (fun WB u h=>s1 (k:=k) (LI:=LI) (s:=s) HA.k2 HA.k4 HA.hl HA.hs (w0:=w_1) (WB:=WB) u h);have H2:=hid (fun WB u h=>s2 (k:=k) (LI:=LI) (s:=s) HA.k2 HA.k4 HA.hl HA.hs (w0:=w_1) (WB:=WB) u h);have H3:=hid (fun WB u h=>s3 (k:=k) (LI:=LI) (s:=s) HA.k2 HA.k4 HA.hl HA.hs (w0:=w_1) (WB:=WB) u h);have H4:=hid (fun WB u h=>s4 (k:=k) (LI:=LI) (s:=s) HA.k2 HA.k4 HA.hl (w0:=w_1) (WB:=WB) u h);have H5:=hid (fun WB u h=>s5 (k:=k) (LI:=LI) (s:=s) HA.k2 HA.k4 HA.hl HA.hs (w0:=w_1) (WB:=WB) u h);have H6:=hid (fun WB u h=>s6 (k:=k) (LI:=LI) HA.k2 HA.k4 (w0:=w_1) (WB:=WB) u h);have H7:=hid (fun WB u h=>s7 (k:=k) (LI:=LI) HA.k2 HA.k4 (w0:=w_1) (WB:=WB) u h);rw[←HA.hj]at H1 H7;generalize st s=T at*;have U1:=hid U'.out;go_wp2_with fail;refine H0.out.mono ?_;rintro e_ v2 ⟨WB,rfl,hq⟩;have HQ0:=hid hq;clear hq;clear hrem hkr hr2 hN0 hsz;have hkj:=HA.hkj;have hj3:=HA.j3;have hwj:=HA.wj;have hL0:=HA.l0;have hnil:=HA.nil;go_wp2_with fail;refine(H1.out WB v2 HQ0.out).mono ?_;rintro e_ v3 ⟨rfl,hq⟩;have HQ1:=hid (H2.out WB v3 hq);clear hq;go_wp2_with (refine wpList_build_to (o:=⟨some 39,_,_,_,_,_⟩) rfl 36 _ rfl (opc 5 0 0 0 0 [] eZ eZ 0 0) (by kernel_rfl) ?_);refine HQ1.out.mono ?_;rintro e_ v4 ⟨rfl,hq⟩;have HQ2:=hid (H3.out WB v4 hq);clear hq;go_wp2_with (refine wpList_build_g (by rfl) 36 _ rfl (opc 2 1 0 0 0 [] eZ eZ 0 0) (by kernel_rfl) ?_);refine HQ2.out.mono ?_;rintro e_ v5 ⟨rfl,hq⟩;have HQ3:=hid (H4.out WB v5 hq);clear hq;go_wp2_with (refine wpList_build_to (o:=⟨some 52,_,_,_,_,_⟩) rfl 36 _ rfl (opc 4 1 0 0 0 [] eZ eZ 0 (LI+1)) (by kernel_rfl) ?_);refine HQ3.out.mono ?_;rintro e_ v6 ⟨rfl,hq⟩;have HQ4:=hid (H5.out WB v6 hq);clear hq;go_wp2_with fail;refine HQ4.out.mono ?_;rintro e_ v7 ⟨rfl,hq⟩;have HQ5:=hid (H6.out WB v7 hq);clear hq;go_wp2_with fail;refine HQ5.out.mono ?_;rintro e_ v8 ⟨g,c,q,kq,rfl,hq5,hrg,hrb,hkq,hc1⟩;have HF:=hid hq5;have HRG:=hid hrg;have HRB:=hid hrb;have HKQ:=hid hkq;have HC1:=hid hc1;clear hq5 hrg hrb hkq hc1 H0 H1 H2 H3 H4 H5 H6 HQ0 HQ1 HQ2 HQ3 HQ4 HQ5 hnil hL0;have UB:=hid (Below.refl v8.heap.size v8);clear hkj hj3 hwj;go_upto_region 12 with(fail);refine ent (C:=rg Tryz.f4 12) (by kernel_rfl) ?_;refine tr_r12 WB k j g c _ _ (bun_src HRG.out) HRG.out.2 HA.hkj HA.j3 HC1.out (fun u hu=>H7.out WB u (HF.out.kp hu)) ?_;intro y58 y59 y60 y61 y62 y63 y64 y65 y66 y67 y68 y69 y70 y71 y72 y73 y74 y75 y76 w9 hb;replace U':=tR UB hb;clear UB;clear hb
 have hrow:w9.rangeAt g 0 (bunc (fR LI).p (.slice (some ⟨q,0,none⟩) 3 kq)).toList:=range_of HRG.out.1 ((U'.out).block g HRG.out.2);have HPC:=hid (show w9.cell? ⟨q,14,none⟩=some (.string (st (enc (ritm nq))))from fR_data (HRB.out.kp U'.out));go_wp2_with (refine lM 43 80 g 0 (bunc (fR LI).p (.slice (some ⟨q,0,none⟩) 3 kq)) hrow Tryz.underlying43 (size43 (cs:=bunc (fR LI).p (.slice (some ⟨q,0,none⟩) 3 kq)) rfl) ?_);refine(pay17 (fR LI).p q kq _ w9 HPC.out HKQ.out).mono ?_;rintro e w_4 ⟨rfl,hb⟩;replace U':=tR U' hb;clear hb hrow;go_wp2_with fail;refine(rparse_nq w_4).mono ?_;rintro e w_6 ⟨rfl,hb⟩;replace U':=tR U' hb;clear hb;have hz53:=zero53;go_upto_region 15 with(refine sV 53 10 84 (repc nq) (size53 rfl) (repc_one _) ?_;intro w_8 hb hk);replace U':=tR U' hb;have P':=hid hk;clear hb hk;clear hz53;refine ent (C:=rg Tryz.f4 15) (by kernel_rfl) ?_;refine tr_r15 (w_6.heap.size) _ _ P'.out ?_;intro y86 y87 y88 y89 y90 y91 y92 y93 y94 y95 y96 y97 y98 y99 y100 y101 y102 y103 y104 y105 y106 y107 y108 y109 y110 y111 y112 y113 y114 y115 y116 y117 y118 y119 y120 y121 y122 y123 y124 y125 w10 hb;replace P':=hid (P'.out.kp hb);replace U':=tR U' hb;clear hb;go_wp2_with fail;go_ret;exact⟨rfl,(U1.out.trans (HF.out.fr.mono U1.out.size)).trans ((U'.out).mono (by have:=HF.out.fr.size;have:=U1.out.size;omega))⟩
end
end Go.Proofs.YtlhlmflacdeafaaGreatDoor
