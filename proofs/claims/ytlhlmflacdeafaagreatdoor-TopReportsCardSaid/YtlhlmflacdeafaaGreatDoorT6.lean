/-
  A part of the walk of TopReports.
-/
import Derived.Test.YtlhlmflacdeafaaGreatDoorT5
import Derived.Deep.QuietTactic
import Derived.BigQuiet
import Derived.Deep.AppendLies
set_option maxRecDepth 100000
set_option maxHeartbeats 4000000
set_option linter.unusedVariables false
set_option linter.unusedSimpArgs false
namespace Go.Proofs.YtlhlmflacdeafaaGreatDoor
section
open Go.RowKit
theorem node_empty (w:World):
 Rv 152 #[.string ⟨#[]⟩] w (.int .i64 0):=by
 go_enter Tryz.func152,Tryz.ntmps152;go_wp2_with (go_in);go_ret;exact⟨rfl,Below.refl _ _⟩
theorem enode_ipn (n m:Nat)(w:World)(hn:n≤4294967295)(hm:m≤4294967295):
 Rv 96 #[.agg (ec ⟨2,[],n,m⟩)] w (.tuple #[.agg (ec ⟨2,[],n,0⟩),.int .i64 0]):=by
 have HB:=hid (And.intro hn hm);clear hn hm;have hz34:=zero34;obtain⟨w1,HE,U0,E',R'⟩:=mH2 w (ec ⟨2,[],n,m⟩) 34 (ec eZ) 34;go_enter Tryz.func96,Tryz.ntmps96;go_upto_region 1 with(fail);rw[←HE.out];clear HE;go_wp2_with (refine lQ 34 1 E'.out ?_);refine(eright_ipn n m _ HB.out.1 HB.out.2).mono ?_;rintro e w_1 ⟨rfl,hb⟩;replace E':=hid (E'.out.kp hb);replace R':=hid (R'.out.kp hb);have U':=tR U0 hb;clear U0;clear hb;go_upto_region 3 with(fail);obtain⟨e0,e1,e2,e3⟩:=ipn_cells E'.out;have f3:=frozen_of_row w_1 w.heap.size 3 _ 34 E'.out;go_upto_region 4 with(fail);clear e0 e1 e2 e3 f3;have hu:=upd_setCell w_1 ⟨w.heap.size,3,none⟩ (.int .u64 0);have he:At (w_1.setCell ⟨w.heap.size,3,none⟩ (.int .u64 0)) (w.heap.size) (.cells (ec ⟨2,[],n,0⟩) 34):=At.setc E'.out 3 _;generalize World.setCell w_1 ⟨w.heap.size,3,none⟩ (.int .u64 0)=w_5 at*;replace E':=hid (he);replace R':=hid (R'.out.upd hu (by show ¬w.heap.size+1=w.heap.size;omega));replace U':=hid (U'.out.trans (hu.below U'.out.size (fun k e=>by have e:k=w.heap.size:=e;omega)));clear hu he;obtain⟨_,e1,_,_⟩:=ipn_cells E'.out;go_wp2_with fail;refine(node_empty w_5).mono ?_;rintro e w_9 ⟨rfl,hb⟩;replace E':=hid (E'.out.kp hb);replace R':=hid (R'.out.kp hb);replace U':=tR U' hb;clear hb;clear e1;go_wp2_with (first|refine sR 34 2 20 (w.heap.size+1) (ec ⟨2,[],n,0⟩) R'.out (size34 rfl) (ec_one _) ?_|refine lQ 34 1 E'.out ?_);have hu9:=upd_setRow w_9 (w.heap.size+1) (ec ⟨2,[],n,0⟩);have hb9:=hu9.below (U'.out).size (fun k e=>by rw[e];first|exact Nat.le_refl _|omega);exact bodyPost_ret (rU ((R'.out).row _)) rfl ⟨rfl,(U'.out).trans (hb9.mono (Nat.le_refl _))⟩
def patc (k:Nat)(e:Eid):Array Value:=#[.int .i64 k,.int .i64 e.k,.string (st e.s),.int .u64 e.n,.int .u64 e.m]
theorem patc_cells {w:World}{b k:Nat}{e:Eid}(h:At w b (.cells (patc k e) 60)):
 w.cell? ⟨b,0,none⟩=some (.int .i64 k)∧w.cell? ⟨b,1,none⟩=some (.int .i64 e.k)∧w.cell? ⟨b,2,none⟩=some (.string (st e.s))∧w.cell? ⟨b,3,none⟩=some (.int .u64 e.n)∧w.cell? ⟨b,4,none⟩=some (.int .u64 e.m):=by
 refine⟨?_,?_,?_,?_,?_⟩<;>(rw[cell_of_row _ _ _ _ 60 (0,0) h];rfl)
theorem pat_cells2 {w:World}{b n m:Nat}(h:At w b (.cells (patc 2 ⟨2,[],n,m⟩) 60)):
 w.cell? ⟨b,0,none⟩=some (.int .i64 2)∧w.cell? ⟨b,1,none⟩=some (.int .i64 2)∧w.cell? ⟨b,2,none⟩=some (.string (st []))∧w.cell? ⟨b,3,none⟩=some (.int .u64 n)∧w.cell? ⟨b,4,none⟩=some (.int .u64 m):=patc_cells h
theorem match_all (n m:Nat)(w:World)(hn:n≤4294967295)(hm:m≤4294967295):
 Rv 111 #[.agg (patc 0 eZ),.agg (ec ⟨2,[],n,m⟩)] w (.bool true):=by
 have HB:=hid (And.intro hn hm);clear hn hm;have hz34:=zero34;obtain⟨w1,HE,U0,P',E'⟩:=mH2 w (patc 0 eZ) 60 (ec ⟨2,[],n,m⟩) 34;go_enter Tryz.func111,Tryz.ntmps111;go_upto_region 1 with(fail);rw[←HE.out];clear HE;go_wp2_with (refine lQ 34 3 E'.out ?_);refine(enode_ipn n m _ HB.out.1 HB.out.2).mono ?_;rintro e w_1 ⟨rfl,hb⟩;replace P':=hid (P'.out.kp hb);replace E':=hid (E'.out.kp hb);have U':=tR U0 hb;clear U0;clear hb;go_upto_region 2 with(refine sV 34 5 12 (ec ⟨2,[],n,0⟩) (size34 rfl) (ec_one _) ?_;intro w_5 hb hk);replace P':=hid (P'.out.kp hb);replace E':=hid (E'.out.kp hb);replace U':=tR U' hb;have O':=hid hk;clear hb hk;obtain⟨p0,_,_,_,_⟩:=patc_cells P'.out;rw[show((0:Nat):Int)=0 from rfl]at p0;go_wp2_with fail;go_ret;exact⟨rfl,U'.out⟩
theorem match_node (n m n2 m2:Nat)(w:World)(hn:n≤4294967295)(hm:m≤4294967295)(hn2:n2≤4294967295)(hm2:m2≤4294967295):
 Rv 111 #[.agg (patc 2 ⟨2,[],n2,m2⟩),.agg (ec ⟨2,[],n,m⟩)] w (.bool (decide (n2=n))):=by
 have HB:=hid (And.intro hn hm);have HC:=hid (And.intro hn2 hm2);clear hn hm hn2 hm2;have hz34:=zero34;obtain⟨w1,HE,U0,P',E'⟩:=mH2 w (patc 2 ⟨2,[],n2,m2⟩) 60 (ec ⟨2,[],n,m⟩) 34;go_enter Tryz.func111,Tryz.ntmps111;go_upto_region 1 with(fail);rw[←HE.out];clear HE;go_wp2_with (refine lQ 34 3 E'.out ?_);refine(enode_ipn n m _ HB.out.1 HB.out.2).mono ?_;rintro e w_1 ⟨rfl,hb⟩;replace P':=hid (P'.out.kp hb);replace E':=hid (E'.out.kp hb);have U':=tR U0 hb;clear U0;clear hb;go_upto_region 2 with(refine sV 34 5 12 (ec ⟨2,[],n,0⟩) (size34 rfl) (ec_one _) ?_;intro w_5 hb hk);replace P':=hid (P'.out.kp hb);replace E':=hid (E'.out.kp hb);replace U':=tR U' hb;have O':=hid hk;clear hb hk;obtain⟨p0,p1,p2,p3,p4⟩:=pat_cells2 P'.out;go_wp2_with fail;refine(enode_ipn n2 m2 _ HC.out.1 HC.out.2).mono ?_;rintro e w_10 ⟨rfl,hb⟩;replace P':=hid (P'.out.kp hb);replace E':=hid (E'.out.kp hb);replace O':=hid (O'.out.kp hb);replace U':=tR U' hb;clear hb;clear p0 p1 p2 p3 p4;go_upto_region 11 with(refine sV 34 7 32 (ec ⟨2,[],n2,0⟩) (size34 rfl) (ec_one _) ?_;intro w_15 hb hk);replace P':=hid (P'.out.kp hb);replace E':=hid (E'.out.kp hb);replace O':=hid (O'.out.kp hb);replace U':=tR U' hb;have N':=hid hk;clear hb hk;obtain⟨x0,x1,x2,x3⟩:=ipn_cells N'.out;obtain⟨y0,y1,y2,y3⟩:=ipn_cells O'.out;by_cases hq:n2=n
 · subst hq;go_wp2_with fail;go_ret;exact⟨by simp,U'.out⟩
 · have hq2:¬(n2:Int)=(n:Int):=by omega
   go_wp2_with fail;go_ret;exact⟨by simp[hq],U'.out⟩
end
section
open Go.RowKit
variable {x0 x2 x3 x4 x5 x6 x7 x8 x9 x10 x11 x12 x13 x14 x15 x16 x17 x18 x19 x20 x21 x22 x23 x24 x25 x26 x27 x28 x29 x30 x31 x32 x33 x34 x35 x36 x37 x38 x39 x40 x41 x42 x43 x44 x45 x46 x47 x48 x49 x50 x51 x52 x53 x54 x55 x56 x57 x58 x59:Value} {r:List Value}
theorem five64 {w:World}{b a0 a1 a2:Nat}(h:At w b (.cells #[.int .u64 a0,.int .u64 a1,.int .u64 a2,.int .u64 0,.int .u64 0] 32))(h0:a0≤1099511627776)(h1:a1≤1099511627776)(h2:a2≤1099511627776)(j:Nat)(hj:j<5):
 ∃v:Nat,w.cell? ⟨b,j,none⟩=some (.int .u64 v)∧v≤1099511627776:=by
 rcases j with _|_|_|_|_|j
 · exact⟨a0,by rw[cell_of_row _ _ _ _ 32 (0,0) h];rfl,h0⟩
 · exact⟨a1,by rw[cell_of_row _ _ _ _ 32 (0,0) h];rfl,h1⟩
 · exact⟨a2,by rw[cell_of_row _ _ _ _ 32 (0,0) h];rfl,h2⟩
 · exact⟨0,by rw[cell_of_row _ _ _ _ 32 (0,0) h];rfl,by decide⟩
 · exact⟨0,by rw[cell_of_row _ _ _ _ 32 (0,0) h];rfl,by decide⟩
 · omega
theorem ranged_any (p:Prim)(h:p.ok)(w:World):
 Rv 326 #[.agg (prc p)] w (.bool true):=by
 have HO:=hid h;obtain⟨w1,HE,U0,P'⟩:=mH1 w (prc p) 40;go_enter Tryz.func326,Tryz.ntmps326;go_upto_region 1 with(fail);rw[←HE.out];clear HE;obtain⟨p0,p1,p2,p3,p4,p5,p6,p7,p8,p9,p10,p11,p12,p13,p14,p15,p16,p17,p18⟩:=prc_cells P'.out;go_upto_region 2 with(fail);have hv:=hid (five64 (heap_new w1 (.cells #[.int .u64 p.time,.int .u64 p.seq,.int .u64 p.life,.int .u64 0,.int .u64 0] 32)) HO.out.time HO.out.seq HO.out.life);have hb:=(Below.refl w1.heap.size w1).alloc (Nat.le_refl _) (.cells #[.int .u64 p.time,.int .u64 p.seq,.int .u64 p.life,.int .u64 0,.int .u64 0] 32);have P2:=hid (P'.out.kp hb);have U2:=hid ((U0.out).trans (hb.mono (U0.out).size));clear p0 p1 p2 p3 p4 p5 p6 p7 p8 p9 p10 p11 p12 p13 p14 p15 p16 p17 p18 hb;generalize hW:World.alloc w1 _=w2 at*;clear hW;go_loopw [17] (fun i wr=>∃j:Nat,j≤5∧i= .int .i64 j∧wr=w2) (fun i _=>5-(intOf i).toNat);case atStart=>exact⟨0,by omega,rfl,rfl⟩
 case round=>
  obtain⟨j,hj,rfl,rfl⟩:=hrel;by_cases hj5:j<5
  · obtain⟨v,hc,hv9⟩:=hv.out j hj5;have hv0:(v:Int)≤1099511627776:=by omega
    have hj0:(j:Int)<5:=by omega
    clear hv9;go_wp2_with fail;go_roundw;case rel=>exact⟨j+1,by omega,by go_num,by trivial⟩
    case measure=>simp[intOf];omega
  · have h5:j=5:=by omega
    subst h5;go_upto_region 7 with(fail);obtain⟨p0,p1,p2,p3,p4,p5,p6,p7,p8,p9,p10,p11,p12,p13,p14,p15,p16,p17,p18⟩:=prc_cells P2.out;go_wp2_with fail;refine(eright_any p.dst _ (ipn_ok HO.out.dst)).mono ?_;rintro e w_1 ⟨rfl,hb⟩;replace P':=hid (P2.out.kp hb);have U':=tR U2 hb;clear P2 U2;clear hb p0 p1 p2 p3 p4 p5 p6 p7 p8 p9 p10 p11 p12 p13 p14 p15 p16 p17 p18;obtain⟨p0,p1,p2,p3,p4,p5,p6,p7,p8,p9,p10,p11,p12,p13,p14,p15,p16,p17,p18⟩:=prc_cells P'.out;go_wp2_with fail;refine(eright_any p.src _ (ipn_ok HO.out.src)).mono ?_;rintro e w_4 ⟨rfl,hb⟩;replace P':=hid (P'.out.kp hb);replace U':=tR U' hb;clear hb p0 p1 p2 p3 p4 p5 p6 p7 p8 p9 p10 p11 p12 p13 p14 p15 p16 p17 p18;obtain⟨p0,p1,p2,p3,p4,p5,p6,p7,p8,p9,p10,p11,p12,p13,p14,p15,p16,p17,p18⟩:=prc_cells P'.out;go_wp2_with fail;refine(eright_any p.rpt _ HO.out.rpt).mono ?_;rintro e w_7 ⟨rfl,hb⟩;replace P':=hid (P'.out.kp hb);replace U':=tR U' hb;clear hb p0 p1 p2 p3 p4 p5 p6 p7 p8 p9 p10 p11 p12 p13 p14 p15 p16 p17 p18;obtain⟨p0,p1,p2,p3,p4,p5,p6,p7,p8,p9,p10,p11,p12,p13,p14,p15,p16,p17,p18⟩:=prc_cells P'.out;have hfl:(p.flags:Int)<2097152:=by have:=HO.out.kind;omega
    have hcr:(p.crc:Int)≤2:=by have:=HO.out.kind;omega
    have hcr0:(0:Int)≤(p.crc:Int):=by omega
    go_wp2_with fail;go_ret;exact⟨rfl,U'.out⟩
theorem pright_r (P n m:Nat)(w:World)(Q:QT)(p6:w.cell? ⟨P,6,none⟩=some (.int .i64 2))(p7:w.cell? ⟨P,7,none⟩=some (.string ⟨#[]⟩))(p8:w.cell? ⟨P,8,none⟩=some (.int .u64 n))(p9:w.cell? ⟨P,9,none⟩=some (.int .u64 m))
 (hQ:∀(y47 y48 y49 y50 y51 y52 y53 y54 y55 y56 y57 y58 y59:Value) (w6:World),Below w.heap.size w w6→Q .normal ⟨(x0::.pointer (some ⟨P,0,none⟩)::x2::x3::x4::x5::x6::x7::x8::x9::x10::x11::x12::x13::x14::x15::x16::x17::x18::x19::x20::x21::x22::x23::x24::x25::x26::x27::x28::x29::x30::x31::x32::x33::x34::x35::x36::x37::x38::x39::x40::x41::x42::x43::x44::x45::.bool false::y47::y48::y49::y50::y51::y52::y53::y54::y55::y56::y57::y58::y59::r).toArray,[]⟩ w6):
 Code.wp Tryz.prog (rg Tryz.f245 9) Q ⟨(x0::.pointer (some ⟨P,0,none⟩)::x2::x3::x4::x5::x6::x7::x8::x9::x10::x11::x12::x13::x14::x15::x16::x17::x18::x19::x20::x21::x22::x23::x24::x25::x26::x27::x28::x29::x30::x31::x32::x33::x34::x35::x36::x37::x38::x39::x40::x41::x42::x43::x44::x45::x46::x47::x48::x49::x50::x51::x52::x53::x54::x55::x56::x57::x58::x59::r).toArray,[]⟩ w:=by
 have HQ:=hid hQ;clear hQ;conv=>arg 2;whnf
 refine reg (fun w'=>w'.cell? ⟨P,6,none⟩=some (.int .i64 2)∧w'.cell? ⟨P,7,none⟩=some (.string ⟨#[]⟩)∧w'.cell? ⟨P,8,none⟩=some (.int .u64 n)∧w'.cell? ⟨P,9,none⟩=some (.int .u64 m)) (fun _=>false) (fun w' hu=>⟨(upd_of_below (S:=fun _=>False) hu).cell p6 (fun h=>h),(upd_of_below (S:=fun _=>False) hu).cell p7 (fun h=>h),(upd_of_below (S:=fun _=>False) hu).cell p8 (fun h=>h),(upd_of_below (S:=fun _=>False) hu).cell p9 (fun h=>h)⟩) fun HS HU0 hHeld=>?_;clear p6 p7 p8 p9;refine t2 0 ?_;refine t2 1 ?_;refine rd1 2 rfl fun K hK=>?_;go_simp;(with_reducible refine(none_any _).mono ?_);rintro e w1 ⟨rfl,hb⟩;have HU1:=tR HU0 hb;clear hb;refine kK hK (HS.out _ HU1.out) fun hHeld=>?_;try simp only[Act.put,fr]
 refine t2 3 ?_;refine t2 4 ?_;refine u2 5 undef rfl (Or.inr ⟨by rfl,rfl⟩) ?_;refine u2 6 undef rfl (Or.inr ⟨by rfl,rfl⟩) ?_;refine u2 7 undef rfl (Or.inr ⟨by rfl,rfl⟩) ?_;refine u2 8 undef rfl (Or.inr ⟨by rfl,rfl⟩) ?_;refine u2 9 undef rfl (Or.inr ⟨by rfl,rfl⟩) ?_;refine u2 10 undef rfl (Or.inr ⟨by rfl,rfl⟩) ?_;refine u2 11 undef rfl (Or.inr ⟨by rfl,rfl⟩) ?_;refine t2 12 ?_;refine t2 13 ?_;exact dN (HQ.out _ _ _ _ _ _ _ _ _ _ _ _ _ _ HU1.out)
theorem pright_any (p:Prim)(h:p.ok)(w:World):
 Rv 245 #[.agg (prc p)] w (.int .i64 0):=by
 have HO:=hid h;have hn3:=none_any;obtain⟨w1,HE,U0,P'⟩:=mH1 w (prc p) 40;go_enter Tryz.func245,Tryz.ntmps245;go_upto_region 1 with(fail);rw[←HE.out];clear HE;obtain⟨p0,_,_,p3,_,_,_,_,_,_,_,_,_,_,_,_,_,_,_⟩:=prc_cells P'.out;obtain⟨n,m,hs,hn,hm⟩:=ipn_form h.src;rcases h.kind with⟨hf,_⟩|⟨hf,_⟩|⟨hf,_⟩
 all_goals(rw[hf]at p0)
 all_goals
  clear hn hm hn3
  go_quiet (fail)
  have hb:Below w1.heap.size w1 (w1.drewN nq):=⟨rfl,rfl,rfl,Nat.le_refl _,fun _ _=>rfl⟩
  have P2:=hid (show At (w1.drewN nq) _ _ from P'.out)
  have U2:=hid (show Below w.heap.size w (w1.drewN nq)from U0.out.trans (hb.mono U0.out.size))
  generalize w1.drewN nq=w2 at*
  clear hb p0 p3 P' U0
  go_wp2_with (refine lQ 40 1 P2.out ?_)
  refine(ranged_any p HO.out _).mono ?_
  rintro e w3 ⟨rfl,hb⟩
  have P3:=hid (P2.out.kp hb)
  have U3:=tR U2 hb
  clear hb P2 U2
  obtain⟨p0,_,_,_,_,_,p6,p7,p8,p9,_,_,_,_,_,_,_,p17,p18⟩:=prc_cells P3.out
  rw[hf]at p0
  rw[hs]at p6 p7 p8 p9
  go_upto_region 9 with(fail)
  refine ent (C:=rg Tryz.f245 9) (by kernel_rfl) ?_
  refine pright_r w.heap.size n m _ _ p6 p7 p8 p9 ?_
  intro y47 y48 y49 y50 y51 y52 y53 y54 y55 y56 y57 y58 y59 w6 hb
  have U6:=tR U3 hb
  have P6:=hid (P3.out.kp hb)
  clear hb p0 p6 p7 p8 p9 p17 p18
  obtain⟨p0,_,_,_,_,_,_,_,_,_,_,_,_,_,_,_,_,_,_⟩:=prc_cells P6.out
  rw[hf]at p0
  go_wp2_with fail
  go_ret
  exact⟨rfl,U6.out⟩
end
section
open Go.RowKit
theorem repeat2 (w:World):Calls Tryz.prog 242 #[.string ⟨#[0]⟩,.int .i64 2] w fun e w'=>e= .returned (.string (st [0,0]))∧Below w.heap.size w w':=
 Tryz.strings_Repeat ⟨#[0]⟩ 2 w (by decide) (by decide)
theorem repeat0 (w:World):Calls Tryz.prog 242 #[.string ⟨#[0]⟩,.int .i64 0] w fun e w'=>e= .returned (.string (st []))∧Below w.heap.size w w':=
 (Tryz.strings_Repeat_zero ⟨#[0]⟩ w).mono fun e w' ⟨h1,h2⟩=>⟨h1,h2▸Below.refl _ _⟩
theorem there_of_row {w:World}{g m:Nat}{cs:Array Value}{t:TypeId}(h:w.heap[g]? =some (.cells cs t (0,0)))(hm:m≤cs.size):w.there g 0 m:=fun j hj=>by
 rw[Nat.zero_add];exact⟨by rw[cell_of_row w g j cs t (0,0) h,Array.getElem?_eq_getElem (by omega)];rfl,frozen_of_row w g j cs t h⟩
theorem own_parts {w:World}{base e size n:Nat}{v:Value}{xs:List Value}(h:w.ownsRow base e size v n xs)(hv:v≠nS):
 ∃g cap,v= .slice (some ⟨g,0,none⟩) n cap∧base≤g∧g<w.heap.size∧n≤cap∧cap≤maxLen∧w.rangeAt g 0 xs∧w.there g 0 (n*size):=by
 rcases h.2 with⟨h2,_⟩|⟨g,cap,cur,hv2,h3,h4,h5,h6,h7,h8⟩
 · exact absurd h2 hv
 · refine⟨g,cap,hv2,h3,heap_lt h4,h5,h6,?_,there_of_row h4 (by rw[h7];exact Nat.mul_le_mul_right _ h5)⟩;subst hv2;exact row_range h
theorem clone_items (b off n c:Nat)(news:List Value)(w:World)(hl:news.length=n*5)(hn:n≤100000)(hr:w.rangeAt b off news)(h1:∀u∈news,u.oneCell'=true):
 Calls Tryz.prog 241 #[.slice (some ⟨b,off,none⟩) n c] w fun e w'=>∃g cap,e= .returned (.slice (some ⟨g,0,none⟩) n cap)∧w.heap.size≤g∧g<w'.heap.size∧n≤cap∧cap≤maxLen∧w'.rangeAt g 0 news∧w'.there g 0 (n*5)∧Below w.heap.size w w':=by
 obtain⟨i0,hi,hz0,hz1,hz2⟩:=info_parts info93;refine(AnyE.slices_Clone Tryz.laysCl241 i0 _ 5 64 hi hz0 hz1 hz2 rfl (by decide) Tryz.sizeOf93 b off n c news w hl (by unfold maxLen;omega) (by omega) (fun j u hj=>hr j u hj) h1).mono ?_;rintro e w' ⟨v,rfl,h2,h3,h4⟩;obtain⟨g,cap,rfl,h5,h6,h7,h8,h9,h10⟩:=own_parts h2 h3;exact⟨g,cap,rfl,h5,h6,h7,h8,h9,h10,h4⟩
theorem info136:(Tryz.prog.info? 136).map (fun i=>(i.zero,i.size,i.bytes))=some (some (.agg (blc kZ)),5,48):=by kernel_rfl
def dd (h:Nat):Array Value:=ic 4 0 [] (.slice (some ⟨h,0,none⟩) 2 2) false
def KS (lo hi:Nat)(w:World)(F:World→Prop):Prop:=hi≤w.heap.size∧Keeps lo hi w F
theorem KS.kp {lo hi:Nat}{w w':World}{F:World→Prop}(h:KS lo hi w F)(hb:Below w.heap.size w w'):KS lo hi w' F:=
 ⟨Nat.le_trans h.1 hb.size,h.2.upd (upd_of_below (S:=fun _=>False) hb) h.1 (fun _ _ _ h=>h)⟩
theorem KS.upd {lo hi:Nat}{w w':World}{F:World→Prop}{S:Nat→Prop}(h:KS lo hi w F)(hu:Upd S w w')(hn:∀k,lo≤k→k<hi→¬S k):KS lo hi w' F:=⟨Nat.le_trans h.1 hu.size,h.2.upd hu h.1 hn⟩
theorem KS.here {lo hi:Nat}{w:World}{F:World→Prop}(h:KS lo hi w F):F w:=h.2.here
theorem kid_any {B H g:Nat}{w:World}{c:Array Value}{x:Itm}(hB:B≤H)(h:∀w,IsI w c x):∃lo hi,B≤lo∧hi≤H∧¬(lo≤g∧g<hi)∧Keeps lo hi w fun w'=>IsI w' c x:=
 ⟨B,B,Nat.le_refl _,hB,by omega,keeps_all h⟩
theorem isI_num (n:Nat)(w:World):IsI w (ic 0 n [] nS false) (.num n):=by rw[IsI]
theorem isI_str (s:List UInt8)(w:World):IsI w (ic 2 0 s nS false) (.str s):=by rw[IsI]
end
section
open Go.RowKit
theorem upd_setCells (b:Nat):∀(vs:List Value) (o:Nat) (w:World),Upd (·=b) w (w.setCells b o vs)
 | [],_,w=>Upd.refl _ w
 |v::r,o,w=>(upd_setCell w ⟨b,o,none⟩ v).trans (upd_setCells b r (o+1) _)
theorem range_heap {w w':World}(hu:∀k,k<w.heap.size→w'.heap[k]? =w.heap[k]?){b o:Nat}{cs:List Value}(h:w.rangeAt b o cs)(hn:b<w.heap.size):w'.rangeAt b o cs:=range_of h (hu b hn)
mutual
theorem IsI.same {w w':World}(hu:∀k,k<w.heap.size→w'.heap[k]? =w.heap[k]?):∀(x:Itm) (cs:Array Value),IsI w cs x→IsI w' cs x
 | .num _,_,h=>h
 | .str _,_,h=>h
 | .txt _,_,h=>h
 | .arr o l,cs,h=>by
  rw[IsI]at h ⊢;obtain⟨a,cap,h1,h2,h3⟩:=h;refine⟨a,cap,h1,h2,h3.imp (fun h=>h) ?_⟩;rintro⟨b,off,h4,h5⟩;exact⟨b,off,h4,IsL.same hu l b off h5⟩
theorem IsL.same {w w':World}(hu:∀k,k<w.heap.size→w'.heap[k]? =w.heap[k]?):∀(l:List Itm) (b off:Nat),IsL w b off l→IsL w' b off l
 | [],_,_,_=>trivial
 |x::r,b,off,h=>by
  rw[IsL]at h ⊢;obtain⟨⟨cs,h1,h2,h3⟩,h4⟩:=h;exact⟨⟨cs,h1,range_heap hu h2 (range_lt h2 (by simp;omega)),IsI.same hu x cs h3⟩,IsL.same hu r b (off+5) h4⟩
end
def KK (lo hi:Nat)(w:World):List (Array Value)→List Itm→Prop
 | [],[]=>True
 |c::cs,x::l=>c.size=5∧c.all (·.oneCell')=true∧Keeps lo hi w (fun w2=>IsI w2 c x)∧KK lo hi w cs l
 |_,_=>False
section
variable {lo hi:Nat} {w w':World}
theorem KK.kd:∀{css:List (Array Value)} {l:List Itm},KK lo hi w css l→Kd w css l
 | [],[],_=>trivial
 |_::_,_::_,⟨h1,_,h3,h4⟩=>⟨h1,h3.here,h4.kd⟩
 | [],_::_,h=>h.elim
 |_::_,[],h=>h.elim
theorem KK.upd {S:Nat→Prop}(hu:Upd S w w')(hs:hi≤w.heap.size)(hn:∀k,lo≤k→k<hi→¬S k):∀{css:List (Array Value)} {l:List Itm},KK lo hi w css l→KK lo hi w' css l
 | [],[],_=>trivial
 |_::_,_::_,⟨h1,h2,h3,h4⟩=>⟨h1,h2,h3.upd hu hs hn,KK.upd hu hs hn h4⟩
 | [],_::_,h=>h.elim
 |_::_,[],h=>h.elim
theorem KK.wide {lo2 hi2:Nat}(a:lo2≤lo)(b:hi≤hi2):∀{css:List (Array Value)} {l:List Itm},KK lo hi w css l→KK lo2 hi2 w css l
 | [],[],_=>trivial
 |_::_,_::_,⟨h1,h2,h3,h4⟩=>⟨h1,h2,h3.wide a b,KK.wide a b h4⟩
 | [],_::_,h=>h.elim
 |_::_,[],h=>h.elim
theorem KK.snoc:∀{css:List (Array Value)} {l:List Itm} {c:Array Value} {x:Itm},KK lo hi w css l→c.size=5→c.all (·.oneCell')=true→Keeps lo hi w (fun w2=>IsI w2 c x)→KK lo hi w (css++[c]) (l++[x])
 | [],[],_,_,_,a,b,c=>⟨a,b,c,trivial⟩
 |_::_,_::_,_,_,⟨h1,h2,h3,h4⟩,a,b,c=>⟨h1,h2,h3,h4.snoc a b c⟩
 | [],_::_,_,_,h,_,_,_=>h.elim
 |_::_,[],_,_,h,_,_,_=>h.elim
theorem KK.unsnoc:∀{css:List (Array Value)} {l:List Itm} {x:Itm},KK lo hi w css (l++[x])→∃cs c,css=cs++[c]∧c.size=5∧KK lo hi w cs l
 | [],[],_,h=>h.elim
 | [],_::_,_,h=>h.elim
 | [c],[],_,⟨h1,_,_,_⟩=>⟨[],c,rfl,h1,trivial⟩
 |_::_::_,[],_,⟨_,_,_,h⟩=>h.elim
 |c::css,_::l,x,⟨h1,h2,h3,h4⟩=>by
  obtain⟨cs,d,rfl,h5,h6⟩:=KK.unsnoc (css:=css) (l:=l) (x:=x) h4;exact⟨c::cs,d,rfl,h5,h1,h2,h3,h6⟩
theorem KK.len:∀{css:List (Array Value)} {l:List Itm},KK lo hi w css l→css.length=l.length
 | [],[],_=>rfl
 |_::_,_::_,⟨_,_,_,h⟩=>by simp[h.len]
 | [],_::_,h=>h.elim
 |_::_,[],h=>h.elim
theorem KK.flat:∀{css:List (Array Value)} {l:List Itm},KK lo hi w css l→(css.flatMap (·.toList)).length=l.length*5
 | [],[],_=>rfl
 |_::_,_::_,⟨h1,_,_,h⟩=>by rw[List.flatMap_cons,List.length_append,h.flat];simp[h1];omega
 | [],_::_,h=>h.elim
 |_::_,[],h=>h.elim
theorem KK.one:∀{css:List (Array Value)} {l:List Itm},KK lo hi w css l→∀u∈css.flatMap (·.toList),u.oneCell'=true
 | [],[],_=>by simp
 |_::_,_::_,⟨_,h2,_,h⟩=>fun u hu=>by
  rw[List.flatMap_cons,List.mem_append]at hu;rcases hu with hu|hu
  · exact all_one h2 u hu
  · exact h.one u hu
 | [],_::_,h=>h.elim
 |_::_,[],h=>h.elim
theorem KK.isI {css:List (Array Value)}{l:List Itm}{g off n cap:Nat}{o:Bool}(h:KK lo hi w css l)(hr:w.rangeAt g off (css.flatMap (·.toList)))(hn:n=l.length)(hc:n≤cap):IsI w (ic 4 0 [] (.slice (some ⟨g,off,none⟩) n cap) o) (.arr o l):=by
 rw[IsI];exact⟨_,cap,by rw[hn],by omega,.inr ⟨g,off,rfl,h.kd.isL off hr⟩⟩
theorem Kids.kk {B H g lo hi:Nat}{w:World}(a:lo≤B)(b:H≤hi):∀{css:List (Array Value)} {l:List Itm},Kids B H g w css l→KK lo hi w css l
 | [],[],_=>trivial
 |_::_,_::_,⟨h1,h2,⟨_,_,h3,h4,_,h5⟩,h6⟩=>⟨h1,h2,h5.wide (by omega) (by omega),Kids.kk a b h6⟩
 | [],_::_,h=>h.elim
 |_::_,[],h=>h.elim
end
theorem kk_of_isL {w:World}{b:Nat}:∀(l:List Itm) (off:Nat),IsL w b off l→∃css,w.rangeAt b off (css.flatMap (·.toList))∧KK 0 w.heap.size w css l
 | [],_,_=>⟨[],fun j v hj=>by simp at hj,trivial⟩
 |x::r,off,h=>by
  rw[IsL]at h;obtain⟨⟨cs,h1,h2,h3⟩,h4⟩:=h;obtain⟨css,h5,h6⟩:=kk_of_isL r (off+5) h4;refine⟨cs::css,fun j v hj=>?_,h1,?_,fun w2 hw=>IsI.same (fun k hk=>hw k (by omega) hk) x cs h3,h6⟩
  · rw[List.flatMap_cons]at hj;rcases Nat.lt_or_ge j 5 with h|h
    · rw[List.getElem?_append_left (by simp[h1,h])]at hj;exact h2 j v hj
    · rw[List.getElem?_append_right (by simp[h1,h])]at hj;have:=h5 (j-5) v (by simpa[h1]using hj);rw[show off+5+(j-5)=off+j by omega]at this;exact this
  · obtain⟨k,n,s,a,c,m,o,rfl⟩:=h3.form;exact ic_one ..
theorem kk_of_isI {w:World}{cs:Array Value}{o:Bool}{l:List Itm}(h:IsI w cs (.arr o l))(hl:l≠[]):∃b off cap css,cs=ic 4 0 [] (.slice (some ⟨b,off,none⟩) l.length cap) o∧l.length≤cap∧w.rangeAt b off (css.flatMap (·.toList))∧KK 0 w.heap.size w css l:=by
 rw[IsI]at h;obtain⟨a,cap,h1,h2,h3⟩:=h;obtain⟨b,off,rfl,h4⟩:=h3.resolve_left hl;obtain⟨css,h5,h6⟩:=kk_of_isL l off h4;exact⟨b,off,cap,css,h1,h2,h5,h6⟩
theorem range_app {w:World}{b o:Nat}{xs ys:List Value}(h1:w.rangeAt b o xs)(h2:w.rangeAt b (o+xs.length) ys):w.rangeAt b o (xs++ys):=fun j v hj=>by
 rcases Nat.lt_or_ge j xs.length with h|h
 · rw[List.getElem?_append_left h]at hj;exact h1 j v hj
 · rw[List.getElem?_append_right h]at hj;have:=h2 (j-xs.length) v hj;rw[show o+xs.length+(j-xs.length)=o+j by omega]at this;exact this
theorem range_left {w:World}{b o:Nat}{xs ys:List Value}(h:w.rangeAt b o (xs++ys)):w.rangeAt b o xs:=fun j v hj=>h j v (by rw[List.getElem?_append_left (List.getElem?_eq_some_iff.1 hj).1];exact hj)
theorem last_set {w:World}{g n:Nat}{cs:List (Array Value)}{c d:Array Value}(hr:w.rangeAt g 0 ((cs++[c]).flatMap (·.toList)))(ht:w.there g 0 (n*5))(hn:(cs.flatMap (·.toList)).length=(n-1)*5)(h1:1≤n)(hd:d.size=5):
 (w.setCells g ((n-1)*5) d.toList).rangeAt g 0 ((cs++[d]).flatMap (·.toList)):=by
 rw[List.flatMap_append]at hr ⊢;refine range_app (World.rangeAt_setCells_apart (range_left hr) g _ _ (.inr (.inl (by omega)))) ?_;rw[Nat.zero_add,hn];simp only[List.flatMap_cons,List.flatMap_nil,List.append_nil];refine World.rangeAt_setCells_same w g _ _ fun j hj=>?_;have:=ht ((n-1)*5+j) (by simp[hd]at hj;omega);rw[Nat.zero_add]at this;exact this
theorem there_last {w:World}{g n:Nat}(ht:w.there g 0 (n*5))(h1:1≤n):w.there g ((n-1)*5) 5:=fun j hj=>by
 have:=ht ((n-1)*5+j) (by omega);rw[Nat.zero_add]at this;exact this
def RG (w:World)(g:Nat)(xs:List Value):Prop:=w.rangeAt g 0 xs∧g<w.heap.size
theorem RG.kp {w w':World}{g:Nat}{xs:List Value}(h:RG w g xs)(hb:Below w.heap.size w w'):RG w' g xs:=⟨range_of h.1 (hb.block g h.2),Nat.lt_of_lt_of_le h.2 hb.size⟩
def RT (w:World)(g n:Nat)(xs:List Value):Prop:=w.rangeAt g 0 xs∧w.there g 0 (n*5)∧g<w.heap.size
theorem RT.kp {w w':World}{g n:Nat}{xs:List Value}(h:RT w g n xs)(hb:Below w.heap.size w w'):RT w' g n xs:=by
 have hbl:=hb.block g h.2.2;refine⟨range_of h.1 hbl,fun j hj=>?_,Nat.lt_of_lt_of_le h.2.2 hb.size⟩;have:=h.2.1 j hj;exact⟨by rw[World.cell?_of_block (w:=w) (a:=⟨g,0+j,none⟩) hbl];exact this.1,by rw[World.frozen?_of_block (w:=w) (a:=⟨g,0+j,none⟩) hbl];exact this.2⟩
end
section
open Go.RowKit
variable {x0 x1 x3 x4 x6 x8 x10 x11 x12 x13 x14 x15 x16 x17 x18 x19 x20 x21 x22 x23 x24 x25 x26 x27 x28 x29 x30 x31 x32 x33 x34 x35 x36 x37 x38 x39 x40 x41 x42 x43 x44 x45 x46 x47 x48 x49 x50 x51 x52:Value} {r:List Value}
def parts8 (a b h1 h2 h3 g c:Nat):Array Value:=[.int .i64 0,.int .u64 7,.string (st []),nS,.bool false,.int .i64 0,.int .u64 a,.string (st []),nS,.bool false,.int .i64 0,.int .u64 b,.string (st []),nS,.bool false,.int .i64 4,.int .u64 0,.string (st []),.slice (some ⟨h1,0,none⟩) 2 2,.bool false,.int .i64 4,.int .u64 0,.string (st []),.slice (some ⟨h2,0,none⟩) 2 2,.bool false,.int .i64 4,.int .u64 0,.string (st []),.slice (some ⟨h3,0,none⟩) 2 2,.bool false,.int .i64 4,.int .u64 0,.string (st []),.slice (some ⟨g,0,none⟩) 2 2,.bool false,.int .i64 0,.int .u64 c,.string (st []),nS,.bool false].toArray
theorem parts_r (P D1 D2 D3 h1 h2 h3:Nat)(p:Prim)(w:World)(Q:QT)(hc:p.crc≤1)(q0:w.cell? ⟨P,0,none⟩=some (.int .u64 p.flags))(q1:w.cell? ⟨P,1,none⟩=some (.int .i64 p.crc))(q2:w.cell? ⟨P,14,none⟩=some (.int .u64 p.time))(q3:w.cell? ⟨P,15,none⟩=some (.int .u64 p.seq))(q4:w.cell? ⟨P,16,none⟩=some (.int .u64 p.life))(q5:w.rangeAt D1 0 (dd h1).toList)(q6:w.rangeAt D2 0 (dd h2).toList)(q7:w.rangeAt D3 0 (dd h3).toList)
 (hQ:∀(y30 y31 y32 y33 y34 y35 y36 y37 y38 y39 y40 y41 y42 y43 y44 y45 y46 y47 y48 y49 y50 y51 y52:Value) (g h:Nat) (w6:World),Below w.heap.size w w6→w.heap.size≤g→g<h→At w6 g (.cells #[.int .i64 0,.int .u64 p.time,.string (st []),nS,.bool false,.int .i64 0,.int .u64 p.seq,.string (st []),nS,.bool false] 93)→At w6 h (.cells (parts8 p.flags p.crc h1 h2 h3 (g) p.life) 93)→Q .normal ⟨(x0::x1::.pointer (some ⟨P,0,none⟩)::x3::x4::.pointer (some ⟨D1,0,none⟩)::x6::.pointer (some ⟨D2,0,none⟩)::x8::.pointer (some ⟨D3,0,none⟩)::x10::.slice (some ⟨h,0,none⟩) 8 8::x12::x13::x14::x15::x16::x17::x18::x19::x20::x21::x22::x23::x24::x25::x26::x27::x28::x29::y30::y31::y32::y33::y34::y35::y36::y37::y38::y39::y40::y41::y42::y43::y44::y45::y46::y47::y48::y49::y50::y51::y52::r).toArray,[]⟩ w6):
 Code.wp Tryz.prog (rg Tryz.f394 4) Q ⟨(x0::x1::.pointer (some ⟨P,0,none⟩)::x3::x4::.pointer (some ⟨D1,0,none⟩)::x6::.pointer (some ⟨D2,0,none⟩)::x8::.pointer (some ⟨D3,0,none⟩)::x10::x11::x12::x13::x14::x15::x16::x17::x18::x19::x20::x21::x22::x23::x24::x25::x26::x27::x28::x29::x30::x31::x32::x33::x34::x35::x36::x37::x38::x39::x40::x41::x42::x43::x44::x45::x46::x47::x48::x49::x50::x51::x52::r).toArray,[]⟩ w:=by
 have HQ:=hid hQ;clear hQ;conv=>arg 2;whnf
 refine reg (fun w'=>w'.cell? ⟨P,0,none⟩=some (.int .u64 p.flags)∧w'.cell? ⟨P,1,none⟩=some (.int .i64 p.crc)∧w'.cell? ⟨P,14,none⟩=some (.int .u64 p.time)∧w'.cell? ⟨P,15,none⟩=some (.int .u64 p.seq)∧w'.cell? ⟨P,16,none⟩=some (.int .u64 p.life)∧w'.rangeAt D1 0 (dd h1).toList∧w'.rangeAt D2 0 (dd h2).toList∧w'.rangeAt D3 0 (dd h3).toList) (fun _=>false) (fun w' hu=>⟨(upd_of_below (S:=fun _=>False) hu).cell q0 (fun h=>h),(upd_of_below (S:=fun _=>False) hu).cell q1 (fun h=>h),(upd_of_below (S:=fun _=>False) hu).cell q2 (fun h=>h),(upd_of_below (S:=fun _=>False) hu).cell q3 (fun h=>h),(upd_of_below (S:=fun _=>False) hu).cell q4 (fun h=>h),range_keep hu q5 (range_lt q5 (by simp[dd,ic])),range_keep hu q6 (range_lt q6 (by simp[dd,ic])),range_keep hu q7 (range_lt q7 (by simp[dd,ic]))⟩) fun HS HU0 hHeld=>?_;clear q0 q1 q2 q3 q4 q5 q6 q7;have hwr:IntKind.u64.wrap (p.crc:Int)=(p.crc:Int):=by rw[IntKind.wrap_u64];omega
 refine t2 1 ?_;refine t2 2 ?_;refine t2 4 ?_;refine t2 5 ?_;refine t2 6 ?_;refine u2 8 _ rfl (yQ 93 5 D1 (0) (dd h1) (fun w h=>h.2.2.2.2.2.1)) ?_;refine u2 9 _ rfl (yQ 93 7 D2 (0) (dd h2) (fun w h=>h.2.2.2.2.2.2.1)) ?_;refine u2 10 _ rfl (yQ 93 9 D3 (0) (dd h3) (fun w h=>h.2.2.2.2.2.2.2)) ?_;refine t2 11 ?_;refine t2 12 ?_;refine t2 14 ?_;refine t2 15 ?_;refine t2 19 ?_;refine t2 20 ?_;refine rd1 0 rfl fun K hK=>?_;go_simp;(with_reducible refine(num_lit7 _).mono ?_);rintro e w1 ⟨rfl,hb⟩;have HU1:=tR HU0 hb;clear hb;refine kK hK (HS.out _ HU1.out) fun hHeld=>?_;try simp only[Act.put,fr]
 refine rd1 3 rfl fun K hK=>?_;go_simp;(with_reducible refine(num_any p.flags _).mono ?_);rintro e w2 ⟨rfl,hb⟩;have HU2:=tR HU1 hb;clear hb;refine kK hK (HS.out _ HU2.out) fun hHeld=>?_;try simp only[Act.put,fr]
 refine rd1 7 rfl fun K hK=>?_;go_simp;(with_reducible refine(num_any p.crc _).mono ?_);rintro e w3 ⟨rfl,hb⟩;have HU3:=tR HU2 hb;clear hb;refine kK hK (HS.out _ HU3.out) fun hHeld=>?_;try simp only[Act.put,fr]
 refine rd1 13 rfl fun K hK=>?_;go_simp;(with_reducible refine(num_any p.time _).mono ?_);rintro e w4 ⟨rfl,hb⟩;have HU4:=tR HU3 hb;clear hb;refine kK hK (HS.out _ HU4.out) fun hHeld=>?_;try simp only[Act.put,fr]
 refine rd1 16 rfl fun K hK=>?_;go_simp;(with_reducible refine(num_any p.seq _).mono ?_);rintro e w5 ⟨rfl,hb⟩;have HU5:=tR HU4 hb;clear hb;refine kK hK (HS.out _ HU5.out) fun hHeld=>?_;try simp only[Act.put,fr]
 refine rd1 17 rfl fun K hK=>?_;simp only[ic];go_simp;refine aL ?_;intro w6 hb hnew;have HU6:=tR HU5 hb;have G6:=hid hnew;clear hb hnew;refine kK hK (HS.out _ HU6.out) fun hHeld=>?_;try simp only[Act.put,fr]
 refine rd1 18 rfl fun K hK=>?_;go_simp;(with_reducible refine(list_any (some ⟨w5.heap.size,0,none⟩) 2 2 _).mono ?_);rintro e w7 ⟨rfl,hb⟩;have HU7:=tR HU6 hb;have G7:=hid (G6.out.keep hb);clear hb;refine kK hK (HS.out _ HU7.out) fun hHeld=>?_;try simp only[Act.put,fr]
 refine rd1 21 rfl fun K hK=>?_;go_simp;(with_reducible refine(num_any p.life _).mono ?_);rintro e w8 ⟨rfl,hb⟩;have HU8:=tR HU7 hb;have G8:=hid (G7.out.keep hb);clear hb;refine kK hK (HS.out _ HU8.out) fun hHeld=>?_;try simp only[Act.put,fr]
 refine rd1 22 rfl fun K hK=>?_;have HGL:=hid (show w5.heap.size<(w8).heap.size from G8.out.lt);simp only[ic,dd];go_simp;refine aL ?_;intro w9 hb hnew;have HU9:=tR HU8 hb;have G9:=hid (G8.out.keep hb);have H9:=hid hnew;clear hb hnew;refine kK hK (HS.out _ HU9.out) fun hHeld=>?_;try simp only[Act.put,fr]
 refine t2 23 ?_;exact dN (HQ.out _ _ _ _ _ _ _ _ _ _ _ _ _ _ _ _ _ _ _ _ _ _ _ _ _ _ HU9.out HU5.out.size (by have:=G9.out.lt;have:=HGL.out;omega) G9.out H9.out)
def plist (p:Prim)(sum:List UInt8):List Itm:=pits p++if p.crc=0 then[]else[.str sum]
theorem parts_any (p:Prim)(h:p.ok)(sum:List UInt8)(w:World):
 Calls Tryz.prog 394 #[.agg (prc p),.string (st sum)] w fun e w'=>∃(g n cap:Nat) (css:List (Array Value)),e= .returned (.agg (ic 4 0 [] (.slice (some ⟨g,0,none⟩) n cap) false))∧Below w.heap.size w w'∧w.heap.size≤g∧g<w'.heap.size∧n=(plist p sum).length∧n≤cap∧w'.rangeAt g 0 (css.flatMap (·.toList))∧KK w.heap.size w'.heap.size w' css (plist p sum):=by
 have HO:=hid h;have hbit:bits .and .u64 (p.flags:Int) 1=0:=by rcases h.kind with⟨hf,_⟩|⟨hf,_⟩|⟨hf,_⟩<;>(rw[hf];decide+kernel)
 have hc1:p.crc≤1:=by have:=h.kind;omega
 clear h;have hz93:=zero93;obtain⟨w1,HE,U0,P',R'⟩:=mH2 w (prc p) 40 (ic 0 0 [] nS false) 93;go_enter Tryz.func394,Tryz.ntmps394;go_upto_region 1 with(fail);rw[←HE.out];clear HE;obtain⟨-,-,p2,p3,p4,p5,-,-,-,-,-,-,-,-,-,-,-,-,-⟩:=prc_cells P'.out;have LL1:=hid (R'.out.lt);go_wp2_with fail;refine(eitem_any p.dst (ipn_ok HO.out.dst) w1).mono ?_;rintro e w_1 ⟨h1,rfl,hb,hk⟩;replace P':=hid (P'.out.kp hb);replace R':=hid (R'.out.kp hb);have U':=tR U0 hb;clear U0;have K1':=hid (show KS w1.heap.size w_1.heap.size w_1 (fun w2=>IsI w2 (dd h1) (eitm p.dst))from⟨Nat.le_refl _,hk⟩);clear hb hk p2 p3 p4 p5;go_upto_region 2 with(refine sV 93 5 16 (dd h1) (size93 rfl) (ic_one ..) ?_;intro w_5 hb hk);replace P':=hid (P'.out.kp hb);replace R':=hid (R'.out.kp hb);replace K1':=hid (K1'.out.kp hb);replace U':=tR U' hb;have D1':=hid hk;clear hb hk;obtain⟨-,-,-,-,-,-,p6,p7,p8,p9,-,-,-,-,-,-,-,-,-⟩:=prc_cells P'.out;have LL2:=hid (R'.out.lt);go_wp2_with fail;refine(eitem_any p.src (ipn_ok HO.out.src) w_5).mono ?_;rintro e w_11 ⟨h2,rfl,hb,hk⟩;replace P':=hid (P'.out.kp hb);replace R':=hid (R'.out.kp hb);replace K1':=hid (K1'.out.kp hb);replace D1':=hid (D1'.out.kp hb);replace U':=tR U' hb;have K2':=hid (show KS w_5.heap.size w_11.heap.size w_11 (fun w2=>IsI w2 (dd h2) (eitm p.src))from⟨Nat.le_refl _,hk⟩);clear hb hk p6 p7 p8 p9;go_upto_region 3 with(refine sV 93 7 22 (dd h2) (size93 rfl) (ic_one ..) ?_;intro w_17 hb hk);replace P':=hid (P'.out.kp hb);replace R':=hid (R'.out.kp hb);replace K1':=hid (K1'.out.kp hb);replace D1':=hid (D1'.out.kp hb);replace K2':=hid (K2'.out.kp hb);replace U':=tR U' hb;have D2':=hid hk;clear hb hk;obtain⟨-,-,-,-,-,-,-,-,-,-,p10,p11,p12,p13,-,-,-,-,-⟩:=prc_cells P'.out;have LL3:=hid (R'.out.lt);go_wp2_with fail;refine(eitem_any p.rpt HO.out.rpt w_17).mono ?_;rintro e w_25 ⟨h3,rfl,hb,hk⟩;replace P':=hid (P'.out.kp hb);replace R':=hid (R'.out.kp hb);replace K1':=hid (K1'.out.kp hb);replace D1':=hid (D1'.out.kp hb);replace K2':=hid (K2'.out.kp hb);replace D2':=hid (D2'.out.kp hb);replace U':=tR U' hb;have K3':=hid (show KS w_17.heap.size w_25.heap.size w_25 (fun w2=>IsI w2 (dd h3) (eitm p.rpt))from⟨Nat.le_refl _,hk⟩);clear hb hk p10 p11 p12 p13;go_upto_region 4 with(refine sV 93 9 28 (dd h3) (size93 rfl) (ic_one ..) ?_;intro w_33 hb hk);replace P':=hid (P'.out.kp hb);replace R':=hid (R'.out.kp hb);replace K1':=hid (K1'.out.kp hb);replace D1':=hid (D1'.out.kp hb);replace K2':=hid (K2'.out.kp hb);replace D2':=hid (D2'.out.kp hb);replace K3':=hid (K3'.out.kp hb);replace U':=tR U' hb;have D3':=hid hk;clear hb hk;obtain⟨p0,p1,-,-,-,-,-,-,-,-,-,-,-,-,p14,p15,p16,-,-⟩:=prc_cells P'.out;go_upto_region 4 with(fail);refine ent (C:=rg Tryz.f394 4) (by kernel_rfl) ?_;refine parts_r w.heap.size (w_1.heap.size) (w_11.heap.size) (w_25.heap.size) h1 h2 h3 p _ _ hc1 p0 p1 p14 p15 p16 (at_range D1'.out) (at_range D2'.out) (at_range D3'.out) ?_;intro y30 y31 y32 y33 y34 y35 y36 y37 y38 y39 y40 y41 y42 y43 y44 y45 y46 y47 y48 y49 y50 y51 y52 k g w6 hb hk1 hk2 hk hg
 have LZ:=hid (R'.out.lt);have N6:=hid (show w_33.heap.size≤k∧k<g∧g<w6.heap.size from⟨hk1,hk2,hg.lt⟩);have Q1:=hid (K1'.out.kp hb);have Q2:=hid (K2'.out.kp hb);have Q3:=hid (K3'.out.kp hb);have Z:=hid (show w_1.heap.size≤w_33.heap.size∧w_11.heap.size≤w_33.heap.size∧w_25.heap.size≤w_33.heap.size from⟨K1'.out.1,K2'.out.1,K3'.out.1⟩);have KD:=hid (show Kids (w.heap.size+2) w6.heap.size g w6 [ic 0 7 [] nS false,ic 0 p.flags [] nS false,ic 0 p.crc [] nS false,dd h1,dd h2,dd h3,ic 4 0 [] (.slice (some ⟨k,0,none⟩) 2 2) false,ic 0 p.life [] nS false] (pits p)from by
  have h0:=LL1.out;have h2:=LL2.out;have h3:=LL3.out;have h4:=N6.out;have h5:=Z.out;have h6:=LZ.out;have hB:w.heap.size+2≤w6.heap.size:=by omega
  refine⟨rfl,ic_one ..,kid_any hB (isI_num _),rfl,ic_one ..,kid_any hB (isI_num _),rfl,ic_one ..,kid_any hB (isI_num _),rfl,ic_one ..,⟨_,_,?_,?_,?_,Q1.out.2⟩,rfl,ic_one ..,⟨_,_,?_,?_,?_,Q2.out.2⟩,rfl,ic_one ..,⟨_,_,?_,?_,?_,Q3.out.2⟩,rfl,ic_one ..,⟨k,k+1,?_,?_,?_,fun w2 hw=>isArr (hk.within (Nat.le_refl _) (Nat.lt_succ_self _) hw) [ic 0 p.time [] nS false,ic 0 p.seq [] nS false] [.num p.time,.num p.seq] rfl ⟨rfl,isI_num _ _,rfl,isI_num _ _,trivial⟩ 2 2 rfl (Nat.le_refl 2) false⟩,rfl,ic_one ..,kid_any hB (isI_num _),trivial⟩;all_goals omega)
 have R6:=hid (R'.out.kp hb);have P6:=hid (P'.out.kp hb);have U6:=hid ((U'.out).trans (hb.mono (U'.out).size));have G6:=hid hg;have HL:=hid (show w.heap.size+2<w6.heap.size∧w.heap.size+2≤g∧g<w6.heap.size from by have h4:=N6.out;have h6:=LZ.out;omega);clear hb hk1 hk2 hk hg p0 p1 p14 p15 p16 Q1 Q2 Q3 Z N6 LZ LL1 LL2 LL3 K1' K2' K3' R' P' D1' D2' D3' U';obtain⟨p0,p1,-,-,-,-,-,-,-,-,-,-,-,-,-,-,-,-,-⟩:=prc_cells P6.out;have hcc:p.crc=0∨p.crc=1:=by omega
 clear hc1;rcases hcc with hcc|hcc
 · rw[hcc]at p1;go_wp2_with fail;refine(list_any (some ⟨g,0,none⟩) 8 8 _).mono ?_;rintro e w7 ⟨rfl,hb⟩;have R7:=hid (R6.out.kp hb);have U7:=tR U6 hb;have hk7:=Kids.move (H2:=w6.heap.size) (g2:=g) (Nat.le_refl _) (upd_of_below (S:=fun _=>False) hb) (fun _ h=>h.elim) (Nat.le_refl _) (.inl rfl) KD.out;have hg7:=G6.out.kp hb;have hs7:=hb.size;clear hb p0 p1;go_wp2_with (refine sR 93 4 75 (w.heap.size+1) (ic 4 0 [] (.slice (some ⟨g,0,none⟩) 8 8) false) R7.out (size93 rfl) (ic_one ..) ?_);have hu9:=upd_setRow w7 (w.heap.size+1) (ic 4 0 [] (.slice (some ⟨g,0,none⟩) 8 8) false);have hL:=HL.out;refine bodyPost_ret (rQ (R7.out.row _)) rfl ⟨g,8,8,[ic 0 7 [] nS false,ic 0 p.flags [] nS false,ic 0 p.crc [] nS false,dd h1,dd h2,dd h3,ic 4 0 [] (.slice (some ⟨k,0,none⟩) 2 2) false,ic 0 p.life [] nS false],rfl,U7.out.trans (hu9.below U7.out.size (fun k e=>by rw[e];omega)),?_⟩;have hk9:=Kids.move (H2:=w6.heap.size) (g2:=g) hs7 hu9 (fun k e=> .inl (by rw[e];omega)) (Nat.le_refl _) (.inl rfl) hk7;have hg9:=hg7.upd hu9 (show ¬g=w.heap.size+1 by omega);rw[show plist p sum=pits p from by simp[plist,hcc]];exact⟨by omega,hg9.lt,rfl,Nat.le_refl 8,at_range hg9,hk9.kk (by omega) (by have:=hu9.size;omega)⟩
 · rw[hcc]at p1;have HCC:=hid hcc;clear hcc;go_wp2_with fail;refine(str_any sum _).mono ?_;rintro e w7 ⟨rfl,hb⟩;have R7:=hid (R6.out.kp hb);have U7:=tR U6 hb;have KD7:=hid (Kids.move (H2:=w7.heap.size) (g2:=g) (Nat.le_refl _) (upd_of_below (S:=fun _=>False) hb) (fun _ h=>h.elim) hb.size (.inl rfl) KD.out);have G7:=hid (G6.out.kp hb);have HL7:=hid (show w.heap.size+2<w7.heap.size∧w.heap.size+2≤g∧g<w7.heap.size from by have h4:=HL.out;have:=hb.size;omega);clear hb p0 p1;have hown:w7.ownsRow (w.heap.size+2) 93 5 (.slice (some ⟨g,0,none⟩) 8 8) 8 (parts8 p.flags p.crc h1 h2 h3 k p.life).toList:=⟨rfl,.inr ⟨g,8,_,rfl,HL7.out.2.1,G7.out,Nat.le_refl _,by decide,rfl,rfl⟩⟩;have HOWN:=hid hown;clear hown;obtain⟨i0,hi,hz0,hz1,hz2⟩:=info_parts info93;have HI:=hid (And.intro hi (And.intro hz0 (And.intro hz1 hz2)));clear hi hz0 hz1 hz2;simp only[ic];go_wp2_with (refine wpList_append_lies _ rfl (.tmp 69) (.tmp 72) 91 (by rfl) (w.heap.size+2) 93 i0 (.agg (ic 0 0 [] nS false)) 5 64 Tryz.underlying91 HI.out.1 HI.out.2.1 HI.out.2.2.1 HI.out.2.2.2 ic_zero (by decide) (.slice (some ⟨g,0,none⟩) 8 8) 8 (parts8 p.flags p.crc h1 h2 h3 k p.life).toList (by rfl) (HOWN.out.alloc (.cells (ic 2 0 sum nS false) 93)) ⟨w7.heap.size,0,none⟩ 1 1 (ic 2 0 sum nS false).toList (by rfl) rfl (World.news_of_block (heap_new w7 (.cells (ic 2 0 sum nS false) 93))) (all_one (ic_one ..)) (by decide) (by decide) (by decide) (by rw[World.size_alloc];have:=HL7.out;omega) (w7.heap.size+1) (World.size_alloc _ _) ?_);intro g2 cap w8 hown hgrow hat hlt;have hual:=upd_alloc (fun _=>False) w7 (.cells (ic 2 0 sum nS false) 93);have hug:Upd (fun k=>some k=some g) _ w8:=upd_grown hgrow;have hL:=HL7.out;have hg2:g2=g∨w7.heap.size≤g2:=by
    rcases hat with h|h
    · exact .inl (Option.some.inj h).symm
    · exact .inr (by omega)
   have k8:=Kids.move (H2:=w7.heap.size) (g2:=g) (Nat.le_refl _) hual (fun _ h=>h.elim) (Nat.le_refl _) (.inl rfl) KD7.out;have u8:Upd (fun k=>some k=some g) w7 w8:=(hual.mono fun _ _ h=>h.elim).trans hug;have k9:=Kids.move (H2:=w8.heap.size) (g2:=g2) (by rw[World.size_alloc];omega) hug (fun k e=> .inr (Option.some.inj e)) u8.size hg2 k8;have K10:=hid (Kids.snoc k9 rfl (ic_one ..) (kid_any (by have:=u8.size;omega) (isI_str sum)));have R8:=hid (R7.out.upd u8 (fun e=>by have e:=Option.some.inj e;omega));have U8:=hid (U7.out.trans (u8.below U7.out.size (fun k e=>by have e:=Option.some.inj e;omega)));have O8:=hid (And.intro (row_range hown) (And.intro hlt (show 9≤cap∧w.heap.size+2≤g2∧w.heap.size+2<w8.heap.size from by
    rcases hown.2 with⟨h,_⟩|⟨g3,c3,_,h,h4,_,h5,_⟩
    · cases h
    · injection h with h6 h7 h8
      injection h6 with h6
      injection h6 with h6
      have:=u8.size;omega)))
   clear hual hug hg2 k8 k9 u8 hown hgrow hat hlt hL;go_wp2_with fail;refine(list_any (some ⟨g2,0,none⟩) 9 cap _).mono ?_;rintro e w9 ⟨rfl,hb⟩;have R9:=hid (R8.out.kp hb);have U9:=tR U8 hb;have hk9:=Kids.move (H2:=w8.heap.size) (g2:=g2) (Nat.le_refl _) (upd_of_below (S:=fun _=>False) hb) (fun _ h=>h.elim) (Nat.le_refl _) (.inl rfl) K10.out;have hr9:=range_keep hb O8.out.1 O8.out.2.1;have hs9:=hb.size;clear hb;go_wp2_with (refine sR 93 4 75 (w.heap.size+1) (ic 4 0 [] (.slice (some ⟨g2,0,none⟩) 9 cap) false) R9.out (size93 rfl) (ic_one ..) ?_);have hu9:=upd_setRow w9 (w.heap.size+1) (ic 4 0 [] (.slice (some ⟨g2,0,none⟩) 9 cap) false);have hO:=O8.out.2;refine bodyPost_ret (rQ (R9.out.row _)) rfl ⟨g2,9,cap,[ic 0 7 [] nS false,ic 0 p.flags [] nS false,ic 0 p.crc [] nS false,dd h1,dd h2,dd h3,ic 4 0 [] (.slice (some ⟨k,0,none⟩) 2 2) false,ic 0 p.life [] nS false]++[ic 2 0 sum nS false],rfl,U9.out.trans (hu9.below U9.out.size (fun k e=>by rw[e];omega)),?_⟩;have hk10:=Kids.move (H2:=w8.heap.size) (g2:=g2) hs9 hu9 (fun k e=> .inl (by rw[e];omega)) (Nat.le_refl _) (.inl rfl) hk9;have hr10:=range_of hr9 (hu9.block g2 (by omega) (show ¬g2=w.heap.size+1 by omega));rw[show plist p sum=pits p++[.str sum]from by simp[plist,HCC.out]];exact⟨by omega,by have:=hu9.size;omega,rfl,by omega,hr10,hk10.kk (by omega) (by have:=hu9.size;omega)⟩
end
end Go.Proofs.YtlhlmflacdeafaaGreatDoor
