/-
  A part of the walk of TopReports.
-/
import Derived.Test.YtlhlmflacdeafaaGreatDoorT15
set_option maxRecDepth 100000
set_option maxHeartbeats 4000000
set_option linter.unusedVariables false
set_option linter.unusedSimpArgs false
namespace Go.Proofs.YtlhlmflacdeafaaGreatDoor
section
open Go.RowKit
def NoSec (l:List Blk5):Prop:=∀x∈l,x.typ≠11∧x.typ≠12
theorem ops_any (b:Bun)(k k2 k3:Int)(fv:Value)(ho:∀x∈b.l,(x.typ:Int)≠k)(g off cap:Nat)(w:World)(hn:b.l.length≤8)(hc:b.l.length≤cap)(hr:RB w g off b.l):
 Rv 180 #[.agg (bv b g off cap),.int .i64 k,.int .i64 k2,.int .i64 k3,fv] w (.tuple #[nS,.int .i64 0]):=by
 have HR:=hid hr;have HC:=hid hc;have HN:=hid hn;have hn8:(b.l.length:Int)≤8:=by omega
 have hnc:(b.l.length:Int)≤(cap:Int):=by omega
 have hz136:=zero136;clear hr hc hn;have HO:=hid ho;clear ho;obtain⟨w1,HE,U0,B'⟩:=mH1 w (bv b g off cap) 43;go_enter Tryz.func180,Tryz.ntmps180;go_upto_region 1 with(fail);rw[←HE.out];clear HE;obtain⟨-,-,-,-,-,-,-,-,-,-,-,-,-,-,-,-,-,-,-,c19⟩:=bunc_cells B'.out;go_wp2_with fail;go_loopw [12,22] (fun v i wr=>∃j:Nat,j≤b.l.length∧i= .int .i64 j∧v=nS∧Below w.heap.size w wr) (fun _ i _=>b.l.length-(intOf i).toNat);case atStart=>exact⟨0,Nat.zero_le _,rfl,rfl,U0.out⟩
 case round=>
  obtain⟨j,hj,rfl,rfl,hu⟩:=hrel;have U9:=hid hu;clear hu;by_cases hjl:j<b.l.length
  · have HJ:=hid hjl;have hj0:(j:Int)<(b.l.length:Int):=by omega
    have rj:=(RB.kp HR.out U9.out).at j hjl;have HXO:=hid (HO.out _ (List.getElem_mem hjl));generalize hx:b.l[j]=x at*;have HX:=hid hx;clear hx hjl hj;go_upto_region 5 with(first|(refine sV 136 14 25 (blc x) (size136 rfl) (blc_one _) ?_;intro w_501 hb hk)|refine wpList_load_mid rfl 136 (.tmp 24) rfl g (off+j*5) (by first|rfl|simp[Act.eval]) (blc x).toList _ rj Tryz.underlying136 rfl i136 ?_);have U':=tR U9 hb;clear U9;have X':=hid hk;clear hb hk;clear rj;obtain⟨x0,-,-,-,-⟩:=blc_cells X'.out;have hne:(x.typ:Int)≠k:=HXO.out;go_wp2_with fail;go_roundw;case rel=>exact⟨j+1,by have:=HJ.out;omega,by go_num,rfl,U'.out⟩
    case measure=>simp[intOf];have:=HJ.out;omega
  · have hj9:¬(j:Int)<(b.l.length:Int):=by omega
    go_wp2_with fail;refine bodyPost_ret (v:= .tuple #[nS,.int .i64 0]) (by simp[results,Tryz.results180,go_sem]) rfl ⟨rfl,U9.out⟩
theorem Ops_any (b:Bun)(ho:NoSec b.l)(g off cap:Nat)(w:World)(hn:b.l.length≤8)(hc:b.l.length≤cap)(hr:RB w g off b.l):
 Rv 123 #[.agg (bv b g off cap)] w (.tuple #[nS,.int .i64 0]):=by
 have HR:=hid hr;have HC:=hid hc;have HN:=hid hn;have HO:=hid ho;clear hr hc hn ho;obtain⟨w1,HE,U0,B'⟩:=mH1 w (bv b g off cap) 43;go_enter Tryz.func123,Tryz.ntmps123;go_upto_region 1 with(fail);rw[←HE.out];clear HE;go_wp2_with (refine lQ 43 1 B'.out ?_);refine(ops_any b 12 2 2 (.func (.func 181) #[] #[]) (fun x hx=>by have:=(HO.out x hx).2;omega) g off cap w1 HN.out HC.out (RB.kp HR.out U0.out)).mono ?_;rintro e w_1 ⟨rfl,hb⟩;replace B':=hid (B'.out.kp hb);have U':=tR U0 hb;clear U0;clear hb;go_upto_region 2 with fail;obtain⟨w_4,he,hb,hk⟩:=mk1 w_1 (#[nS]) 227;rw[←he];clear he;replace B':=hid (B'.out.kp hb);replace U':=tR U' hb;have P':=hid hk;clear hb hk;go_wp2_with (refine lQ 43 1 B'.out ?_);refine(ops_any b 11 1 1 (.func (.func 182) #[] #[.pointer (some ⟨w_1.heap.size,0,none⟩)]) (fun x hx=>by have:=(HO.out x hx).1;omega) g off cap w_4 HN.out HC.out (RB.kp HR.out U'.out)).mono ?_;rintro e w_8 ⟨rfl,hb⟩;replace B':=hid (B'.out.kp hb);replace P':=hid (P'.out.kp hb);replace U':=tR U' hb;clear hb;have cP:w_8.cell? ⟨w_1.heap.size,0,none⟩=some nS:=by rw[cell_of_row _ _ _ _ 227 (0,0) P'.out];rfl
 go_wp2_with fail;refine bodyPost_ret (v:= .tuple #[nS,.int .i64 0]) (by simp[results,Tryz.results123,go_sem]) rfl ⟨rfl,U'.out⟩
theorem whole_any (b:Bun)(hp:b.p.ok)(g off cap:Nat)(w:World):
 Rv 184 #[.agg (bv b g off cap),nS] w (.bool true):=by
 have HP:=hid (pbit hp);clear hp;obtain⟨w1,HE,U0,B'⟩:=mH1 w (bv b g off cap) 43;go_enter Tryz.func184,Tryz.ntmps184;go_upto_region 1 with(fail);rw[←HE.out];clear HE;obtain⟨c0,-,-,-,-,-,-,-,-,-,-,-,-,-,-,-,-,-,-,-⟩:=bunc_cells B'.out;have hbit:=HP.out;go_wp2_with fail;go_ret;exact⟨rfl,U0.out⟩
theorem mthere_any (b:Bun)(g off cap:Nat)(w:World):
 Rv 185 #[.agg (bv b g off cap),nS] w (.bool true):=by
 obtain⟨w1,HE,U0,B'⟩:=mH1 w (bv b g off cap) 43;go_enter Tryz.func185,Tryz.ntmps185;go_upto_region 1 with(fail);rw[←HE.out];clear HE;go_wp2_with fail;go_loopw [11] (fun i wr=>i= .int .i64 0∧Below w.heap.size w wr) (fun _ _=>0);case atStart=>exact⟨rfl,U0.out⟩
 case round=>
  obtain⟨rfl,hu⟩:=hrel;have U9:=hid hu;clear hu;go_wp2_with fail;go_ret;exact⟨rfl,U9.out⟩
theorem monce_any (b:Bun)(g off cap:Nat)(w:World):
 Rv 186 #[.agg (bv b g off cap),nS] w (.bool true):=by
 have hmm:=@run_makeMap Tryz.prog;obtain⟨w1,HE,U0,B'⟩:=mH1 w (bv b g off cap) 43;go_enter Tryz.func186,Tryz.ntmps186;go_upto_region 1 with(fail);rw[←HE.out];clear HE;go_upto_region 2 with fail;have hb:Below w1.heap.size w1 (World.alloc w1 (.map #[] 0)):=(Below.refl _ _).alloc (Nat.le_refl _) _;generalize World.alloc w1 (.map #[] 0)=w_1 at*;replace B':=hid (B'.out.kp hb);have U':=tR U0 hb;clear U0;clear hb;go_wp2_with fail;go_loopw [12] (fun i wr=>i= .int .i64 0∧Below w.heap.size w wr) (fun _ _=>0);case atStart=>exact⟨rfl,U'.out⟩
 case round=>
  obtain⟨rfl,hu⟩:=hrel;have U9:=hid hu;clear hu;go_wp2_with fail;go_ret;exact⟨rfl,U9.out⟩
theorem mseals_any (b:Bun)(g off cap:Nat)(w:World):
 Rv 187 #[.agg (bv b g off cap),nS] w (.bool true):=by
 have hmm:=@run_makeMap Tryz.prog;obtain⟨w1,HE,U0,B'⟩:=mH1 w (bv b g off cap) 43;go_enter Tryz.func187,Tryz.ntmps187;go_upto_region 1 with(fail);rw[←HE.out];clear HE;go_upto_region 2 with fail;have hb:Below w1.heap.size w1 (World.alloc w1 (.map #[] 0)):=(Below.refl _ _).alloc (Nat.le_refl _) _;generalize World.alloc w1 (.map #[] 0)=w_1 at*;replace B':=hid (B'.out.kp hb);have U':=tR U0 hb;clear U0;clear hb;go_wp2_with fail;go_loopw [13] (fun i wr=>i= .int .i64 0∧Below w.heap.size w wr) (fun _ _=>0);case atStart=>exact⟨rfl,U'.out⟩
 case round=>
  obtain⟨rfl,hu⟩:=hrel;have U9:=hid hu;clear hu;go_wp2_with fail;go_ret;exact⟨rfl,U9.out⟩
theorem msigns_any (b:Bun)(g off cap:Nat)(w:World):
 Rv 188 #[.agg (bv b g off cap),nS] w (.bool true):=by
 obtain⟨w1,HE,U0,B'⟩:=mH1 w (bv b g off cap) 43;go_enter Tryz.func188,Tryz.ntmps188;go_upto_region 1 with(fail);rw[←HE.out];clear HE;go_wp2_with fail;go_loopw [11] (fun i wr=>i= .int .i64 0∧Below w.heap.size w wr) (fun _ _=>0);case atStart=>exact⟨rfl,U0.out⟩
 case round=>
  obtain⟨rfl,hu⟩:=hrel;have U9:=hid hu;clear hu;go_wp2_with fail;go_ret;exact⟨rfl,U9.out⟩
theorem mrules_any (b:Bun)(hp:b.p.ok)(g off cap:Nat)(w:World):
 Rv 124 #[.agg (bv b g off cap),nS] w (.int .i64 0):=by
 have HP:=hid hp;clear hp;obtain⟨w1,HE,U0,B'⟩:=mH1 w (bv b g off cap) 43;go_enter Tryz.func124,Tryz.ntmps124;go_upto_region 1 with(fail);rw[←HE.out];clear HE;go_wp2_with fail;obtain⟨w_1,he,hb,hk⟩:=mk1 w1 (#[.func (.func 184) #[] #[],.func (.func 185) #[] #[],.func (.func 186) #[] #[],.func (.func 187) #[] #[],.func (.func 188) #[] #[]]) 296;rw[←he];clear he;replace B':=hid (B'.out.kp hb);have U':=tR U0 hb;clear U0;have F':=hid hk;clear hb hk;go_loopw [9] (fun x wr=>∃j:Nat,j≤5∧x= .int .i64 j∧At wr w.heap.size (.cells (bv b g off cap) 43)∧At wr (w1.heap.size) (.cells #[.func (.func 184) #[] #[],.func (.func 185) #[] #[],.func (.func 186) #[] #[],.func (.func 187) #[] #[],.func (.func 188) #[] #[]] 296)∧Below w.heap.size w wr) (fun x _=>5-(intOf x).toNat);case atStart=>exact⟨0,by decide,rfl,B'.out,F'.out,U'.out⟩
 case round=>
  obtain⟨j,hj,rfl,hB,hF,hU⟩:=hrel;have B0:=hid hB;have F0:=hid hF;have U9:=hid hU;clear hB hF hU;rcases(show j=0∨j=1∨j=2∨j=3∨j=4∨j=5 from by omega)with rfl|rfl|rfl|rfl|rfl|rfl
  · have cF:wr.cell? ⟨w1.heap.size,0,none⟩=some (.func (.func 184) #[] #[]):=by rw[cell_of_row _ _ _ _ 296 (0,0) F0.out];rfl
    go_wp2_with (refine lQ 43 2 B0.out ?_);refine(whole_any b HP.out g off cap wr).mono ?_;rintro e w_501 ⟨rfl,hb⟩;replace B':=hid (B0.out.kp hb);replace F':=hid (F0.out.kp hb);replace U':=tR U9 hb;clear B0 F0 U9;clear hb cF;go_wp2_with fail;go_roundw;case rel=>exact⟨1,by decide,by go_num,B'.out,F'.out,U'.out⟩
    case measure=>simp[intOf]
  · have cF:wr.cell? ⟨w1.heap.size,1,none⟩=some (.func (.func 185) #[] #[]):=by rw[cell_of_row _ _ _ _ 296 (0,0) F0.out];rfl
    go_wp2_with (refine lQ 43 2 B0.out ?_);refine(mthere_any b g off cap wr).mono ?_;rintro e w_501 ⟨rfl,hb⟩;replace B':=hid (B0.out.kp hb);replace F':=hid (F0.out.kp hb);replace U':=tR U9 hb;clear B0 F0 U9;clear hb cF;go_wp2_with fail;go_roundw;case rel=>exact⟨2,by decide,by go_num,B'.out,F'.out,U'.out⟩
    case measure=>simp[intOf]
  · have cF:wr.cell? ⟨w1.heap.size,2,none⟩=some (.func (.func 186) #[] #[]):=by rw[cell_of_row _ _ _ _ 296 (0,0) F0.out];rfl
    go_wp2_with (refine lQ 43 2 B0.out ?_);refine(monce_any b g off cap wr).mono ?_;rintro e w_501 ⟨rfl,hb⟩;replace B':=hid (B0.out.kp hb);replace F':=hid (F0.out.kp hb);replace U':=tR U9 hb;clear B0 F0 U9;clear hb cF;go_wp2_with fail;go_roundw;case rel=>exact⟨3,by decide,by go_num,B'.out,F'.out,U'.out⟩
    case measure=>simp[intOf]
  · have cF:wr.cell? ⟨w1.heap.size,3,none⟩=some (.func (.func 187) #[] #[]):=by rw[cell_of_row _ _ _ _ 296 (0,0) F0.out];rfl
    go_wp2_with (refine lQ 43 2 B0.out ?_);refine(mseals_any b g off cap wr).mono ?_;rintro e w_501 ⟨rfl,hb⟩;replace B':=hid (B0.out.kp hb);replace F':=hid (F0.out.kp hb);replace U':=tR U9 hb;clear B0 F0 U9;clear hb cF;go_wp2_with fail;go_roundw;case rel=>exact⟨4,by decide,by go_num,B'.out,F'.out,U'.out⟩
    case measure=>simp[intOf]
  · have cF:wr.cell? ⟨w1.heap.size,4,none⟩=some (.func (.func 188) #[] #[]):=by rw[cell_of_row _ _ _ _ 296 (0,0) F0.out];rfl
    go_wp2_with (refine lQ 43 2 B0.out ?_);refine(msigns_any b g off cap wr).mono ?_;rintro e w_501 ⟨rfl,hb⟩;replace B':=hid (B0.out.kp hb);replace F':=hid (F0.out.kp hb);replace U':=tR U9 hb;clear B0 F0 U9;clear hb cF;go_wp2_with fail;go_roundw;case rel=>exact⟨5,by decide,by go_num,B'.out,F'.out,U'.out⟩
    case measure=>simp[intOf]
  · go_wp2_with fail;go_ret;exact⟨rfl,U9.out⟩
theorem sound_any (b:Bun)(h:b.ok)(ho:NoSec b.l)(g off cap:Nat)(w:World)(hc:b.l.length≤cap)(hr:RB w g off b.l):
 Rv 76 #[.agg (bv b g off cap)] w (.int .i64 0):=by
 have HR:=hid hr;have HC:=hid hc;have HO:=hid ho;have HB:=hid h;clear hr hc ho h;obtain⟨w1,HE,U0,B'⟩:=mH1 w (bv b g off cap) 43;go_enter Tryz.func76,Tryz.ntmps76;go_upto_region 1 with(fail);rw[←HE.out];clear HE;go_wp2_with (refine lQ 43 1 B'.out ?_);refine(bRight_any b HB.out g off cap w1 HC.out (RB.kp HR.out U0.out)).mono ?_;rintro e w_1 ⟨rfl,hb⟩;replace B':=hid (B'.out.kp hb);have U':=tR U0 hb;clear U0;clear hb;go_wp2_with (refine lQ 43 1 B'.out ?_);refine(Ops_any b HO.out g off cap w_1 HB.out.few HC.out (RB.kp HR.out U'.out)).mono ?_;rintro e w_4 ⟨rfl,hb⟩;replace B':=hid (B'.out.kp hb);replace U':=tR U' hb;clear hb;go_wp2_with (refine lQ 43 1 B'.out ?_);refine(mrules_any b HB.out.p g off cap w_4).mono ?_;rintro e w_7 ⟨rfl,hb⟩;replace B':=hid (B'.out.kp hb);replace U':=tR U' hb;clear hb;go_wp2_with fail;go_ret;exact⟨rfl,U'.out⟩
end
section
open Go.RowKit
def rZ:Array Value:=#[.int .i64 0,.int .i64 0,.int .i64 0,.int .i64 0,.string (st []),.int .u64 0,.int .u64 0,.int .i64 0,.int .i64 0,.string (st []),.int .u64 0,.int .u64 0,.int .i64 0,.int .i64 0,.int .i64 0,.int .i64 0,.int .i64 0]
theorem zero62 (w:World):(zeroValue 62).run Tryz.prog w= .ok (.agg rZ) w:=by kernel_rfl
theorem size62 {cs:Array Value}(h:cs.size=17):(Tryz.prog.info? 62).map (·.size)=some cs.size:=by rw[h];kernel_rfl
theorem rZ_one:rZ.all (·.oneCell')=true:=by simp[rZ,Value.oneCell']
def qc (r o t:Int)(p:Prim):Array Value:=#[.int .i64 r,.int .i64 o,.int .i64 t,.int .u64 p.flags,.int .i64 p.crc,.int .i64 p.dst.k,.string (st p.dst.s),.int .u64 p.dst.n,.int .u64 p.dst.m,.int .i64 p.src.k,.string (st p.src.s),.int .u64 p.src.n,.int .u64 p.src.m,.int .i64 p.rpt.k,.string (st p.rpt.s),.int .u64 p.rpt.n,.int .u64 p.rpt.m,.int .u64 p.time,.int .u64 p.seq,.int .u64 p.life,.int .u64 0,.int .u64 0]
theorem rclone_nil (w:World):
 Rv 63 #[nS] w nS:=by
 have hnil:∀W,(binOp .eql 22 nS nS).run Tryz.prog W= .ok (.bool true) W:=fun W=>rfl;have U0:=hid (Below.refl w.heap.size w);go_enter Tryz.func63,Tryz.ntmps63;go_wp2_with fail;go_ret;exact⟨rfl,U0.out⟩
theorem ridx_nil (fv:Value)(w:World):
 Rv 214 #[nS,fv] w (.int .i64 (-1)):=by
 have U0:=hid (Below.refl w.heap.size w);go_enter Tryz.func214,Tryz.ntmps214;go_wp2_with fail;go_loopw [8] (fun i wr=>i= .int .i64 0∧Below w.heap.size w wr) (fun _ _=>0);case atStart=>exact⟨rfl,U0.out⟩
 case round=>
  obtain⟨rfl,hu⟩:=hrel;have U9:=hid hu;clear hu;go_wp2_with fail;go_ret;exact⟨rfl,U9.out⟩
theorem rdel_nil (fv:Value)(w:World):
 Rv 163 #[nS,fv] w nS:=by
 have U0:=hid (Below.refl w.heap.size w);go_enter Tryz.func163,Tryz.ntmps163;go_wp2_with fail;refine(ridx_nil fv w).mono ?_;rintro e w_1 ⟨rfl,hb⟩;have U':=tR U0 hb;clear U0;clear hb;go_wp2_with fail;go_ret;exact⟨rfl,U'.out⟩
theorem rright_nil (w:World):
 Rv 114 #[nS] w nS:=by
 have U0:=hid (Below.refl w.heap.size w);go_enter Tryz.func114,Tryz.ntmps114;go_wp2_with fail;refine(rclone_nil w).mono ?_;rintro e w_1 ⟨rfl,hb⟩;have U':=tR U0 hb;clear U0;clear hb;go_wp2_with fail;refine(rdel_nil _ w_1).mono ?_;rintro e w_3 ⟨rfl,hb⟩;replace U':=tR U' hb;clear hb;go_wp2_with fail;go_ret;exact⟨rfl,U'.out⟩
theorem each_nil (fv:Value)(w:World):
 Rv 115 #[nS,fv] w (.int .i64 0):=by
 have U0:=hid (Below.refl w.heap.size w);go_enter Tryz.func115,Tryz.ntmps115;go_wp2_with fail;go_loopw [10] (fun i wr=>i= .int .i64 0∧Below w.heap.size w wr) (fun _ _=>0);case atStart=>exact⟨rfl,U0.out⟩
 case round=>
  obtain⟨rfl,hu⟩:=hrel;have U9:=hid hu;clear hu;go_wp2_with fail;go_ret;exact⟨rfl,U9.out⟩
theorem first_nil (r o t:Int)(p:Prim)(fv:Value)(w:World):
 Rv 219 #[nS,.agg (qc r o t p),fv] w (.tuple #[.agg rZ,.bool false]):=by
 have hz62:=zero62;obtain⟨w1,HE,U0,A',S'⟩:=mH2 w (qc r o t p) 328 (rZ) 62;go_enter Tryz.func219,Tryz.ntmps219;go_upto_region 1 with(fail);rw[←HE.out];clear HE;go_wp2_with fail;go_loopw [12] (fun i wr=>i= .int .i64 0∧At wr (w.heap.size+1) (.cells rZ 62)∧Below w.heap.size w wr) (fun _ _=>0);case atStart=>exact⟨rfl,S'.out,U0.out⟩
 case round=>
  obtain⟨rfl,hS,hu⟩:=hrel;have U9:=hid hu;have S9:=hid hS;clear hu hS;go_wp2_with (refine sR 62 6 22 (w.heap.size+1) (rZ) S9.out (size62 rfl) rZ_one ?_);have hu9:=upd_setRow wr (w.heap.size+1) (rZ);have hb9:=hu9.below (U9.out).size (fun k e=>by rw[e];first|exact Nat.le_refl _|omega);exact bodyPost_ret (rU ((S9.out).row _)) rfl ⟨rfl,(U9.out).trans (hb9.mono (Nat.le_refl _))⟩
theorem pick_nil (r o t:Int)(p:Prim)(w:World):
 Rv 165 #[nS,.int .i64 r,.int .i64 o,.agg (prc p),.int .i64 t] w (.tuple #[.agg rZ,.bool false]):=by
 have hz62:=zero62;obtain⟨w1,HE,U0,P',S'⟩:=mH2 w (prc p) 40 (rZ) 62;go_enter Tryz.func165,Tryz.ntmps165;go_upto_region 1 with(fail);rw[←HE.out];clear HE;go_wp2_with (refine wpList_load_row rfl 40 (.tmp 8) rfl (w.heap.size) rfl 40 ((#[.int .u64 p.flags,.int .i64 p.crc,.int .i64 p.dst.k,.string (st p.dst.s),.int .u64 p.dst.n,.int .u64 p.dst.m,.int .i64 p.src.k,.string (st p.src.s),.int .u64 p.src.n,.int .u64 p.src.m,.int .i64 p.rpt.k,.string (st p.rpt.s),.int .u64 p.rpt.n,.int .u64 p.rpt.m,.int .u64 p.time,.int .u64 p.seq,.int .u64 p.life,.int .u64 0,.int .u64 0]:Array Value)) (0,0) _ P'.out Tryz.underlying40 rfl (size40 rfl) ?_);refine(first_nil r o t p _ w1).mono ?_;rintro e w_1 ⟨rfl,hb⟩;replace P':=hid (P'.out.kp hb);replace S':=hid (S'.out.kp hb);have U':=tR U0 hb;clear U0;clear hb;go_wp2_with (refine sR 62 10 19 (w.heap.size+1) (rZ) S'.out (size62 rfl) rZ_one ?_);have hu9:=upd_setRow w_1 (w.heap.size+1) (rZ);have hb9:=hu9.below (U'.out).size (fun k e=>by rw[e];first|exact Nat.le_refl _|omega);exact bodyPost_ret (rU ((S'.out).row _)) rfl ⟨rfl,(U'.out).trans (hb9.mono (Nat.le_refl _))⟩
theorem for_nil (r o:Int)(b:Bun)(g off cap:Nat)(w:World)(hn:b.l.length≤8)(hc:b.l.length≤cap)(hr:RB w g off b.l):
 Rv 116 #[nS,.int .i64 r,.int .i64 o,.agg (bv b g off cap)] w nS:=by
 have HR:=hid hr;have HC:=hid hc;have HN:=hid hn;have hn8:(b.l.length:Int)≤8:=by omega
 have hnc:(b.l.length:Int)≤(cap:Int):=by omega
 clear hr hc hn;have hz62:=zero62;have hz136:=zero136;obtain⟨w1,HE,U0,B'⟩:=mH1 w (bv b g off cap) 43;go_enter Tryz.func116,Tryz.ntmps116;go_upto_region 1 with(fail);rw[←HE.out];clear HE;go_wp2_with (refine lM 40 20 (w.heap.size) 0 (prc b.p) (bun_prc B'.out) Tryz.underlying40 i40 ?_);refine(pick_nil r o 0 b.p w1).mono ?_;rintro e w_1 ⟨rfl,hb⟩;replace B':=hid (B'.out.kp hb);have U':=tR U0 hb;clear U0;clear hb;go_upto_region 3 with(refine sV 62 10 23 (rZ) (size62 rfl) rZ_one ?_;intro w_4 hb hk);replace B':=hid (B'.out.kp hb);replace U':=tR U' hb;have X':=hid hk;clear hb hk;obtain⟨-,-,-,-,-,-,-,-,-,-,-,-,-,-,-,-,-,-,-,c19⟩:=bunc_cells B'.out;go_wp2_with fail;go_loopw [9,34] (fun v i wr=>∃j:Nat,j≤b.l.length∧i= .int .i64 j∧v=nS∧At wr w.heap.size (.cells (bv b g off cap) 43)∧Below w.heap.size w wr) (fun _ i _=>b.l.length-(intOf i).toNat);case atStart=>exact⟨0,Nat.zero_le _,rfl,rfl,B'.out,U'.out⟩
 case round=>
  obtain⟨j,hj,rfl,rfl,hB,hu⟩:=hrel;have U9:=hid hu;have B9:=hid hB;clear hu hB;by_cases hjl:j<b.l.length
  · have HJ:=hid hjl;have hj0:(j:Int)<(b.l.length:Int):=by omega
    have rj:=(RB.kp HR.out U9.out).at j hjl;generalize hx:b.l[j]=x at*;have HX:=hid hx;clear hx hjl hj;go_upto_region 8 with(first|(refine sV 136 13 37 (blc x) (size136 rfl) (blc_one _) ?_;intro w_501 hb hk)|refine wpList_load_mid rfl 136 (.tmp 36) rfl g (off+j*5) (by first|rfl|simp[Act.eval]) (blc x).toList _ rj Tryz.underlying136 rfl i136 ?_);replace B':=hid (B9.out.kp hb);replace U':=tR U9 hb;clear B9 U9;replace X':=hid hk;clear hb hk;clear rj;obtain⟨x0,-,-,-,-⟩:=blc_cells X'.out;go_wp2_with (refine lM 40 42 (w.heap.size) 0 (prc b.p) (bun_prc B'.out) Tryz.underlying40 i40 ?_);refine(pick_nil r o x.typ b.p w_501).mono ?_;rintro e w_505 ⟨rfl,hb⟩;replace B':=hid (B'.out.kp hb);replace X':=hid (X'.out.kp hb);replace U':=tR U' hb;clear hb x0;go_upto_region 9 with(refine sV 62 14 47 (rZ) (size62 rfl) rZ_one ?_;intro w_509 hb hk);replace B':=hid (B'.out.kp hb);replace X':=hid (X'.out.kp hb);replace U':=tR U' hb;have Y':=hid hk;clear hb hk;go_wp2_with fail;go_roundw;case rel=>exact⟨j+1,by have:=HJ.out;omega,by go_num,rfl,B'.out,U'.out⟩
    case measure=>simp[intOf];have:=HJ.out;omega
  · have hj9:¬(j:Int)<(b.l.length:Int):=by omega
    go_wp2_with fail;go_ret;exact⟨rfl,U9.out⟩
end
section
open Go.RowKit
variable {x2 x3 x4 x5 x6 x7 x10 x11 x12 x13 x14 x15 x16 x17 x18 x19 x20 x21 x22 x23 x24 x25 x26 x27 x28:Value} {r:List Value}
theorem own_any (b:Bun)(g off cap:Nat)(w:World)(hn:b.l.length≤8)(hc:b.l.length≤cap)(hr:RB w g off b.l):
 Calls Tryz.prog 112 #[.agg (bv b g off cap)] w fun e w'=>∃g2 cap2,e= .returned (.agg (bv b g2 0 cap2))∧Below w.heap.size w w'∧w.heap.size≤g2∧b.l.length≤cap2∧RB w' g2 0 b.l:=by
 have HC:=hid (And.intro hn hc);have HR:=hid hr;clear hn hc hr;have hz43:=zero43;obtain⟨w1,HE,U0,B',S'⟩:=mH2 w (bv b g off cap) 43 (bunc pZ nS) 43;go_enter Tryz.func112,Tryz.ntmps112;go_upto_region 1 with(fail);rw[←HE.out];clear HE;obtain⟨-,-,-,-,-,-,-,-,-,-,-,-,-,-,-,-,-,-,-,c19⟩:=bunc_cells B'.out;have HSZ:=hid (show w.heap.size+1<w1.heap.size from S'.out.lt);go_wp2_with fail;refine(clone_own g off b.l.length cap (b.l.flatMap fun x=>(blc x).toList) w1 (flat_len b.l) (by have:=HC.out;omega) (RB.kp HR.out U0.out).2 (flat_one b.l)).mono ?_;rintro e w_1 ⟨g2,cap2,cur,rfl,h1,h2,h3,-,-,h6,hb⟩;replace B':=hid (B'.out.kp hb);replace S':=hid (S'.out.kp hb);have U':=tR U0 hb;clear U0;clear hb c19;have hq:=RB.of h2 h6;have HQ:=hid hq;have HG:=hid (And.intro h1 h3);clear hq h1 h2 h3 h6;obtain⟨-,-,-,-,-,-,-,-,-,-,-,-,-,-,-,-,-,-,-,c19⟩:=bunc_cells B'.out;have f19:=frozen_of_row w_1 ((w.heap.size)) 19 _ 43 B'.out;go_upto_region 2 with fail;clear c19 f19;have hu:=upd_setCell w_1 ⟨w.heap.size,19,none⟩ (.slice (some ⟨g2,0,none⟩) b.l.length cap2);have he:At (w_1.setCell ⟨w.heap.size,19,none⟩ (.slice (some ⟨g2,0,none⟩) b.l.length cap2)) (w.heap.size) (.cells (bv b g2 0 cap2) 43):=At.setc B'.out 19 _;generalize World.setCell w_1 ⟨w.heap.size,19,none⟩ (.slice (some ⟨g2,0,none⟩) b.l.length cap2)=w_5 at*;replace B':=hid (he);replace S':=hid (S'.out.upd hu (by show ¬w.heap.size+1=w.heap.size;omega));have Q':=hid (HQ.out.upd hu (by show ¬g2=w.heap.size;have:=HG.out.1;have:=HSZ.out;omega));replace U':=hid (U'.out.trans (hu.below U'.out.size (fun k e=>by have e:k=w.heap.size:=e;omega)));clear hu he HQ;go_wp2_with (first|refine sR 43 2 7 (w.heap.size+1) (bv b g2 0 cap2) S'.out (size43 rfl) (bunc_one ..) ?_|refine lQ 43 1 B'.out ?_);have hu9:=upd_setRow w_5 (w.heap.size+1) (bv b g2 0 cap2);have hb9:=hu9.below (U'.out).size (fun k e=>by rw[e];first|exact Nat.le_refl _|omega);exact bodyPost_ret (rQ ((S'.out).row _)) rfl ⟨g2,cap2,rfl,(U'.out).trans (hb9.mono (Nat.le_refl _)),by have:=HG.out.1;have:=HSZ.out;omega,HG.out.2,(Q'.out).upd hu9 (show ¬g2=w.heap.size+1 by have:=HG.out.1;have:=HSZ.out;omega)⟩
theorem pfrag_any (b:Bun)(hp:b.p.ok)(g off cap:Nat)(w:World):
 Rv 113 #[.agg (bv b g off cap)] w (.bool false):=by
 have HP:=hid (pbit hp);clear hp;obtain⟨w1,HE,U0,B'⟩:=mH1 w (bv b g off cap) 43;go_enter Tryz.func113,Tryz.ntmps113;go_upto_region 1 with(fail);rw[←HE.out];clear HE;obtain⟨c0,-,-,-,-,-,-,-,-,-,-,-,-,-,-,-,-,-,-,-⟩:=bunc_cells B'.out;have hbit:=HP.out;go_wp2_with fail;go_ret;exact⟨rfl,U0.out⟩
theorem at_sub {w:World}{b t:Nat}{a c:Array Value}(h:At w b (.cells (a++c) t)):w.rangeAt b a.size c.toList:=fun j v hj=>by
 rw[cell_of_row w b (a.size+j) _ t (0,0) h,Array.getElem?_append_right (Nat.le_add_right _ _),Nat.add_sub_cancel_left, ←Array.getElem?_toList];exact hj
theorem wp_build_to {P:Program}{o:Oper}{a:Act}{w:World}{K:Act→World→Prop}{Q:QT}(t:TypeId)(parts:Array (Nat×Operand))(ho:o.op= .build t parts)(cells:Array Value)
 (hc:P.built t (parts.map fun(i,x)=>(i,a.eval x)).toList=some cells)(h:K (a.put o.dst (.agg cells)) w):o.wp P a w K Q:=
 wp_build t parts ho (by rw[hc];rfl) (by rw[hc];exact h)
theorem wpList_build_to {P:Program}{ops:Array Oper}{rest:List Oper}{o:Oper}{a:Act}{w:World}{Q:QT}(hg:o.guard=none)(t:TypeId)(parts:Array (Nat×Operand))(ho:o.op= .build t parts)(cells:Array Value)
 (hc:P.built t (parts.map fun(i,x)=>(i,a.eval x)).toList=some cells)(h:wpList P ops Q rest (a.put o.dst (.agg cells)) w):wpList P ops Q (o::rest) a w:=
 wpList_build hg t parts ho (by rw[hc];rfl) (by rw[hc];exact h)
def sndc (ga ka:Option Addr)(e:Eid)(p:Prim)(l:Value):Array Value:=#[.pointer ga,.pointer ka,.int .i64 e.k,.string (st e.s),.int .u64 e.n,.int .u64 e.m]++bunc p l
theorem out_r (N B g off cap:Nat)(b:Bun)(e:Eid)(ga ka:Option Addr)(w:World)(Q:QT)(hl:b.l.length≤8∧b.l.length≤cap)(hN:At w N (.cells (ec e) 34))(hB:At w B (.cells (bv b g off cap) 43))(hq:RB w g off b.l)
 (hQ:∀(y22 y23 y24 y25 y26 y27 y28:Value) (g2 cap2 G:Nat) (w6:World),Below w.heap.size w w6→At w6 G (.cells (sndc ga ka e b.p (.slice (some ⟨g2,0,none⟩) b.l.length cap2)) 213)→w.heap.size≤G→w.heap.size≤g2→b.l.length≤cap2→RB w6 g2 0 b.l→Q .normal ⟨(.pointer ga::.pointer ka::x2::x3::x4::x5::x6::x7::.pointer (some ⟨N,0,none⟩)::.pointer (some ⟨B,0,none⟩)::x10::x11::x12::.pointer (some ⟨G,0,none⟩)::x14::x15::x16::x17::x18::x19::x20::x21::y22::y23::y24::y25::y26::y27::y28::r).toArray,[]⟩ w6):
 Code.wp Tryz.prog (rg Tryz.f71 4) Q ⟨(.pointer ga::.pointer ka::x2::x3::x4::x5::x6::x7::.pointer (some ⟨N,0,none⟩)::.pointer (some ⟨B,0,none⟩)::x10::x11::x12::x13::x14::x15::x16::x17::x18::x19::x20::x21::x22::x23::x24::x25::x26::x27::x28::r).toArray,[]⟩ w:=by
 have HQ:=hid hQ;clear hQ;conv=>arg 2;whnf
 refine reg (fun w'=>w'.rangeAt N 0 (ec e).toList∧w'.rangeAt B 0 (bv b g off cap).toList) (fun _=>false) (fun w' hu=>⟨at_range (hN.kp hu),at_range (hB.kp hu)⟩) fun HS HU0 hHeld=>?_;have HL:=hid hl;have HQ0:=hid hq;clear hN hB hl hq;refine t2 0 ?_;refine t2 1 ?_;refine u2 2 _ rfl (yQ 34 8 N (0) (ec e) (fun w h=>h.1)) ?_;refine u2 3 _ rfl (yQ 43 9 B (0) (bv b g off cap) (fun w h=>h.2)) ?_;refine rd1 4 rfl fun K hK=>?_;go_simp;have hpt:=own_any b g off cap w.drew HL.out.1 HL.out.2 (RB.kp HQ0.out HU0.out);(with_reducible refine hpt.mono ?_);clear hpt;rintro e_ w1 ⟨g2,cap2,rfl,hb,h1,h2,h3⟩;have HU1:=tR HU0 hb;have HG:=hid (show w.heap.size≤g2∧b.l.length≤cap2∧RB w1 g2 0 b.l from⟨Nat.le_trans HU0.out.size h1,h2,h3⟩);clear hb h1 h2 h3;refine kK hK (HS.out _ HU1.out) fun hHeld=>?_;try simp only[Act.put,fr]
 refine rd1 5 rfl fun K hK=>?_;refine wp_build_to 213 _ rfl (sndc ga ka e b.p (.slice (some ⟨g2,0,none⟩) b.l.length cap2)) (by kernel_rfl) ?_;refine kK hK (HS.out _ HU1.out) fun hHeld=>?_;try simp only[Act.put,fr]
 refine rd1 6 rfl fun K hK=>?_;go_simp;refine aL ?_;intro w2 hb hnew;have HU2:=tR HU1 hb;have G2:=hid hnew;have HB9:=hid hb;clear hb hnew;refine kK hK (HS.out _ HU2.out) fun hHeld=>?_;try simp only[Act.put,fr]
 refine t2 7 ?_;exact dN (HQ.out _ _ _ _ _ _ _ _ _ _ _ HU2.out G2.out (by have:=HU1.out.size;exact this) HG.out.1 HG.out.2.1 (RB.kp HG.out.2.2 HB9.out))
theorem out_any (b:Bun)(h:b.ok)(ho:NoSec b.l)(e:Eid)(ga ka:Option Addr)(g off cap:Nat)(w:World)(hc:b.l.length≤cap)(hr:RB w g off b.l):
 Calls Tryz.prog 71 #[.pointer ga,.pointer ka,nS,.agg (ec e),.agg (bv b g off cap)] w fun e_ w'=>∃g2 cap2,e_= .returned (.tuple #[.agg (bv b g2 0 cap2),.int .i64 0])∧Below w.heap.size w w'∧w.heap.size≤g2∧b.l.length≤cap2∧RB w' g2 0 b.l:=by
 have HI:=hid (And.intro h ho);have HC:=hid hc;have HR:=hid hr;clear h ho hc hr;have hz43:=zero43;obtain⟨w1,he,hu,hN,hB,hS⟩:=mk3 w (ec e) 34 (bv b g off cap) 43 (bunc pZ nS) 43;have HE:=hid he;have U0:=hid hu;have N':=hid hN;have B':=hid hB;have S':=hid (show At w1 (w.heap.size+1+1) _ from hS);clear he hu hN hB hS;go_enter Tryz.func71,Tryz.ntmps71;go_upto_region 1 with(fail);rw[←HE.out];clear HE;go_wp2_with (refine lQ 43 9 B'.out ?_);refine(sound_any b HI.out.1 HI.out.2 g off cap w1 HC.out (RB.kp HR.out U0.out)).mono ?_;rintro e_ w_1 ⟨rfl,hb⟩;replace N':=hid (N'.out.kp hb);replace B':=hid (B'.out.kp hb);replace S':=hid (S'.out.kp hb);have U':=tR U0 hb;clear U0;clear hb;go_upto_region 4 with(fail);refine ent (C:=rg Tryz.f71 4) (by kernel_rfl) ?_;refine out_r w.heap.size (w.heap.size+1) g off cap b e ga ka _ _ ⟨HI.out.1.few,HC.out⟩ N'.out B'.out (RB.kp HR.out U'.out) ?_;have HSW:=hid (show w.heap.size+1+1<w_1.heap.size from(S'.out).lt);intro y22 y23 y24 y25 y26 y27 y28 g2 cap2 G w6 hb hG h0 h1 h2 h3;have HG:=hid (show w.heap.size+1+1<G∧w.heap.size+1+1<g2∧b.l.length≤cap2 from⟨by have:=HSW.out;omega,by have:=HSW.out;omega,h2⟩);replace N':=hid (N'.out.kp hb);replace B':=hid (B'.out.kp hb);replace S':=hid (S'.out.kp hb);replace U':=tR U' hb;have G0:=hid hG;have R0:=hid h3;clear hb hG h0 h1 h2 h3 HSW;go_wp2_with (refine lQ 43 9 B'.out ?_);refine(pfrag_any b HI.out.1.p g off cap w6).mono ?_;rintro e_ w_10 ⟨rfl,hb⟩;replace N':=hid (N'.out.kp hb);replace B':=hid (B'.out.kp hb);replace S':=hid (S'.out.kp hb);have G':=hid (G0.out.kp hb);have R':=hid (R0.out.kp hb);replace U':=tR U' hb;clear G0 R0;clear hb;go_wp2_with fail;refine(rright_nil w_10).mono ?_;rintro e_ w_17 ⟨rfl,hb⟩;replace N':=hid (N'.out.kp hb);replace B':=hid (B'.out.kp hb);replace S':=hid (S'.out.kp hb);replace G':=hid (G'.out.kp hb);replace R':=hid (R'.out.kp hb);replace U':=tR U' hb;clear hb;go_wp2_with (refine lQ 43 9 B'.out ?_);refine(for_nil 1 1 b g off cap w_17 HI.out.1.few HC.out (RB.kp HR.out U'.out)).mono ?_;rintro e_ w_24 ⟨rfl,hb⟩;replace N':=hid (N'.out.kp hb);replace B':=hid (B'.out.kp hb);replace S':=hid (S'.out.kp hb);replace G':=hid (G'.out.kp hb);replace R':=hid (R'.out.kp hb);replace U':=tR U' hb;clear hb;go_wp2_with fail;refine(each_nil _ w_24).mono ?_;rintro e_ w_31 ⟨rfl,hb⟩;replace N':=hid (N'.out.kp hb);replace B':=hid (B'.out.kp hb);replace S':=hid (S'.out.kp hb);replace G':=hid (G'.out.kp hb);replace R':=hid (R'.out.kp hb);replace U':=tR U' hb;clear hb;go_wp2_with (refine lN 43 50 G 6 (bv b g2 0 cap2) (at_sub G'.out) ?_);refine(for_nil 1 2 b g2 0 cap2 w_31 HI.out.1.few HG.out.2.2 R'.out).mono ?_;rintro e_ w_38 ⟨rfl,hb⟩;replace N':=hid (N'.out.kp hb);replace B':=hid (B'.out.kp hb);replace S':=hid (S'.out.kp hb);replace G':=hid (G'.out.kp hb);replace R':=hid (R'.out.kp hb);replace U':=tR U' hb;clear hb;go_wp2_with fail;refine(each_nil _ w_38).mono ?_;rintro e_ w_45 ⟨rfl,hb⟩;replace N':=hid (N'.out.kp hb);replace B':=hid (B'.out.kp hb);replace S':=hid (S'.out.kp hb)
 replace G':=hid (G'.out.kp hb);replace R':=hid (R'.out.kp hb);replace U':=tR U' hb;clear hb;go_wp2_with (first|refine sR 43 10 63 (w.heap.size+1+1) (bv b g2 0 cap2) S'.out (size43 rfl) (bunc_one ..) ?_|refine lN 43 62 G 6 (bv b g2 0 cap2) (at_sub G'.out) ?_);have hu9:=upd_setRow w_45 (w.heap.size+1+1) (bv b g2 0 cap2);have hb9:=hu9.below (U'.out).size (fun k e=>by rw[e];first|exact Nat.le_refl _|omega);exact bodyPost_ret (rU ((S'.out).row _)) rfl ⟨g2,cap2,rfl,(U'.out).trans (hb9.mono (Nat.le_refl _)),by have:=HG.out.2.1;omega,HG.out.2.2,(R'.out).upd hu9 (show ¬g2=w.heap.size+1+1 by have:=HG.out.2.1;omega)⟩
end
section
open Go.RowKit
variable {x2 x3 x4 x5 x6 x7 x8 x9 x10 x11 x12 x13 x14 x15 x16 x17 x18 x19 x20:Value} {r:List Value}
theorem at_pre {w:World}{b t:Nat}{a c:Array Value}(h:At w b (.cells (a++c) t)):w.rangeAt b 0 a.toList:=fun j v hj=>by
 have hj2:j<a.size:=by have:=(List.getElem?_eq_some_iff.1 hj).1;simpa using this
 rw[Nat.zero_add,cell_of_row w b j _ t (0,0) h,Array.getElem?_append_left hj2, ←Array.getElem?_toList];exact hj
def vrc (p:Prim)(l:Value):Array Value:=bunc p l++ #[.bool false,.bool false,nS]
def rcv (ga ka:Option Addr)(p:Prim)(l:Value):Array Value:=vrc p l++ #[.pointer ga,.pointer ka,nS]
theorem size221 {cs:Array Value}(h:cs.size=23):(Tryz.prog.info? 221).map (·.size)=some cs.size:=by rw[h];kernel_rfl
theorem zero221 (w:World):(zeroValue 221).run Tryz.prog w= .ok (.agg (vrc pZ nS)) w:=by kernel_rfl
theorem vrc_one (p:Prim)(a:Option Addr)(n c:Nat):(vrc p (.slice a n c)).all (·.oneCell')=true:=by simp[vrc,bunc,Value.oneCell']
section
variable {w:World} {R:Nat} {ga ka:Option Addr} {p:Prim} {l:Value}
theorem rcv_cells (h:At w R (.cells (rcv ga ka p l) 278)):w.cell? ⟨R,20,none⟩=some (.bool false)∧w.cell? ⟨R,25,none⟩=some nS:=by
 refine⟨?_,?_⟩<;>(rw[cell_of_row _ _ _ _ 278 (0,0) h];rfl)
theorem rcv_v (h:At w R (.cells (rcv ga ka p l) 278)):w.rangeAt R 0 (vrc p l).toList:=at_pre h
theorem rcv_b (h:At w R (.cells (rcv ga ka p l) 278)):w.rangeAt R 0 (bunc p l).toList:=by
 have h2:At w R (.cells (bunc p l++(#[.bool false,.bool false,nS]++ #[.pointer ga,.pointer ka,nS])) 278):=by rw[←Array.append_assoc];exact h
 exact at_pre h2
end
theorem psound_any (b:Bun)(h:b.ok)(ho:NoSec b.l)(ga ka:Option Addr)(R g off cap:Nat)(w:World)(hR:At w R (.cells (rcv ga ka b.p (.slice (some ⟨g,off,none⟩) b.l.length cap)) 278))(hc:b.l.length≤cap)(hr:RB w g off b.l):
 Rv 170 #[.pointer (some ⟨R,0,none⟩)] w (.tuple #[]):=by
 have HI:=hid (And.intro h ho);have HC:=hid hc;have HR:=hid hr;have K0:=hid hR;clear h ho hc hr hR;have U0:=hid (Below.refl w.heap.size w);go_enter Tryz.func170,Tryz.ntmps170;obtain⟨c20,c25⟩:=rcv_cells K0.out;go_wp2_with (refine lN 43 11 R 0 (bv b g off cap) (rcv_b K0.out) ?_);refine(sound_any b HI.out.1 HI.out.2 g off cap w HC.out (RB.kp HR.out U0.out)).mono ?_;rintro e w_1 ⟨rfl,hb⟩;have K':=hid (K0.out.kp hb);have U':=tR U0 hb;clear K0 U0;clear hb c20 c25;go_wp2_with fail;go_end0;exact⟨rfl,U'.out⟩
theorem through_nil (r:Value)(k:Int)(w:World):
 Rv 229 #[r,.int .i64 k,nS] w (.tuple #[]):=by
 have U0:=hid (Below.refl w.heap.size w);go_enter Tryz.func229,Tryz.ntmps229;go_wp2_with fail;go_loopw [14] (fun i wr=>i= .int .i64 0∧Below w.heap.size w wr) (fun _ _=>0);case atStart=>exact⟨rfl,U0.out⟩
 case round=>
  obtain⟨rfl,hu⟩:=hrel;have U9:=hid hu;clear hu;go_wp2_with fail;go_end0;exact⟨rfl,U9.out⟩
theorem demand_r (R g off cap:Nat)(b:Bun)(ga ka:Option Addr)(k:Int)(w:World)(Q:QT)(h:b.ok)(ho:NoSec b.l)(hR:At w R (.cells (rcv ga ka b.p (.slice (some ⟨g,off,none⟩) b.l.length cap)) 278))(hc:b.l.length≤cap)(hr:RB w g off b.l)
 (hQ:∀(y8 y9 y10 y11 y12 y13 y14 y15 y16 y17 y18:Value) (w6:World),Below w.heap.size w w6→Q .normal ⟨(.pointer (some ⟨R,0,none⟩)::.int .i64 k::x2::x3::x4::x5::x6::x7::y8::y9::y10::y11::y12::y13::y14::y15::y16::y17::y18::.int .i64 0::.int .i64 0::r).toArray,[]⟩ w6):
 Code.wp Tryz.prog (rg Tryz.f230 0) Q ⟨(.pointer (some ⟨R,0,none⟩)::.int .i64 k::x2::x3::x4::x5::x6::x7::x8::x9::x10::x11::x12::x13::x14::x15::x16::x17::x18::x19::x20::r).toArray,[]⟩ w:=by
 have HQ:=hid hQ;clear hQ;conv=>arg 2;whnf
 refine reg (fun w'=>w'.rangeAt R 0 (bv b g off cap).toList∧w'.cell? ⟨R,25,none⟩=some nS) (fun _=>false) (fun w' hu=>⟨rcv_b (hR.kp hu),(rcv_cells (hR.kp hu)).2⟩) fun HS HU0 hHeld=>?_;have HI:=hid (And.intro h ho);have HC:=hid hc;have HR:=hid hr;clear hR h ho hc hr;refine t2 0 ?_;refine t2 1 ?_;refine t2 2 ?_;refine t2 3 ?_;refine t2 4 ?_;refine t2 5 ?_;refine t2 6 ?_;refine t2 7 ?_;refine t2 8 ?_;refine u2 9 _ rfl (yQ 43 16 R (0) (bv b g off cap) (fun w h=>h.1)) ?_;refine t2 12 ?_;refine rd1 10 rfl fun K hK=>?_;go_simp;(with_reducible refine(for_nil 3 k b g off cap w.drew HI.out.1.few HC.out (RB.kp HR.out HU0.out)).mono ?_);rintro e_ w1 ⟨rfl,hb⟩;have HU1:=tR HU0 hb;clear hb;refine kK hK (HS.out _ HU1.out) fun hHeld=>?_;try simp only[Act.put,fr]
 refine t2 11 ?_;exact dN (HQ.out _ _ _ _ _ _ _ _ _ _ _ _ HU1.out)
theorem demand_any (b:Bun)(h:b.ok)(ho:NoSec b.l)(ga ka:Option Addr)(k:Int)(R g off cap:Nat)(w:World)(hR:At w R (.cells (rcv ga ka b.p (.slice (some ⟨g,off,none⟩) b.l.length cap)) 278))(hc:b.l.length≤cap)(hr:RB w g off b.l):
 Rv 230 #[.pointer (some ⟨R,0,none⟩),.int .i64 k] w (.tuple #[]):=by
 have HI:=hid (And.intro h ho);have HC:=hid hc;have HR:=hid hr;have K0:=hid hR;clear h ho hc hr hR;have U0:=hid (Below.refl w.heap.size w);go_enter Tryz.func230,Tryz.ntmps230;go_upto_region 0 with(fail);refine ent (C:=rg Tryz.f230 0) (by kernel_rfl) ?_;refine demand_r R g off cap b ga ka k _ _ HI.out.1 HI.out.2 K0.out HC.out HR.out ?_;intro y8 y9 y10 y11 y12 y13 y14 y15 y16 y17 y18 w6 hb;have K':=hid (K0.out.kp hb);have U':=tR U0 hb;clear K0 U0;clear hb;go_wp2_with fail;go_loopw [20] (fun i wr=>i= .int .i64 0∧Below w.heap.size w wr) (fun _ _=>0);case atStart=>exact⟨rfl,U'.out⟩
 case round=>
  obtain⟨rfl,hu⟩:=hrel;have U9:=hid hu;clear hu;go_wp2_with fail;go_end0;exact⟨rfl,U9.out⟩
theorem psteps_any (b:Bun)(h:b.ok)(ho:NoSec b.l)(ga ka:Option Addr)(R g off cap:Nat)(w:World)(hR:At w R (.cells (rcv ga ka b.p (.slice (some ⟨g,off,none⟩) b.l.length cap)) 278))(hc:b.l.length≤cap)(hr:RB w g off b.l):
 Rv 171 #[.pointer (some ⟨R,0,none⟩)] w (.tuple #[]):=by
 have HI:=hid (And.intro h ho);have HC:=hid hc;have HR:=hid hr;have K0:=hid hR;clear h ho hc hr hR;have U0:=hid (Below.refl w.heap.size w);go_enter Tryz.func171,Tryz.ntmps171;go_wp2_with (refine lN 43 10 R 0 (bv b g off cap) (rcv_b K0.out) ?_);refine(Ops_any b HI.out.2 g off cap w HI.out.1.few HC.out (RB.kp HR.out U0.out)).mono ?_;rintro e w_1 ⟨rfl,hb⟩;have K':=hid (K0.out.kp hb);have U':=tR U0 hb;clear K0 U0;clear hb;go_wp2_with fail;refine(through_nil _ 2 w_1).mono ?_;rintro e w_4 ⟨rfl,hb⟩;replace K':=hid (K'.out.kp hb);replace U':=tR U' hb;clear hb;go_wp2_with fail;refine(psound_any b HI.out.1 HI.out.2 ga ka R g off cap w_4 K'.out HC.out (RB.kp HR.out U'.out)).mono ?_;rintro e w_7 ⟨rfl,hb⟩;replace K':=hid (K'.out.kp hb);replace U':=tR U' hb;clear hb;obtain⟨c20,c25⟩:=rcv_cells K'.out;go_wp2_with (refine lN 43 29 R 0 (bv b g off cap) (rcv_b K'.out) ?_);refine(Ops_any b HI.out.2 g off cap w_7 HI.out.1.few HC.out (RB.kp HR.out U'.out)).mono ?_;rintro e w_10 ⟨rfl,hb⟩;replace K':=hid (K'.out.kp hb);replace U':=tR U' hb;clear hb c20 c25;go_wp2_with fail;refine(through_nil _ 1 w_10).mono ?_;rintro e w_13 ⟨rfl,hb⟩;replace K':=hid (K'.out.kp hb);replace U':=tR U' hb;clear hb;go_wp2_with fail;obtain⟨w_16,he,hb,hk⟩:=mk1 w_13 (#[.int .i64 1,.int .i64 2]) 3;rw[←he];clear he;replace K':=hid (K'.out.kp hb);replace U':=tR U' hb;have F':=hid hk;clear hb hk;go_loopw [39] (fun x wr=>∃j:Nat,j≤2∧x= .int .i64 j∧At wr R (.cells (rcv ga ka b.p (.slice (some ⟨g,off,none⟩) b.l.length cap)) 278)∧At wr (w_13.heap.size) (.cells #[.int .i64 1,.int .i64 2] 3)∧Below w.heap.size w wr) (fun x _=>2-(intOf x).toNat);case atStart=>exact⟨0,by decide,rfl,K'.out,F'.out,U'.out⟩
 case round=>
  obtain⟨j,hj,rfl,hK,hF,hU⟩:=hrel;have K9:=hid hK;have F9:=hid hF;have U9:=hid hU;clear hK hF hU;rcases(show j=0∨j=1∨j=2 from by omega)with rfl|rfl|rfl
  · obtain⟨c20,c25⟩:=rcv_cells K9.out;have cF:wr.cell? ⟨w_13.heap.size,0,none⟩=some (.int .i64 1):=by rw[cell_of_row _ _ _ _ 3 (0,0) F9.out];rfl
    go_wp2_with fail;refine(demand_any b HI.out.1 HI.out.2 ga ka 1 R g off cap wr K9.out HC.out (RB.kp HR.out U9.out)).mono ?_;rintro e w_501 ⟨rfl,hb⟩;replace K':=hid (K9.out.kp hb);replace F':=hid (F9.out.kp hb);replace U':=tR U9 hb;clear K9 F9 U9;clear hb cF c20 c25;go_wp2_with fail;go_roundw;case rel=>exact⟨1,by decide,by go_num,K'.out,F'.out,U'.out⟩
    case measure=>simp[intOf]
  · obtain⟨c20,c25⟩:=rcv_cells K9.out;have cF:wr.cell? ⟨w_13.heap.size,1,none⟩=some (.int .i64 2):=by rw[cell_of_row _ _ _ _ 3 (0,0) F9.out];rfl
    go_wp2_with fail;refine(demand_any b HI.out.1 HI.out.2 ga ka 2 R g off cap wr K9.out HC.out (RB.kp HR.out U9.out)).mono ?_;rintro e w_501 ⟨rfl,hb⟩;replace K':=hid (K9.out.kp hb);replace F':=hid (F9.out.kp hb);replace U':=tR U9 hb;clear K9 F9 U9;clear hb cF c20 c25;go_wp2_with fail;go_roundw;case rel=>exact⟨2,by decide,by go_num,K'.out,F'.out,U'.out⟩
    case measure=>simp[intOf]
  · go_wp2_with fail;go_end0;exact⟨rfl,U9.out⟩
theorem pin_any (b:Bun)(h:b.ok)(ho:NoSec b.l)(ga ka:Option Addr)(g off cap:Nat)(w:World)(hc:b.l.length≤cap)(hr:RB w g off b.l):
 Calls Tryz.prog 119 #[.pointer ga,.pointer ka,nS,.agg (bv b g off cap)] w fun e w'=>∃g2 cap2,e= .returned (.agg (vrc b.p (.slice (some ⟨g2,0,none⟩) b.l.length cap2)))∧Below w.heap.size w w'∧w.heap.size≤g2∧b.l.length≤cap2∧RB w' g2 0 b.l:=by
 have HI:=hid (And.intro h ho);have HC:=hid hc;have HR:=hid hr;clear h ho hc hr;have hz221:=zero221;obtain⟨w1,HE,U0,B',S'⟩:=mH2 w (bv b g off cap) 43 (vrc pZ nS) 221;go_enter Tryz.func119,Tryz.ntmps119;go_upto_region 1 with(fail);rw[←HE.out];clear HE;have HSZ:=hid (And.intro (show w.heap.size≤w1.heap.size by have:=S'.out.lt;omega) (show w.heap.size+1<w1.heap.size from S'.out.lt));go_wp2_with (refine lQ 43 7 B'.out ?_);refine(own_any b g off cap w1 HI.out.1.few HC.out (RB.kp HR.out U0.out)).mono ?_;rintro e w_1 ⟨g2,cap2,rfl,hb,h1,h2,h3⟩;replace B':=hid (B'.out.kp hb);replace S':=hid (S'.out.kp hb);have U':=tR U0 hb;clear U0;have R':=hid (h3);clear hb h3;have HG:=hid (And.intro h1 h2);clear h1 h2;go_wp2_with (refine wpList_build_to (o:=⟨some 12,_,_,_,_,_⟩) rfl 221 _ rfl (vrc b.p (.slice (some ⟨g2,0,none⟩) b.l.length cap2)) (by kernel_rfl) ?_);refine(rright_nil w_1).mono ?_;rintro e w_6 ⟨rfl,hb⟩;replace B':=hid (B'.out.kp hb);replace S':=hid (S'.out.kp hb);replace R':=hid (R'.out.kp hb);replace U':=tR U' hb;clear hb;go_upto_region 2 with(refine wpList_build_to (o:=⟨some 17,_,_,_,_,_⟩) rfl 278 _ rfl (rcv ga ka b.p (.slice (some ⟨g2,0,none⟩) b.l.length cap2)) (by kernel_rfl) ?_);obtain⟨w_11,he,hb,hk⟩:=mk1 w_6 (rcv ga ka b.p (.slice (some ⟨g2,0,none⟩) b.l.length cap2)) 278;rw[←he];clear he;replace B':=hid (B'.out.kp hb);replace S':=hid (S'.out.kp hb);replace R':=hid (R'.out.kp hb);replace U':=tR U' hb;have K':=hid hk;clear hb hk;go_wp2_with fail;refine(psound_any b HI.out.1 HI.out.2 ga ka (w_6.heap.size) g2 0 cap2 w_11 K'.out HG.out.2 R'.out).mono ?_;rintro e w_17 ⟨rfl,hb⟩;replace B':=hid (B'.out.kp hb);replace S':=hid (S'.out.kp hb);replace R':=hid (R'.out.kp hb);replace K':=hid (K'.out.kp hb);replace U':=tR U' hb;clear hb;obtain⟨c20,c25⟩:=rcv_cells K'.out;go_wp2_with (refine wpList_load_g (by rfl) 43 (.tmp 7) rfl (w.heap.size) 0 (by rfl) (bv b g off cap) _ (at_range B'.out) Tryz.underlying43 rfl (size43 rfl) ?_);refine(pfrag_any b HI.out.1.p g off cap w_17).mono ?_;rintro e w_23 ⟨rfl,hb⟩;replace B':=hid (B'.out.kp hb);replace S':=hid (S'.out.kp hb);replace R':=hid (R'.out.kp hb);replace K':=hid (K'.out.kp hb);replace U':=tR U' hb;clear hb c20 c25;go_wp2_with fail;refine(psteps_any b HI.out.1 HI.out.2 ga ka (w_6.heap.size) g2 0 cap2 w_23 K'.out HG.out.2 R'.out).mono ?_;rintro e w_29 ⟨rfl,hb⟩;replace B':=hid (B'.out.kp hb);replace S':=hid (S'.out.kp hb);replace R':=hid (R'.out.kp hb);replace K':=hid (K'.out.kp hb);replace U':=tR U' hb;clear hb;obtain⟨c20,c25⟩:=rcv_cells K'.out;go_wp2_with (first|refine sR 221 8 47 (w.heap.size+1) (vrc b.p (.slice (some ⟨g2,0,none⟩) b.l.length cap2)) S'.out (size221 rfl) (vrc_one ..) ?_|refine lN 221 46 (w_6.heap.size) 0 (vrc b.p (.slice (some ⟨g2,0,none⟩) b.l.length cap2)) (rcv_v K'.out) ?_);have hu9:=upd_setRow w_29 (w.heap.size+1) (vrc b.p (.slice (some ⟨g2,0,none⟩) b.l.length cap2));have hb9:=hu9.below (U'.out).size (fun k e=>by rw[e];first|exact Nat.le_refl _|omega)
 exact bodyPost_ret (rQ ((S'.out).row _)) rfl ⟨g2,cap2,rfl,(U'.out).trans (hb9.mono (Nat.le_refl _)),Nat.le_trans HSZ.out.1 HG.out.1,HG.out.2,(R'.out).upd hu9 (show ¬g2=w.heap.size+1 by have:=HG.out.1;have:=HSZ.out.2;omega)⟩
end
end Go.Proofs.YtlhlmflacdeafaaGreatDoor
