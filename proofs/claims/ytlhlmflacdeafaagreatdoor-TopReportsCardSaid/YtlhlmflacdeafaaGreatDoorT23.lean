/-
  A part of the walk of TopReports.
-/
import Derived.Test.YtlhlmflacdeafaaGreatDoorT22
set_option maxRecDepth 100000
set_option maxHeartbeats 4000000
set_option linter.unusedVariables false
set_option linter.unusedSimpArgs false
namespace Go.Proofs.YtlhlmflacdeafaaGreatDoor
section
open Go.Conc Go.RowKit
def kyS:Fin 3→ByteArray
 |0=>⟨#[115,105,103,110,105,110,103,32,107,101,121]⟩
 |1=>⟨#[48,49,50,51,52,53,54,55,56,57,97,98,99,100,101,102]⟩
 |2=>⟨#[48,49,50,51,52,53,54,55,56,57,97,98,99,100,101,102,48,49,50,51,52,53,54,55,56,57,97,98,99,100,101,102]⟩
def kyc (i:Fin 3):Array Value:=#[.int .i64 ((i.val+1:Nat):Int),.string (kyS i)]
def ky6:Array Value:=#[.int .i64 1,.string ⟨#[115,105,103,110,105,110,103,32,107,101,121]⟩,.int .i64 2,.string ⟨#[48,49,50,51,52,53,54,55,56,57,97,98,99,100,101,102]⟩,.int .i64 3,.string ⟨#[48,49,50,51,52,53,54,55,56,57,97,98,99,100,101,102,48,49,50,51,52,53,54,55,56,57,97,98,99,100,101,102]⟩]
theorem size186 {cs:Array Value}(h:cs.size=2):(Tryz.prog.info? 186).map (·.size)=some cs.size:=by rw[h];kernel_rfl
theorem zero186 (w:World):(zeroValue 186).run Tryz.prog w= .ok (.agg #[.int .i64 0,.string ⟨#[]⟩]) w:=by kernel_rfl
theorem info186:(Tryz.prog.info? 186).map (fun i=>(i.zero,i.size,i.bytes))=some (some (.agg #[.int .i64 0,.string ⟨#[]⟩]),2,24):=by kernel_rfl
theorem kpred00 (P:Nat)(w:World)(hP:At w P (.cells (#[.int .i64 1,.string ⟨#[115,105,103,110,105,110,103,32,107,101,121]⟩]) 186)):
 Rv 104 #[.agg (#[.int .i64 1,.string ⟨#[115,105,103,110,105,110,103,32,107,101,121]⟩]),.pointer (some ⟨P,0,none⟩)] w (.bool true):=by
 have K0:=hid hP;clear hP;obtain⟨w1,HE,U0,X'⟩:=mH1 w (#[.int .i64 1,.string ⟨#[115,105,103,110,105,110,103,32,107,101,121]⟩]) 186;go_enter Tryz.func104,Tryz.ntmps104;go_upto_region 1 with(fail);rw[←HE.out];clear HE;have x0:w1.cell? ⟨w.heap.size,0,none⟩=some (.int .i64 1):=by rw[cell_of_row _ _ _ _ 186 (0,0) X'.out];rfl
 have x1:w1.cell? ⟨w.heap.size,1,none⟩=some (.string ⟨#[115,105,103,110,105,110,103,32,107,101,121]⟩):=by rw[cell_of_row _ _ _ _ 186 (0,0) X'.out];rfl
 have k0:w1.cell? ⟨P,0,none⟩=some (.int .i64 1):=by rw[cell_of_row _ _ _ _ 186 (0,0) (K0.out.kp U0.out)];rfl
 have k1:w1.cell? ⟨P,1,none⟩=some (.string ⟨#[115,105,103,110,105,110,103,32,107,101,121]⟩):=by rw[cell_of_row _ _ _ _ 186 (0,0) (K0.out.kp U0.out)];rfl
 go_wp2_with fail;go_ret;exact⟨rfl,U0.out⟩
theorem kpred01 (P:Nat)(w:World)(hP:At w P (.cells (#[.int .i64 2,.string ⟨#[48,49,50,51,52,53,54,55,56,57,97,98,99,100,101,102]⟩]) 186)):
 Rv 104 #[.agg (#[.int .i64 1,.string ⟨#[115,105,103,110,105,110,103,32,107,101,121]⟩]),.pointer (some ⟨P,0,none⟩)] w (.bool false):=by
 have K0:=hid hP;clear hP;obtain⟨w1,HE,U0,X'⟩:=mH1 w (#[.int .i64 1,.string ⟨#[115,105,103,110,105,110,103,32,107,101,121]⟩]) 186;go_enter Tryz.func104,Tryz.ntmps104;go_upto_region 1 with(fail);rw[←HE.out];clear HE;have x0:w1.cell? ⟨w.heap.size,0,none⟩=some (.int .i64 1):=by rw[cell_of_row _ _ _ _ 186 (0,0) X'.out];rfl
 have x1:w1.cell? ⟨w.heap.size,1,none⟩=some (.string ⟨#[115,105,103,110,105,110,103,32,107,101,121]⟩):=by rw[cell_of_row _ _ _ _ 186 (0,0) X'.out];rfl
 have k0:w1.cell? ⟨P,0,none⟩=some (.int .i64 2):=by rw[cell_of_row _ _ _ _ 186 (0,0) (K0.out.kp U0.out)];rfl
 have k1:w1.cell? ⟨P,1,none⟩=some (.string ⟨#[48,49,50,51,52,53,54,55,56,57,97,98,99,100,101,102]⟩):=by rw[cell_of_row _ _ _ _ 186 (0,0) (K0.out.kp U0.out)];rfl
 go_wp2_with fail;go_ret;exact⟨rfl,U0.out⟩
theorem kpred02 (P:Nat)(w:World)(hP:At w P (.cells (#[.int .i64 3,.string ⟨#[48,49,50,51,52,53,54,55,56,57,97,98,99,100,101,102,48,49,50,51,52,53,54,55,56,57,97,98,99,100,101,102]⟩]) 186)):
 Rv 104 #[.agg (#[.int .i64 1,.string ⟨#[115,105,103,110,105,110,103,32,107,101,121]⟩]),.pointer (some ⟨P,0,none⟩)] w (.bool false):=by
 have K0:=hid hP;clear hP;obtain⟨w1,HE,U0,X'⟩:=mH1 w (#[.int .i64 1,.string ⟨#[115,105,103,110,105,110,103,32,107,101,121]⟩]) 186;go_enter Tryz.func104,Tryz.ntmps104;go_upto_region 1 with(fail);rw[←HE.out];clear HE;have x0:w1.cell? ⟨w.heap.size,0,none⟩=some (.int .i64 1):=by rw[cell_of_row _ _ _ _ 186 (0,0) X'.out];rfl
 have x1:w1.cell? ⟨w.heap.size,1,none⟩=some (.string ⟨#[115,105,103,110,105,110,103,32,107,101,121]⟩):=by rw[cell_of_row _ _ _ _ 186 (0,0) X'.out];rfl
 have k0:w1.cell? ⟨P,0,none⟩=some (.int .i64 3):=by rw[cell_of_row _ _ _ _ 186 (0,0) (K0.out.kp U0.out)];rfl
 have k1:w1.cell? ⟨P,1,none⟩=some (.string ⟨#[48,49,50,51,52,53,54,55,56,57,97,98,99,100,101,102,48,49,50,51,52,53,54,55,56,57,97,98,99,100,101,102]⟩):=by rw[cell_of_row _ _ _ _ 186 (0,0) (K0.out.kp U0.out)];rfl
 go_wp2_with fail;go_ret;exact⟨rfl,U0.out⟩
theorem kpred10 (P:Nat)(w:World)(hP:At w P (.cells (#[.int .i64 1,.string ⟨#[115,105,103,110,105,110,103,32,107,101,121]⟩]) 186)):
 Rv 104 #[.agg (#[.int .i64 2,.string ⟨#[48,49,50,51,52,53,54,55,56,57,97,98,99,100,101,102]⟩]),.pointer (some ⟨P,0,none⟩)] w (.bool false):=by
 have K0:=hid hP;clear hP;obtain⟨w1,HE,U0,X'⟩:=mH1 w (#[.int .i64 2,.string ⟨#[48,49,50,51,52,53,54,55,56,57,97,98,99,100,101,102]⟩]) 186;go_enter Tryz.func104,Tryz.ntmps104;go_upto_region 1 with(fail);rw[←HE.out];clear HE;have x0:w1.cell? ⟨w.heap.size,0,none⟩=some (.int .i64 2):=by rw[cell_of_row _ _ _ _ 186 (0,0) X'.out];rfl
 have x1:w1.cell? ⟨w.heap.size,1,none⟩=some (.string ⟨#[48,49,50,51,52,53,54,55,56,57,97,98,99,100,101,102]⟩):=by rw[cell_of_row _ _ _ _ 186 (0,0) X'.out];rfl
 have k0:w1.cell? ⟨P,0,none⟩=some (.int .i64 1):=by rw[cell_of_row _ _ _ _ 186 (0,0) (K0.out.kp U0.out)];rfl
 have k1:w1.cell? ⟨P,1,none⟩=some (.string ⟨#[115,105,103,110,105,110,103,32,107,101,121]⟩):=by rw[cell_of_row _ _ _ _ 186 (0,0) (K0.out.kp U0.out)];rfl
 go_wp2_with fail;go_ret;exact⟨rfl,U0.out⟩
theorem kpred11 (P:Nat)(w:World)(hP:At w P (.cells (#[.int .i64 2,.string ⟨#[48,49,50,51,52,53,54,55,56,57,97,98,99,100,101,102]⟩]) 186)):
 Rv 104 #[.agg (#[.int .i64 2,.string ⟨#[48,49,50,51,52,53,54,55,56,57,97,98,99,100,101,102]⟩]),.pointer (some ⟨P,0,none⟩)] w (.bool true):=by
 have K0:=hid hP;clear hP;obtain⟨w1,HE,U0,X'⟩:=mH1 w (#[.int .i64 2,.string ⟨#[48,49,50,51,52,53,54,55,56,57,97,98,99,100,101,102]⟩]) 186;go_enter Tryz.func104,Tryz.ntmps104;go_upto_region 1 with(fail);rw[←HE.out];clear HE;have x0:w1.cell? ⟨w.heap.size,0,none⟩=some (.int .i64 2):=by rw[cell_of_row _ _ _ _ 186 (0,0) X'.out];rfl
 have x1:w1.cell? ⟨w.heap.size,1,none⟩=some (.string ⟨#[48,49,50,51,52,53,54,55,56,57,97,98,99,100,101,102]⟩):=by rw[cell_of_row _ _ _ _ 186 (0,0) X'.out];rfl
 have k0:w1.cell? ⟨P,0,none⟩=some (.int .i64 2):=by rw[cell_of_row _ _ _ _ 186 (0,0) (K0.out.kp U0.out)];rfl
 have k1:w1.cell? ⟨P,1,none⟩=some (.string ⟨#[48,49,50,51,52,53,54,55,56,57,97,98,99,100,101,102]⟩):=by rw[cell_of_row _ _ _ _ 186 (0,0) (K0.out.kp U0.out)];rfl
 go_wp2_with fail;go_ret;exact⟨rfl,U0.out⟩
theorem kpred12 (P:Nat)(w:World)(hP:At w P (.cells (#[.int .i64 3,.string ⟨#[48,49,50,51,52,53,54,55,56,57,97,98,99,100,101,102,48,49,50,51,52,53,54,55,56,57,97,98,99,100,101,102]⟩]) 186)):
 Rv 104 #[.agg (#[.int .i64 2,.string ⟨#[48,49,50,51,52,53,54,55,56,57,97,98,99,100,101,102]⟩]),.pointer (some ⟨P,0,none⟩)] w (.bool false):=by
 have K0:=hid hP;clear hP;obtain⟨w1,HE,U0,X'⟩:=mH1 w (#[.int .i64 2,.string ⟨#[48,49,50,51,52,53,54,55,56,57,97,98,99,100,101,102]⟩]) 186;go_enter Tryz.func104,Tryz.ntmps104;go_upto_region 1 with(fail);rw[←HE.out];clear HE;have x0:w1.cell? ⟨w.heap.size,0,none⟩=some (.int .i64 2):=by rw[cell_of_row _ _ _ _ 186 (0,0) X'.out];rfl
 have x1:w1.cell? ⟨w.heap.size,1,none⟩=some (.string ⟨#[48,49,50,51,52,53,54,55,56,57,97,98,99,100,101,102]⟩):=by rw[cell_of_row _ _ _ _ 186 (0,0) X'.out];rfl
 have k0:w1.cell? ⟨P,0,none⟩=some (.int .i64 3):=by rw[cell_of_row _ _ _ _ 186 (0,0) (K0.out.kp U0.out)];rfl
 have k1:w1.cell? ⟨P,1,none⟩=some (.string ⟨#[48,49,50,51,52,53,54,55,56,57,97,98,99,100,101,102,48,49,50,51,52,53,54,55,56,57,97,98,99,100,101,102]⟩):=by rw[cell_of_row _ _ _ _ 186 (0,0) (K0.out.kp U0.out)];rfl
 go_wp2_with fail;go_ret;exact⟨rfl,U0.out⟩
theorem kpred20 (P:Nat)(w:World)(hP:At w P (.cells (#[.int .i64 1,.string ⟨#[115,105,103,110,105,110,103,32,107,101,121]⟩]) 186)):
 Rv 104 #[.agg (#[.int .i64 3,.string ⟨#[48,49,50,51,52,53,54,55,56,57,97,98,99,100,101,102,48,49,50,51,52,53,54,55,56,57,97,98,99,100,101,102]⟩]),.pointer (some ⟨P,0,none⟩)] w (.bool false):=by
 have K0:=hid hP;clear hP;obtain⟨w1,HE,U0,X'⟩:=mH1 w (#[.int .i64 3,.string ⟨#[48,49,50,51,52,53,54,55,56,57,97,98,99,100,101,102,48,49,50,51,52,53,54,55,56,57,97,98,99,100,101,102]⟩]) 186;go_enter Tryz.func104,Tryz.ntmps104;go_upto_region 1 with(fail);rw[←HE.out];clear HE;have x0:w1.cell? ⟨w.heap.size,0,none⟩=some (.int .i64 3):=by rw[cell_of_row _ _ _ _ 186 (0,0) X'.out];rfl
 have x1:w1.cell? ⟨w.heap.size,1,none⟩=some (.string ⟨#[48,49,50,51,52,53,54,55,56,57,97,98,99,100,101,102,48,49,50,51,52,53,54,55,56,57,97,98,99,100,101,102]⟩):=by rw[cell_of_row _ _ _ _ 186 (0,0) X'.out];rfl
 have k0:w1.cell? ⟨P,0,none⟩=some (.int .i64 1):=by rw[cell_of_row _ _ _ _ 186 (0,0) (K0.out.kp U0.out)];rfl
 have k1:w1.cell? ⟨P,1,none⟩=some (.string ⟨#[115,105,103,110,105,110,103,32,107,101,121]⟩):=by rw[cell_of_row _ _ _ _ 186 (0,0) (K0.out.kp U0.out)];rfl
 go_wp2_with fail;go_ret;exact⟨rfl,U0.out⟩
theorem kpred21 (P:Nat)(w:World)(hP:At w P (.cells (#[.int .i64 2,.string ⟨#[48,49,50,51,52,53,54,55,56,57,97,98,99,100,101,102]⟩]) 186)):
 Rv 104 #[.agg (#[.int .i64 3,.string ⟨#[48,49,50,51,52,53,54,55,56,57,97,98,99,100,101,102,48,49,50,51,52,53,54,55,56,57,97,98,99,100,101,102]⟩]),.pointer (some ⟨P,0,none⟩)] w (.bool false):=by
 have K0:=hid hP;clear hP;obtain⟨w1,HE,U0,X'⟩:=mH1 w (#[.int .i64 3,.string ⟨#[48,49,50,51,52,53,54,55,56,57,97,98,99,100,101,102,48,49,50,51,52,53,54,55,56,57,97,98,99,100,101,102]⟩]) 186;go_enter Tryz.func104,Tryz.ntmps104;go_upto_region 1 with(fail);rw[←HE.out];clear HE;have x0:w1.cell? ⟨w.heap.size,0,none⟩=some (.int .i64 3):=by rw[cell_of_row _ _ _ _ 186 (0,0) X'.out];rfl
 have x1:w1.cell? ⟨w.heap.size,1,none⟩=some (.string ⟨#[48,49,50,51,52,53,54,55,56,57,97,98,99,100,101,102,48,49,50,51,52,53,54,55,56,57,97,98,99,100,101,102]⟩):=by rw[cell_of_row _ _ _ _ 186 (0,0) X'.out];rfl
 have k0:w1.cell? ⟨P,0,none⟩=some (.int .i64 2):=by rw[cell_of_row _ _ _ _ 186 (0,0) (K0.out.kp U0.out)];rfl
 have k1:w1.cell? ⟨P,1,none⟩=some (.string ⟨#[48,49,50,51,52,53,54,55,56,57,97,98,99,100,101,102]⟩):=by rw[cell_of_row _ _ _ _ 186 (0,0) (K0.out.kp U0.out)];rfl
 go_wp2_with fail;go_ret;exact⟨rfl,U0.out⟩
theorem kpred22 (P:Nat)(w:World)(hP:At w P (.cells (#[.int .i64 3,.string ⟨#[48,49,50,51,52,53,54,55,56,57,97,98,99,100,101,102,48,49,50,51,52,53,54,55,56,57,97,98,99,100,101,102]⟩]) 186)):
 Rv 104 #[.agg (#[.int .i64 3,.string ⟨#[48,49,50,51,52,53,54,55,56,57,97,98,99,100,101,102,48,49,50,51,52,53,54,55,56,57,97,98,99,100,101,102]⟩]),.pointer (some ⟨P,0,none⟩)] w (.bool true):=by
 have K0:=hid hP;clear hP;obtain⟨w1,HE,U0,X'⟩:=mH1 w (#[.int .i64 3,.string ⟨#[48,49,50,51,52,53,54,55,56,57,97,98,99,100,101,102,48,49,50,51,52,53,54,55,56,57,97,98,99,100,101,102]⟩]) 186;go_enter Tryz.func104,Tryz.ntmps104;go_upto_region 1 with(fail);rw[←HE.out];clear HE;have x0:w1.cell? ⟨w.heap.size,0,none⟩=some (.int .i64 3):=by rw[cell_of_row _ _ _ _ 186 (0,0) X'.out];rfl
 have x1:w1.cell? ⟨w.heap.size,1,none⟩=some (.string ⟨#[48,49,50,51,52,53,54,55,56,57,97,98,99,100,101,102,48,49,50,51,52,53,54,55,56,57,97,98,99,100,101,102]⟩):=by rw[cell_of_row _ _ _ _ 186 (0,0) X'.out];rfl
 have k0:w1.cell? ⟨P,0,none⟩=some (.int .i64 3):=by rw[cell_of_row _ _ _ _ 186 (0,0) (K0.out.kp U0.out)];rfl
 have k1:w1.cell? ⟨P,1,none⟩=some (.string ⟨#[48,49,50,51,52,53,54,55,56,57,97,98,99,100,101,102,48,49,50,51,52,53,54,55,56,57,97,98,99,100,101,102]⟩):=by rw[cell_of_row _ _ _ _ 186 (0,0) (K0.out.kp U0.out)];rfl
 go_wp2_with fail;go_ret;exact⟨rfl,U0.out⟩
theorem kpred (x k:Fin 3)(P:Nat)(w:World)(hP:At w P (.cells (kyc k) 186)):
 Rv 104 #[.agg (kyc x),.pointer (some ⟨P,0,none⟩)] w (.bool (decide (x=k))):=by
 match x,k,hP with
 |0,0,hP=>exact kpred00 P w hP
 |0,1,hP=>exact kpred01 P w hP
 |0,2,hP=>exact kpred02 P w hP
 |1,0,hP=>exact kpred10 P w hP
 |1,1,hP=>exact kpred11 P w hP
 |1,2,hP=>exact kpred12 P w hP
 |2,0,hP=>exact kpred20 P w hP
 |2,1,hP=>exact kpred21 P w hP
 |2,2,hP=>exact kpred22 P w hP
theorem kidx (i:Fin 3)(P b c:Nat)(w:World)(hb:At w b (.cells ky6 186))(hP:At w P (.cells (kyc i) 186)):
 Rv 158 #[.slice (some ⟨b,0,none⟩) i.val c,.func (.func 104) #[] #[.pointer (some ⟨P,0,none⟩)]] w (.int .i64 (-1)):=by
 refine(AnyQ.slices_IndexFunc Tryz.laysIf158 2 Tryz.isAgg186 Tryz.sizeOf186 (fun x:Fin 3=>(kyc x).toList) (fun _=>rfl) (fun x=>decide (x=i)) 104 #[.pointer (some ⟨P,0,none⟩)] (enters_of Tryz.func104 (by kernel_rfl) rfl) b 0 i.val c [0,1,2] w
  (fun W x hbW=>(kpred x i P W (hP.kp hbW)).mono fun e w' ⟨h1,h2⟩=>⟨h1,hbW.trans (h2.mono hbW.size)⟩) (by show i.val≤3;omega) (by have:=i.isLt;omega) hb.lt (fun j hj m v hv=>?_)).mono ?_
 · have hj:j<3:=hj;rw[cell_of_row _ _ _ _ 186 (0,0) hb];rcases(show j=0∨j=1∨j=2 by omega)with rfl|rfl|rfl
   all_goals
    have hm:m<2:=(List.getElem?_eq_some_iff.1 hv).1
    rcases(show m=0∨m=1 by omega)with rfl|rfl<;>exact hv
 · rintro e w' ⟨rfl,hbl⟩;refine⟨?_,hbl⟩;match i with
   |0=>rfl
   |1=>rfl
   |2=>rfl
theorem khad (i:Fin 3)(P b c:Nat)(w:World)(hb:At w b (.cells ky6 186))(hP:At w P (.cells (kyc i) 186)):
 Rv 103 #[.slice (some ⟨b,0,none⟩) i.val c,.func (.func 104) #[] #[.pointer (some ⟨P,0,none⟩)]] w (.bool false):=by
 have HB:=hid hb;have HP:=hid hP;clear hb hP;have U0:=hid (Below.refl w.heap.size w);go_enter Tryz.func103,Tryz.ntmps103;go_wp2_with fail;refine(kidx i P b c w HB.out HP.out).mono ?_;rintro e w_1 ⟨rfl,hb⟩;have U':=tR U0 hb;clear U0;clear hb;go_wp2_with fail;go_ret;exact⟨rfl,U'.out⟩
theorem kclone (b c:Nat)(w:World)(hb:At w b (.cells ky6 186)):
 Calls Tryz.prog 105 #[.slice (some ⟨b,0,none⟩) 3 c] w fun e w'=>∃g cap,e= .returned (.slice (some ⟨g,0,none⟩) 3 cap)∧Below w.heap.size w w':=by
 obtain⟨i0,hi,hz0,hz1,hz2⟩:=info_parts info186;refine(AnyE.slices_Clone Tryz.laysCl105 i0 _ 2 24 hi hz0 hz1 hz2 rfl (by decide) Tryz.sizeOf186 b 0 3 c ky6.toList w rfl (by decide) (by decide) (fun j u hj=>at_range hb j u hj) (all_one (by simp[ky6,Value.oneCell']))).mono ?_;rintro e w' ⟨v,rfl,h2,h3,h4⟩;rcases h2.2 with⟨h5,_⟩|⟨g,cap,cur,rfl,-⟩
 · exact absurd h5 h3
 · exact⟨g,cap,rfl,h4⟩
theorem knew_any (n b c:Nat)(w:World)(hn:n≤4294967295)(hc:3≤c)(hb:At w b (.cells ky6 186)):
 Calls Tryz.prog 62 #[.int .u64 n,.slice (some ⟨b,0,none⟩) 3 c] w fun e w'=>∃ka:Option Addr,e= .returned (.tuple #[.pointer ka,.int .i64 0])∧Below w.heap.size w w':=by
 have HB:=hid hb;have hn9:(n:Int)≤4294967295:=by omega
 have hc3:(3:Int)≤(c:Int):=by omega
 clear hb hn hc;have hz186:=zero186;have U0:=hid (Below.refl w.heap.size w);go_enter Tryz.func62,Tryz.ntmps62;go_wp2_with fail;refine wp_loop_rounds 4 ?_;rw[rounds_succ];have rj:w.rangeAt b (0+0*2) (#[.int .i64 1,.string ⟨#[115,105,103,110,105,110,103,32,107,101,121]⟩]).toList:=fun j v hj=>by
  rw[cell_of_row _ _ _ _ 186 (0,0) (HB.out.kp U0.out)];have hm:j<2:=(List.getElem?_eq_some_iff.1 hj).1;rcases(show j=0∨j=1 by omega)with rfl|rfl<;>exact hj
 go_upto_region 6 with(refine wpList_load_mid rfl 186 (.tmp 21) rfl b (0+0*2) (by first|rfl|simp[Act.eval]) (#[.int .i64 1,.string ⟨#[115,105,103,110,105,110,103,32,107,101,121]⟩]).toList _ rj Tryz.underlying186 rfl (size186 (cs:=#[.int .i64 1,.string ⟨#[115,105,103,110,105,110,103,32,107,101,121]⟩]) rfl) ?_);obtain⟨w_1,he,hb,hk⟩:=mk1 w (#[.int .i64 1,.string ⟨#[115,105,103,110,105,110,103,32,107,101,121]⟩]) 186;rw[←he];clear he;have U':=tR U0 hb;clear U0;have V':=hid hk;clear hb hk;clear rj;go_wp2_with fail;refine(show Calls Tryz.prog 103 #[.slice (some ⟨b,0,none⟩) 0 c,.func (.func 104) #[] #[.pointer (some ⟨w.heap.size,0,none⟩)]] w_1 _ from khad 0 (w.heap.size) b c w_1 (HB.out.kp U'.out) V'.out).mono ?_;rintro e w_4 ⟨rfl,hb⟩;replace V':=hid (V'.out.kp hb);replace U':=tR U' hb;clear hb;have v0:w_4.cell? ⟨w.heap.size,0,none⟩=some (.int .i64 1):=by rw[cell_of_row _ _ _ _ 186 (0,0) V'.out];rfl
 have v1:w_4.cell? ⟨w.heap.size,1,none⟩=some (.string ⟨#[115,105,103,110,105,110,103,32,107,101,121]⟩):=by rw[cell_of_row _ _ _ _ 186 (0,0) V'.out];rfl
 go_wp2_with fail;clear v0 v1;clear V';rw[rounds_succ];have rj:w_4.rangeAt b (0+1*2) (#[.int .i64 2,.string ⟨#[48,49,50,51,52,53,54,55,56,57,97,98,99,100,101,102]⟩]).toList:=fun j v hj=>by
  rw[cell_of_row _ _ _ _ 186 (0,0) (HB.out.kp U'.out)];have hm:j<2:=(List.getElem?_eq_some_iff.1 hj).1;rcases(show j=0∨j=1 by omega)with rfl|rfl<;>exact hj
 go_upto_region 6 with(refine wpList_load_mid rfl 186 (.tmp 21) rfl b (0+1*2) (by first|rfl|simp[Act.eval]) (#[.int .i64 2,.string ⟨#[48,49,50,51,52,53,54,55,56,57,97,98,99,100,101,102]⟩]).toList _ rj Tryz.underlying186 rfl (size186 (cs:=#[.int .i64 2,.string ⟨#[48,49,50,51,52,53,54,55,56,57,97,98,99,100,101,102]⟩]) rfl) ?_);obtain⟨w_7,he,hb,hk⟩:=mk1 w_4 (#[.int .i64 2,.string ⟨#[48,49,50,51,52,53,54,55,56,57,97,98,99,100,101,102]⟩]) 186;rw[←he];clear he;replace U':=tR U' hb;replace V':=hid hk;clear hb hk;clear rj;go_wp2_with fail;refine(show Calls Tryz.prog 103 #[.slice (some ⟨b,0,none⟩) 1 c,.func (.func 104) #[] #[.pointer (some ⟨w_4.heap.size,0,none⟩)]] w_7 _ from khad 1 (w_4.heap.size) b c w_7 (HB.out.kp U'.out) V'.out).mono ?_;rintro e w_10 ⟨rfl,hb⟩;replace V':=hid (V'.out.kp hb);replace U':=tR U' hb;clear hb;have v0:w_10.cell? ⟨w_4.heap.size,0,none⟩=some (.int .i64 2):=by rw[cell_of_row _ _ _ _ 186 (0,0) V'.out];rfl
 have v1:w_10.cell? ⟨w_4.heap.size,1,none⟩=some (.string ⟨#[48,49,50,51,52,53,54,55,56,57,97,98,99,100,101,102]⟩):=by rw[cell_of_row _ _ _ _ 186 (0,0) V'.out];rfl
 go_wp2_with fail;clear v0 v1;clear V';rw[rounds_succ];have rj:w_10.rangeAt b (0+2*2) (#[.int .i64 3,.string ⟨#[48,49,50,51,52,53,54,55,56,57,97,98,99,100,101,102,48,49,50,51,52,53,54,55,56,57,97,98,99,100,101,102]⟩]).toList:=fun j v hj=>by
  rw[cell_of_row _ _ _ _ 186 (0,0) (HB.out.kp U'.out)];have hm:j<2:=(List.getElem?_eq_some_iff.1 hj).1;rcases(show j=0∨j=1 by omega)with rfl|rfl<;>exact hj
 go_upto_region 6 with(refine wpList_load_mid rfl 186 (.tmp 21) rfl b (0+2*2) (by first|rfl|simp[Act.eval]) (#[.int .i64 3,.string ⟨#[48,49,50,51,52,53,54,55,56,57,97,98,99,100,101,102,48,49,50,51,52,53,54,55,56,57,97,98,99,100,101,102]⟩]).toList _ rj Tryz.underlying186 rfl (size186 (cs:=#[.int .i64 3,.string ⟨#[48,49,50,51,52,53,54,55,56,57,97,98,99,100,101,102,48,49,50,51,52,53,54,55,56,57,97,98,99,100,101,102]⟩]) rfl) ?_);obtain⟨w_13,he,hb,hk⟩:=mk1 w_10 (#[.int .i64 3,.string ⟨#[48,49,50,51,52,53,54,55,56,57,97,98,99,100,101,102,48,49,50,51,52,53,54,55,56,57,97,98,99,100,101,102]⟩]) 186;rw[←he];clear he;replace U':=tR U' hb;replace V':=hid hk;clear hb hk;clear rj;go_wp2_with fail;refine(show Calls Tryz.prog 103 #[.slice (some ⟨b,0,none⟩) 2 c,.func (.func 104) #[] #[.pointer (some ⟨w_10.heap.size,0,none⟩)]] w_13 _ from khad 2 (w_10.heap.size) b c w_13 (HB.out.kp U'.out) V'.out).mono ?_;rintro e w_16 ⟨rfl,hb⟩;replace V':=hid (V'.out.kp hb);replace U':=tR U' hb;clear hb;have v0:w_16.cell? ⟨w_10.heap.size,0,none⟩=some (.int .i64 3):=by rw[cell_of_row _ _ _ _ 186 (0,0) V'.out];rfl
 have v1:w_16.cell? ⟨w_10.heap.size,1,none⟩=some (.string ⟨#[48,49,50,51,52,53,54,55,56,57,97,98,99,100,101,102,48,49,50,51,52,53,54,55,56,57,97,98,99,100,101,102]⟩):=by rw[cell_of_row _ _ _ _ 186 (0,0) V'.out];rfl
 go_wp2_with fail;clear v0 v1;clear V';rw[rounds_succ];go_wp2_with fail;refine(kclone b c w_16 (HB.out.kp U'.out)).mono ?_;rintro e w_19 ⟨g2,cap2,rfl,hb⟩;replace U':=tR U' hb;clear hb;have hmm:=@run_makeMap Tryz.prog;go_wp2_with fail;go_ret2;exact⟨_,rfl,((U'.out).alloc (U'.out).size _).alloc (by rw[World.size_alloc];have:=(U'.out).size;omega) _⟩
theorem rhas_nil (fv:Value)(w:World):
 Rv 153 #[nS,fv] w (.bool false):=by
 have U0:=hid (Below.refl w.heap.size w);go_enter Tryz.func153,Tryz.ntmps153;go_wp2_with fail;refine(ridx_nil _ w).mono ?_;rintro e w_1 ⟨rfl,hb⟩;have U':=tR U0 hb;clear U0;clear hb;go_wp2_with fail;go_ret;exact⟨rfl,U'.out⟩
theorem may_nil (w:World):
 Rv 98 #[nS] w (.bool true):=by
 have U0:=hid (Below.refl w.heap.size w);go_enter Tryz.func98,Tryz.ntmps98;go_wp2_with fail;refine(rhas_nil _ w).mono ?_;rintro e w_1 ⟨rfl,hb⟩;have U':=tR U0 hb;clear U0;clear hb;go_wp2_with fail;go_ret;exact⟨rfl,U'.out⟩
theorem patz_cells {w:World}{b:Nat}(h:At w b (.cells (patc 0 eZ) 60)):w.cell? ⟨b,0,none⟩=some (.int .i64 0)∧w.cell? ⟨b,1,none⟩=some (.int .i64 0)∧w.cell? ⟨b,2,none⟩=some (.string ⟨#[]⟩)∧w.cell? ⟨b,3,none⟩=some (.int .u64 0)∧w.cell? ⟨b,4,none⟩=some (.int .u64 0):=by
 refine⟨?_,?_,?_,?_,?_⟩<;>(rw[cell_of_row _ _ _ _ 60 (0,0) h];rfl)
theorem pat_e {w:World}{b k:Nat}{e:Eid}(h:At w b (.cells (patc k e) 60)):w.rangeAt b 1 (ec e).toList:=fun j v hj=>by
 have hj4:j<4:=by have:=(List.getElem?_eq_some_iff.1 hj).1;simpa[ec]using this
 rw[cell_of_row _ _ _ _ 60 (0,0) h];rcases(show j=0∨j=1∨j=2∨j=3 by omega)with rfl|rfl|rfl|rfl<;>exact hj
theorem apat_all (w:World):
 Rv 101 #[.agg (patc 0 eZ)] w (.bool true):=by
 obtain⟨w1,HE,U0,P'⟩:=mH1 w (patc 0 eZ) 60;go_enter Tryz.func101,Tryz.ntmps101;go_upto_region 1 with(fail);rw[←HE.out];clear HE;obtain⟨p0,p1,p2,p3,p4⟩:=patz_cells P'.out;go_wp2_with fail;go_ret;exact⟨rfl,U0.out⟩
theorem apat_node (n m:Nat)(w:World)(hn:n≤4294967295)(hm:m≤4294967295):
 Rv 101 #[.agg (patc 2 ⟨2,[],n,m⟩)] w (.bool true):=by
 have HB:=hid (And.intro hn hm);clear hn hm;obtain⟨w1,HE,U0,P'⟩:=mH1 w (patc 2 ⟨2,[],n,m⟩) 60;go_enter Tryz.func101,Tryz.ntmps101;go_upto_region 1 with(fail);rw[←HE.out];clear HE;have p0:w1.cell? ⟨w.heap.size,0,none⟩=some (.int .i64 2):=(patc_cells P'.out).1;have hpe:=pat_e P'.out;generalize he:ec ⟨2,[],n,m⟩=z at*;have HZ:=hid he;clear he;go_wp2_with (refine wpList_load_g (by rfl) 34 (.tmp 19) rfl (w.heap.size) 1 (by rfl) z _ hpe Tryz.underlying34 rfl (size34 (by rw[←HZ.out];rfl)) ?_);refine(show Calls Tryz.prog 102 #[.agg z] w1 _ from by rw[←HZ.out];exact eright_ipn n m w1 HB.out.1 HB.out.2).mono ?_;rintro e w_1 ⟨rfl,hb⟩;replace P':=hid (P'.out.kp hb);have U':=tR U0 hb;clear U0;clear hb hpe p0;go_wp2_with fail;go_ret;exact⟨rfl,U'.out⟩
theorem apat_row (r:Nat×Nat×Nat)(hr:RtOk r)(w:World):Rv 101 #[.agg (ptc r)] w (.bool true):=by
 obtain⟨k,d,x⟩:=r;obtain⟨h1,h2,h3⟩:=hr;have h1:d≤100:=h1;rcases(show k=2∨k=0 from h3)with rfl|rfl
 · exact apat_node (d+1) 0 w (by omega) (by omega)
 · exact apat_all w
theorem abad_row (r:Nat×Nat×Nat)(hr:RtOk r)(w:World):
 Rv 100 #[.agg (rtc r)] w (.bool false):=by
 have HR:=hid hr;clear hr;obtain⟨w1,HE,U0,R'⟩:=mH1 w (rtc r) 103;go_enter Tryz.func100,Tryz.ntmps100;go_upto_region 1 with(fail);rw[←HE.out];clear HE;have hp0:=rtc_pat R'.out;go_wp2_with (refine lM 60 3 (w.heap.size) 0 (ptc r) hp0 Tryz.underlying60 (size60 (cs:=ptc r) rfl) ?_);refine(apat_row r HR.out w1).mono ?_;rintro e w_1 ⟨rfl,hb⟩;replace R':=hid (R'.out.kp hb);have U':=tR U0 hb;clear U0;clear hb hp0;have hp1:=rtc_next R'.out;generalize hx:nd r.2.2=x at*;have HX:=hid hx;clear hx;go_wp2_with (refine wpList_load_g (by rfl) 34 (.tmp 8) rfl (w.heap.size) 5 (by rfl) (ec x) _ hp1 Tryz.underlying34 rfl (size34 (cs:=ec x) rfl) ?_);refine(show Calls Tryz.prog 102 #[.agg (ec x)] w_1 _ from by rw[←HX.out];exact eright_ipn _ _ w_1 (by have:=HR.out.2.1;omega) (by decide)).mono ?_;rintro e w_4 ⟨rfl,hb⟩;replace R':=hid (R'.out.kp hb);replace U':=tR U' hb;clear hb hp1;go_wp2_with fail;go_ret;exact⟨rfl,U'.out⟩
end
section
open Go.Conc Go.RowKit
variable {x0 x2 x5 x7 x8 x9 x10 x11 x12 x13 x14 x15 x16 x17 x18 x19 x20 x21 x22 x23 x24 x25 x26 x27 x28 x29 x30 x31 x32 x33 x34 x35 x36 x37 x38 x39 x40 x41 x42 x43 x44:Value} {r:List Value}
def cfc (i num K kc ro rl rc now:Nat):Array Value:=#[.int .i64 2,.string (st []),.int .u64 (i+1:Nat),.int .u64 0,.int .u64 num,.slice (some ⟨K,0,none⟩) 3 kc,nS,.slice (some ⟨ro,0,none⟩) rl rc,.int .i64 0,.int .u64 now]
theorem cfc_one (i num K kc ro rl rc now:Nat):(cfc i num K kc ro rl rc now).all (·.oneCell')=true:=by simp[cfc,Value.oneCell']
theorem size72 {cs:Array Value}(h:cs.size=10):(Tryz.prog.info? 72).map (·.size)=some cs.size:=by rw[h];kernel_rfl
theorem cfc_cell {w:World}{C:Nat}{cs:Array Value}(h:At w C (.cells cs 72))(j:Nat)(v:Value)(hv:cs[j]? =some v):w.cell? ⟨C,j,none⟩=some v:=by
 rw[cell_of_row _ _ _ _ 72 (0,0) h];exact hv
theorem cfc_node {w:World}{C i num K kc ro rl rc now:Nat}(h:At w C (.cells (cfc i num K kc ro rl rc now) 72)):w.rangeAt C 0 (ec (nd i)).toList:=fun j v hj=>by
 rw[Nat.zero_add];refine cfc_cell h j v ?_;have:j<4:=(List.getElem?_eq_some_iff.1 hj).1;rcases(show j=0∨j=1∨j=2∨j=3 by omega)with rfl|rfl|rfl|rfl<;>exact hj
theorem neq34 (n:Nat)(w:World):(binOp .neq 34 (.agg (ec ⟨2,[],n,0⟩)) (.agg (ec ⟨2,[],n,0⟩))).run Tryz.prog w= .ok (.bool false) w:=by
 show(binOp .neq 34 (.agg #[.int .i64 2,.string (st []),.int .u64 n,.int .u64 0]) (.agg #[.int .i64 2,.string (st []),.int .u64 n,.int .u64 0])).run Tryz.prog w=_;go_simp;try simp
theorem eqn34 (n:Nat)(w:World):(binOp .eql 34 (.agg (ec ⟨2,[],n,0⟩)) (.agg (ec eNone))).run Tryz.prog w= .ok (.bool false) w:=by kernel_rfl
theorem guardn34 (a b:Array Value)(x y:Operand)(w:World):(eqGuard .neq 34 x y (.agg a) (.agg b)).run Tryz.prog w= .ok () w:=run_eqGuard_agg w .neq 34 x y a b (by kernel_rfl)
theorem aidx_rows (ro rc:Nat)(l:List (Nat×Nat×Nat))(cur:Array Value)(w:World)(hr1:At w ro (.cells cur 103))(hr2:cur.toList.take (l.length*9)=l.flatMap fun r=>(rtc r).toList)(hok:∀r∈l,RtOk r)(hrc:l.length≤rc)(hln:l.length≤9):
 Rv 156 #[.slice (some ⟨ro,0,none⟩) l.length rc,.func (.func 100) #[] #[]] w (.int .i64 (-1)):=by
 have HR:=hid (And.intro hr1 (And.intro hr2 hok));have hl9:(l.length:Int)≤9:=by omega
 have hlc:(l.length:Int)≤(rc:Int):=by omega
 clear hr1 hr2 hok hrc hln;have U0:=hid (Below.refl w.heap.size w);go_enter Tryz.func156,Tryz.ntmps156;go_wp2_with fail;go_loopw [8] (fun i wr=>∃t:Nat,t≤l.length∧i= .int .i64 t∧Below w.heap.size w wr) (fun i _=>l.length-(intOf i).toNat);case atStart=>exact⟨0,Nat.zero_le _,rfl,U0.out⟩
 case round=>
  obtain⟨t,ht,rfl,hu⟩:=hrel;have U9:=hid hu;clear hu;by_cases htl:t<l.length
  · have HT:=hid htl;have ht0:(t:Int)<(l.length:Int):=by omega
    have rj:=rts_at (HR.out.1.kp U9.out) HR.out.2.1 t htl;have HXO:=hid (HR.out.2.2 _ (List.getElem_mem htl));generalize hx:l[t]=rw_ at*;have HRW:=hid hx;clear hx htl ht;go_wp2_with (refine wpList_load_mid rfl 103 (.tmp 14) rfl ro (0+t*9) (by first|rfl|simp[Act.eval]) (rtc rw_).toList _ rj Tryz.underlying103 rfl (size103 (cs:=rtc rw_) rfl) ?_);refine(abad_row rw_ HXO.out wr).mono ?_;rintro e w_501 ⟨rfl,hb⟩;have U':=tR U9 hb;clear U9;clear hb rj;go_wp2_with fail;go_roundw;case rel=>exact⟨t+1,by have:=HT.out;omega,by go_num,U'.out⟩
    case measure=>simp[intOf];have:=HT.out;omega
  · have hj9:¬(t:Int)<(l.length:Int):=by omega
    go_wp2_with fail;go_ret;exact⟨rfl,U9.out⟩
theorem ahas_rows (ro rc:Nat)(l:List (Nat×Nat×Nat))(cur:Array Value)(w:World)(hr1:At w ro (.cells cur 103))(hr2:cur.toList.take (l.length*9)=l.flatMap fun r=>(rtc r).toList)(hok:∀r∈l,RtOk r)(hrc:l.length≤rc)(hln:l.length≤9):
 Rv 99 #[.slice (some ⟨ro,0,none⟩) l.length rc,.func (.func 100) #[] #[]] w (.bool false):=by
 have HR:=hid (aidx_rows ro rc l cur w hr1 hr2 hok hrc hln);clear hr1 hr2 hok hrc hln;have U0:=hid (Below.refl w.heap.size w);go_enter Tryz.func99,Tryz.ntmps99;go_wp2_with fail;refine(HR.out).mono ?_;rintro e w_1 ⟨rfl,hb⟩;have U':=tR U0 hb;clear U0;clear hb;go_wp2_with fail;go_ret;exact⟨rfl,U'.out⟩
theorem aright_r (C E i num K kc ro rc:Nat)(l:List (Nat×Nat×Nat))(w:World)(Q:QT)(hC:At w C (.cells (cfc i num K kc ro l.length rc 100) 72))(hE:At w E (.cells (ec ⟨2,[],i+1,0⟩) 34))
 (hQ:∀(y22 y23 y24 y25 y26 y27 y28 y29 y30 y31 y32 y33 y34 y35 y36 y37 y38 y39 y40 y41 y42 y43:Value) (w6:World),Below w.heap.size w w6→Q .normal ⟨(x0::.pointer (some ⟨C,0,none⟩)::x2::.pointer (some ⟨E,0,none⟩)::.int .i64 0::x5::.int .i64 0::x7::x8::x9::x10::x11::x12::x13::x14::x15::x16::x17::x18::x19::x20::x21::y22::y23::y24::y25::y26::y27::y28::y29::y30::y31::y32::y33::y34::y35::y36::y37::y38::y39::y40::y41::y42::y43::.bool false::r).toArray,[]⟩ w6):
 Code.wp Tryz.prog (rg Tryz.f61 3) Q ⟨(x0::.pointer (some ⟨C,0,none⟩)::x2::.pointer (some ⟨E,0,none⟩)::.int .i64 0::x5::.int .i64 0::x7::x8::x9::x10::x11::x12::x13::x14::x15::x16::x17::x18::x19::x20::x21::x22::x23::x24::x25::x26::x27::x28::x29::x30::x31::x32::x33::x34::x35::x36::x37::x38::x39::x40::x41::x42::x43::x44::r).toArray,[]⟩ w:=by
 have HQ:=hid hQ;clear hQ;conv=>arg 2;whnf
 refine reg (fun w'=>w'.rangeAt E 0 (ec ⟨2,[],i+1,0⟩).toList∧w'.rangeAt C 0 (ec (nd i)).toList∧w'.cell? ⟨C,6,none⟩=some nS) (fun _=>false) (fun w' hu=>⟨at_range (hE.kp hu),cfc_node (hC.kp hu),cfc_cell (hC.kp hu) 6 _ rfl⟩) fun HS HU0 hHeld=>?_;clear hC hE;refine t2 0 ?_;refine t2 1 ?_;refine t2 2 ?_;refine t2 3 ?_;refine t2 4 ?_;refine t2 5 ?_;refine t2 6 ?_;refine u2 7 _ rfl (yQ 34 3 E (0) (ec ⟨2,[],i+1,0⟩) (fun w h=>h.1)) ?_;refine t2 8 ?_;refine u2 9 _ rfl (yQ 34 30 C (0) (ec (nd i)) (fun w h=>h.2.1)) ?_;refine u2 10 (.bool false) rfl (Or.inl ⟨by rfl,?_⟩) ?_
 · intro w' hSw;go_split_ands;exact run_exec_binOp .neq 34 _ _ _ (by rfl) _ _ _ (by rfl) (by rfl) (guardn34 _ _ _ _ _) (neq34 (i+1) _)
 try simp only[Act.put,fr]
 refine t2 11 ?_;refine t2 12 ?_;refine u2 13 _ rfl (yQ 34 3 E (0) (ec ⟨2,[],i+1,0⟩) (fun w h=>h.1)) ?_;refine rd1 14 rfl fun K hK=>?_;rw[if_pos (by rfl)];go_simp;(with_reducible refine(none_any w.drew).mono ?_);rintro e_ w1 ⟨rfl,hb⟩;have HU1:=tR HU0 hb;clear hb;refine kK hK (HS.out _ HU1.out) fun hHeld=>?_;try simp only[Act.put,fr]
 refine u2 15 (.bool false) rfl (Or.inl ⟨by rfl,?_⟩) ?_
 · intro w' hSw;go_split_ands;exact run_exec_binOp .eql 34 _ _ _ (by rfl) _ _ _ (by rfl) (by rfl) (guard34 _ _ _ _ _) (eqn34 (i+1) _)
 try simp only[Act.put,fr]
 refine t2 16 ?_;refine t2 17 ?_;refine t2 18 ?_;refine t2 19 ?_;refine rd1 20 rfl fun K hK=>?_;rw[if_pos (by rfl)];go_simp;(with_reducible refine(may_nil w1).mono ?_);rintro e_ w2 ⟨rfl,hb⟩;have HU2:=tR HU1 hb;clear hb;refine kK hK (HS.out _ HU2.out) fun hHeld=>?_;try simp only[Act.put,fr]
 refine t2 21 ?_;refine t2 22 ?_;exact dN (HQ.out _ _ _ _ _ _ _ _ _ _ _ _ _ _ _ _ _ _ _ _ _ _ _ HU2.out)
theorem aright_any (i num K kc ro rc:Nat)(l:List (Nat×Nat×Nat))(cur:Array Value)(w:World)(hi:i≤100)(hnum:num≤100)(hK:At w K (.cells ky6 186))(hkc:3≤kc)(hr1:At w ro (.cells cur 103))(hr2:cur.toList.take (l.length*9)=l.flatMap fun r=>(rtc r).toList)(hok:∀r∈l,RtOk r)(hrc:l.length≤rc)(hln:l.length≤8):
 Rv 61 #[.agg (cfc i num K kc ro l.length rc 100)] w (.bool true):=by
 have HI:=hid (And.intro hi (And.intro hnum (And.intro hkc (And.intro hok (And.intro hrc hln)))));have HR:=hid (And.intro hr1 hr2);have HK:=hid hK;have hl8:(l.length:Int)≤8:=by omega
 clear hi hnum hkc hok hrc hln hr1 hr2 hK;have hz34:=zero34;obtain⟨w1,HE,U0,C'⟩:=mH1 w (cfc i num K kc ro l.length rc 100) 72;go_enter Tryz.func61,Tryz.ntmps61;go_upto_region 1 with(fail);rw[←HE.out];clear HE;have hnode:=cfc_node C'.out;generalize hz:ec (nd i)=z at*;have HZ:=hid hz;clear hz;go_wp2_with (refine wpList_load_mid rfl 34 (.tmp 9) rfl (w.heap.size) 0 (by rfl) z.toList _ hnode Tryz.underlying34 rfl (size34 (by rw[←HZ.out];rfl)) ?_);refine(show Calls Tryz.prog 96 #[.agg z] w1 _ from by rw[←HZ.out];exact enode_ipn (i+1) 0 w1 (by have:=HI.out.1;omega) (by decide)).mono ?_;rintro e w_1 ⟨rfl,hb⟩;replace C':=hid (C'.out.kp hb);have U':=tR U0 hb;clear U0;clear hb hnode;go_upto_region 2 with(refine sV 34 3 12 (ec ⟨2,[],i+1,0⟩) (size34 rfl) (ec_one _) ?_;intro w_4 hb hk);replace C':=hid (C'.out.kp hb);replace U':=tR U' hb;have E':=hid hk;clear hb hk;have c4:=cfc_cell C'.out 4 (.int .u64 num) rfl;have c5:=cfc_cell C'.out 5 (.slice (some ⟨K,0,none⟩) 3 kc) rfl;go_wp2_with fail;refine(knew_any num K kc w_4 (by have:=HI.out.2.1;omega) HI.out.2.2.1 (HK.out.kp U'.out)).mono ?_;rintro e w_8 ⟨ka,rfl,hb⟩;replace C':=hid (C'.out.kp hb);replace E':=hid (E'.out.kp hb);replace U':=tR U' hb;clear hb c4 c5;go_upto_region 3 with(fail);refine ent (C:=rg Tryz.f61 3) (by kernel_rfl) ?_;refine aright_r (w.heap.size) (w_1.heap.size) i num K kc ro rc l _ _ C'.out E'.out ?_;intro y22 y23 y24 y25 y26 y27 y28 y29 y30 y31 y32 y33 y34 y35 y36 y37 y38 y39 y40 y41 y42 y43 w6 hb;replace C':=hid (C'.out.kp hb);replace E':=hid (E'.out.kp hb);replace U':=tR U' hb;clear hb;have c7:=cfc_cell C'.out 7 (.slice (some ⟨ro,0,none⟩) l.length rc) rfl;go_wp2_with fail;refine(ahas_rows ro rc l cur w6 (HR.out.1.kp U'.out) HR.out.2 HI.out.2.2.2.1 HI.out.2.2.2.2.1 (by have:=HI.out.2.2.2.2.2;omega)).mono ?_;rintro e w_15 ⟨rfl,hb⟩;replace C':=hid (C'.out.kp hb);replace E':=hid (E'.out.kp hb);replace U':=tR U' hb;clear hb c7;have c7:=cfc_cell C'.out 7 (.slice (some ⟨ro,0,none⟩) l.length rc) rfl;have c8:=cfc_cell C'.out 8 (.int .i64 0) rfl;have c9:=cfc_cell C'.out 9 (.int .u64 100) rfl;go_wp2_with fail;go_ret;exact⟨by first|rfl|(congr 2;simp;omega),U'.out⟩
theorem tnew (w:World):
 Calls Tryz.prog 66 #[.int .i64 32] w fun e w'=>∃T,e= .returned (.pointer (some ⟨T,0,none⟩))∧At w' T (.cells #[.int .i64 32,nS] 202)∧Below w.heap.size w w'∧w.heap.size≤T:=by
 have U0:=hid (Below.refl w.heap.size w);go_enter Tryz.func66,Tryz.ntmps66;go_wp2_with fail;go_ret;exact⟨w.heap.size,rfl,heap_new w _,(Below.refl w.heap.size w).alloc (Nat.le_refl _) _,Nat.le_refl _⟩
theorem jtnew (w:World):
 Calls Tryz.prog 107 #[.int .i64 4] w fun e w'=>∃T,e= .returned (.pointer (some ⟨T,0,none⟩))∧At w' T (.cells #[.int .i64 4,nS] 261)∧Below w.heap.size w w'∧w.heap.size≤T:=by
 have U0:=hid (Below.refl w.heap.size w);go_enter Tryz.func107,Tryz.ntmps107;go_wp2_with fail;go_ret;exact⟨w.heap.size,rfl,heap_new w _,(Below.refl w.heap.size w).alloc (Nat.le_refl _) _,Nat.le_refl _⟩
theorem jnew (w:World):
 Calls Tryz.prog 67 #[] w fun e w'=>∃J T,e= .returned (.pointer (some ⟨J,0,none⟩))∧At w' J (.cells #[.pointer (some ⟨T,0,none⟩)] 207)∧At w' T (.cells (tbc 4) 261)∧Below w.heap.size w w'∧w.heap.size≤J∧w.heap.size≤T:=by
 have U0:=hid (Below.refl w.heap.size w);go_enter Tryz.func67,Tryz.ntmps67;go_wp2_with fail;refine(jtnew w).mono ?_;rintro e w_1 ⟨T,rfl,hT,hb,hle⟩;have U':=tR U0 hb;clear U0;have T':=hid (hT);clear hb hT;have HLE:=hid hle;clear hle;go_wp2_with fail;go_ret;have hb:=(Below.refl w_1.heap.size w_1).alloc (Nat.le_refl _) (.cells #[.pointer (some ⟨T,0,none⟩)] 207);exact⟨w_1.heap.size,T,rfl,heap_new w_1 _,(T'.out).kp hb,(U'.out).trans (hb.mono (U'.out).size),(U'.out).size,HLE.out⟩
theorem ereal (w:World):
 Calls Tryz.prog 43 #[] w fun e w'=>∃ga:Option Addr,e= .returned (.pointer ga)∧Below w.heap.size w w':=by
 have U0:=hid (Below.refl w.heap.size w);go_enter Tryz.func43,Tryz.ntmps43;go_wp2_with fail;go_ret;exact⟨_,rfl,((Below.refl w.heap.size w).alloc (Nat.le_refl _) _)⟩
theorem eideal (w:World):
 Calls Tryz.prog 44 #[] w fun e w'=>∃ga:Option Addr,e= .returned (.pointer ga)∧Below w.heap.size w w':=by
 have U0:=hid (Below.refl w.heap.size w);go_enter Tryz.func44,Tryz.ntmps44;go_wp2_with fail;go_ret;exact⟨_,rfl,(((Below.refl w.heap.size w).alloc (Nat.le_refl _) _).alloc (by rw[World.size_alloc];omega) _)⟩
theorem info103:(Tryz.prog.info? 103).map (fun i=>(i.zero,i.size,i.bytes))=some (some (.agg rteZ),9,88):=by kernel_rfl
theorem rows_one (l:List (Nat×Nat×Nat)):∀u∈l.flatMap fun r=>(rtc r).toList,u.oneCell'=true:=fun u hu=>by
 obtain⟨r,-,hr⟩:=List.mem_flatMap.1 hu;exact all_one (rtc_one r) u hr
theorem rows_len (l:List (Nat×Nat×Nat)):(l.flatMap fun r=>(rtc r).toList).length=l.length*9:=by
 induction l with
 |nil=>rfl
 |cons x l ih=>rw[List.flatMap_cons,List.length_append,ih,List.length_cons];show 9+_=_;omega
theorem rows_at {w:World}{ro:Nat}{cur:Array Value}{l:List (Nat×Nat×Nat)}(h:At w ro (.cells cur 103))(ht:cur.toList.take (l.length*9)=l.flatMap fun r=>(rtc r).toList):w.rangeAt ro 0 (l.flatMap fun r=>(rtc r).toList):=fun j v hj=>by
 rw[Nat.zero_add,cell_of_row _ _ _ _ 103 (0,0) h, ←Array.getElem?_toList];rw[←ht,List.getElem?_take]at hj;split at hj
 · exact hj
 · cases hj
theorem rtclone (ro rc:Nat)(l:List (Nat×Nat×Nat))(cur:Array Value)(w:World)(hr1:At w ro (.cells cur 103))(hr2:cur.toList.take (l.length*9)=l.flatMap fun r=>(rtc r).toList)(hln:l.length≤9):
 Calls Tryz.prog 64 #[.slice (some ⟨ro,0,none⟩) l.length rc] w fun e w'=>∃g cap cur2,e= .returned (.slice (some ⟨g,0,none⟩) l.length cap)∧At w' g (.cells cur2 103)∧cur2.toList.take (l.length*9)=(l.flatMap fun r=>(rtc r).toList)∧l.length≤cap∧w.heap.size≤g∧Below w.heap.size w w':=by
 obtain⟨i0,hi,hz0,hz1,hz2⟩:=info_parts info103;refine(AnyE.slices_Clone Tryz.laysCl64 i0 _ 9 88 hi hz0 hz1 hz2 rfl (by decide) Tryz.sizeOf103 ro 0 l.length rc (l.flatMap fun r=>(rtc r).toList) w (rows_len l) (by unfold maxLen;omega) (by omega) (fun j u hj=>rows_at hr1 hr2 j u hj) (rows_one l)).mono ?_;rintro e w' ⟨v,rfl,h2,h3,h4⟩;rcases h2.2 with⟨h5,_⟩|⟨g,cap,cur2,rfl,h6,h7,h8,h9,h10,h11⟩
 · exact absurd h5 h3
 · exact⟨g,cap,cur2,rfl,h7,h11,h8,h6,h4⟩
end
end Go.Proofs.YtlhlmflacdeafaaGreatDoor
