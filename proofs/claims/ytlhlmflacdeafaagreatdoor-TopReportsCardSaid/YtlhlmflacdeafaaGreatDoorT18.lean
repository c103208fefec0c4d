/-
  A part of the walk of TopReports.
-/
import Derived.Test.YtlhlmflacdeafaaGreatDoorT17
import Derived.Conc.LoneCalls
import Derived.Conc.LoneSelect
import Derived.Conc.LoneSelectN
set_option maxRecDepth 100000
set_option maxHeartbeats 4000000
set_option linter.unusedVariables false
set_option linter.unusedSimpArgs false
namespace Go.Proofs.YtlhlmflacdeafaaGreatDoor
section
open Go.RowKit
def tbc (most:Nat):Array Value:=#[.int .i64 most,nS]
theorem tbc_cells {w:World}{b most:Nat}(h:At w b (.cells (tbc most) 202)):w.cell? ⟨b,0,none⟩=some (.int .i64 most)∧w.cell? ⟨b,1,none⟩=some nS:=by
 refine⟨?_,?_⟩<;>(rw[cell_of_row _ _ _ _ 202 (0,0) h];rfl)
theorem tidx_nil (fv:Value)(w:World):
 Rv 269 #[nS,fv] w (.int .i64 (-1)):=by
 have U0:=hid (Below.refl w.heap.size w);go_enter Tryz.func269,Tryz.ntmps269;go_wp2_with fail;go_loopw [8] (fun i wr=>i= .int .i64 0∧Below w.heap.size w wr) (fun _ _=>0);case atStart=>exact⟨rfl,U0.out⟩
 case round=>
  obtain⟨rfl,hu⟩:=hrel;have U9:=hid hu;clear hu;go_wp2_with fail;go_ret;exact⟨rfl,U9.out⟩
theorem at_nil (T most:Nat)(n:Nm)(w:World)(hT:At w T (.cells (tbc most) 202)):
 Rv 196 #[.pointer (some ⟨T,0,none⟩),.agg (nmc n)] w (.int .i64 (-1)):=by
 have T0:=hid hT;clear hT;obtain⟨w1,HE,U0,N'⟩:=mH1 w (nmc n) 46;go_enter Tryz.func196,Tryz.ntmps196;go_upto_region 1 with(fail);rw[←HE.out];clear HE;obtain⟨-,t1⟩:=tbc_cells (T0.out.kp U0.out);go_wp2_with fail;refine(tidx_nil _ w1).mono ?_;rintro e w_1 ⟨rfl,hb⟩;replace N':=hid (N'.out.kp hb);have U':=tR U0 hb;clear U0;clear hb t1;go_wp2_with fail;go_ret;exact⟨rfl,U'.out⟩
theorem get_nil (T most:Nat)(n:Nm)(w:World)(hT:At w T (.cells (tbc most) 202)):
 Rv 131 #[.pointer (some ⟨T,0,none⟩),.agg (nmc n)] w (.tuple #[.bool false,.bool false]):=by
 have T0:=hid hT;clear hT;obtain⟨w1,HE,U0,N'⟩:=mH1 w (nmc n) 46;go_enter Tryz.func131,Tryz.ntmps131;go_upto_region 1 with(fail);rw[←HE.out];clear HE;go_wp2_with (refine lQ 46 3 N'.out ?_);refine(at_nil T most n w1 (T0.out.kp U0.out)).mono ?_;rintro e w_1 ⟨rfl,hb⟩;replace N':=hid (N'.out.kp hb);have U':=tR U0 hb;clear U0;clear hb;go_wp2_with fail;refine bodyPost_ret (v:= .tuple #[.bool false,.bool false]) (by simp[results,Tryz.results131,go_sem]) rfl ⟨rfl,U'.out⟩
end
section
open Go.RowKit
theorem afrag_any (p:Prim)(hp:p.ok)(w:World):
 Rv 133 #[.agg (prc p)] w (.bool false):=by
 have HP:=hid (pbit hp);clear hp;obtain⟨w1,HE,U0,P'⟩:=mH1 w (prc p) 40;go_enter Tryz.func133,Tryz.ntmps133;go_upto_region 1 with(fail);rw[←HE.out];clear HE;obtain⟨p0,-,-,-,-,-,-,-,-,-,-,-,-,-,-,-,-,-,-⟩:=prc_cells P'.out;have hbit:=HP.out;go_wp2_with fail;go_ret;exact⟨rfl,U0.out⟩
theorem strange_any (x:Blk5)(h:XOk x)(w:World):
 Rv 126 #[.agg (blc x)] w (.bool false):=by
 have HX:=hid (show x.typ=1∨x.typ=6∨x.typ=7∨x.typ=10 from by rcases h with h|⟨h,-⟩|⟨h,-⟩|⟨h,-⟩<;>simp[h]);clear h;obtain⟨w1,HE,U0,X'⟩:=mH1 w (blc x) 136;go_enter Tryz.func126,Tryz.ntmps126;go_upto_region 1 with(fail);rw[←HE.out];clear HE;obtain⟨x0,-,-,-,-⟩:=blc_cells X'.out;rcases HX.out with ht|ht|ht|ht
 all_goals
  rw[ht]at x0
  clear ht HX
  go_wp2_with fail
  go_ret
  exact⟨rfl,U0.out⟩
theorem known_any (a:Value)(b:Bun)(hx:∀x∈b.l,XOk x)(g off cap:Nat)(w:World)(hn:b.l.length≤8)(hc:b.l.length≤cap)(hr:RB w g off b.l):
 Rv 78 #[a,.agg (bv b g off cap)] w (.tuple #[.agg (bv b g off cap),.int .i64 0]):=by
 have HO:=hid hx;have HR:=hid hr;have HC:=hid (And.intro hn hc);have hn8:(b.l.length:Int)≤8:=by omega
 have hnc:(b.l.length:Int)≤(cap:Int):=by omega
 clear hx hr hc hn;have hz43:=zero43;have hz136:=zero136;obtain⟨w1,HE,U0,B',S'⟩:=mH2 w (bv b g off cap) 43 (bunc pZ nS) 43;go_enter Tryz.func78,Tryz.ntmps78;go_upto_region 1 with(fail);rw[←HE.out];clear HE;obtain⟨-,-,-,-,-,-,-,-,-,-,-,-,-,-,-,-,-,-,-,c19⟩:=bunc_cells B'.out;go_wp2_with fail;go_loopw [16] (fun i wr=>∃j:Nat,j≤b.l.length∧i= .int .i64 j∧At wr w.heap.size (.cells (bv b g off cap) 43)∧At wr (w.heap.size+1) (.cells (bunc pZ nS) 43)∧Below w.heap.size w wr) (fun i _=>b.l.length-(intOf i).toNat);case atStart=>exact⟨0,Nat.zero_le _,rfl,B'.out,S'.out,U0.out⟩
 case round=>
  obtain⟨j,hj,rfl,hB,hS,hu⟩:=hrel;have U9:=hid hu;have B9:=hid hB;have S9:=hid hS;clear hu hB hS;by_cases hjl:j<b.l.length
  · have HJ:=hid hjl;have hj0:(j:Int)<(b.l.length:Int):=by omega
    have rj:=(RB.kp HR.out U9.out).at j hjl;have HXO:=hid (HO.out _ (List.getElem_mem hjl));generalize hx:b.l[j]=x at*;have HX:=hid hx;clear hx hjl hj;go_upto_region 4 with(first|(refine sV 136 7 19 (blc x) (size136 rfl) (blc_one _) ?_;intro w_501 hb hk)|refine wpList_load_mid rfl 136 (.tmp 18) rfl g (off+j*5) (by first|rfl|simp[Act.eval]) (blc x).toList _ rj Tryz.underlying136 rfl i136 ?_);replace B':=hid (B9.out.kp hb);replace S':=hid (S9.out.kp hb);have U':=tR U9 hb;clear B9 S9 U9;have X':=hid hk;clear hb hk;clear rj;go_wp2_with (refine lQ 136 7 X'.out ?_);refine(strange_any x HXO.out w_501).mono ?_;rintro e w_506 ⟨rfl,hb⟩;replace B':=hid (B'.out.kp hb);replace S':=hid (S'.out.kp hb);replace X':=hid (X'.out.kp hb);replace U':=tR U' hb;clear hb;go_wp2_with fail;go_roundw;case rel=>exact⟨j+1,by have:=HJ.out;omega,by go_num,B'.out,S'.out,U'.out⟩
    case measure=>simp[intOf];have:=HJ.out;omega
  · have hj9:¬(j:Int)<(b.l.length:Int):=by omega
    have HSW:=hid (show w.heap.size+1<wr.heap.size from(S9.out).lt);go_upto_region 9 with(first|(refine sV 43 8 34 (bv b g off cap) (size43 rfl) (bunc_one ..) ?_;intro w_701 hb hk)|refine lQ 43 3 B9.out ?_);replace B':=hid (B9.out.kp hb);replace S':=hid (S9.out.kp hb);replace U':=tR U9 hb;clear B9 S9 U9;have V':=hid hk;clear hb hk;clear hj9 c19;generalize wr.heap.size=vb at*;obtain⟨-,-,-,-,-,-,-,-,-,-,-,-,-,-,-,-,-,-,-,c19⟩:=bunc_cells B'.out;go_wp2_with fail;go_loopw [38] (fun i wr=>∃j:Nat,j≤b.l.length∧i= .int .i64 j∧At wr w.heap.size (.cells (bv b g off cap) 43)∧At wr (w.heap.size+1) (.cells (bunc pZ nS) 43)∧At wr (vb) (.cells (bv b g off cap) 43)∧Below w.heap.size w wr) (fun i _=>b.l.length-(intOf i).toNat);case atStart=>exact⟨0,Nat.zero_le _,rfl,B'.out,S'.out,V'.out,U'.out⟩
    case round=>
     obtain⟨j,hj,rfl,hB,hS,hV,hu⟩:=hrel;have U9:=hid hu;have B9:=hid hB;have S9:=hid hS;have V9:=hid hV;clear hu hB hS hV;by_cases hjl:j<b.l.length
     · have HJ:=hid hjl;have hj0:(j:Int)<(b.l.length:Int):=by omega
       have rj:=(RB.kp HR.out U9.out).at j hjl;have HXO:=hid (HO.out _ (List.getElem_mem hjl));generalize hx:b.l[j]=x at*;have HX:=hid hx;clear hx hjl hj;go_upto_region 12 with(first|(refine sV 136 10 41 (blc x) (size136 rfl) (blc_one _) ?_;intro w_901 hb hk)|refine wpList_load_mid rfl 136 (.tmp 40) rfl g (off+j*5) (by first|rfl|simp[Act.eval]) (blc x).toList _ rj Tryz.underlying136 rfl i136 ?_);replace B':=hid (B9.out.kp hb);replace S':=hid (S9.out.kp hb);replace V':=hid (V9.out.kp hb);replace U':=tR U9 hb;clear B9 S9 V9 U9;replace X':=hid hk;clear hb hk;clear rj;go_wp2_with (refine lQ 136 10 X'.out ?_);refine(strange_any x HXO.out w_901).mono ?_;rintro e w_907 ⟨rfl,hb⟩;replace B':=hid (B'.out.kp hb);replace S':=hid (S'.out.kp hb);replace V':=hid (V'.out.kp hb);replace X':=hid (X'.out.kp hb);replace U':=tR U' hb;clear hb;go_wp2_with fail;go_roundw;case rel=>exact⟨j+1,by have:=HJ.out;omega,by go_num,B'.out,S'.out,V'.out,U'.out⟩
       case measure=>simp[intOf];have:=HJ.out;omega
     · have hj9:¬(j:Int)<(b.l.length:Int):=by omega
       go_wp2_with (first|refine sR 43 4 64 (w.heap.size+1) (bv b g off cap) S9.out (size43 rfl) (bunc_one ..) ?_|refine lQ 43 8 V9.out ?_);have hu9:=upd_setRow wr (w.heap.size+1) (bv b g off cap);have hb9:=hu9.below (U9.out).size (fun k e=>by rw[e];first|exact Nat.le_refl _|omega);exact bodyPost_ret (rU ((S9.out).row _)) rfl ⟨rfl,(U9.out).trans (hb9.mono (Nat.le_refl _))⟩
theorem aown_any (b:Bun)(g off cap:Nat)(w:World)(hn:b.l.length≤8)(hc:b.l.length≤cap)(hr:RB w g off b.l):
 Calls Tryz.prog 51 #[.agg (bv b g off cap)] w fun e w'=>∃g2 cap2,e= .returned (.agg (bv b g2 0 cap2))∧Below w.heap.size w w'∧w.heap.size≤g2∧b.l.length≤cap2∧RB w' g2 0 b.l:=by
 have HC:=hid (And.intro hn hc);have HR:=hid hr;clear hn hc hr;have hz43:=zero43;obtain⟨w1,HE,U0,B',S'⟩:=mH2 w (bv b g off cap) 43 (bunc pZ nS) 43;go_enter Tryz.func51,Tryz.ntmps51;go_upto_region 1 with(fail);rw[←HE.out];clear HE;obtain⟨-,-,-,-,-,-,-,-,-,-,-,-,-,-,-,-,-,-,-,c19⟩:=bunc_cells B'.out;have HSZ:=hid (show w.heap.size+1<w1.heap.size from S'.out.lt);go_wp2_with fail;refine(clone_own g off b.l.length cap (b.l.flatMap fun x=>(blc x).toList) w1 (flat_len b.l) (by have:=HC.out;omega) (RB.kp HR.out U0.out).2 (flat_one b.l)).mono ?_;rintro e w_1 ⟨g2,cap2,cur,rfl,h1,h2,h3,-,-,h6,hb⟩;replace B':=hid (B'.out.kp hb);replace S':=hid (S'.out.kp hb);have U':=tR U0 hb;clear U0;clear hb c19;have hq:=RB.of h2 h6;have HQ:=hid hq;have HG:=hid (And.intro h1 h3);clear hq h1 h2 h3 h6;obtain⟨-,-,-,-,-,-,-,-,-,-,-,-,-,-,-,-,-,-,-,c19⟩:=bunc_cells B'.out;have f19:=frozen_of_row w_1 ((w.heap.size)) 19 _ 43 B'.out;go_upto_region 2 with fail;clear c19 f19;have hu:=upd_setCell w_1 ⟨w.heap.size,19,none⟩ (.slice (some ⟨g2,0,none⟩) b.l.length cap2);have he:At (w_1.setCell ⟨w.heap.size,19,none⟩ (.slice (some ⟨g2,0,none⟩) b.l.length cap2)) (w.heap.size) (.cells (bv b g2 0 cap2) 43):=At.setc B'.out 19 _;generalize World.setCell w_1 ⟨w.heap.size,19,none⟩ (.slice (some ⟨g2,0,none⟩) b.l.length cap2)=w_5 at*;replace B':=hid (he);replace S':=hid (S'.out.upd hu (by show ¬w.heap.size+1=w.heap.size;omega));have Q':=hid (HQ.out.upd hu (by show ¬g2=w.heap.size;have:=HG.out.1;have:=HSZ.out;omega));replace U':=hid (U'.out.trans (hu.below U'.out.size (fun k e=>by have e:k=w.heap.size:=e;omega)));clear hu he HQ;go_wp2_with (first|refine sR 43 2 7 (w.heap.size+1) (bv b g2 0 cap2) S'.out (size43 rfl) (bunc_one ..) ?_|refine lQ 43 1 B'.out ?_);have hu9:=upd_setRow w_5 (w.heap.size+1) (bv b g2 0 cap2);have hb9:=hu9.below (U'.out).size (fun k e=>by rw[e];first|exact Nat.le_refl _|omega);exact bodyPost_ret (rQ ((S'.out).row _)) rfl ⟨g2,cap2,rfl,(U'.out).trans (hb9.mono (Nat.le_refl _)),by have:=HG.out.1;have:=HSZ.out;omega,HG.out.2,(Q'.out).upd hu9 (show ¬g2=w.heap.size+1 by have:=HG.out.1;have:=HSZ.out;omega)⟩
end
section
open Go.Conc Go.RowKit
section
variable {P:Program} {b:Frame} {a:Act} {k:List Item} {cs:List Frame} {w w' w1:World} {ops:Array Oper} {i:Nat} {rest:List Nat} {o:Oper}
theorem comm_up {cases:Array CommCase}{blocking:Bool}{shape:CommShape}(ho:ops[i]? =some o)(hw:Region.wanted o (yielded ops a.tmps)=true)(hr:(execOp a.eval o).run P w= .ok (.comm cases blocking shape) w'):
 ∃es,stepG P true (G (b.at a (.inRegion ops (i::rest)::k)) cs) w= .comm (G (b.at a (.inRegion ops (i::rest)::k)) cs) cases blocking shape w' es:=by
 have hg:=stepG_oper (P:=P) (b:=b) (k:=k) (cs:=cs) (w:=w) (rest:=rest) (main:=true) ho hw;rw[hg];simp[stepG.apply,hr,G,Frame.at,GStep.after]
theorem fin_at (v:Value)(ho:ops[i]? =some o):(b.at a (.inRegion ops (i::rest)::k)).finish v=b.at (a.put o.dst v) (.inRegion ops rest::k):=by rw[Frame.finish_at,ho];rfl
variable {c cap s r:Nat} {buf:Array Value} {z v:Value} {closed:Bool}
theorem step_recv (ho:ops[i]? =some o)(hw:Region.wanted o (yielded ops a.tmps)=true)(hr:(execOp a.eval o).run P w= .ok (.comm #[rcase c z] false .select) w)(hc:w.heap[c]? =some (.chan cap buf closed s r false))(hsome:0<buf.size):
 step P (lone (b.at a (.inRegion ops (i::rest)::k)) cs w)= .next (lone (b.at (a.put o.dst (.tuple #[goInt 0,.bool true,buf.getD 0 undef])) (.inRegion ops rest::k)) cs (w.setChan c cap (buf.extract 1 buf.size) closed s (r+1) false)):=by
 obtain⟨es,h⟩:=comm_up (b:=b) (k:=k) (cs:=cs) (rest:=rest) ho hw hr;rw[←fin_at _ ho];exact step_lone_select_recv_buf h hc hsome
theorem step_none (ho:ops[i]? =some o)(hw:Region.wanted o (yielded ops a.tmps)=true)(hr:(execOp a.eval o).run P w= .ok (.comm #[rcase c z] false .select) w)(hc:w.heap[c]? =some (.chan cap #[] false s r false)):
 step P (lone (b.at a (.inRegion ops (i::rest)::k)) cs w)= .next (lone (b.at (a.put o.dst (.tuple #[goInt (-1),.bool false,z])) (.inRegion ops rest::k)) cs w):=by
 obtain⟨es,h⟩:=comm_up (b:=b) (k:=k) (cs:=cs) (rest:=rest) ho hw hr;rw[←fin_at _ ho];exact step_lone_select_default h hc
theorem step_send (ho:ops[i]? =some o)(hw:Region.wanted o (yielded ops a.tmps)=true)(hr:(execOp a.eval o).run P w= .ok (.comm #[scase c v z] false .select) w)(hc:w.heap[c]? =some (.chan cap buf false s r false))(hroom:buf.size<cap):
 step P (lone (b.at a (.inRegion ops (i::rest)::k)) cs w)= .next (lone (b.at (a.put o.dst (.tuple #[goInt 0,.bool false])) (.inRegion ops rest::k)) cs (w.setChan c cap (buf.push v) false (s+1) r false)):=by
 obtain⟨es,h⟩:=comm_up (b:=b) (k:=k) (cs:=cs) (rest:=rest) ho hw hr;rw[←fin_at _ ho];exact step_lone_select_send_room h hc hroom
end
theorem wp_region_steps {P:Program}{Q:QT}{a a1:Act}{w w1:World}{id:Nat}{ops:Array Oper}(m:Nat)
 (hs:∀(b:Frame) (k:List Item) (cs:List Frame),Steps P (lone (b.at a (.inRegion ops (List.range ops.size)::k)) cs w) (lone (b.at a1 (.inRegion ops (List.range' m (ops.size-m))::k)) cs w1))
 (h:wpList P ops Q (ops.toList.drop m) a1 w1):(Code.region id ops false).wp P Q a w:=by
 have hlo:∀j,(ops.toList.drop m)[j]? =ops[m+j]? :=fun j=>by simp
 have hl:(ops.toList.drop m).length=ops.size-m:=by simp
 rw[←wpOps_eq_wpList _ m hlo,hl]at h;intro b k cs;obtain⟨e,a',w',hq,harr⟩:=wp_ops _ a1 w1 h b k cs;exact⟨e,a',w',hq,.of_steps (.head step_region (hs b k cs)) harr⟩
def Lane (w:World)(c k:Nat)(l:List Value):Prop:=∃s r,w.heap[c]? =some (.chan k l.toArray false s r false)
theorem heap_setOther (w:World)(c k cap:Nat)(buf:Array Value)(cl:Bool)(s r:Nat)(h:k≠c):(w.setChan c cap buf cl s r false).heap[k]? =w.heap[k]? :=by
 simp only[World.setChan];rw[Array.getElem?_setIfInBounds_ne (fun e=>h e.symm)]
theorem upd_setChan (w:World)(c cap:Nat)(buf:Array Value)(cl:Bool)(s r:Nat):Upd (·=c) w (w.setChan c cap buf cl s r false):=
 ⟨rfl,rfl,rfl,by simp[World.setChan],fun k _ hn=>heap_setOther w c k cap buf cl s r hn⟩
section
variable {w w':World} {c k:Nat} {l:List Value} {S:Nat→Prop}
theorem Lane.lt (h:Lane w c k l):c<w.heap.size:=by
 obtain⟨s,r,h⟩:=h;exact heap_lt h
theorem Lane.upd (h:Lane w c k l)(hu:Upd S w w')(hn:¬S c):Lane w' c k l:=by
 obtain⟨s,r,h⟩:=h;exact⟨s,r,by rw[hu.block c (heap_lt h) hn];exact h⟩
theorem Lane.kp (h:Lane w c k l)(hb:Below w.heap.size w w'):Lane w' c k l:=h.upd (S:=fun _=>False) (upd_of_below hb) (fun h=>h)
theorem Lane.ne {b:Nat}{cs:Array Value}{t:TypeId}{fr:Nat×Nat}(h:Lane w c k l)(h2:At w b (.cells cs t fr)):b≠c:=by
 rintro rfl;obtain⟨s,r,h⟩:=h;unfold At at h2;rw[h]at h2;cases h2
end
end
section
open Go.Conc Go.RowKit
def rts (i n:Nat):List (Nat×Nat×Nat):=(List.range n).filterMap (fun j=>if j=i then none else some (2,j,if j<i then i-1 else i+1))++[(0,0,if i+1=n then 0 else i+1)]
def rtc (r:Nat×Nat×Nat):Array Value:=patc r.1 (if r.1=2 then nd r.2.1 else eZ)++ec (nd r.2.2)
def pick (l:List (Nat×Nat×Nat))(j:Nat):Option Nat:=(l.find? fun r=>r.1==0||r.2.1==j).map (·.2.2)
structure Ag where
 i:Nat
 n:Nat
 num:Nat
 ks:Value
 ro:Nat
 rc:Nat
 now0:Nat
 ga:Option Addr
 ka:Option Addr
 now:Nat
 seq:Nat
 B:Nat
 c0:Nat
 c1:Nat
 T:Nat
 J:Nat
 JT:Nat
 M:Nat
 giv:Value
 l0:List Value
 l1:List Value
 seen:Value
def agc (a:Ag):Array Value:=#[.int .i64 2,.string (st []),.int .u64 (a.i+1:Nat),.int .u64 0,.int .u64 a.num,a.ks,nS,.slice (some ⟨a.ro,0,none⟩) (rts a.i a.n).length a.rc,.int .i64 0,.int .u64 a.now0,
 .pointer a.ga,.pointer a.ka,.int .u64 a.now,.int .u64 a.seq,.pointer (some ⟨a.B,0,none⟩),.pointer (some ⟨a.T,0,none⟩),.pointer (some ⟨a.J,0,none⟩),.map (some a.M),a.giv]
def agS (A:Nat)(a:Ag):Nat→Prop:=fun k=>k=A∨k=a.c0∨k=a.c1∨k=a.T
structure AgOk (lo hi:Nat) (w:World) (A:Nat) (a:Ag):Prop where
 ag:At w A (.cells (agc a) 125)
 box:At w a.B (.cells #[.chan (some a.c0),.chan (some a.c1)] 199)
 l0:Lane w a.c0 8 a.l0
 l1:Lane w a.c1 8 a.l1
 tab:At w a.T (.cells #[.int .i64 32,a.seen] 202)
 joi:At w a.J (.cells #[.pointer (some ⟨a.JT,0,none⟩)] 207)
 jt:At w a.JT (.cells (tbc 4) 261)
 map:At w a.M (.map #[] 0)
 rts:∃cur,At w a.ro (.cells cur 103)∧cur.toList.take ((rts a.i a.n).length*9)=(rts a.i a.n).flatMap fun r=>(rtc r).toList
 rc:(YtlhlmflacdeafaaGreatDoor.rts a.i a.n).length≤a.rc
 ne:a.c0≠a.c1
 i8:a.i<a.n∧a.n≤8
 now:a.now≤1099511627776
 lo:∀k∈[A,a.B,a.c0,a.c1,a.T,a.J,a.JT,a.M,a.ro],lo≤k∧k<hi
theorem At.cne {w:World}{a b:Nat}{x y:Array Value}{t u:TypeId}(h:At w a (.cells x t))(k:At w b (.cells y u))(hn:t≠u):a≠b:=by
 rintro rfl;unfold At at h k;rw[h]at k;injection k with k
 injection k with _ k _
 exact hn k
theorem At.mne {w:World}{a b c:Nat}{x:Array Value}{t:TypeId}{es:Array MapEntry}(h:At w a (.cells x t))(k:At w b (.map es c)):a≠b:=by
 rintro rfl;unfold At at h k;rw[h]at k;cases k
theorem Lane.mne {w:World}{b c k q:Nat}{l:List Value}{es:Array MapEntry}(h:Lane w c k l)(h2:At w b (.map es q)):b≠c:=by
 rintro rfl;obtain⟨s,r,h⟩:=h;unfold At at h2;rw[h]at h2;cases h2
section
variable {lo hi A:Nat} {w w':World} {a:Ag} {S:Nat→Prop}
theorem AgOk.S_in (h:AgOk lo hi w A a):∀k,agS A a k→lo≤k∧k<hi:=fun k hk=>by
 refine h.lo k ?_;rcases hk with rfl|rfl|rfl|rfl<;>simp
theorem AgOk.upd (h:AgOk lo hi w A a)(hu:Upd S w w')(hn:∀k,S k→k<lo∨hi≤k):AgOk lo hi w' A a:=by
 have q:∀k∈[A,a.B,a.c0,a.c1,a.T,a.J,a.JT,a.M,a.ro],¬S k:=fun k hk hS=>by
  have:=h.lo k hk;have:=hn k hS;omega
 obtain⟨cur,r1,r2⟩:=h.rts;exact⟨h.ag.upd hu (q _ (by simp)),h.box.upd hu (q _ (by simp)),h.l0.upd hu (q _ (by simp)),h.l1.upd hu (q _ (by simp)),h.tab.upd hu (q _ (by simp)),h.joi.upd hu (q _ (by simp)),h.jt.upd hu (q _ (by simp)),h.map.upd hu (q _ (by simp)),
  ⟨cur,r1.upd hu (q _ (by simp)),r2⟩,h.rc,h.ne,h.i8,h.now,h.lo⟩
theorem AgOk.kp (h:AgOk lo hi w A a)(hb:Below w.heap.size w w'):AgOk lo hi w' A a:=by
 obtain⟨cur,r1,r2⟩:=h.rts;exact⟨h.ag.kp hb,h.box.kp hb,h.l0.kp hb,h.l1.kp hb,h.tab.kp hb,h.joi.kp hb,h.jt.kp hb,h.map.kp hb,⟨cur,r1.kp hb,r2⟩,h.rc,h.ne,h.i8,h.now,h.lo⟩
theorem AgOk.cell (h:AgOk lo hi w A a)(b:Ag)(hu:Upd (·=A) w w')(hA:At w' A (.cells (agc b) 125))(hnow:b.now≤1099511627776)
 (he:b.i=a.i∧b.n=a.n∧b.ro=a.ro∧b.rc=a.rc∧b.B=a.B∧b.c0=a.c0∧b.c1=a.c1∧b.T=a.T∧b.J=a.J∧b.JT=a.JT∧b.M=a.M∧b.l0=a.l0∧b.l1=a.l1∧b.seen=a.seen):AgOk lo hi w' A b:=by
 obtain⟨i,n,num,ks,ro,rc,now0,ga,ka,now,seq,B,c0,c1,T,J,JT,M,giv,l0,l1,seen⟩:=b;obtain⟨rfl,rfl,rfl,rfl,rfl,rfl,rfl,rfl,rfl,rfl,rfl,rfl,rfl,rfl⟩:=he;obtain⟨cur,r1,r2⟩:=h.rts;have n1:=h.box.cne h.ag (by decide);have n2:=h.l0.ne h.ag;have n3:=h.l1.ne h.ag;have n4:=h.tab.cne h.ag (by decide);have n5:=h.joi.cne h.ag (by decide);have n6:=h.jt.cne h.ag (by decide);have n7:=h.ag.mne h.map;have n8:=r1.cne h.ag (by decide);exact⟨hA,h.box.upd hu n1,h.l0.upd hu (fun e=>n2 e.symm),h.l1.upd hu (fun e=>n3 e.symm),h.tab.upd hu n4,h.joi.upd hu n5,h.jt.upd hu n6,h.map.upd hu (fun e=>n7 e.symm),⟨cur,r1.upd hu n8,r2⟩,h.rc,h.ne,h.i8,hnow,h.lo⟩
theorem AgOk.lane0 (h:AgOk lo hi w A a)(l:List Value)(hu:Upd (·=a.c0) w w')(hl:Lane w' a.c0 8 l):AgOk lo hi w' A { a with l0:=l }:=by
 obtain⟨cur,r1,r2⟩:=h.rts;exact⟨h.ag.upd hu (h.l0.ne h.ag),h.box.upd hu (h.l0.ne h.box),hl,h.l1.upd hu (fun e=>h.ne e.symm),h.tab.upd hu (h.l0.ne h.tab),h.joi.upd hu (h.l0.ne h.joi),h.jt.upd hu (h.l0.ne h.jt),h.map.upd hu (h.l0.mne h.map),⟨cur,r1.upd hu (h.l0.ne r1),r2⟩,h.rc,h.ne,h.i8,h.now,h.lo⟩
theorem AgOk.lane1 (h:AgOk lo hi w A a)(l:List Value)(hu:Upd (·=a.c1) w w')(hl:Lane w' a.c1 8 l):AgOk lo hi w' A { a with l1:=l }:=by
 obtain⟨cur,r1,r2⟩:=h.rts;exact⟨h.ag.upd hu (h.l1.ne h.ag),h.box.upd hu (h.l1.ne h.box),h.l0.upd hu h.ne,hl,h.tab.upd hu (h.l1.ne h.tab),h.joi.upd hu (h.l1.ne h.joi),h.jt.upd hu (h.l1.ne h.jt),h.map.upd hu (h.l1.mne h.map),⟨cur,r1.upd hu (h.l1.ne r1),r2⟩,h.rc,h.ne,h.i8,h.now,h.lo⟩
theorem AgOk.table (h:AgOk lo hi w A a)(v:Value)(hu:Upd (·=a.T) w w')(ht:At w' a.T (.cells #[.int .i64 32,v] 202)):AgOk lo hi w' A { a with seen:=v }:=by
 obtain⟨cur,r1,r2⟩:=h.rts;exact⟨h.ag.upd hu (h.ag.cne h.tab (by decide)),h.box.upd hu (h.box.cne h.tab (by decide)),h.l0.upd hu (fun e=>h.l0.ne h.tab e.symm),h.l1.upd hu (fun e=>h.l1.ne h.tab e.symm),ht,h.joi.upd hu (h.joi.cne h.tab (by decide)),h.jt.upd hu (h.jt.cne h.tab (by decide)),
  h.map.upd hu (fun e=>h.tab.mne h.map e.symm),⟨cur,r1.upd hu (r1.cne h.tab (by decide)),r2⟩,h.rc,h.ne,h.i8,h.now,h.lo⟩
theorem AgOk.mono {hi2 lo2:Nat}(h:AgOk lo hi w A a)(h1:lo2≤lo)(h2:hi≤hi2):AgOk lo2 hi2 w A a:=by
 obtain⟨a1,a2,a3,a4,a5,a6,a7,a8,a9,a10,a11,a12,a13,a14⟩:=h;exact⟨a1,a2,a3,a4,a5,a6,a7,a8,a9,a10,a11,a12,a13,fun k hk=>by have:=a14 k hk;omega⟩
theorem AgOk.cells (h:AgOk lo hi w A a)(j:Nat)(v:Value)(hv:(agc a)[j]? =some v):w.cell? ⟨A,j,none⟩=some v:=by
 rw[cell_of_row _ _ _ _ 125 (0,0) h.ag];exact hv
theorem AgOk.lt (h:AgOk lo hi w A a):A<w.heap.size:=h.ag.lt
end
theorem Upd.own {S:Nat→Prop}{w w2 w3:World}{b:Nat}(h:Upd S w w2)(k:Upd (·=b) w2 w3)(hb:w.heap.size≤b):Upd S w w3:=
 h.above (k.mono fun _ _ e=>by rw[e];exact hb)
theorem Upd.add {S:Nat→Prop}{w w2 w3:World}(h:Upd S w w2)(k:Below w2.heap.size w2 w3):Upd S w w3:=h.trans (upd_of_below k)
theorem agS_A {A:Nat}{a:Ag}:agS A a A:= .inl rfl
end
section
open Go.Conc Go.RowKit
def wtc (p:Prim)(l:Value)(e:Eid)(since:Nat):Array Value:=bunc p l++ec e++ #[.int .u64 since]
abbrev wZ:Array Value:=wtc pZ nS eZ 0
theorem zero155 (w:World):(zeroValue 155).run Tryz.prog w= .ok (.agg wZ) w:=by kernel_rfl
theorem size155 {cs:Array Value}(h:cs.size=25):(Tryz.prog.info? 155).map (·.size)=some cs.size:=by rw[h];kernel_rfl
theorem size197 {cs:Array Value}(h:cs.size=2):(Tryz.prog.info? 197).map (·.size)=some cs.size:=by rw[h];kernel_rfl
theorem wtc_one (p:Prim)(a:Option Addr)(m c:Nat)(e:Eid)(n:Nat):(wtc p (.slice a m c) e n).all (·.oneCell')=true:=by
 simp[wtc,bunc,ec,Value.oneCell']
theorem wZ_one:wZ.all (·.oneCell')=true:=wtc_one ..
theorem box_cells {w:World}{B c0 c1:Nat}(h:At w B (.cells #[.chan (some c0),.chan (some c1)] 199)):w.cell? ⟨B,0,none⟩=some (.chan (some c0))∧w.cell? ⟨B,1,none⟩=some (.chan (some c1)):=by
 refine⟨?_,?_⟩<;>(rw[cell_of_row _ _ _ _ 199 (0,0) h];rfl)
theorem lane_t {B c0 c1:Nat}(w:World)(hB:At w B (.cells #[.chan (some c0),.chan (some c1)] 199)):
 Rv 232 #[.pointer (some ⟨B,0,none⟩),.bool true] w (.chan (some c0)):=by
 obtain⟨b0,b1⟩:=box_cells hB;clear hB;have U0:=hid (Below.refl w.heap.size w);go_enter Tryz.func232,Tryz.ntmps232;go_wp2_with fail;go_ret;exact⟨rfl,U0.out⟩
theorem lane_f {B c0 c1:Nat}(w:World)(hB:At w B (.cells #[.chan (some c0),.chan (some c1)] 199)):
 Rv 232 #[.pointer (some ⟨B,0,none⟩),.bool false] w (.chan (some c1)):=by
 obtain⟨b0,b1⟩:=box_cells hB;clear hB;have U0:=hid (Below.refl w.heap.size w);go_enter Tryz.func232,Tryz.ntmps232;go_wp2_with fail;go_ret;exact⟨rfl,U0.out⟩
theorem wtake_none (c k:Nat)(w:World)(hc:Lane w c k []):
 Rv 139 #[.chan (some c)] w (.tuple #[.agg wZ,.bool false]):=by
 have HL0:=hid hc;clear hc;have hz155:=zero155;obtain⟨w1,HE,U0,S'⟩:=mH1 w (wZ) 155;go_enter Tryz.func139,Tryz.ntmps139;go_upto_region 1 with(fail);rw[←HE.out];clear HE;go_upto_region 2 with fail;obtain⟨q,r,hc⟩:=HL0.out.kp U0.out;have HC:=hid hc;clear hc;refine wp_region_steps 1 (fun b_ k_ cs_=>Steps.one (step_none (i:=0) (c:=c) (z:= .agg wZ) rfl rfl (by simp[go_sem,execOp,rcase,Act.eval];try rfl) HC.out)) ?_;go_upto_region 4 with fail;obtain⟨w_1,he,hb,hk⟩:=mk1 w1 (wZ) 155;rw[←he];clear he;replace S':=hid (S'.out.kp hb);have U':=tR U0 hb;clear U0;have V':=hid hk;clear hb hk;go_wp2_with (first|refine sR 155 2 10 (w.heap.size) (wZ) S'.out (size155 rfl) wZ_one ?_|refine lQ 155 5 V'.out ?_);have hu9:=upd_setRow w_1 (w.heap.size) (wZ);have hb9:=hu9.below (U'.out).size (fun k e=>by rw[e];first|exact Nat.le_refl _|omega);exact bodyPost_ret (rU ((S'.out).row _)) rfl ⟨rfl,(U'.out).trans (hb9.mono (Nat.le_refl _))⟩
theorem wtake_some (c k:Nat)(cs:Array Value)(hs:cs.size=25)(ho:cs.all (·.oneCell')=true)(l:List Value)(w:World)(hc:Lane w c k (.agg cs::l)):
 Calls Tryz.prog 139 #[.chan (some c)] w fun e w'=>e= .returned (.tuple #[.agg cs,.bool true])∧Lane w' c k l∧Upd (·=c) w w':=by
 have HL0:=hid hc;have HLT:=hid hc.lt;have HS:=hid hs;have HO:=hid ho;have HX:=hid (show((.agg cs:Value)::l).toArray.extract 1 ((.agg cs:Value)::l).toArray.size=l.toArray by simp);clear hc hs ho;have hz155:=zero155;obtain⟨w1,he,hu,hS⟩:=mk1 w (wZ) 155;have HE:=hid he;have U0:=hid (upd_of_below (S:=(·=c)) hu);have B0:=hid hu;have S':=hid hS;clear he hu hS;go_enter Tryz.func139,Tryz.ntmps139;go_upto_region 1 with(fail);rw[←HE.out];clear HE;have L':=hid (HL0.out.kp B0.out);go_upto_region 2 with fail;obtain⟨q,r,hc⟩:=L'.out;have HC:=hid hc;clear hc;refine wp_region_steps 1 (fun b_ k_ cs_=>Steps.one (step_recv (i:=0) (c:=c) (z:= .agg wZ) rfl rfl (by simp[go_sem,execOp,rcase,Act.eval];try rfl) HC.out (by simp))) ?_;rw[HX.out];have hu:=upd_setChan w1 c k l.toArray false q (r+1);have hl:Lane (World.setChan w1 c k l.toArray false q (r+1) false) c k l:=⟨_,_,heap_setChan _ _ _ _ _ _ _ _ (heap_lt HC.out)⟩;generalize World.setChan w1 c k l.toArray false q (r+1) false=w_2 at*;have U':=hid (U0.out.trans (hu.mono fun k hk e=>e));have S':=hid (S'.out.upd hu (by show ¬w.heap.size=c;have:=HLT.out;omega));replace L':=hid (hl);clear U0;clear hu hl HC HX;go_upto_region 6 with(refine wpList_store_row rfl 155 (.tmp 4) (.tmp 11) rfl (w_2).heap.size (cs) rfl rfl 155 _ (heap_new _ _) (size155 HS.out) ((by rw[HS.out];rfl)) HO.out ?_);have hv:=varnew w_2 (wZ) (cs) 155;generalize World.setRow (World.alloc w_2 (.cells (wZ) 155)) (w_2).heap.size (cs)=w_6 at*;obtain⟨hb,hk⟩:=hv;replace S':=hid (S'.out.kp hb);replace L':=hid (L'.out.kp hb);replace U':=hid (U'.out.add hb);have V':=hid hk;clear hb hk;go_wp2_with (first|refine wpList_store_row rfl 155 (.tmp 2) (.tmp 12) rfl (w.heap.size) (cs) rfl rfl 155 _ S'.out (size155 HS.out) ((by rw[HS.out];rfl)) HO.out ?_|refine lR 155 4 V'.out Tryz.underlying155 (size155 HS.out) ?_);have hu9:=upd_setRow w_6 (w.heap.size) (cs);have hb9:=(U'.out).own hu9 (show w.heap.size≤w.heap.size by first|exact Nat.le_refl _|omega);exact bodyPost_ret (rT ((S'.out).row _) Tryz.underlying155 (size155 HS.out)) rfl ⟨rfl,(L'.out).upd hu9 (by show ¬c=w.heap.size;have:=HLT.out;omega),hb9⟩
theorem wput_t {B c0 c1:Nat}(cs:Array Value)(hs:cs.size=25)(ho:cs.all (·.oneCell')=true)(l:List Value)(w:World)(hB:At w B (.cells #[.chan (some c0),.chan (some c1)] 199))(hc:Lane w c0 8 l)(hf:l.length<8):
 Calls Tryz.prog 174 #[.pointer (some ⟨B,0,none⟩),.agg cs,.bool true] w fun e w'=>e= .returned (.int .i64 0)∧Lane w' c0 8 (l++[.agg cs])∧Upd (·=c0) w w':=by
 have HL0:=hid hc;have HLT:=hid hc.lt;have HS:=hid hs;have HB0:=hid hB;have HF:=hid hf;have HX:=hid (show l.toArray.push (.agg cs)=(l++[(.agg cs:Value)]).toArray by simp);clear hc hs ho hB hf;obtain⟨w1,he,hu,hX⟩:=mk1 w (cs) 155;have HE:=hid he;have U0:=hid (upd_of_below (S:=(·=c0)) hu);have B0:=hid hu;have X':=hid hX;clear he hu hX;go_enter Tryz.func174,Tryz.ntmps174;go_upto_region 1 with(fail);rw[←HE.out];clear HE;have L':=hid (HL0.out.kp B0.out);have B':=hid (HB0.out.kp B0.out);go_wp2_with fail;refine(lane_t w1 B'.out).mono ?_;rintro e w_3 ⟨rfl,hb⟩;replace X':=hid (X'.out.kp hb);replace L':=hid (L'.out.kp hb);replace B':=hid (B'.out.kp hb);have U':=hid (U0.out.add hb);clear U0;clear hb;go_upto_region 3 with(refine lR 155 4 X'.out Tryz.underlying155 (size155 HS.out) ?_);obtain⟨q,r,hc⟩:=L'.out;have HC:=hid hc;clear hc;refine wp_region_steps 1 (fun b_ k_ cs_=>Steps.one (step_send (i:=0) (c:=c0) (v:= .agg cs) (z:= .agg wZ) rfl rfl (by simp[go_sem,execOp,scase,Act.eval];try rfl) HC.out (by simpa using HF.out))) ?_;rw[HX.out];have hu:=upd_setChan w_3 c0 8 (l++[(.agg cs:Value)]).toArray false (q+1) r;have hl:Lane (World.setChan w_3 c0 8 (l++[(.agg cs:Value)]).toArray false (q+1) r false) c0 8 (l++[.agg cs]):=⟨_,_,heap_setChan _ _ _ _ _ _ _ _ (heap_lt HC.out)⟩;generalize World.setChan w_3 c0 8 (l++[(.agg cs:Value)]).toArray false (q+1) r false=w_8 at*;clear B';replace U':=hid (U'.out.trans (hu.mono fun k hk e=>e));have X':=hid (X'.out.upd hu (by show ¬w.heap.size=c0;have:=HLT.out;omega));replace L':=hid (hl);clear hu hl HC HX;go_wp2_with fail;go_ret;exact⟨rfl,L'.out,U'.out⟩
theorem wput_f {B c0 c1:Nat}(cs:Array Value)(hs:cs.size=25)(ho:cs.all (·.oneCell')=true)(l:List Value)(w:World)(hB:At w B (.cells #[.chan (some c0),.chan (some c1)] 199))(hc:Lane w c1 8 l)(hf:l.length<8):
 Calls Tryz.prog 174 #[.pointer (some ⟨B,0,none⟩),.agg cs,.bool false] w fun e w'=>e= .returned (.int .i64 0)∧Lane w' c1 8 (l++[.agg cs])∧Upd (·=c1) w w':=by
 have HL0:=hid hc;have HLT:=hid hc.lt;have HS:=hid hs;have HB0:=hid hB;have HF:=hid hf;have HX:=hid (show l.toArray.push (.agg cs)=(l++[(.agg cs:Value)]).toArray by simp);clear hc hs ho hB hf;obtain⟨w1,he,hu,hX⟩:=mk1 w (cs) 155;have HE:=hid he;have U0:=hid (upd_of_below (S:=(·=c1)) hu);have B0:=hid hu;have X':=hid hX;clear he hu hX;go_enter Tryz.func174,Tryz.ntmps174;go_upto_region 1 with(fail);rw[←HE.out];clear HE;have L':=hid (HL0.out.kp B0.out);have B':=hid (HB0.out.kp B0.out);go_wp2_with fail;refine(lane_f w1 B'.out).mono ?_;rintro e w_3 ⟨rfl,hb⟩;replace X':=hid (X'.out.kp hb);replace L':=hid (L'.out.kp hb);replace B':=hid (B'.out.kp hb);have U':=hid (U0.out.add hb);clear U0;clear hb;go_upto_region 3 with(refine lR 155 4 X'.out Tryz.underlying155 (size155 HS.out) ?_);obtain⟨q,r,hc⟩:=L'.out;have HC:=hid hc;clear hc;refine wp_region_steps 1 (fun b_ k_ cs_=>Steps.one (step_send (i:=0) (c:=c1) (v:= .agg cs) (z:= .agg wZ) rfl rfl (by simp[go_sem,execOp,scase,Act.eval];try rfl) HC.out (by simpa using HF.out))) ?_;rw[HX.out];have hu:=upd_setChan w_3 c1 8 (l++[(.agg cs:Value)]).toArray false (q+1) r;have hl:Lane (World.setChan w_3 c1 8 (l++[(.agg cs:Value)]).toArray false (q+1) r false) c1 8 (l++[.agg cs]):=⟨_,_,heap_setChan _ _ _ _ _ _ _ _ (heap_lt HC.out)⟩;generalize World.setChan w_3 c1 8 (l++[(.agg cs:Value)]).toArray false (q+1) r false=w_8 at*;clear B';replace U':=hid (U'.out.trans (hu.mono fun k hk e=>e));have X':=hid (X'.out.upd hu (by show ¬w.heap.size=c1;have:=HLT.out;omega));replace L':=hid (hl);clear hu hl HC HX;go_wp2_with fail;go_ret;exact⟨rfl,L'.out,U'.out⟩
theorem wroom_t {B c0 c1:Nat}(l:List Value)(w:World)(hB:At w B (.cells #[.chan (some c0),.chan (some c1)] 199))(hc:Lane w c0 8 l)(hf:l.length≤8):
 Rv 173 #[.pointer (some ⟨B,0,none⟩),.bool true] w (.int .i64 ((8:Int)-l.length)):=by
 have HL0:=hid hc;have HB0:=hid hB;have HF:=hid hf;clear hc hB hf;have U0:=hid (Below.refl w.heap.size w);go_enter Tryz.func173,Tryz.ntmps173;have L':=hid (HL0.out);have B':=hid (HB0.out);go_wp2_with fail;refine(lane_t w B'.out).mono ?_;rintro e w_3 ⟨rfl,hb⟩;replace L':=hid (L'.out.kp hb);replace B':=hid (B'.out.kp hb);have U':=tR U0 hb;clear U0;clear hb;obtain⟨q,r,hc⟩:=L'.out;have hl1:=fun ty=>run_len_chan (P:=Tryz.prog) (w:=w_3) 196 ty Tryz.underlying196 hc;have hc1:=fun ty=>run_cap_chan (P:=Tryz.prog) (w:=w_3) 196 ty Tryz.underlying196 hc;rw[List.size_toArray]at hl1;have hf8:(l.length:Int)≤8:=by have:=HF.out;omega
 go_wp2_with fail;go_ret;exact⟨by first|rfl|(have:=HF.out;congr 2;omega),U'.out⟩
theorem wroom_f {B c0 c1:Nat}(l:List Value)(w:World)(hB:At w B (.cells #[.chan (some c0),.chan (some c1)] 199))(hc:Lane w c1 8 l)(hf:l.length≤8):
 Rv 173 #[.pointer (some ⟨B,0,none⟩),.bool false] w (.int .i64 ((8:Int)-l.length)):=by
 have HL0:=hid hc;have HB0:=hid hB;have HF:=hid hf;clear hc hB hf;have U0:=hid (Below.refl w.heap.size w);go_enter Tryz.func173,Tryz.ntmps173;have L':=hid (HL0.out);have B':=hid (HB0.out);go_wp2_with fail;refine(lane_f w B'.out).mono ?_;rintro e w_3 ⟨rfl,hb⟩;replace L':=hid (L'.out.kp hb);replace B':=hid (B'.out.kp hb);have U':=tR U0 hb;clear U0;clear hb;obtain⟨q,r,hc⟩:=L'.out;have hl1:=fun ty=>run_len_chan (P:=Tryz.prog) (w:=w_3) 196 ty Tryz.underlying196 hc;have hc1:=fun ty=>run_cap_chan (P:=Tryz.prog) (w:=w_3) 196 ty Tryz.underlying196 hc;rw[List.size_toArray]at hl1;have hf8:(l.length:Int)≤8:=by have:=HF.out;omega
 go_wp2_with fail;go_ret;exact⟨by first|rfl|(have:=HF.out;congr 2;omega),U'.out⟩
theorem wTake_a {B c0 c1:Nat}(cs:Array Value)(hs:cs.size=25)(ho:cs.all (·.oneCell')=true)(l l1:List Value)(w:World)(hB:At w B (.cells #[.chan (some c0),.chan (some c1)] 199))(hne:c0≠c1)(h0:Lane w c0 8 (.agg cs::l))(h1:Lane w c1 8 l1):
 Calls Tryz.prog 87 #[.pointer (some ⟨B,0,none⟩)] w fun e w'=>e= .returned (.tuple #[.agg cs,.bool true])∧Lane w' c0 8 l∧Upd (·=c0) w w':=by
 have i0:∀w,(Instr.index 197 (.agg #[.chan (some c0),.chan (some c1)]) (.int .i64 0)).run Tryz.prog w= .ok (.chan (some c0)) w:=fun _=>by kernel_rfl
 have i1:∀w,(Instr.index 197 (.agg #[.chan (some c0),.chan (some c1)]) (.int .i64 1)).run Tryz.prog w= .ok (.chan (some c1)) w:=fun _=>by kernel_rfl
 have H0:=hid h0;have H1:=hid h1;have HB0:=hid hB;have HS:=hid hs;have HO:=hid ho;have HLT:=hid h0.lt;have HNE:=hid hne;clear h0 h1 hB hne hs ho;have hz155:=zero155;obtain⟨w1,he,hu,hS⟩:=mk1 w (wZ) 155;have HE:=hid he;have U0:=hid (upd_of_below (S:=(·=c0)) hu);have B0:=hid hu;have S_0:=hid hS;clear he hu hS;go_enter Tryz.func87,Tryz.ntmps87;go_upto_region 1 with(fail);rw[←HE.out];clear HE;have L0_1:=hid (H0.out.kp B0.out);have L1_2:=hid (H1.out.kp B0.out);have B_3:=hid (HB0.out.kp B0.out);go_wp2_with (refine wpList_load_row rfl 197 (.tmp 11) rfl B rfl 199 #[.chan (some c0),.chan (some c1)] (0,0) _ B_3.out Tryz.underlying197 rfl (size197 rfl) ?_);refine wp_loop_rounds 3 ?_;rw[rounds_succ];go_wp2_with fail;refine(wtake_some c0 8 cs HS.out HO.out l _ L0_1.out).mono ?_;rintro e w_4 ⟨rfl,hl,hu⟩;have U_5:=hid (U0.out.trans (hu.mono fun k hk e=>e));have S_6:=hid (S_0.out.upd hu (by show ¬w.heap.size=c0;have:=HLT.out;omega));have L0_7:=hid (hl);have L1_8:=hid (L1_2.out.upd hu (fun e=>HNE.out e.symm));have B_9:=hid (B_3.out.upd hu (by show ¬B=c0;exact L0_1.out.ne B_3.out));clear U0 S_0 L0_1 L1_2 B_3;clear hu hl;go_upto_region 5 with(refine wpList_store_row rfl 155 (.tmp 6) (.tmp 19) rfl (w_4).heap.size (cs) rfl rfl 155 _ (heap_new _ _) (size155 HS.out) ((by rw[HS.out];rfl)) HO.out ?_);have hv:=varnew w_4 (wZ) (cs) 155;generalize World.setRow (World.alloc w_4 (.cells (wZ) 155)) (w_4).heap.size (cs)=w_10 at*;obtain⟨hb,hk⟩:=hv;have S_11:=hid (S_6.out.kp hb);have L0_12:=hid (L0_7.out.kp hb);have L1_13:=hid (L1_8.out.kp hb);have B_14:=hid (B_9.out.kp hb);have U_15:=hid (U_5.out.add hb);clear S_6 L0_7 L1_8 B_9 U_5;have V_16:=hid hk;clear hb hk;go_wp2_with (first|refine wpList_store_row rfl 155 (.tmp 2) (.tmp 22) rfl (w.heap.size) (cs) rfl rfl 155 _ S_11.out (size155 HS.out) ((by rw[HS.out];rfl)) HO.out ?_|refine lR 155 6 V_16.out Tryz.underlying155 (size155 HS.out) ?_);have hu9:=upd_setRow w_10 (w.heap.size) (cs);have hb9:=(U_15.out).own hu9 (show w.heap.size≤w.heap.size by first|exact Nat.le_refl _|omega);exact bodyPost_ret (rT ((S_11.out).row _) Tryz.underlying155 (size155 HS.out)) rfl ⟨rfl,(L0_12.out).upd hu9 (by show ¬c0=w.heap.size;have:=HLT.out;omega),hb9⟩
theorem wTake_b {B c0 c1:Nat}(cs:Array Value)(hs:cs.size=25)(ho:cs.all (·.oneCell')=true)(l:List Value)(w:World)(hB:At w B (.cells #[.chan (some c0),.chan (some c1)] 199))(hne:c0≠c1)(h0:Lane w c0 8 [])(h1:Lane w c1 8 (.agg cs::l)):
 Calls Tryz.prog 87 #[.pointer (some ⟨B,0,none⟩)] w fun e w'=>e= .returned (.tuple #[.agg cs,.bool true])∧Lane w' c1 8 l∧Upd (·=c1) w w':=by
 have i0:∀w,(Instr.index 197 (.agg #[.chan (some c0),.chan (some c1)]) (.int .i64 0)).run Tryz.prog w= .ok (.chan (some c0)) w:=fun _=>by kernel_rfl
 have i1:∀w,(Instr.index 197 (.agg #[.chan (some c0),.chan (some c1)]) (.int .i64 1)).run Tryz.prog w= .ok (.chan (some c1)) w:=fun _=>by kernel_rfl
 have H0:=hid h0;have H1:=hid h1;have HB0:=hid hB;have HS:=hid hs;have HO:=hid ho;have HLT:=hid h1.lt;have HNE:=hid hne;clear h0 h1 hB hne hs ho;have hz155:=zero155;obtain⟨w1,he,hu,hS⟩:=mk1 w (wZ) 155;have HE:=hid he;have U0:=hid (upd_of_below (S:=(·=c1)) hu);have B0:=hid hu;have S_0:=hid hS;clear he hu hS;go_enter Tryz.func87,Tryz.ntmps87;go_upto_region 1 with(fail);rw[←HE.out];clear HE;have L0_1:=hid (H0.out.kp B0.out);have L1_2:=hid (H1.out.kp B0.out);have B_3:=hid (HB0.out.kp B0.out);go_wp2_with (refine wpList_load_row rfl 197 (.tmp 11) rfl B rfl 199 #[.chan (some c0),.chan (some c1)] (0,0) _ B_3.out Tryz.underlying197 rfl (size197 rfl) ?_);refine wp_loop_rounds 3 ?_;rw[rounds_succ];go_wp2_with fail;refine(wtake_none c0 8 _ L0_1.out).mono ?_;rintro e w_4 ⟨rfl,hb⟩;have S_5:=hid (S_0.out.kp hb);have L0_6:=hid (L0_1.out.kp hb);have L1_7:=hid (L1_2.out.kp hb);have B_8:=hid (B_3.out.kp hb);have U_9:=hid (U0.out.add hb);clear S_0 L0_1 L1_2 B_3 U0;clear hb;go_upto_region 5 with(refine sV 155 6 19 (wZ) (size155 rfl) wZ_one ?_;intro w_10 hb hk);have S_11:=hid (S_5.out.kp hb);have L0_12:=hid (L0_6.out.kp hb);have L1_13:=hid (L1_7.out.kp hb);have B_14:=hid (B_8.out.kp hb);have U_15:=hid (U_9.out.add hb);clear S_5 L0_6 L1_7 B_8 U_9;have V0_16:=hid hk;clear hb hk;clear V0_16;go_wp2_with fail;rw[rounds_succ];go_wp2_with fail;refine(wtake_some c1 8 cs HS.out HO.out l _ L1_13.out).mono ?_;rintro e w_17 ⟨rfl,hl,hu⟩;have U_18:=hid (U_15.out.trans (hu.mono fun k hk e=>e));have S_19:=hid (S_11.out.upd hu (by show ¬w.heap.size=c1;have:=HLT.out;omega));have L0_20:=hid (L0_12.out.upd hu (fun e=>HNE.out e));have L1_21:=hid (hl);have B_22:=hid (B_14.out.upd hu (by show ¬B=c1;exact L1_13.out.ne B_14.out));clear U_15 S_11 L0_12 L1_13 B_14;clear hu hl;go_upto_region 5 with(refine wpList_store_row rfl 155 (.tmp 6) (.tmp 19) rfl (w_17).heap.size (cs) rfl rfl 155 _ (heap_new _ _) (size155 HS.out) ((by rw[HS.out];rfl)) HO.out ?_);have hv:=varnew w_17 (wZ) (cs) 155;generalize World.setRow (World.alloc w_17 (.cells (wZ) 155)) (w_17).heap.size (cs)=w_23 at*;obtain⟨hb,hk⟩:=hv;have S_24:=hid (S_19.out.kp hb);have L0_25:=hid (L0_20.out.kp hb);have L1_26:=hid (L1_21.out.kp hb);have B_27:=hid (B_22.out.kp hb);have U_28:=hid (U_18.out.add hb);clear S_19 L0_20 L1_21 B_22 U_18;have V_29:=hid hk;clear hb hk;go_wp2_with (first|refine wpList_store_row rfl 155 (.tmp 2) (.tmp 22) rfl (w.heap.size) (cs) rfl rfl 155 _ S_24.out (size155 HS.out) ((by rw[HS.out];rfl)) HO.out ?_|refine lR 155 6 V_29.out Tryz.underlying155 (size155 HS.out) ?_);have hu9:=upd_setRow w_23 (w.heap.size) (cs);have hb9:=(U_28.out).own hu9 (show w.heap.size≤w.heap.size by first|exact Nat.le_refl _|omega);exact bodyPost_ret (rT ((S_24.out).row _) Tryz.underlying155 (size155 HS.out)) rfl ⟨rfl,(L1_26.out).upd hu9 (by show ¬c1=w.heap.size;have:=HLT.out;omega),hb9⟩
theorem wTake_c {B c0 c1:Nat}(w:World)(hB:At w B (.cells #[.chan (some c0),.chan (some c1)] 199))(hne:c0≠c1)(h0:Lane w c0 8 [])(h1:Lane w c1 8 []):
 Rv 87 #[.pointer (some ⟨B,0,none⟩)] w (.tuple #[.agg wZ,.bool false]):=by
 have i0:∀w,(Instr.index 197 (.agg #[.chan (some c0),.chan (some c1)]) (.int .i64 0)).run Tryz.prog w= .ok (.chan (some c0)) w:=fun _=>by kernel_rfl
 have i1:∀w,(Instr.index 197 (.agg #[.chan (some c0),.chan (some c1)]) (.int .i64 1)).run Tryz.prog w= .ok (.chan (some c1)) w:=fun _=>by kernel_rfl
 have H0:=hid h0;have H1:=hid h1;have HB0:=hid hB;have HNE:=hid hne;clear h0 h1 hB hne;have hz155:=zero155;obtain⟨w1,HE,U0,S'⟩:=mH1 w (wZ) 155;go_enter Tryz.func87,Tryz.ntmps87;go_upto_region 1 with(fail);rw[←HE.out];clear HE;have L0':=hid (H0.out.kp U0.out);have L1':=hid (H1.out.kp U0.out);have B':=hid (HB0.out.kp U0.out);go_wp2_with (refine wpList_load_row rfl 197 (.tmp 11) rfl B rfl 199 #[.chan (some c0),.chan (some c1)] (0,0) _ B'.out Tryz.underlying197 rfl (size197 rfl) ?_);refine wp_loop_rounds 3 ?_;rw[rounds_succ];go_wp2_with fail;refine(wtake_none c0 8 _ L0'.out).mono ?_;rintro e w_4 ⟨rfl,hb⟩;replace S':=hid (S'.out.kp hb);replace L0':=hid (L0'.out.kp hb);replace L1':=hid (L1'.out.kp hb);replace B':=hid (B'.out.kp hb);have U':=tR U0 hb;clear U0;clear hb;go_upto_region 5 with(refine sV 155 6 19 (wZ) (size155 rfl) wZ_one ?_;intro w_10 hb hk);replace S':=hid (S'.out.kp hb);replace L0':=hid (L0'.out.kp hb);replace L1':=hid (L1'.out.kp hb);replace B':=hid (B'.out.kp hb);replace U':=tR U' hb;have V0':=hid hk;clear hb hk;clear V0';go_wp2_with fail;rw[rounds_succ];go_wp2_with fail;refine(wtake_none c1 8 _ L1'.out).mono ?_;rintro e w_17 ⟨rfl,hb⟩;replace S':=hid (S'.out.kp hb);replace L0':=hid (L0'.out.kp hb);replace L1':=hid (L1'.out.kp hb);replace B':=hid (B'.out.kp hb);replace U':=tR U' hb;clear hb;go_upto_region 5 with(refine sV 155 6 19 (wZ) (size155 rfl) wZ_one ?_;intro w_23 hb hk);replace S':=hid (S'.out.kp hb);replace L0':=hid (L0'.out.kp hb);replace L1':=hid (L1'.out.kp hb);replace B':=hid (B'.out.kp hb);replace U':=tR U' hb;have V1':=hid hk;clear hb hk;clear V1';go_wp2_with fail;rw[rounds_succ];go_upto_region 9 with fail;obtain⟨w_30,he,hb,hk⟩:=mk1 w_23 (wZ) 155;rw[←he];clear he;replace S':=hid (S'.out.kp hb);replace L0':=hid (L0'.out.kp hb);replace L1':=hid (L1'.out.kp hb);replace B':=hid (B'.out.kp hb);replace U':=tR U' hb;have V':=hid hk;clear hb hk;go_wp2_with (first|refine sR 155 2 24 (w.heap.size) (wZ) S'.out (size155 rfl) wZ_one ?_|refine lQ 155 8 V'.out ?_);have hu9:=upd_setRow w_30 (w.heap.size) (wZ);have hb9:=hu9.below (U'.out).size (fun k e=>by rw[e];first|exact Nat.le_refl _|omega);exact bodyPost_ret (rU ((S'.out).row _)) rfl ⟨rfl,(U'.out).trans (hb9.mono (Nat.le_refl _))⟩
theorem room8 (w:World):
 Calls Tryz.prog 106 #[.int .i64 8] w fun e w'=>e= .returned (.int .i64 8)∧w=w':=by
 have U0:=hid (Below.refl w.heap.size w);go_enter Tryz.func106,Tryz.ntmps106;go_wp2_with fail;go_ret;exact⟨rfl,rfl⟩
theorem mk196 (w:World):(Instr.makeChan 196 (.int .i64 8)).run Tryz.prog w= .ok (.chan (some w.heap.size)) (w.alloc (.chan 8 #[] false 0 0 false)):=by
 obtain⟨i0,hi,hz0,hz1,hz2⟩:=info_parts (P:=Tryz.prog) (e:=155) (z:= .agg wZ) (size:=25) (bytes:=248) (by kernel_rfl);exact run_makeChan (P:=Tryz.prog) Tryz.underlying196 hi .i64 8 (by omega) (by rw[hz2];omega)
theorem new_box (w:World):
 At (((w.alloc (.chan 8 #[] false 0 0 false)).alloc (.chan 8 #[] false 0 0 false)).alloc (.cells #[.chan (some w.heap.size),.chan (some (w.heap.size+1))] 199)).drew (w.heap.size+1+1) (.cells #[.chan (some w.heap.size),.chan (some (w.heap.size+1))] 199)∧
 Lane (((w.alloc (.chan 8 #[] false 0 0 false)).alloc (.chan 8 #[] false 0 0 false)).alloc (.cells #[.chan (some w.heap.size),.chan (some (w.heap.size+1))] 199)).drew w.heap.size 8 []∧
 Lane (((w.alloc (.chan 8 #[] false 0 0 false)).alloc (.chan 8 #[] false 0 0 false)).alloc (.cells #[.chan (some w.heap.size),.chan (some (w.heap.size+1))] 199)).drew (w.heap.size+1) 8 []:=by
 have z1:(w.alloc (.chan 8 #[] false 0 0 false)).heap.size=w.heap.size+1:=by simp
 have hA:Lane (w.alloc (.chan 8 #[] false 0 0 false)) w.heap.size 8 []:=⟨0,0,heap_new w _⟩;have hB:Lane ((w.alloc (.chan 8 #[] false 0 0 false)).alloc (.chan 8 #[] false 0 0 false)) (w.heap.size+1) 8 []:=⟨0,0,by have:=heap_new (w.alloc (.chan 8 #[] false 0 0 false)) (.chan 8 #[] false 0 0 false);rw[z1]at this;exact this⟩;refine⟨?_,?_,?_⟩
 · have:=heap_new ((w.alloc (.chan 8 #[] false 0 0 false)).alloc (.chan 8 #[] false 0 0 false)) (.cells #[.chan (some w.heap.size),.chan (some (w.heap.size+1))] 199);rw[show((w.alloc (.chan 8 #[] false 0 0 false)).alloc (.chan 8 #[] false 0 0 false)).heap.size=w.heap.size+1+1 by simp]at this;exact this
 · exact(((hA.upd (upd_alloc (fun _=>False) _ _) (fun h=>h)).upd (upd_alloc (fun _=>False) _ _) (fun h=>h))).upd (upd_drew (fun _=>False) _) (fun h=>h)
 · exact(hB.upd (upd_alloc (fun _=>False) _ _) (fun h=>h)).upd (upd_drew (fun _=>False) _) (fun h=>h)
theorem new_box2 (w:World):
 At (((w.alloc (.chan 8 #[] false 0 0 false)).alloc (.chan 8 #[] false 0 0 false)).alloc (.cells #[.chan (some (w.heap.size+1)),.chan (some w.heap.size)] 199)).drew (w.heap.size+1+1) (.cells #[.chan (some (w.heap.size+1)),.chan (some w.heap.size)] 199)∧
 Lane (((w.alloc (.chan 8 #[] false 0 0 false)).alloc (.chan 8 #[] false 0 0 false)).alloc (.cells #[.chan (some (w.heap.size+1)),.chan (some w.heap.size)] 199)).drew (w.heap.size+1) 8 []∧
 Lane (((w.alloc (.chan 8 #[] false 0 0 false)).alloc (.chan 8 #[] false 0 0 false)).alloc (.cells #[.chan (some (w.heap.size+1)),.chan (some w.heap.size)] 199)).drew w.heap.size 8 []:=by
 have z1:(w.alloc (.chan 8 #[] false 0 0 false)).heap.size=w.heap.size+1:=by simp
 have hA:Lane (w.alloc (.chan 8 #[] false 0 0 false)) w.heap.size 8 []:=⟨0,0,heap_new w _⟩;have hB:Lane ((w.alloc (.chan 8 #[] false 0 0 false)).alloc (.chan 8 #[] false 0 0 false)) (w.heap.size+1) 8 []:=⟨0,0,by have:=heap_new (w.alloc (.chan 8 #[] false 0 0 false)) (.chan 8 #[] false 0 0 false);rw[z1]at this;exact this⟩;refine⟨?_,?_,?_⟩
 · have:=heap_new ((w.alloc (.chan 8 #[] false 0 0 false)).alloc (.chan 8 #[] false 0 0 false)) (.cells #[.chan (some (w.heap.size+1)),.chan (some w.heap.size)] 199);rw[show((w.alloc (.chan 8 #[] false 0 0 false)).alloc (.chan 8 #[] false 0 0 false)).heap.size=w.heap.size+1+1 by simp]at this;exact this
 · exact(hB.upd (upd_alloc (fun _=>False) _ _) (fun h=>h)).upd (upd_drew (fun _=>False) _) (fun h=>h)
 · exact(((hA.upd (upd_alloc (fun _=>False) _ _) (fun h=>h)).upd (upd_alloc (fun _=>False) _ _) (fun h=>h))).upd (upd_drew (fun _=>False) _) (fun h=>h)
theorem new_below (w:World)(x y z:Obj):Below w.heap.size w (((w.alloc x).alloc y).alloc z).drew:=
 ((((Below.refl _ _).alloc (Nat.le_refl _) _).alloc (by simp) _).alloc (by simp;omega) _).drew
theorem wnew (w:World):
 Calls Tryz.prog 65 #[.int .i64 8,.int .i64 8] w fun e w'=>∃B c0 c1,e= .returned (.pointer (some ⟨B,0,none⟩))∧At w' B (.cells #[.chan (some c0),.chan (some c1)] 199)∧Lane w' c0 8 []∧Lane w' c1 8 []∧Below w.heap.size w w'∧w.heap.size≤B∧w.heap.size≤c0∧w.heap.size≤c1∧c0≠c1:=by
 have h1:=fun w=>mk196 w;have U0:=hid (Below.refl w.heap.size w);go_enter Tryz.func65,Tryz.ntmps65;go_wp2_with fail;go_region_with (go_at_call 106;refine(room8 _).mono ?_;rintro e w' ⟨rfl,rfl⟩);all_goals
  go_wp2
  go_ret
  first
   |exact⟨_,_,_,rfl,(new_box w).1,(new_box w).2.1,(new_box w).2.2,new_below w _ _ _,by omega,by omega,by omega,by omega⟩
   |exact⟨_,_,_,rfl,(new_box2 w).1,(new_box2 w).2.1,(new_box2 w).2.2,new_below w _ _ _,by omega,by omega,by omega,by omega⟩
end
end Go.Proofs.YtlhlmflacdeafaaGreatDoor
