/-
  A part of the walk of TopReports.
-/
import Derived.Test.YtlhlmflacdeafaaGreatDoorT2
set_option maxRecDepth 100000
set_option maxHeartbeats 4000000
set_option linter.unusedVariables false
set_option linter.unusedSimpArgs false
namespace Go.Proofs.YtlhlmflacdeafaaGreatDoor
section
open Go.RowKit
theorem boxed2 (w:World)(k n:Nat)(s:List UInt8)(l l2:Value)(o:Bool):
 ∃w1,w1=(w.alloc (.cells (ic k n s l o) 93)).alloc (.cells (ic k n s l2 o) 93)∧Below w.heap.size w w1∧
 (w1.cell? ⟨w.heap.size,0,none⟩=some (.int .i64 k)∧w1.cell? ⟨w.heap.size,1,none⟩=some (.int .u64 n)∧w1.cell? ⟨w.heap.size,2,none⟩=some (.string (st s))∧w1.cell? ⟨w.heap.size,3,none⟩=some l∧w1.cell? ⟨w.heap.size,4,none⟩=some (.bool o))∧
 (w1.cell? ⟨w.heap.size+1,0,none⟩=some (.int .i64 k)∧w1.cell? ⟨w.heap.size+1,1,none⟩=some (.int .u64 n)∧w1.cell? ⟨w.heap.size+1,2,none⟩=some (.string (st s))∧w1.cell? ⟨w.heap.size+1,3,none⟩=some l2∧w1.cell? ⟨w.heap.size+1,4,none⟩=some (.bool o)):=by
 have z:(w.alloc (.cells (ic k n s l o) 93)).heap.size=w.heap.size+1:=World.size_alloc _ _;have h1:=heap_new w (.cells (ic k n s l o) 93);have h2:=heap_new (w.alloc (.cells (ic k n s l o) 93)) (.cells (ic k n s l2 o) 93);have u1:=(Below.refl w.heap.size w).alloc (Nat.le_refl _) (.cells (ic k n s l o) 93);have u2:=u1.alloc u1.size (.cells (ic k n s l2 o) 93);have h3:=((Below.refl (w.alloc (.cells (ic k n s l o) 93)).heap.size (w.alloc (.cells (ic k n s l o) 93))).alloc (Nat.le_refl _) (.cells (ic k n s l2 o) 93)).block w.heap.size (by omega);rw[z]at h2;refine⟨_,rfl,u2,⟨?_,?_,?_,?_,?_⟩,?_,?_,?_,?_,?_⟩;all_goals first
  |(rw[cell_of_row _ _ _ _ 93 (0,0) (h3.trans h1)];rfl)
  |(rw[cell_of_row _ _ _ _ 93 (0,0) h2];rfl)
theorem same_leaf (k n:Nat)(s:List UInt8)(w:World):Rv 324 #[.agg (ic k n s nS false),.agg (ic k n s nS false)] w (.bool true):=by
 obtain⟨w1,he,hu,⟨a0,a1,a2,a3,a4⟩,b0,b1,b2,b3,b4⟩:=boxed2 w k n s nS nS false;have HU:=hid hu;clear hu;have HE:=hid he;clear he;go_enter Tryz.func324,Tryz.ntmps324;go_upto_region 1 with(fail);rw[←HE.out];clear HE;go_wp2_with fail;go_loopw [44] (fun i wr=>i= .int .i64 0∧Below w.heap.size w wr) (fun i _=>0);case atStart=>exact⟨rfl,HU.out⟩
 case round=>
  obtain⟨rfl,hu⟩:=hrel;go_wp2_with fail;go_ret;exact⟨rfl,hu⟩
theorem same_arr (l:List Itm)(o:Bool)(a a2:Option Addr)(c c2 m:Nat)(w:World)(hm:m=l.length)(hl:l.length≤1000)(hc:m≤c)(hc2:m≤c2)
 (hr:l=[]∨∃b off,a=some ⟨b,off,none⟩∧IsL w b off l)(hr2:l=[]∨∃b off,a2=some ⟨b,off,none⟩∧IsL w b off l)
 (ih:∀(i:Nat) (h:i<l.length) (cs ds:Array Value) (w':World),IsI w' cs l[i]→IsI w' ds l[i]→Calls Tryz.prog 324 #[.agg cs,.agg ds] w' fun e w''=>e= .returned (.bool true)∧Below w'.heap.size w' w''):
 Rv 324 #[.agg (ic 4 0 [] (.slice a m c) o),.agg (ic 4 0 [] (.slice a2 m c2) o)] w (.bool true):=by
 obtain⟨w1,he,hu,⟨x0,x1,x2,x3,x4⟩,y0,y1,y2,y3,y4⟩:=boxed2 w 4 0 [] (.slice a m c) (.slice a2 m c2) o;rw[st_nil]at x2 y2;have HU:=hid hu;clear hu;have HE:=hid he;clear he;have HI:=hid ih;clear ih;have HL:=hid (And.intro hr (And.intro hr2 (And.intro hc hc2)));clear hr hr2 hc hc2;have HM:=hid hm;have hl1:(m:Int)≤1000:=by omega
 have hl2:m≤1000:=by omega
 have HL2:=hid hl2;have HX3:=hid (And.intro x3 y3);clear hm hl hl2;go_enter Tryz.func324,Tryz.ntmps324;go_upto_region 1 with(fail);rw[←HE.out];clear HE;cases o;all_goals
  go_wp2_with fail
  clear x0 x1 x2 x3 x4 y0 y1 y2 y3 y4
  go_loopw [44] (fun i wr=>∃j:Nat,j≤m∧i= .int .i64 j∧Below w.heap.size w wr∧wr.cell? ⟨w.heap.size,3,none⟩=some (.slice a m c)∧wr.cell? ⟨w.heap.size+1,3,none⟩=some (.slice a2 m c2)) (fun i _=>m-(intOf i).toNat)
  case atStart=>exact⟨0,by omega,rfl,HU.out,HX3.out.1,HX3.out.2⟩
  case round=>
   obtain⟨j,hj,rfl,hu,hx,hy⟩:=hrel;have HV:=hid (And.intro hu (And.intro hx hy));clear hu hx hy;by_cases hjm:j<m
   · have hj0:(j:Int)<(m:Int):=by omega
     have hjl:j<l.length:=by have:=HM.out;omega
     have HJ:=hid hjm;obtain⟨b1,o1,rfl,hls⟩:∃b off,a=some ⟨b,off,none⟩∧IsL w b off l:=by
      rcases HL.out.1 with h|h
      · rw[h]at hjl;simp at hjl
      · exact h
     obtain⟨b2,o2,rfl,hls2⟩:∃b off,a2=some ⟨b,off,none⟩∧IsL w b off l:=by
      rcases HL.out.2.1 with h|h
      · rw[h]at hjl;simp at hjl
      · exact h
     obtain⟨cs,hcs,hrg,his⟩:=IsL.at l o1 j hjl hls;obtain⟨ds,hds,hrg2,his2⟩:=IsL.at l o2 j hjl hls2;rw[Nat.mul_comm 5 j]at hrg hrg2;have HR:=hid (And.intro (range_keep HV.out.1 hrg (range_lt hrg (by simp;omega))) (range_keep HV.out.1 hrg2 (range_lt hrg2 (by simp;omega))));have HS:=hid (And.intro (IsI.keep HV.out.1 _ _ his) (IsI.keep HV.out.1 _ _ his2));have HZ:=hid (And.intro hcs hds);clear hls hls2 hrg hrg2 his his2 hcs hds hjm hj;go_upto_region 6 with(fail);refine same_r w.heap.size (w.heap.size+1) b1 b2 o1 o2 m c c2 j cs ds wr _ HJ.out HL2.out HL.out.2.2.1 HL.out.2.2.2 HV.out.2.1 HV.out.2.2 HZ.out.1 HZ.out.2 HR.out.1 HR.out.2 (fun w' hu'=>HI.out j hjl cs ds w' (IsI.keep hu' _ _ HS.out.1) (IsI.keep hu' _ _ HS.out.2)) ?_;intro y47 y48 y49 y50 y51 y52 y53 y54 y55 y56 y57 w6 hb;have HN:=hid (show Below w.heap.size w w6∧w6.cell? ⟨w.heap.size,3,none⟩=some (.slice (some ⟨b1,o1,none⟩) m c)∧w6.cell? ⟨w.heap.size+1,3,none⟩=some (.slice (some ⟨b2,o2,none⟩) m c2)from
      ⟨HV.out.1.trans (hb.mono HV.out.1.size),(upd_of_below (S:=fun _=>False) hb).cell HV.out.2.1 (fun h=>h),(upd_of_below (S:=fun _=>False) hb).cell HV.out.2.2 (fun h=>h)⟩)
     clear hb;go_wp2_with fail;go_roundw;case rel=>exact⟨j+1,by have:=HJ.out;omega,by go_num,HN.out⟩
     case measure=>simp[intOf];have:=HJ.out;omega
   · have hj9:j=m:=by omega
     subst hj9;go_wp2_with fail;go_ret;exact⟨rfl,HV.out.1⟩
theorem same_any:∀(d:Nat) (x:Itm) (cs ds:Array Value) (w:World),IsI w cs x→IsI w ds x→wf x→deep x≤d→Calls Tryz.prog 324 #[.agg cs,.agg ds] w fun e w'=>e= .returned (.bool true)∧Below w.heap.size w w'
 |d,.num n,cs,ds,w,hi,hi2,_,_=>by
  rw[IsI]at hi hi2;subst hi hi2;exact same_leaf 0 n [] w
 |d,.str s,cs,ds,w,hi,hi2,_,_=>by
  rw[IsI]at hi hi2;subst hi hi2;exact same_leaf 2 0 s w
 |d,.txt s,cs,ds,w,hi,hi2,_,_=>by
  rw[IsI]at hi hi2;subst hi hi2;exact same_leaf 3 0 s w
 |0,.arr o l,_,_,_,_,_,_,hd=>absurd hd (by simp[deep])
 |d+1,.arr o l,cs,ds,w,hi,hi2,hw,hd=>by
  rw[IsI]at hi hi2;obtain⟨a,cap,rfl,hc,hr⟩:=hi;obtain⟨a2,cap2,rfl,hc2,hr2⟩:=hi2;rw[wf]at hw;rw[deep]at hd;exact same_arr l o a a2 cap cap2 l.length w rfl hw.1 hc hc2 hr hr2 (fun i h cs ds w' his his2=>same_any d l[i] cs ds w' his his2 (wf_at l i h hw.2) (Nat.le_trans (deep_at l i h) (by omega)))
theorem two_blocks (w:World)(cs ds:Array Value)(t:TypeId):∃w1,w1=(w.alloc (.cells cs t)).alloc (.cells ds t)∧Below w.heap.size w w1∧At w1 w.heap.size (.cells cs t)∧At w1 (w.heap.size+1) (.cells ds t):=by
 have z:(w.alloc (.cells cs t)).heap.size=w.heap.size+1:=World.size_alloc _ _;have h1:=heap_new w (.cells cs t);have h2:=heap_new (w.alloc (.cells cs t)) (.cells ds t);have u1:=(Below.refl w.heap.size w).alloc (Nat.le_refl _) (.cells cs t);have h3:=((Below.refl (w.alloc (.cells cs t)).heap.size (w.alloc (.cells cs t))).alloc (Nat.le_refl _) (.cells ds t)).block w.heap.size (by omega);rw[z]at h2;exact⟨_,rfl,u1.alloc u1.size _,h3.trans h1,h2⟩
theorem five {w:World}{b k n:Nat}{s:List UInt8}{l:Value}{o:Bool}(h:At w b (.cells (ic k n s l o) 93)):
 w.cell? ⟨b,0,none⟩=some (.int .i64 k)∧w.cell? ⟨b,1,none⟩=some (.int .u64 n)∧w.cell? ⟨b,2,none⟩=some (.string (st s))∧w.cell? ⟨b,3,none⟩=some l∧w.cell? ⟨b,4,none⟩=some (.bool o):=by
 refine⟨?_,?_,?_,?_,?_⟩<;>(rw[cell_of_row _ _ _ _ 93 (0,0) h];rfl)
theorem Same_any (x:Itm)(cs ds:Array Value)(w:World)(hi:IsI w cs x)(hi2:IsI w ds x)(hw:wf x)(hd:deep x≤8):Rv 243 #[.agg cs,.agg ds] w (.bool true):=by
 obtain⟨w1,he,hu,ha,hb⟩:=two_blocks w cs ds 93;have HE:=hid he;clear he;have HU:=hid hu;have HA:=hid (And.intro ha hb);have HR:=hid (fun(w2:World) (h:Below w.heap.size w w2)=>Right_any x cs w2 (IsI.keep h _ _ hi) hw hd);have HR2:=hid (fun(w2:World) (h:Below w.heap.size w w2)=>Right_any x ds w2 (IsI.keep h _ _ hi2) hw hd);have HS:=hid (fun(w2:World) (h:Below w.heap.size w w2)=>same_any 8 x cs ds w2 (IsI.keep h _ _ hi) (IsI.keep h _ _ hi2) hw hd);have HZ:=hid (And.intro (size93 hi.size) (size93 hi2.size));obtain⟨k1,n1,s1,a1,c1,m1,o1,rfl⟩:=hi.form;obtain⟨k2,n2,s2,a2,c2,m2,o2,rfl⟩:=hi2.form;clear hu ha hb hi hi2;go_enter Tryz.func243,Tryz.ntmps243;go_upto_region 1 with(fail);rw[←HE.out];clear HE;go_wp2_with (refine lR 93 2 HA.out.1 Tryz.underlying93 HZ.out.1 ?_);refine(HR.out _ HU.out).mono ?_;rintro e w2 ⟨rfl,hb⟩;have HU2:=tR HU hb;have HA2:=hid (And.intro (HA.out.1.keep hb) (HA.out.2.keep hb));clear hb;obtain⟨q0,q1,q2,q3,q4⟩:=five HA2.out.2;go_wp2_with fail;refine(HR2.out _ HU2.out).mono ?_;rintro e w3 ⟨rfl,hb⟩;have HU3:=tR HU2 hb;have HA3:=hid (And.intro (HA2.out.1.keep hb) (HA2.out.2.keep hb));clear hb q0 q1 q2 q3 q4;obtain⟨q0,q1,q2,q3,q4⟩:=five HA3.out.2;obtain⟨p0,p1,p2,p3,p4⟩:=five HA3.out.1;go_wp2_with fail;refine(HS.out _ HU3.out).mono ?_;rintro e w4 ⟨rfl,hb⟩;have HU4:=tR HU3 hb;clear hb;go_wp2_with fail;go_ret;exact⟨rfl,HU4.out⟩
end
section
open Go.RowKit
theorem built93 (k:Int):Tryz.prog.built 93 [(0,.int .i64 k)]=some #[.int .i64 k,.int .u64 0,.string ⟨#[]⟩,nS,.bool false]:=by kernel_rfl
theorem Upd.above' {S T:Nat→Prop}{w w2 w3:World}(h:Upd S w w2)(k:Upd T w2 w3)(hT:∀i,T i→w.heap.size≤i):Upd S w w3:=
 ⟨k.os.trans h.os,k.tape.trans h.tape,k.output.trans h.output,Nat.le_trans h.size k.size,fun i hi hs=>(k.block i (Nat.lt_of_lt_of_le hi h.size) (fun e=>by have:=hT i e;omega)).trans (h.block i hi hs)⟩
theorem At.upd {w w':World}{b:Nat}{o:Obj}{S:Nat→Prop}(h:At w b o)(hu:Upd S w w')(hn:¬S b):At w' b o:=(hu.block b (heap_lt h) hn).trans h
theorem At.lt {w:World}{b:Nat}{o:Obj}(h:At w b o):b<w.heap.size:=heap_lt h
theorem At.row {w:World}{b:Nat}{cs:Array Value}{t:TypeId}(h:At w b (.cells cs t))(ds:Array Value):At (w.setRow b ds) b (.cells ds t):=setRow_heap w b _ _ t _ h
theorem pstr_bytes (s b r:List UInt8)(a n P:Nat)(w:World)(h:At w P (.cells (pc s a) 284))(ha:a≤s.length)(hl:s.length≤100000)(hdr:s.drop a=hd 2 n++(b++r))(hn:b.length=n):
 Calls Tryz.prog 237 #[.pointer (some ⟨P,0,none⟩),.int .i64 2] w fun e w'=>e= .returned (.agg (ic 2 0 b nS false))∧At w' P (.cells (pc s (a+((hd 2 n).length+n))) 284)∧Upd (·=P) w w':=by
 have hbr:(b++r).length≤100000:=by
  have:=congrArg List.length hdr;simp at this;simp;omega
 have HZ:=hid (show n≤100000∧a≤100000 from⟨by rw[List.length_append]at hbr;omega,by omega⟩);have hz:=zero93;have hb:=built93 2;have z1:(w.alloc (.cells (ic 0 0 [] nS false) 93)).heap.size=w.heap.size+1:=World.size_alloc _ _;have ha1:=At.keep h ((Below.refl w.heap.size w).alloc (Nat.le_refl _) (.cells (ic 0 0 [] nS false) 93));have H1:=hid (And.intro (heap_new w (.cells (ic 0 0 [] nS false) 93)) (And.intro ha1 ((Below.refl w.heap.size w).alloc (Nat.le_refl _) (.cells (ic 0 0 [] nS false) 93))));have HR:=hid (fun(w:World) (h:At w P (.cells (pc s a) 284))=>preader_any s a P w h ha hl);have HB:=hid (fun(R:Nat) (w:World) (h:At w R (.cells (rc (hd 2 n++(b++r)) 0) 423))=>rbytes_any n R b r w hn h hbr);have HD:=hid hdr;obtain⟨q,hq⟩:∃q,q=(hd 2 n).length+n:=⟨_,rfl⟩;have HQ:=hid hq;have hpl:=h.lt;have HP:=hid hpl;clear h ha1 hbr hq hdr hn hpl z1;go_enter Tryz.func237,Tryz.ntmps237;go_upto_region 1 with(fail);generalize World.alloc w _=w1 at*;clear hz;go_wp2_with fail;refine(HR.out _ H1.out.2.1).mono ?_;rintro e w2 ⟨R,rfl,hR,hat,hbl⟩;rw[HD.out]at hat;have H2:=hid (show At w2 w.heap.size (.cells (ic 0 0 [] nS false) 93)∧At w2 P (.cells (pc s a) 284)∧Below w.heap.size w w2 from⟨(show At w1 _ _ from H1.out.1).keep hbl,H1.out.2.1.keep hbl,H1.out.2.2.trans (hbl.mono H1.out.2.2.size)⟩);have HRR:=hid (And.intro hat (show w.heap.size<R from Nat.lt_of_lt_of_le (heap_lt H1.out.1) hR));clear hat hbl hR H1;go_upto_region 2 with(fail);have hz:=zero93;have hnew:=hid (show At (w2.alloc (.cells (ic 0 0 [] nS false) 93)) w2.heap.size _ from heap_new w2 (.cells (ic 0 0 [] nS false) 93));have hu3:Upd (fun _=>False) w2 ((w2.alloc (.cells (ic 0 0 [] nS false) 93)).setRow w2.heap.size (ic 2 0 [] nS false)):=
  (upd_alloc (fun _=>False) w2 _).above ((upd_setRow _ w2.heap.size _).mono (T:=fun k=>w2.heap.size≤k) fun k _ hk=>by omega)
 have H3:=hid (And.intro (hnew.out.row (ic 2 0 [] nS false)) (And.intro (H2.out.1.upd hu3 (fun h=>h)) (And.intro (H2.out.2.1.upd hu3 (fun h=>h)) (And.intro ((show At w2 R _ from HRR.out.1).upd hu3 (fun h=>h)) (And.intro (H2.out.2.2.trans (hu3.below H2.out.2.2.size (fun _ h=>h.elim))) (And.intro HRR.out.1.lt H2.out.1.lt))))));clear hu3;go_upto_region 3 with(refine sR 93 6 12 w2.heap.size (ic 2 0 [] nS false) hnew.out (size93 rfl) (ic_one ..) ?_);clear hz hb hnew H2;generalize World.setRow (World.alloc w2 _) _ _=w3 at*;generalize w2.heap.size=B6 at*;go_wp2_with fail;refine(HB.out R _ H3.out.2.2.2.1).mono ?_;rintro e w4 ⟨rfl,hat,hu⟩;have hB6R:¬B6=R:=by have:=H3.out.2.2.2.2.2.1;omega
 have hwR:¬w.heap.size=R:=by have:=HRR.out.2;omega
 have hPR:¬P=R:=by have:=HRR.out.2;have:=HP.out;omega
 have H4:=hid (And.intro (H3.out.1.upd hu hB6R) (And.intro (H3.out.2.1.upd hu hwR) (And.intro (H3.out.2.2.1.upd hu hPR) (And.intro (show At w4 R _ from hat) (H3.out.2.2.2.2.1.trans (hu.below H3.out.2.2.2.2.1.size (fun k e=>by rw[e];have:=HRR.out.2;omega)))))));have HNE:=hid (show ¬B6=R∧w.heap.size<B6∧P<w.heap.size∧w.heap.size<R from⟨hB6R,H3.out.2.2.2.2.2.2,HP.out,HRR.out.2⟩);clear hat hu hB6R hwR hPR;obtain⟨x0,x1,x2,x3,x4⟩:=five H4.out.1;have xf:w4.frozen? ⟨B6,2,none⟩=false:=frozen_of_row w4 B6 2 _ 93 H4.out.1;have hu5:=upd_setCell w4 ⟨B6,2,none⟩ (.string (st b));have H5:=hid (And.intro (show At (w4.setCell ⟨B6,2,none⟩ (.string (st b))) B6 (.cells (ic 2 0 b nS false) 93)from heap_setCell_same w4 B6 2 _ 93 (.string (st b)) H4.out.1) (And.intro (H4.out.2.1.upd hu5 (by have:=HNE.out;show ¬_=B6;omega)) (And.intro (H4.out.2.2.1.upd hu5 (by have:=HNE.out;show ¬_=B6;omega)) (And.intro (H4.out.2.2.2.1.upd hu5 (by have:=HNE.out;show ¬_=B6;omega)) (H4.out.2.2.2.2.trans (hu5.below H4.out.2.2.2.2.size (fun k e=>by have:=HNE.out;have e:k=B6:=e;omega)))))));clear hu5;go_upto_region 6 with(fail);generalize World.setCell w4 _ _=w5 at*;clear x0 x1 x2 x3 x4 xf H3 H4;go_wp2_with fail;refine(bad_any _ R _ _ H5.out.2.2.2.1).mono ?_;rintro e w6 ⟨rfl,hb6⟩;have H6:=hid (And.intro (H5.out.1.keep hb6) (And.intro (H5.out.2.1.keep hb6) (And.intro (H5.out.2.2.1.keep hb6) (And.intro (H5.out.2.2.2.1.keep hb6) (H5.out.2.2.2.2.trans (hb6.mono H5.out.2.2.2.2.size))))));clear hb6 H5;obtain⟨p0,p1,p2⟩:=pthree H6.out.2.2.1;have pf:=pfree H6.out.2.2.1 1;have HAT:=hid (fun(w:World) (h:At w R (.cells (rc (hd 2 n++(b++r)) ((hd 2 n).length+n)) 423))=>at_any _ R _ w h);rw[←HQ.out]at HAT H6;go_upto_region 9 with(fail);have hq9:(q:Int)≤200000:=by have:=HQ.out;have:=hd_len 2 n;have:=HZ.out;omega
 have ha9:(a:Int)≤100000:=by have:=HZ.out;omega
 have hu7:=upd_setCell w6.drew ⟨P,1,none⟩ (.int .i64 (a+q:Nat));have H7:=hid (show At (w6.setCell ⟨P,1,none⟩ (.int .i64 (a+q:Nat))).drew P (.cells (pc s (a+q)) 284)∧At (w6.setCell ⟨P,1,none⟩ (.int .i64 (a+q:Nat))).drew B6 (.cells (ic 2 0 b nS false) 93)∧At (w6.setCell ⟨P,1,none⟩ (.int .i64 (a+q:Nat))).drew w.heap.size (.cells (ic 0 0 [] nS false) 93)∧Upd (·=P) w (w6.setCell ⟨P,1,none⟩ (.int .i64 (a+q:Nat))).drew from
  ⟨pset H6.out.2.2.1 rfl,At.upd (w:=w6.drew) H6.out.1 hu7 (by have:=HNE.out;show ¬B6=P;omega),At.upd (w:=w6.drew) H6.out.2.1 hu7 (by have:=HNE.out;show ¬w.heap.size=P;omega),(upd_of_below (below_drew H6.out.2.2.2.2)).trans hu7⟩)
 rw[Int.natCast_add]at H7;clear hu7;go_still_tail 9,(by kernel_rfl);still_call ((HAT.out w6.drew (show At w6.drew R _ from H6.out.2.2.2.1)).mono fun _ _ ⟨h1,h2⟩=>⟨h1,h2.symm⟩);repeat still_step
 refine wpStill_nil ?_;go_upto_region 10 with(fail);generalize World.drew (World.setCell w6 _ _)=w7 at*;clear p0 p1 p2 pf H6;go_wp2_with (first
  |(refine lQ 93 6 H7.out.2.1 ?_)
  |(refine sR 93 4 44 w.heap.size (ic 2 0 b nS false) H7.out.2.2.1 (size93 rfl) (ic_one ..) ?_))
 have hu8:=upd_setRow w7 w.heap.size (ic 2 0 b nS false);refine bodyPost_ret (rQ (H7.out.2.2.1.row _)) rfl ⟨rfl,by rw[←HQ.out];exact H7.out.1.upd hu8 (by have:=HNE.out;show ¬P=w.heap.size;omega),H7.out.2.2.2.above' hu8 (fun k e=>by rw[e];exact Nat.le_refl _)⟩
theorem pstr_text (s b r:List UInt8)(a n P:Nat)(w:World)(h:At w P (.cells (pc s a) 284))(ha:a≤s.length)(hl:s.length≤100000)(hdr:s.drop a=hd 3 n++(b++r))(hn:b.length=n):
 Calls Tryz.prog 237 #[.pointer (some ⟨P,0,none⟩),.int .i64 3] w fun e w'=>e= .returned (.agg (ic 3 0 b nS false))∧At w' P (.cells (pc s (a+((hd 3 n).length+n))) 284)∧Upd (·=P) w w':=by
 have hbr:(b++r).length≤100000:=by
  have:=congrArg List.length hdr;simp at this;simp;omega
 have HZ:=hid (show n≤100000∧a≤100000 from⟨by rw[List.length_append]at hbr;omega,by omega⟩);have hz:=zero93;have hb:=built93 3;have z1:(w.alloc (.cells (ic 0 0 [] nS false) 93)).heap.size=w.heap.size+1:=World.size_alloc _ _;have ha1:=At.keep h ((Below.refl w.heap.size w).alloc (Nat.le_refl _) (.cells (ic 0 0 [] nS false) 93));have H1:=hid (And.intro (heap_new w (.cells (ic 0 0 [] nS false) 93)) (And.intro ha1 ((Below.refl w.heap.size w).alloc (Nat.le_refl _) (.cells (ic 0 0 [] nS false) 93))));have HR:=hid (fun(w:World) (h:At w P (.cells (pc s a) 284))=>preader_any s a P w h ha hl);have HB:=hid (fun(R:Nat) (w:World) (h:At w R (.cells (rc (hd 3 n++(b++r)) 0) 423))=>rtext_any n R b r w hn h hbr);have HD:=hid hdr;obtain⟨q,hq⟩:∃q,q=(hd 3 n).length+n:=⟨_,rfl⟩;have HQ:=hid hq;have hpl:=h.lt;have HP:=hid hpl;clear h ha1 hbr hq hdr hn hpl z1;go_enter Tryz.func237,Tryz.ntmps237;go_upto_region 1 with(fail);generalize World.alloc w _=w1 at*;clear hz;go_wp2_with fail;refine(HR.out _ H1.out.2.1).mono ?_;rintro e w2 ⟨R,rfl,hR,hat,hbl⟩;rw[HD.out]at hat;have H2:=hid (show At w2 w.heap.size (.cells (ic 0 0 [] nS false) 93)∧At w2 P (.cells (pc s a) 284)∧Below w.heap.size w w2 from⟨(show At w1 _ _ from H1.out.1).keep hbl,H1.out.2.1.keep hbl,H1.out.2.2.trans (hbl.mono H1.out.2.2.size)⟩);have HRR:=hid (And.intro hat (show w.heap.size<R from Nat.lt_of_lt_of_le (heap_lt H1.out.1) hR));clear hat hbl hR H1;go_upto_region 2 with(fail);have hz:=zero93;have hnew:=hid (show At (w2.alloc (.cells (ic 0 0 [] nS false) 93)) w2.heap.size _ from heap_new w2 (.cells (ic 0 0 [] nS false) 93));have hu3:Upd (fun _=>False) w2 ((w2.alloc (.cells (ic 0 0 [] nS false) 93)).setRow w2.heap.size (ic 3 0 [] nS false)):=
  (upd_alloc (fun _=>False) w2 _).above ((upd_setRow _ w2.heap.size _).mono (T:=fun k=>w2.heap.size≤k) fun k _ hk=>by omega)
 have H3:=hid (And.intro (hnew.out.row (ic 3 0 [] nS false)) (And.intro (H2.out.1.upd hu3 (fun h=>h)) (And.intro (H2.out.2.1.upd hu3 (fun h=>h)) (And.intro ((show At w2 R _ from HRR.out.1).upd hu3 (fun h=>h)) (And.intro (H2.out.2.2.trans (hu3.below H2.out.2.2.size (fun _ h=>h.elim))) (And.intro HRR.out.1.lt H2.out.1.lt))))));clear hu3;go_upto_region 3 with(refine sR 93 6 12 w2.heap.size (ic 3 0 [] nS false) hnew.out (size93 rfl) (ic_one ..) ?_);clear hz hb hnew H2;generalize World.setRow (World.alloc w2 _) _ _=w3 at*;generalize w2.heap.size=B6 at*;go_wp2_with fail;refine(HB.out R _ H3.out.2.2.2.1).mono ?_;rintro e w4 ⟨rfl,hat,hu⟩;have hB6R:¬B6=R:=by have:=H3.out.2.2.2.2.2.1;omega
 have hwR:¬w.heap.size=R:=by have:=HRR.out.2;omega
 have hPR:¬P=R:=by have:=HRR.out.2;have:=HP.out;omega
 have H4:=hid (And.intro (H3.out.1.upd hu hB6R) (And.intro (H3.out.2.1.upd hu hwR) (And.intro (H3.out.2.2.1.upd hu hPR) (And.intro (show At w4 R _ from hat) (H3.out.2.2.2.2.1.trans (hu.below H3.out.2.2.2.2.1.size (fun k e=>by rw[e];have:=HRR.out.2;omega)))))));have HNE:=hid (show ¬B6=R∧w.heap.size<B6∧P<w.heap.size∧w.heap.size<R from⟨hB6R,H3.out.2.2.2.2.2.2,HP.out,HRR.out.2⟩);clear hat hu hB6R hwR hPR;obtain⟨x0,x1,x2,x3,x4⟩:=five H4.out.1;have xf:w4.frozen? ⟨B6,2,none⟩=false:=frozen_of_row w4 B6 2 _ 93 H4.out.1;have hu5:=upd_setCell w4 ⟨B6,2,none⟩ (.string (st b));have H5:=hid (And.intro (show At (w4.setCell ⟨B6,2,none⟩ (.string (st b))) B6 (.cells (ic 3 0 b nS false) 93)from heap_setCell_same w4 B6 2 _ 93 (.string (st b)) H4.out.1) (And.intro (H4.out.2.1.upd hu5 (by have:=HNE.out;show ¬_=B6;omega)) (And.intro (H4.out.2.2.1.upd hu5 (by have:=HNE.out;show ¬_=B6;omega)) (And.intro (H4.out.2.2.2.1.upd hu5 (by have:=HNE.out;show ¬_=B6;omega)) (H4.out.2.2.2.2.trans (hu5.below H4.out.2.2.2.2.size (fun k e=>by have:=HNE.out;have e:k=B6:=e;omega)))))));clear hu5;go_upto_region 6 with(fail);generalize World.setCell w4 _ _=w5 at*;clear x0 x1 x2 x3 x4 xf H3 H4;go_wp2_with fail;refine(bad_any _ R _ _ H5.out.2.2.2.1).mono ?_;rintro e w6 ⟨rfl,hb6⟩;have H6:=hid (And.intro (H5.out.1.keep hb6) (And.intro (H5.out.2.1.keep hb6) (And.intro (H5.out.2.2.1.keep hb6) (And.intro (H5.out.2.2.2.1.keep hb6) (H5.out.2.2.2.2.trans (hb6.mono H5.out.2.2.2.2.size))))));clear hb6 H5;obtain⟨p0,p1,p2⟩:=pthree H6.out.2.2.1;have pf:=pfree H6.out.2.2.1 1;have HAT:=hid (fun(w:World) (h:At w R (.cells (rc (hd 3 n++(b++r)) ((hd 3 n).length+n)) 423))=>at_any _ R _ w h);rw[←HQ.out]at HAT H6;go_upto_region 9 with(fail);have hq9:(q:Int)≤200000:=by have:=HQ.out;have:=hd_len 3 n;have:=HZ.out;omega
 have ha9:(a:Int)≤100000:=by have:=HZ.out;omega
 have hu7:=upd_setCell w6.drew ⟨P,1,none⟩ (.int .i64 (a+q:Nat));have H7:=hid (show At (w6.setCell ⟨P,1,none⟩ (.int .i64 (a+q:Nat))).drew P (.cells (pc s (a+q)) 284)∧At (w6.setCell ⟨P,1,none⟩ (.int .i64 (a+q:Nat))).drew B6 (.cells (ic 3 0 b nS false) 93)∧At (w6.setCell ⟨P,1,none⟩ (.int .i64 (a+q:Nat))).drew w.heap.size (.cells (ic 0 0 [] nS false) 93)∧Upd (·=P) w (w6.setCell ⟨P,1,none⟩ (.int .i64 (a+q:Nat))).drew from
  ⟨pset H6.out.2.2.1 rfl,At.upd (w:=w6.drew) H6.out.1 hu7 (by have:=HNE.out;show ¬B6=P;omega),At.upd (w:=w6.drew) H6.out.2.1 hu7 (by have:=HNE.out;show ¬w.heap.size=P;omega),(upd_of_below (below_drew H6.out.2.2.2.2)).trans hu7⟩)
 rw[Int.natCast_add]at H7;clear hu7;go_still_tail 9,(by kernel_rfl);still_call ((HAT.out w6.drew (show At w6.drew R _ from H6.out.2.2.2.1)).mono fun _ _ ⟨h1,h2⟩=>⟨h1,h2.symm⟩);repeat still_step
 refine wpStill_nil ?_;go_upto_region 10 with(fail);generalize World.drew (World.setCell w6 _ _)=w7 at*;clear p0 p1 p2 pf H6;go_wp2_with (first
  |(refine lQ 93 6 H7.out.2.1 ?_)
  |(refine sR 93 4 44 w.heap.size (ic 3 0 b nS false) H7.out.2.2.1 (size93 rfl) (ic_one ..) ?_))
 have hu8:=upd_setRow w7 w.heap.size (ic 3 0 b nS false);refine bodyPost_ret (rQ (H7.out.2.2.1.row _)) rfl ⟨rfl,by rw[←HQ.out];exact H7.out.1.upd hu8 (by have:=HNE.out;show ¬P=w.heap.size;omega),H7.out.2.2.2.above' hu8 (fun k e=>by rw[e];exact Nat.le_refl _)⟩
end
section
open Go.RowKit
theorem built93n (n:Int):Tryz.prog.built 93 [(1,.int .u64 n)]=some #[.int .i64 0,.int .u64 n,.string ⟨#[]⟩,nS,.bool false]:=by kernel_rfl
theorem num_any (n:Nat)(w:World):Rv 160 #[.int .u64 n] w (.agg (ic 0 n [] nS false)):=by
 have hz:=zero93;have hb:=built93n n;have hu:=(Below.refl w.heap.size w).alloc (Nat.le_refl _) (.cells (ic 0 0 [] nS false) 93);have H1:=hid (And.intro (show At (w.alloc (.cells (ic 0 0 [] nS false) 93)) w.heap.size _ from heap_new w (.cells (ic 0 0 [] nS false) 93)) hu);clear hu;go_enter Tryz.func160,Tryz.ntmps160;go_upto_region 1 with(fail);generalize World.alloc w _=w1 at*;go_wp2_with (refine sR 93 2 4 w.heap.size (ic 0 n [] nS false) H1.out.1 (size93 rfl) (ic_one ..) ?_);have hu8:=upd_setRow w1 w.heap.size (ic 0 n [] nS false);exact bodyPost_ret (rQ (H1.out.1.row _)) rfl ⟨rfl,H1.out.2.trans (hu8.below H1.out.2.size (fun k e=>by rw[e];exact Nat.le_refl _))⟩
theorem built93s (s:ByteArray):Tryz.prog.built 93 [(0,.int .i64 2),(2,.string s)]=some #[.int .i64 2,.int .u64 0,.string s,nS,.bool false]:=by kernel_rfl
theorem built93l (a:Option Addr)(m c:Nat):Tryz.prog.built 93 [(0,.int .i64 4),(3,.slice a m c)]=some #[.int .i64 4,.int .u64 0,.string ⟨#[]⟩,.slice a m c,.bool false]:=by kernel_rfl
theorem str_any (s:List UInt8)(w:World):Rv 225 #[.string (st s)] w (.agg (ic 2 0 s nS false)):=by
 have hz:=zero93;have hb:=built93s (st s);have hu:=(Below.refl w.heap.size w).alloc (Nat.le_refl _) (.cells (ic 0 0 [] nS false) 93);have H1:=hid (And.intro (show At (w.alloc (.cells (ic 0 0 [] nS false) 93)) w.heap.size _ from heap_new w (.cells (ic 0 0 [] nS false) 93)) hu);clear hu;go_enter Tryz.func225,Tryz.ntmps225;go_upto_region 1 with(fail);generalize World.alloc w _=w1 at*;go_wp2_with (refine sR 93 2 4 w.heap.size (ic 2 0 s nS false) H1.out.1 (size93 rfl) (ic_one ..) ?_);have hu8:=upd_setRow w1 w.heap.size (ic 2 0 s nS false);exact bodyPost_ret (rQ (H1.out.1.row _)) rfl ⟨rfl,H1.out.2.trans (hu8.below H1.out.2.size (fun k e=>by rw[e];exact Nat.le_refl _))⟩
theorem list_any (a:Option Addr)(m c:Nat)(w:World):Rv 161 #[.slice a m c] w (.agg (ic 4 0 [] (.slice a m c) false)):=by
 have hz:=zero93;have hb:=built93l a m c;have hu:=(Below.refl w.heap.size w).alloc (Nat.le_refl _) (.cells (ic 0 0 [] nS false) 93);have H1:=hid (And.intro (show At (w.alloc (.cells (ic 0 0 [] nS false) 93)) w.heap.size _ from heap_new w (.cells (ic 0 0 [] nS false) 93)) hu);clear hu;go_enter Tryz.func161,Tryz.ntmps161;go_upto_region 1 with(fail);generalize World.alloc w _=w1 at*;go_wp2_with (refine sR 93 2 4 w.heap.size (ic 4 0 [] (.slice a m c) false) H1.out.1 (size93 rfl) (ic_one ..) ?_);have hu8:=upd_setRow w1 w.heap.size (ic 4 0 [] (.slice a m c) false);exact bodyPost_ret (rQ (H1.out.1.row _)) rfl ⟨rfl,H1.out.2.trans (hu8.below H1.out.2.size (fun k e=>by rw[e];exact Nat.le_refl _))⟩
end
section
open Go.RowKit
theorem pitem_num (s r:List UInt8)(a n P d:Nat)(w:World)(h:At w P (.cells (pc s a) 284))(ha:a≤s.length)(hl:s.length≤100000)(hdr:s.drop a=hd 0 n++r)(hn:n<18446744073709551616)(hd1:1≤d)(hd8:d≤8):
 Calls Tryz.prog 175 #[.pointer (some ⟨P,0,none⟩),.int .i64 d] w fun e w'=>e= .returned (.agg (ic 0 n [] nS false))∧At w' P (.cells (pc s (a+(hd 0 n).length)) 284)∧Upd (·=P) w w':=by
 have hbr:r.length≤100000:=by
  have:=congrArg List.length hdr;simp at this;omega
 have hd0:¬(d:Int)<1:=by omega
 have hz:=zero93;have ha1:=At.keep h ((Below.refl w.heap.size w).alloc (Nat.le_refl _) (.cells (ic 0 0 [] nS false) 93));have H1:=hid (And.intro (show At (w.alloc (.cells (ic 0 0 [] nS false) 93)) w.heap.size _ from heap_new w (.cells (ic 0 0 [] nS false) 93)) (And.intro ha1 ((Below.refl w.heap.size w).alloc (Nat.le_refl _) (.cells (ic 0 0 [] nS false) 93))));have HR:=hid (fun(w:World) (h:At w P (.cells (pc s a) 284))=>preader_any s a P w h ha hl);have HB:=hid (fun(R:Nat) (w:World) (h:At w R (.cells (rc (hd 0 n++r) 0) 423))=>Head_any 0 n R r w (by decide) hn h hbr);rw[show((0:Nat):Int)=0 from rfl]at HB;have HD:=hid hdr;obtain⟨q,hq⟩:∃q,q=(hd 0 n).length:=⟨_,rfl⟩;have HQ:=hid hq;have HZ:=hid (show q≤9∧a≤100000 from⟨by rw[hq];exact hd_len _ _,by omega⟩);have HP:=hid h.lt;clear h ha1 hbr hq hdr hn hd1 hd8;go_enter Tryz.func175,Tryz.ntmps175;go_upto_region 1 with(fail);generalize World.alloc w _=w1 at*;clear hz;go_wp2_with fail;refine(HR.out _ H1.out.2.1).mono ?_;rintro e w2 ⟨R,rfl,hR,hat,hbl⟩;rw[HD.out]at hat;have H2:=hid (show At w2 w.heap.size (.cells (ic 0 0 [] nS false) 93)∧At w2 P (.cells (pc s a) 284)∧Below w.heap.size w w2 from⟨(show At w1 _ _ from H1.out.1).keep hbl,H1.out.2.1.keep hbl,H1.out.2.2.trans (hbl.mono H1.out.2.2.size)⟩);have HRR:=hid (And.intro hat (show w.heap.size<R from Nat.lt_of_lt_of_le (heap_lt H1.out.1) hR));clear hat hbl hR H1;go_wp2_with fail;refine(HB.out R _ HRR.out.1).mono ?_;rintro e w4 ⟨rfl,hat,hu⟩;have HNE:=hid (show P<w.heap.size∧w.heap.size<R from⟨HP.out,HRR.out.2⟩);have H4:=hid (show At w4 w.heap.size (.cells (ic 0 0 [] nS false) 93)∧At w4 P (.cells (pc s a) 284)∧At w4 R _∧Below w.heap.size w w4 from⟨H2.out.1.upd hu (by have:=HNE.out;show ¬_=R;omega),H2.out.2.1.upd hu (by have:=HNE.out;show ¬_=R;omega),hat,H2.out.2.2.trans (hu.below H2.out.2.2.size (fun k e=>by have:=HNE.out;have e:k=R:=e;omega))⟩);clear hat hu H2;go_wp2_with fail;refine(bad_any _ R _ _ H4.out.2.2.1).mono ?_;rintro e w6 ⟨rfl,hb6⟩;have H6:=hid (And.intro (H4.out.1.keep hb6) (And.intro (H4.out.2.1.keep hb6) (And.intro (H4.out.2.2.1.keep hb6) (H4.out.2.2.2.trans (hb6.mono H4.out.2.2.2.size)))));clear hb6 H4;obtain⟨p0,p1,p2⟩:=pthree H6.out.2.1;have pf:=pfree H6.out.2.1 1;have HAT:=hid (fun(w:World) (h:At w R (.cells (rc (hd 0 n++r) (hd 0 n).length) 423))=>at_any _ R _ w h);rw[←HQ.out]at HAT H6;go_upto_region 11 with(fail);have hq9:(q:Int)≤9:=by have:=HZ.out;omega
 have ha9:(a:Int)≤100000:=by have:=HZ.out;omega
 have hu7:=upd_setCell w6.drew ⟨P,1,none⟩ (.int .i64 (a+q:Nat));have H7:=hid (show At (w6.setCell ⟨P,1,none⟩ (.int .i64 (a+q:Nat))).drew P (.cells (pc s (a+q)) 284)∧At (w6.setCell ⟨P,1,none⟩ (.int .i64 (a+q:Nat))).drew w.heap.size (.cells (ic 0 0 [] nS false) 93)∧Upd (·=P) w (w6.setCell ⟨P,1,none⟩ (.int .i64 (a+q:Nat))).drew from
  ⟨pset H6.out.2.1 rfl,At.upd (w:=w6.drew) H6.out.1 hu7 (by have:=HNE.out;show ¬w.heap.size=P;omega),(upd_of_below (below_drew H6.out.2.2.2)).trans hu7⟩)
 rw[Int.natCast_add]at H7;clear hu7;go_still_tail 9,(by kernel_rfl);still_call ((HAT.out w6.drew (show At w6.drew R _ from H6.out.2.2.1)).mono fun _ _ ⟨h1,h2⟩=>⟨h1,h2.symm⟩);repeat still_step
 refine wpStill_nil ?_;go_upto_region 12 with(fail);generalize World.drew (World.setCell w6 _ _)=w7 at*;clear p0 p1 p2 pf H6;go_wp2_with fail;refine(num_any n _).mono ?_;rintro e w8 ⟨rfl,hb8⟩;have H8:=hid (And.intro (H7.out.1.keep hb8) (And.intro (H7.out.2.1.keep hb8) (H7.out.2.2.above' (upd_of_below (S:=fun _=>False) hb8) (fun _ h=>h.elim))));clear hb8 H7;go_wp2_with (refine sR 93 4 80 w.heap.size (ic 0 n [] nS false) H8.out.2.1 (size93 rfl) (ic_one ..) ?_);have hu9:=upd_setRow w8 w.heap.size (ic 0 n [] nS false);refine bodyPost_ret (rQ (H8.out.2.1.row _)) rfl ⟨rfl,by rw[←HQ.out];exact H8.out.1.upd hu9 (by have:=HNE.out;show ¬P=w.heap.size;omega),H8.out.2.2.above' hu9 (fun k e=>by rw[e];exact Nat.le_refl _)⟩
end
section
open Go.RowKit
theorem pitem_str (s b r:List UInt8)(a n P d:Nat)(w:World)(h:At w P (.cells (pc s a) 284))(ha:a≤s.length)(hl:s.length≤100000)(hdr:s.drop a=hd 2 n++(b++r))(hn:b.length=n)(hd1:1≤d)(hd8:d≤8):
 Calls Tryz.prog 175 #[.pointer (some ⟨P,0,none⟩),.int .i64 d] w fun e w'=>e= .returned (.agg (ic 2 0 b nS false))∧At w' P (.cells (pc s (a+((hd 2 n).length+n))) 284)∧Upd (·=P) w w':=by
 have hbr:(b++r).length≤100000:=by
  have:=congrArg List.length hdr;simp at this;simp;omega
 have hn64:n<18446744073709551616:=by rw[List.length_append]at hbr;omega
 have hd0:¬(d:Int)<1:=by omega
 have hz:=zero93;have ha1:=At.keep h ((Below.refl w.heap.size w).alloc (Nat.le_refl _) (.cells (ic 0 0 [] nS false) 93));have H1:=hid (And.intro (show At (w.alloc (.cells (ic 0 0 [] nS false) 93)) w.heap.size _ from heap_new w (.cells (ic 0 0 [] nS false) 93)) (And.intro ha1 ((Below.refl w.heap.size w).alloc (Nat.le_refl _) (.cells (ic 0 0 [] nS false) 93))));have HR:=hid (fun(w:World) (h:At w P (.cells (pc s a) 284))=>preader_any s a P w h ha hl);have HB:=hid (fun(R:Nat) (w:World) (h:At w R (.cells (rc (hd 2 n++(b++r)) 0) 423))=>Head_any 2 n R (b++r) w (by decide) hn64 h hbr);rw[show((2:Nat):Int)=2 from rfl]at HB;have HS:=hid (fun(w:World) (h:At w P (.cells (pc s a) 284))=>pstr_bytes s b r a n P w h ha hl hdr hn);have HD:=hid hdr;have HP:=hid h.lt;clear h ha1 hbr hdr hn hn64 hd1 hd8;go_enter Tryz.func175,Tryz.ntmps175;go_upto_region 1 with(fail);generalize World.alloc w _=w1 at*;clear hz;go_wp2_with fail;refine(HR.out _ H1.out.2.1).mono ?_;rintro e w2 ⟨R,rfl,hR,hat,hbl⟩;rw[HD.out]at hat;have H2:=hid (show At w2 w.heap.size (.cells (ic 0 0 [] nS false) 93)∧At w2 P (.cells (pc s a) 284)∧Below w.heap.size w w2 from⟨(show At w1 _ _ from H1.out.1).keep hbl,H1.out.2.1.keep hbl,H1.out.2.2.trans (hbl.mono H1.out.2.2.size)⟩);have HRR:=hid (And.intro hat (show w.heap.size<R from Nat.lt_of_lt_of_le (heap_lt H1.out.1) hR));clear hat hbl hR H1;go_wp2_with fail;refine(HB.out R _ HRR.out.1).mono ?_;rintro e w4 ⟨rfl,hat,hu⟩;have HNE:=hid (show P<w.heap.size∧w.heap.size<R from⟨HP.out,HRR.out.2⟩);have H4:=hid (show At w4 w.heap.size (.cells (ic 0 0 [] nS false) 93)∧At w4 P (.cells (pc s a) 284)∧At w4 R _∧Below w.heap.size w w4 from⟨H2.out.1.upd hu (by have:=HNE.out;show ¬_=R;omega),H2.out.2.1.upd hu (by have:=HNE.out;show ¬_=R;omega),hat,H2.out.2.2.trans (hu.below H2.out.2.2.size (fun k e=>by have:=HNE.out;have e:k=R:=e;omega))⟩);clear hat hu H2;go_wp2_with fail;refine(bad_any _ R _ _ H4.out.2.2.1).mono ?_;rintro e w6 ⟨rfl,hb6⟩;have H6:=hid (And.intro (H4.out.1.keep hb6) (And.intro (H4.out.2.1.keep hb6) (H4.out.2.2.2.trans (hb6.mono H4.out.2.2.2.size))));clear hb6 H4;go_upto_region 14 with(fail);go_wp2_with fail;refine(HS.out _ H6.out.2.1).mono ?_;rintro e w8 ⟨rfl,hat,hu8⟩;have H8:=hid (show At w8 P (.cells (pc s (a+((hd 2 n).length+n))) 284)∧At w8 w.heap.size (.cells (ic 0 0 [] nS false) 93)∧Upd (·=P) w w8 from
  ⟨hat,H6.out.1.upd hu8 (by have:=HNE.out;show ¬w.heap.size=P;omega),(upd_of_below H6.out.2.2).trans hu8⟩)
 clear hat hu8 H6;go_wp2_with (refine sR 93 4 86 w.heap.size (ic 2 0 b nS false) H8.out.2.1 (size93 rfl) (ic_one ..) ?_);have hu9:=upd_setRow w8 w.heap.size (ic 2 0 b nS false);refine bodyPost_ret (rQ (H8.out.2.1.row _)) rfl ⟨rfl,H8.out.1.upd hu9 (by have:=HNE.out;show ¬P=w.heap.size;omega),H8.out.2.2.above' hu9 (fun k e=>by rw[e];exact Nat.le_refl _)⟩
theorem pitem_txt (s b r:List UInt8)(a n P d:Nat)(w:World)(h:At w P (.cells (pc s a) 284))(ha:a≤s.length)(hl:s.length≤100000)(hdr:s.drop a=hd 3 n++(b++r))(hn:b.length=n)(hd1:1≤d)(hd8:d≤8):
 Calls Tryz.prog 175 #[.pointer (some ⟨P,0,none⟩),.int .i64 d] w fun e w'=>e= .returned (.agg (ic 3 0 b nS false))∧At w' P (.cells (pc s (a+((hd 3 n).length+n))) 284)∧Upd (·=P) w w':=by
 have hbr:(b++r).length≤100000:=by
  have:=congrArg List.length hdr;simp at this;simp;omega
 have hn64:n<18446744073709551616:=by rw[List.length_append]at hbr;omega
 have hd0:¬(d:Int)<1:=by omega
 have hz:=zero93;have ha1:=At.keep h ((Below.refl w.heap.size w).alloc (Nat.le_refl _) (.cells (ic 0 0 [] nS false) 93));have H1:=hid (And.intro (show At (w.alloc (.cells (ic 0 0 [] nS false) 93)) w.heap.size _ from heap_new w (.cells (ic 0 0 [] nS false) 93)) (And.intro ha1 ((Below.refl w.heap.size w).alloc (Nat.le_refl _) (.cells (ic 0 0 [] nS false) 93))));have HR:=hid (fun(w:World) (h:At w P (.cells (pc s a) 284))=>preader_any s a P w h ha hl);have HB:=hid (fun(R:Nat) (w:World) (h:At w R (.cells (rc (hd 3 n++(b++r)) 0) 423))=>Head_any 3 n R (b++r) w (by decide) hn64 h hbr);rw[show((3:Nat):Int)=3 from rfl]at HB;have HS:=hid (fun(w:World) (h:At w P (.cells (pc s a) 284))=>pstr_text s b r a n P w h ha hl hdr hn);have HD:=hid hdr;have HP:=hid h.lt;clear h ha1 hbr hdr hn hn64 hd1 hd8;go_enter Tryz.func175,Tryz.ntmps175;go_upto_region 1 with(fail);generalize World.alloc w _=w1 at*;clear hz;go_wp2_with fail;refine(HR.out _ H1.out.2.1).mono ?_;rintro e w2 ⟨R,rfl,hR,hat,hbl⟩;rw[HD.out]at hat;have H2:=hid (show At w2 w.heap.size (.cells (ic 0 0 [] nS false) 93)∧At w2 P (.cells (pc s a) 284)∧Below w.heap.size w w2 from⟨(show At w1 _ _ from H1.out.1).keep hbl,H1.out.2.1.keep hbl,H1.out.2.2.trans (hbl.mono H1.out.2.2.size)⟩);have HRR:=hid (And.intro hat (show w.heap.size<R from Nat.lt_of_lt_of_le (heap_lt H1.out.1) hR));clear hat hbl hR H1;go_wp2_with fail;refine(HB.out R _ HRR.out.1).mono ?_;rintro e w4 ⟨rfl,hat,hu⟩;have HNE:=hid (show P<w.heap.size∧w.heap.size<R from⟨HP.out,HRR.out.2⟩);have H4:=hid (show At w4 w.heap.size (.cells (ic 0 0 [] nS false) 93)∧At w4 P (.cells (pc s a) 284)∧At w4 R _∧Below w.heap.size w w4 from⟨H2.out.1.upd hu (by have:=HNE.out;show ¬_=R;omega),H2.out.2.1.upd hu (by have:=HNE.out;show ¬_=R;omega),hat,H2.out.2.2.trans (hu.below H2.out.2.2.size (fun k e=>by have:=HNE.out;have e:k=R:=e;omega))⟩);clear hat hu H2;go_wp2_with fail;refine(bad_any _ R _ _ H4.out.2.2.1).mono ?_;rintro e w6 ⟨rfl,hb6⟩;have H6:=hid (And.intro (H4.out.1.keep hb6) (And.intro (H4.out.2.1.keep hb6) (H4.out.2.2.2.trans (hb6.mono H4.out.2.2.2.size))));clear hb6 H4;go_upto_region 14 with(fail);go_wp2_with fail;refine(HS.out _ H6.out.2.1).mono ?_;rintro e w8 ⟨rfl,hat,hu8⟩;have H8:=hid (show At w8 P (.cells (pc s (a+((hd 3 n).length+n))) 284)∧At w8 w.heap.size (.cells (ic 0 0 [] nS false) 93)∧Upd (·=P) w w8 from
  ⟨hat,H6.out.1.upd hu8 (by have:=HNE.out;show ¬w.heap.size=P;omega),(upd_of_below H6.out.2.2).trans hu8⟩)
 clear hat hu8 H6;go_wp2_with (refine sR 93 4 86 w.heap.size (ic 3 0 b nS false) H8.out.2.1 (size93 rfl) (ic_one ..) ?_);have hu9:=upd_setRow w8 w.heap.size (ic 3 0 b nS false);refine bodyPost_ret (rQ (H8.out.2.1.row _)) rfl ⟨rfl,H8.out.1.upd hu9 (by have:=HNE.out;show ¬P=w.heap.size;omega),H8.out.2.2.above' hu9 (fun k e=>by rw[e];exact Nat.le_refl _)⟩
end
section
open Go.RowKit
theorem row_upd {w w':World}{S:Nat→Prop}{base size n:Nat}{e:TypeId}{v:Value}{xs:List Value}(h:w.ownsRow base e size v n xs)(hu:Upd S w w')(hn:∀k,v.ownBlock=some k→¬S k):w'.ownsRow base e size v n xs:=by
 refine⟨h.1,?_⟩;rcases h.2 with h2|⟨g,cap,cur,rfl,hb,hg,hr⟩
 · exact .inl h2
 · exact .inr ⟨g,cap,cur,rfl,hb,(hu.block g (heap_lt hg) (hn g rfl)).trans hg,hr⟩
theorem row_keep {w w':World}{base size n:Nat}{e:TypeId}{v:Value}{xs:List Value}(h:w.ownsRow base e size v n xs)(hu:Below w.heap.size w w'):w'.ownsRow base e size v n xs:=
 row_upd (S:=fun _=>False) h (upd_of_below hu) (fun _ _ h=>h)
theorem upd_grown {w w':World}{row:Option Nat}(h:w.grownBy w' row):Upd (fun k=>some k=row) w w':=⟨h.os,h.tape,h.output,h.size,fun k hk hn=>h.block k hk hn⟩
def Keeps (lo hi:Nat)(w:World)(F:World→Prop):Prop:=∀w':World,(∀k,lo≤k→k<hi→w'.heap[k]? =w.heap[k]?)→F w'
theorem Keeps.here {lo hi:Nat}{w:World}{F:World→Prop}(h:Keeps lo hi w F):F w:=h w fun _ _ _=>rfl
theorem Keeps.wide {lo hi lo2 hi2:Nat}{w:World}{F:World→Prop}(h:Keeps lo hi w F)(h1:lo2≤lo)(h2:hi≤hi2):Keeps lo2 hi2 w F:=fun w' hw=>h w' fun k a b=>hw k (by omega) (by omega)
theorem Keeps.upd {lo hi:Nat}{w w':World}{F:World→Prop}{S:Nat→Prop}(h:Keeps lo hi w F)(hu:Upd S w w')(hs:hi≤w.heap.size)(hn:∀k,lo≤k→k<hi→¬S k):Keeps lo hi w' F:=
 fun w2 hw=>h w2 fun k a b=>(hw k a b).trans (hu.block k (by omega) (hn k a b))
theorem Keeps.same {lo hi:Nat}{w w':World}{F:World→Prop}(h:Keeps lo hi w F)(he:w'.heap=w.heap):Keeps lo hi w' F:=fun w2 hw=>h w2 fun k a b=>by rw[hw k a b,he]
theorem keeps_all {lo hi:Nat}{w:World}{F:World→Prop}(h:∀w,F w):Keeps lo hi w F:=fun w' _=>h w'
theorem row_range {w:World}{base size n g cap:Nat}{e:TypeId}{xs:List Value}(h:w.ownsRow base e size (.slice (some ⟨g,0,none⟩) n cap) n xs):w.rangeAt g 0 xs:=fun j v hj=>by
 have:=h.cells (g:=g) rfl j v hj;rw[Addr.add_lit,Nat.zero_add]at this;rw[Nat.zero_add];exact this
theorem range_of {w w':World}{b o:Nat}{xs:List Value}(h:w.rangeAt b o xs)(he:w'.heap[b]? =w.heap[b]?):w'.rangeAt b o xs:=fun j v hj=>by
 rw[←h j v hj];exact World.cell?_of_block he
theorem info93:(Tryz.prog.info? 93).map (fun i=>(i.zero,i.size,i.bytes))=some (some (.agg (ic 0 0 [] nS false)),5,64):=by kernel_rfl
def Kids (B H g:Nat)(w:World):List (Array Value)→List Itm→Prop
 | [],[]=>True
 |c::cs,x::l=>c.size=5∧c.all (·.oneCell')=true∧(∃lo hi,B≤lo∧hi≤H∧¬(lo≤g∧g<hi)∧Keeps lo hi w fun w'=>IsI w' c x)∧Kids B H g w cs l
 |_,_=>False
theorem Kids.snoc {B H g:Nat}{w:World}:∀{cs:List (Array Value)} {l:List Itm} {c:Array Value} {x:Itm},Kids B H g w cs l→c.size=5→c.all (·.oneCell')=true→(∃lo hi,B≤lo∧hi≤H∧¬(lo≤g∧g<hi)∧Keeps lo hi w fun w'=>IsI w' c x)→Kids B H g w (cs++[c]) (l++[x])
 | [],[],_,_,_,h1,h2,h3=>⟨h1,h2,h3,trivial⟩
 |_::_,_::_,_,_,⟨a,b,c,d⟩,h1,h2,h3=>⟨a,b,c,d.snoc h1 h2 h3⟩
 | [],_::_,_,_,h,_,_,_=>h.elim
 |_::_,[],_,_,h,_,_,_=>h.elim
theorem Kids.move {B H g H2 g2:Nat}{w w':World}{S:Nat→Prop}(hH:H≤w.heap.size)(hu:Upd S w w')(hS:∀k,S k→k<B∨k=g)(hH2:H≤H2)(hg2:g2=g∨H≤g2):∀{cs:List (Array Value)} {l:List Itm},Kids B H g w cs l→Kids B H2 g2 w' cs l
 | [],[],_=>trivial
 |_::_,_::_,⟨a,b,⟨lo,hi,h1,h2,h3,h4⟩,d⟩=>⟨a,b,⟨lo,hi,h1,by omega,by omega,h4.upd hu (by omega) (fun k p q s=>by rcases hS k s with h|h<;>omega)⟩,Kids.move hH hu hS hH2 hg2 d⟩
 | [],_::_,h=>h.elim
 |_::_,[],h=>h.elim
theorem Kids.len {B H g:Nat}{w:World}:∀{cs:List (Array Value)} {l:List Itm},Kids B H g w cs l→cs.length=l.length
 | [],[],_=>rfl
 |_::_,_::_,⟨_,_,_,d⟩=>by simp[Kids.len d]
 | [],_::_,h=>h.elim
 |_::_,[],h=>h.elim
theorem Kids.isL {B H g:Nat}{w w':World}(hw:∀k,B≤k→k<H→w'.heap[k]? =w.heap[k]?):∀{cs:List (Array Value)} {l:List Itm} (off:Nat),Kids B H g w cs l→w'.rangeAt g off (cs.flatMap (·.toList))→IsL w' g off l
 | [],[],_,_,_=>trivial
 |c::cs,_::_,off,⟨a,_,⟨lo,hi,h1,h2,_,h4⟩,d⟩,hr=>by
  refine⟨⟨c,a,fun j v hj=>hr j v ?_,h4 w' fun k p q=>hw k (by omega) (by omega)⟩,Kids.isL hw (off+5) d fun j v hj=>?_⟩
  · rw[List.flatMap_cons,List.getElem?_append_left (List.getElem?_eq_some_iff.1 hj).1];exact hj
  · rw[show off+5+j=off+(5+j) by omega];refine hr (5+j) v ?_;rw[List.flatMap_cons,List.getElem?_append_right (by simp[a])];simpa[a]using hj
 | [],_::_,_,h,_=>h.elim
 |_::_,[],_,h,_=>h.elim
end
section
open Go.RowKit
variable {x1 x3 x4 x5 x6 x8 x9 x10 x11 x12 x13 x14 x15 x16 x17 x18 x19 x20 x21 x22 x23 x24 x25 x26 x27 x28 x29 x30 x31 x32 x33 x34 x35 x36 x37 x38 x39 x40 x41 x42 x43 x44 x45 x46 x47 x48 x49 x50 x51 x52 x53 x54 x55 x56:Value}
theorem ic_zero:(Value.agg (ic 0 0 [] nS false)).cells.size=5:=rfl
theorem five_of {cs:Array Value}(h:cs.size=5):∃v0 v1 v2 v3 v4,cs=#[v0,v1,v2,v3,v4]:=by
 obtain⟨l⟩:=cs;match l,h with
 | [a,b,c,d,e],_=>exact⟨a,b,c,d,e,rfl⟩
theorem all_one {cs:Array Value}(h:cs.all (·.oneCell')=true):∀u∈cs.toList,u.oneCell'=true:=fun u hu=>by
 rw[Array.all_eq_true']at h;exact h u (by simpa using hu)
theorem plist_r (P X d k c B:Nat)(av:Option Addr)(xs:List Value)(F:Array Value→World→Prop)(w:World)(Q:QT)(hd1:1≤d)(hd8:d≤100)(hk:k≤1000)(hX:∀q,av=some q→q.block≠X)
 (c0:w.cell? ⟨X,3,none⟩=some (.slice av k c))
 (hC:Calls Tryz.prog 175 #[.pointer (some ⟨P,0,none⟩),.int .i64 (d-1:Nat)] w.drew fun e w2=>∃cs:Array Value,e= .returned (.agg cs)∧cs.size=5∧cs.all (·.oneCell')=true∧w2.ownsRow B 93 5 (.slice av k c) k xs∧w2.cell? ⟨X,3,none⟩=some (.slice av k c)∧w2.frozen? ⟨X,3,none⟩=false∧B≤w2.heap.size∧F cs w2)
 (hQ:∀(y47 y48 y49 y50 y51 y52 y53 y54 y55:Value) (cs:Array Value) (w2 w6:World) (g2 c2:Nat),F cs w2→cs.size=5→cs.all (·.oneCell')=true→w6.ownsRow B 93 5 (.slice (some ⟨g2,0,none⟩) (k+1) c2) (k+1) (xs++cs.toList)→(w2.alloc (.cells cs 93)).grownBy w6 (Value.slice av k c).ownBlock→((Value.slice av k c).ownBlock=some g2∨g2=w2.heap.size+1)→Q .normal ⟨(.pointer (some ⟨P,0,none⟩)::x1::.int .i64 (d:Nat)::x3::x4::x5::x6::.pointer (some ⟨X,0,none⟩)::x8::x9::x10::x11::x12::x13::x14::x15::x16::x17::x18::x19::x20::x21::x22::x23::x24::x25::x26::x27::x28::x29::x30::x31::x32::x33::x34::x35::x36::x37::x38::x39::x40::x41::x42::x43::x44::x45::x46::y47::y48::y49::y50::y51::y52::y53::y54::y55::x56::[]).toArray,[]⟩ (w6.setCell ⟨X,3,none⟩ (.slice (some ⟨g2,0,none⟩) (k+1) c2))):
 Code.wp Tryz.prog (rg Tryz.f239 8) Q ⟨(.pointer (some ⟨P,0,none⟩)::x1::.int .i64 (d:Nat)::x3::x4::x5::x6::.pointer (some ⟨X,0,none⟩)::x8::x9::x10::x11::x12::x13::x14::x15::x16::x17::x18::x19::x20::x21::x22::x23::x24::x25::x26::x27::x28::x29::x30::x31::x32::x33::x34::x35::x36::x37::x38::x39::x40::x41::x42::x43::x44::x45::x46::x47::x48::x49::x50::x51::x52::x53::x54::x55::x56::[]).toArray,[]⟩ w:=by
 have HQ:=hid hQ;clear hQ;have HU0:=hid (below_drew (Below.refl w.heap.size w));obtain⟨i0,hi,hz0,hz1,hz2⟩:=info_parts info93;have HI:=hid (And.intro hi (And.intro hz0 (And.intro hz1 hz2)));clear hi hz0 hz1 hz2;have HX:=hid hX;clear hX;obtain⟨dd,hdd⟩:∃dd,dd=d-1:=⟨_,rfl⟩;rw[←hdd]at hC;have f0:(d:Int)-1=(dd:Int):=by omega
 have f1:IntKind.i64.wrap (dd:Int)=(dd:Int):=by rw[IntKind.wrap_i64];omega
 have f2:(d:Int)≤100:=by omega
 have f3:1≤(d:Int):=by omega
 have HC:=hid hC;clear hC hdd;conv=>arg 2;whnf
 refine wp_region_T (S:=fun w'=>w'.cell? ⟨X,3,none⟩=some (.slice av k c)) (fun j=>j==7||j==9) (by kernel_rfl) c0 (fun hHeld=>?_);refine t3 0 ?_;refine t3 1 ?_;refine t3 2 ?_;refine t3 3 ?_;refine t3 4 ?_;refine rd1 5 rfl fun K hK=>?_;go_simp;(with_reducible refine HC.out.mono ?_);rintro e w2 ⟨cs,rfl,hcs,hone,hown,hcell,hfz,hB,hPhi⟩;have HH:=hid (And.intro hcs (And.intro hone (And.intro hown (And.intro hcell (And.intro hfz (And.intro hB hPhi))))));clear hcs hone hown hfz hB hPhi;refine hK.out _ _ (fun _=>hcell) (fun hHeld=>?_);clear hcell;clear hK K;try simp only[Act.put,fr]
 refine rd1 6 rfl fun K hK=>?_;obtain⟨v0,v1,v2,v3,v4,hv⟩:=five_of HH.out.1;rw[hv];go_simp;rw[←hv];refine hK.out _ _ (fun _=>(upd_alloc (fun _=>False) w2 (.cells cs 93)).cell HH.out.2.2.2.1 (fun h=>h)) (fun hHeld=>?_);clear hK K;try simp only[Act.put,fr]
 refine wpAnyT_ready (rs:=[7]) (by kernel_rfl) (by simp) ?_;refine AllReadyT.last (o:=_) rfl (fun K hK=>?_) (by kernel_rfl);refine step_append_lies _ (by rfl) (.tmp 48) (.tmp 53) 91 (by rfl) B 93 i0 (.agg (ic 0 0 [] nS false)) 5 64 Tryz.underlying91 HI.out.1 HI.out.2.1 HI.out.2.2.1 HI.out.2.2.2 ic_zero (by decide) (.slice av k c) k xs (by rfl) (HH.out.2.2.1.alloc (.cells cs 93)) ⟨w2.heap.size,0,none⟩ 1 1 cs.toList (by rfl) (by simp[HH.out.1]) (World.news_of_block (heap_new w2 (.cells cs 93))) (all_one HH.out.2.1) (by decide) (by unfold maxLen;omega) (by omega) (Nat.le_trans HH.out.2.2.2.2.2.1 (by rw[World.size_alloc];omega)) (w2.heap.size+1) (World.size_alloc _ _) ?_;intro g2 c2 w6 hown' hgrow hat hlt2;have hcx:(w2.alloc (.cells cs 93)).cell? ⟨X,3,none⟩=some (.slice av k c):=(upd_alloc (fun _=>False) w2 (.cells cs 93)).cell HH.out.2.2.2.1 (fun h=>h);have hXl:X<(w2.alloc (.cells cs 93)).heap.size:=cell_lt hcx;have hXg:some X≠(Value.slice av k c).ownBlock:=fun e=>by
  cases av with
  |none=>cases e
  |some q=>exact HX.out q rfl (by simpa[Value.ownBlock]using e.symm)
 have c6:w6.cell? ⟨X,3,none⟩=some (.slice av k c):=(hgrow.cell_far ⟨X,3,none⟩ hXl hXg).trans hcx;have f6:w6.frozen? ⟨X,3,none⟩=false:=(hgrow.frozen_far ⟨X,3,none⟩ hXl hXg).trans ((World.frozen?_of_block (heap_alloc_old w2 (.cells cs 93) (cell_lt HH.out.2.2.2.1))).trans HH.out.2.2.2.2.1);have HP:=hid (And.intro hown' (And.intro hgrow hat));refine hK.out _ _ ?_;clear hown' hgrow hat hlt2 hcx hXl hXg;clear hK K;try simp only[Act.put,fr]
 refine t3 8 ?_;refine wpAnyT_ready (rs:=[9]) (by kernel_rfl) (by simp) ?_;refine AllReadyT.last (o:=_) rfl (fun K hK=>?_) (by kernel_rfl);go_simp;refine hK.out _ _ ?_;clear hK K;try simp only[Act.put,fr]
 exact dN (HQ.out _ _ _ _ _ _ _ _ _ cs w2 w6 g2 c2 HH.out.2.2.2.2.2.2 HH.out.1 HH.out.2.1 HP.out.1 HP.out.2.1 HP.out.2.2)
end
section
open Go.RowKit
theorem broken_of (s:List UInt8)(a b P m n:Nat)(o:Bool)(w:World)(h:At w P (.cells (pc s a) 284))(ha:a≤s.length)(hl:s.length≤100000)(hm:m≤4)
 (hh:∀(R:Nat) (w:World),At w R (.cells (rc (s.drop a) 0) 423)→Calls Tryz.prog 234 #[.pointer (some ⟨R,0,none⟩)] w fun e w'=>e= .returned (.tuple #[.int .i64 m,.int .u64 n,.bool o])∧At w' R (.cells (rc (s.drop a) b) 423)∧Upd (·=R) w w'):
 Rv 312 #[.pointer (some ⟨P,0,none⟩)] w (.bool false):=by
 have HR:=hid (preader_any s a P w h ha hl);have HH:=hid hh;have hm0:(m:Int)≤4:=by omega
 have hm1:¬(m:Int)=7:=by omega
 clear h ha hl hh hm;go_enter Tryz.func312,Tryz.ntmps312;go_wp2_with fail;refine HR.out.mono ?_;rintro e w2 ⟨R,rfl,hR,hat,hb⟩;have HB:=hid (And.intro hb hR);have HH2:=hid (HH.out R w2 hat);clear hat hb hR;go_wp2_with fail;refine HH2.out.mono ?_;rintro e w3 ⟨rfl,hat,hu⟩;have HU:=hid (HB.out.1.trans (hu.below HB.out.1.size (fun k e=>by rw[e];exact HB.out.2)));clear hat hu;go_wp2_with fail;go_ret;exact⟨rfl,HU.out⟩
theorem broken_no (s r:List UInt8)(x:Itm)(a P:Nat)(w:World)(h:At w P (.cells (pc s a) 284))(ha:a≤s.length)(hl:s.length≤100000)(hw:wf x)(hdr:s.drop a=enc x++r):
 Rv 312 #[.pointer (some ⟨P,0,none⟩)] w (.bool false):=by
 have key:∀(m n:Nat) (t:List UInt8),m≤4→n<18446744073709551616→s.drop a=hd m n++t→Rv 312 #[.pointer (some ⟨P,0,none⟩)] w (.bool false):=fun m n t hm hn hdd=>by
  refine broken_of s a (hd m n).length P m n false w h ha hl hm fun R w hR=>?_;rw[hdd]at hR ⊢;refine Head_any m n R t w (by omega) hn hR ?_;have:=congrArg List.length hdd;simp at this;omega
 cases x with
 |num n=>exact key 0 n r (by omega) (by simpa[wf]using hw) (by rw[hdr,enc])
 |str q=>exact key 2 q.length (q++r) (by omega) (by simp only[wf]at hw;omega) (by rw[hdr,enc,bs,List.append_assoc])
 |txt q=>exact key 3 q.length (q++r) (by omega) (by simp only[wf]at hw;omega) (by rw[hdr,enc,tx,List.append_assoc])
 |arr o l=>
  cases o with
  |false=>exact key 4 l.length (encs l++r) (by omega) (by simp only[wf]at hw;omega) (by rw[hdr,enc];simp)
  |true=>
   have hd':s.drop a=b8 (32*4+31)::(encs l++([0xff]++r)):=by rw[hdr,enc];simp;rfl
   refine broken_of s a 1 P 4 0 true w h ha hl (by omega) fun R w hR=>?_;rw[hd']at hR ⊢;refine Head_open 4 R _ w (.inl rfl) hR ?_;have:=congrArg List.length hd';simp at this;simp;omega
theorem encs_app (a b:List Itm):encs (a++b)=encs a++encs b:=by
 induction a with
 |nil=>simp[encs]
 |cons x r ih=>simp[encs,ih]
theorem drop_at {s t u:List UInt8}{a:Nat}(h:s.drop a=t++u):s.drop (a+t.length)=u:=by
 rw[←List.drop_drop,h,List.drop_left]
theorem drop_le {s t u:List UInt8}{a:Nat}(h:s.drop a=t++u)(ha:a≤s.length):a+t.length≤s.length:=by
 have:=congrArg List.length h;simp at this;omega
theorem encs_split (l:List Itm)(j:Nat)(h:j<l.length):encs l=encs (l.take j)++(enc l[j]++encs (l.drop (j+1))):=by
 have h1:l=l.take j++(l[j]::l.drop (j+1)):=by simp
 have h2:=congrArg encs h1;rw[encs_app,encs]at h2;exact h2
theorem drop_item {s t:List UInt8}{a:Nat}{l:List Itm}(h:s.drop a=encs l++t)(j:Nat)(hj:j<l.length):s.drop (a+(encs (l.take j)).length)=enc l[j]++(encs (l.drop (j+1))++t):=by
 rw[encs_split l j hj,List.append_assoc,List.append_assoc]at h;exact drop_at h
theorem drop_le_item {s t:List UInt8}{a:Nat}{l:List Itm}(h:s.drop a=encs l++t)(ha:a≤s.length)(j:Nat):a+(encs (l.take j)).length≤s.length:=by
 have h1:encs l=encs (l.take j)++encs (l.drop j):=by rw[←encs_app,List.take_append_drop]
 rw[h1,List.append_assoc]at h;exact drop_le h ha
def lenAt (w:World)(X:Nat):Nat:=match w.cell? ⟨X,3,none⟩with
 |some (.slice _ n _)=>n
 |_=>0
theorem lenAt_of {w:World}{X k n m c:Nat}{s:List UInt8}{a:Option Addr}{o:Bool}(h:At w X (.cells (ic k n s (.slice a m c) o) 93)):lenAt w X=m:=by
 unfold lenAt;rw[(five h).2.2.2.1]
theorem built93o (o:Bool):Tryz.prog.built 93 [(0,.int .i64 4),(4,.bool o)]=some #[.int .i64 4,.int .u64 0,.string ⟨#[]⟩,nS,.bool o]:=by cases o<;>kernel_rfl
def gOf:Option Addr→Nat
 |some q=>q.block
 |none=>0
end
end Go.Proofs.YtlhlmflacdeafaaGreatDoor
