/-
  A part of the walk of TopReports.
-/
import Derived.Test.YtlhlmflacdeafaaGreatDoorT3
set_option maxRecDepth 100000
set_option maxHeartbeats 4000000
set_option linter.unusedVariables false
set_option linter.unusedSimpArgs false
namespace Go.Proofs.YtlhlmflacdeafaaGreatDoor
section
open Go.RowKit
theorem plist_some (l:List Itm)(s r:List UInt8)(a P d:Nat)(w:World)(h:At w P (.cells (pc s a) 284))(ha:a≤s.length)(hl:s.length≤100000)(hdr:s.drop a=encs l++r)(hd1:1≤d)(hd8:d≤8)(hm:l.length≤1000)(hw:wfs l)
 (ih:∀(i:Nat) (h:i<l.length) (t:List UInt8) (a:Nat) (w:World),At w P (.cells (pc s a) 284)→a≤s.length→s.drop a=enc l[i]++t→Calls Tryz.prog 175 #[.pointer (some ⟨P,0,none⟩),.int .i64 (d-1:Nat)] w fun e w'=>∃cs:Array Value,e= .returned (.agg cs)∧cs.size=5∧cs.all (·.oneCell')=true∧At w' P (.cells (pc s (a+(enc l[i]).length)) 284)∧Upd (·=P) w w'∧Keeps w.heap.size w'.heap.size w' fun w2=>IsI w2 cs l[i]):
 Calls Tryz.prog 239 #[.pointer (some ⟨P,0,none⟩),.int .i64 (l.length:Nat),.int .i64 d] w fun e w'=>∃cs:Array Value,e= .returned (.agg cs)∧cs.size=5∧cs.all (·.oneCell')=true∧At w' P (.cells (pc s (a+(encs l).length)) 284)∧Upd (·=P) w w'∧Keeps w.heap.size w'.heap.size w' fun w2=>IsI w2 cs (.arr false l):=by
 obtain⟨m,hml⟩:∃m,m=l.length:=⟨_,rfl⟩;have hm0:(m:Int)≤1000:=by omega
 have HM:=hid (And.intro hml (And.intro hm hw));have HD:=hid (And.intro hdr (And.intro ha (And.intro hl (And.intro hd1 hd8))));have HI:=hid ih;have HP:=hid h.lt;have hz:=zero93;have hb:=built93o false;have ha1:=At.keep h ((Below.refl w.heap.size w).alloc (Nat.le_refl _) (.cells (ic 0 0 [] nS false) 93));have H1:=hid (And.intro (show At (w.alloc (.cells (ic 0 0 [] nS false) 93)) w.heap.size _ from heap_new w (.cells (ic 0 0 [] nS false) 93)) (And.intro ha1 ((Below.refl w.heap.size w).alloc (Nat.le_refl _) (.cells (ic 0 0 [] nS false) 93))));have HS1:=hid (show(w.alloc (.cells (ic 0 0 [] nS false) 93)).heap.size=w.heap.size+1 from World.size_alloc _ _);rw[←hml];clear h ha hl hdr hd1 hd8 hw ih ha1 hm hml;go_enter Tryz.func239,Tryz.ntmps239;go_upto_region 1 with(fail);generalize World.alloc w _=w1 at*;have hnew:=hid (show At (w1.alloc (.cells (ic 0 0 [] nS false) 93)) w1.heap.size _ from heap_new w1 (.cells (ic 0 0 [] nS false) 93));have hu3:Upd (fun _=>False) w1 ((w1.alloc (.cells (ic 0 0 [] nS false) 93)).setRow w1.heap.size (ic 4 0 [] nS false)):=
  (upd_alloc (fun _=>False) w1 _).above ((upd_setRow _ w1.heap.size _).mono (T:=fun k=>w1.heap.size≤k) fun k _ hk=>by omega)
 have H3:=hid (show At ((w1.alloc (.cells (ic 0 0 [] nS false) 93)).setRow w1.heap.size (ic 4 0 [] nS false)) w1.heap.size (.cells (ic 4 0 [] nS false) 93)∧At ((w1.alloc (.cells (ic 0 0 [] nS false) 93)).setRow w1.heap.size (ic 4 0 [] nS false)) w.heap.size (.cells (ic 0 0 [] nS false) 93)∧At ((w1.alloc (.cells (ic 0 0 [] nS false) 93)).setRow w1.heap.size (ic 4 0 [] nS false)) P (.cells (pc s a) 284)∧Below w.heap.size w ((w1.alloc (.cells (ic 0 0 [] nS false) 93)).setRow w1.heap.size (ic 4 0 [] nS false))∧w.heap.size+2≤((w1.alloc (.cells (ic 0 0 [] nS false) 93)).setRow w1.heap.size (ic 4 0 [] nS false)).heap.size from
  ⟨hnew.out.row _,H1.out.1.upd hu3 (fun h=>h),H1.out.2.1.upd hu3 (fun h=>h),H1.out.2.2.trans (hu3.below H1.out.2.2.size (fun _ h=>h.elim)),by simp[HS1.out]⟩)
 clear hu3;go_wp2_with (refine sR 93 7 10 w1.heap.size (ic 4 0 [] nS false) hnew.out (size93 rfl) (ic_one ..) ?_);clear hz hb hnew H1;generalize World.setRow (World.alloc w1 _) _ _=w2 at*;rw[HS1.out]at*;clear HS1;go_frame;go_loopw [11] (fun _ wr=>∃(j:Nat) (av:Option Addr) (c:Nat) (cs:List (Array Value)),j≤m∧At wr (w.heap.size+1) (.cells (ic 4 0 [] (.slice av j c) false) 93)∧At wr w.heap.size (.cells (ic 0 0 [] nS false) 93)∧At wr P (.cells (pc s (a+(encs (l.take j)).length)) 284)∧Upd (·=P) w wr∧w.heap.size+2≤wr.heap.size∧wr.ownsRow (w.heap.size+2) 93 5 (.slice av j c) j (cs.flatMap (·.toList))∧Kids (w.heap.size+2) wr.heap.size (gOf av) wr cs (l.take j)) (fun _ wr=>m+1-lenAt wr (w.heap.size+1));case atStart=>exact⟨0,none,0,[],by omega,H3.out.1,H3.out.2.1,by simpa[encs]using H3.out.2.2.1,upd_of_below H3.out.2.2.2.1,H3.out.2.2.2.2,World.ownsRow_nil _ _ _ _,trivial⟩
 case round=>
  obtain⟨j,av,c,cs,hj,hX,hT,hP,hu,hsz,hrow,hkids⟩:=hrel;obtain⟨p0,p1,p2⟩:=pthree hP;obtain⟨x0,x1,x2,x3,x4⟩:=five hX;have HR:=hid (And.intro hX (And.intro hT (And.intro hP (And.intro hu (And.intro hsz (And.intro hrow hkids))))));clear hX hT hP hu hsz hrow hkids;by_cases hjm:j<m
  · have hj0:(j:Int)<(m:Int):=by omega
    have hj1:¬(j:Int)=(m:Int):=by omega
    have hj2:¬(j:Int)=1000:=by omega
    have hjl:j<l.length:=by have:=HM.out.1;omega
    have hle:=drop_le_item HD.out.1 HD.out.2.1 j;have hdi:=drop_item HD.out.1 j hjl;go_upto_region 8 with(fail);refine ent (C:=rg Tryz.f239 8) (by kernel_rfl) ?_;have hXne:∀q,av=some q→q.block≠w.heap.size+1:=fun q hq e=>by
     have:=(HR.out.2.2.2.2.2.1.lt q.block (by rw[hq];rfl)).1;omega
    have hown2:∀k,(Value.slice av j c).ownBlock=some k→w.heap.size+2≤k∧k<wr.heap.size:=HR.out.2.2.2.2.2.1.lt;obtain⟨kk,hkk⟩:∃kk,kk=cs:=⟨_,rfl⟩;rw[←hkk]at HR;have hC:Calls Tryz.prog 175 #[.pointer (some ⟨P,0,none⟩),.int .i64 (d-1:Nat)] wr.drew fun e w2=>∃cs:Array Value,e= .returned (.agg cs)∧cs.size=5∧cs.all (·.oneCell')=true∧w2.ownsRow (w.heap.size+2) 93 5 (.slice av j c) j (kk.flatMap (·.toList))∧w2.cell? ⟨w.heap.size+1,3,none⟩=some (.slice av j c)∧w2.frozen? ⟨w.heap.size+1,3,none⟩=false∧w.heap.size+2≤w2.heap.size∧(At w2 P (.cells (pc s (a+(encs (l.take j)).length+(enc l[j]).length)) 284)∧Upd (·=P) wr.drew w2∧Keeps wr.drew.heap.size w2.heap.size w2 fun w3=>IsI w3 cs l[j]):=by
     refine(HI.out j hjl _ _ wr.drew HR.out.2.2.1 hle hdi).mono ?_;rintro e w5 ⟨ds,rfl,h1,h2,h3,h4,h5⟩;have hXP:¬w.heap.size+1=P:=by have:=HP.out;omega
     refine⟨ds,rfl,h1,h2,row_upd (w:=wr.drew) HR.out.2.2.2.2.2.1 h4 (fun k hk e=>by have:=hown2 k hk;have:=HP.out;omega),h4.cell (w:=wr.drew) (show wr.drew.cell? _=_ from x3) hXP,(World.frozen?_of_block (h4.block _ (show w.heap.size+1<wr.heap.size by have:=HR.out.2.2.2.2.1;omega) hXP)).trans (frozen_of_row wr.drew _ 3 _ 93 HR.out.1),Nat.le_trans HR.out.2.2.2.2.1 h4.size,h3,h4,h5⟩
    refine plist_r P (w.heap.size+1) d j c (w.heap.size+2) av _ _ wr _ HD.out.2.2.2.1 (by have:=HD.out.2.2.2.2;omega) (by omega) hXne x3 hC ?_;intro y47 y48 y49 y50 y51 y52 y53 y54 y55 ds w5 w6 g2 c2 hF hds hone hown hgrow hg2;have HF:=hid (And.intro hF (And.intro hds (And.intro hone (And.intro hown (And.intro hgrow (And.intro hg2 hown2))))));clear hF hds hone hown hgrow hg2 hown2 p0 p1 p2 x0 x1 x2 x3 x4 hC hdi hle;go_roundw;case rel=>
     obtain⟨⟨hP5,hu5,hk5⟩,hds,hone,hown,hgrow,hg2,hown2⟩:=HF.out;have hPw:=HP.out;have hs5:wr.heap.size≤w5.heap.size:=hu5.size;have hu6:Upd (·=P) wr w5:=(upd_drew _ wr).trans hu5;have hdw:wr.drew.heap.size=wr.heap.size:=rfl;have hua:=upd_alloc (fun k=>some k=(Value.slice av j c).ownBlock) w5 (.cells ds 93);have hug:=upd_grown hgrow;have huc:=upd_setCell w6 ⟨w.heap.size+1,3,none⟩ (.slice (some ⟨g2,0,none⟩) (j+1) c2);have hall:Upd (fun k=>some k=(Value.slice av j c).ownBlock∨k=w.heap.size+1) w5 (w6.setCell ⟨w.heap.size+1,3,none⟩ (.slice (some ⟨g2,0,none⟩) (j+1) c2)):=
      ((hua.trans hug).mono (fun k _ h=> .inl h)).trans (huc.mono (fun k _ h=> .inr h))
     have hX6:At w6 (w.heap.size+1) (.cells (ic 4 0 [] (.slice av j c) false) 93):=((HR.out.1.upd (w:=wr.drew) hu5 (by omega)).upd (hua.trans hug) (fun e=>by have:=hown2 _ e.symm;omega));have hS:∀k,(some k=(Value.slice av j c).ownBlock∨k=w.heap.size+1)→w.heap.size<k∧(k<w.heap.size+2∨k=gOf av)∧k<wr.heap.size:=fun k hk=>by
      rcases hk with hk|hk
      · have h1:=hown2 k hk.symm;refine⟨by omega,.inr ?_,h1.2⟩;cases av with
        |none=>cases hk
        |some q=>simpa[Value.ownBlock,gOf]using hk
      · have:=HR.out.2.2.2.2.1;exact⟨by omega,.inl (by omega),by omega⟩
     have hg3:g2=gOf av∨w5.heap.size≤g2:=by
      rcases hg2 with h|h
      · left;cases av with
        |none=>cases h
        |some q=>simpa[Value.ownBlock,gOf]using h.symm
      · right;omega
     have hg4:¬(wr.heap.size≤g2∧g2<w5.heap.size):=fun h=>by
      rcases hg2 with h2|h2
      · have:=(hown2 _ h2).2;omega
      · omega
     have hen:(encs (l.take (j+1))).length=(encs (l.take j)).length+(enc l[j]).length:=by rw[enc_take l j hjl,List.length_append]
     have htk:l.take (j+1)=l.take j++[l[j]]:=by simp
     (repeat apply Exists.intro);refine⟨?_,rfl⟩;refine⟨j+1,some ⟨g2,0,none⟩,c2,kk++[ds],by omega,heap_setCell_same w6 (w.heap.size+1) 3 _ 93 (.slice (some ⟨g2,0,none⟩) (j+1) c2) hX6,?_,?_,?_,?_,?_,?_⟩
     · exact((HR.out.2.1.upd (w:=wr.drew) hu5 (by omega)).upd hall (fun e=>by have:=hS _ e;omega))
     · rw[hen, ←Nat.add_assoc];exact hP5.upd hall (fun e=>by have:=hS _ e;omega)
     · refine Upd.above' (HR.out.2.2.2.1.trans hu6) hall (fun k e=>?_);have:=hS _ e;omega
     · have:=HR.out.2.2.2.2.1;have:=hall.size;omega
     · rw[List.flatMap_append];simp only[List.flatMap_cons,List.flatMap_nil,List.append_nil];refine row_upd hown huc (fun k hk e=>?_);have e2:g2=k:=by simpa[Value.ownBlock]using hk
       have e3:k=w.heap.size+1:=e;rcases hg2 with h|h
       · have:=(hown2 _ h).1;omega
       · have:=HR.out.2.2.2.2.1;omega
     · rw[htk];refine Kids.snoc ?_ hds hone ⟨wr.heap.size,w5.heap.size,HR.out.2.2.2.2.1,hall.size,hg4,hk5.upd hall (Nat.le_refl _) (fun k h1 _ e=>by have:=hS _ e;omega)⟩;refine Kids.move (H:=w5.heap.size) (g:=gOf av) (S:=fun k=>some k=(Value.slice av j c).ownBlock∨k=w.heap.size+1) (w:=w5) (Nat.le_refl _) hall (fun k e=>(hS k e).2.1) hall.size hg3 ?_;exact Kids.move (H:=wr.heap.size) (g:=gOf av) (S:=(·=P)) (w:=wr) (Nat.le_refl _) hu6 (fun k e=> .inl (by have e:k=P:=e;omega)) hs5 (.inl rfl) HR.out.2.2.2.2.2.2
    case measure=>
     obtain⟨⟨hP5,hu5,hk5⟩,hds,hone,hown,hgrow,hg2,hown2⟩:=HF.out;have hPw:=HP.out;have hua:=upd_alloc (fun k=>some k=(Value.slice av j c).ownBlock) w5 (.cells ds 93);have hX6:At w6 (w.heap.size+1) (.cells (ic 4 0 [] (.slice av j c) false) 93):=((HR.out.1.upd (w:=wr.drew) hu5 (by omega)).upd (hua.trans (upd_grown hgrow)) (fun e=>by have:=hown2 _ e.symm;omega));rw[lenAt_of HR.out.1,lenAt_of (heap_setCell_same w6 (w.heap.size+1) 3 _ 93 (.slice (some ⟨g2,0,none⟩) (j+1) c2) hX6)];omega
  · have hj9:j=m:=by omega
    subst hj9;have htk:l.take j=l:=by rw[HM.out.1,List.take_length]
    rw[htk]at HR;go_upto_region 9 with(fail);have H9:=hid (And.intro HR.out.1 (And.intro HR.out.2.1 (And.intro HR.out.2.2.1 (And.intro HR.out.2.2.2.1 (Upd.refl (fun k=>k≤w.heap.size) wr)))));have hfin:At wr (w.heap.size+1) (.cells (ic 4 0 [] (.slice av j c) false) 93)∧At wr w.heap.size (.cells (ic 0 0 [] nS false) 93)∧At wr P (.cells (pc s (a+(encs l).length)) 284)∧Upd (·=P) w wr∧Upd (fun k=>k≤w.heap.size) wr wr:=by first|exact H9.out|(rw[←HQ.out];exact H9.out)
    clear H9;go_wp2_with (first
     |(refine lQ 93 7 hfin.1 ?_)
     |(refine sR 93 6 56 w.heap.size (ic 4 0 [] (.slice av j c) false) hfin.2.1 (size93 rfl) (ic_one ..) ?_))
    have hua:=upd_setRow wr w.heap.size (ic 4 0 [] (.slice av j c) false);refine bodyPost_ret (rQ (hfin.2.1.row _)) rfl ⟨_,rfl,rfl,by have:=ic_one 4 0 [] av j c false;simpa using this,hfin.2.2.1.upd hua (by have:=HP.out;show ¬P=w.heap.size;omega),hfin.2.2.2.1.above' hua (fun k e=>by rw[e];exact Nat.le_refl _),?_⟩;have hall:Upd (fun k=>k≤w.heap.size) wr (wr.setRow w.heap.size (ic 4 0 [] (.slice av j c) false)):=hfin.2.2.2.2.trans (hua.mono (fun k _ e=>by rw[e];exact Nat.le_refl _));intro w3 hw3;have hag:∀k,w.heap.size+2≤k→k<wr.heap.size→w3.heap[k]? =wr.heap[k]? :=fun k h1 h2=>(hw3 k (by omega) (by have:=hall.size;omega)).trans (hall.block k h2 (by omega));obtain⟨_,_,_,_,_,hrow,hkids⟩:=HR.out;rw[IsI];refine⟨av,c,by rw[HM.out.1],?_,?_⟩
    · rcases hrow.2 with⟨hv,h0⟩|⟨g,cap,cur,hv,_,_,hn,_⟩
      · have:=HM.out.1;omega
      · injection hv with e1 e2 e3
        rw[←HM.out.1,e3];exact hn
    · rcases hrow.2 with⟨hv,h0⟩|⟨g,cap,cur,hv,hb,hg,hn,_⟩
      · left;exact List.eq_nil_of_length_eq_zero (by have:=HM.out.1;omega)
      · right;injection hv with e1 e2 e3
        subst e1;refine⟨g,0,rfl,Kids.isL hag 0 hkids (range_of (row_range hrow) (hag g hb (heap_lt hg)))⟩
theorem plist_open (l:List Itm)(s r:List UInt8)(a P d:Nat)(w:World)(h:At w P (.cells (pc s a) 284))(ha:a≤s.length)(hl:s.length≤100000)(hdr:s.drop a=encs l++([0xff]++r))(hd1:1≤d)(hd8:d≤8)(hm:l.length≤1000)(hw:wfs l)
 (ih:∀(i:Nat) (h:i<l.length) (t:List UInt8) (a:Nat) (w:World),At w P (.cells (pc s a) 284)→a≤s.length→s.drop a=enc l[i]++t→Calls Tryz.prog 175 #[.pointer (some ⟨P,0,none⟩),.int .i64 (d-1:Nat)] w fun e w'=>∃cs:Array Value,e= .returned (.agg cs)∧cs.size=5∧cs.all (·.oneCell')=true∧At w' P (.cells (pc s (a+(enc l[i]).length)) 284)∧Upd (·=P) w w'∧Keeps w.heap.size w'.heap.size w' fun w2=>IsI w2 cs l[i]):
 Calls Tryz.prog 239 #[.pointer (some ⟨P,0,none⟩),.int .i64 (-1),.int .i64 d] w fun e w'=>∃cs:Array Value,e= .returned (.agg cs)∧cs.size=5∧cs.all (·.oneCell')=true∧At w' P (.cells (pc s (a+(encs l).length+1)) 284)∧Upd (·=P) w w'∧Keeps w.heap.size w'.heap.size w' fun w2=>IsI w2 cs (.arr true l):=by
 obtain⟨m,hml⟩:∃m,m=l.length:=⟨_,rfl⟩;have hm0:(m:Int)≤1000:=by omega
 have HM:=hid (And.intro hml (And.intro hm hw));have HD:=hid (And.intro hdr (And.intro ha (And.intro hl (And.intro hd1 hd8))));have HI:=hid ih;have HP:=hid h.lt;have hz:=zero93;have hb:=built93o true;have ha1:=At.keep h ((Below.refl w.heap.size w).alloc (Nat.le_refl _) (.cells (ic 0 0 [] nS false) 93));have H1:=hid (And.intro (show At (w.alloc (.cells (ic 0 0 [] nS false) 93)) w.heap.size _ from heap_new w (.cells (ic 0 0 [] nS false) 93)) (And.intro ha1 ((Below.refl w.heap.size w).alloc (Nat.le_refl _) (.cells (ic 0 0 [] nS false) 93))));have HS1:=hid (show(w.alloc (.cells (ic 0 0 [] nS false) 93)).heap.size=w.heap.size+1 from World.size_alloc _ _);clear h ha hl hdr hd1 hd8 hw ih ha1 hm hml;go_enter Tryz.func239,Tryz.ntmps239;go_upto_region 1 with(fail);generalize World.alloc w _=w1 at*;have hnew:=hid (show At (w1.alloc (.cells (ic 0 0 [] nS false) 93)) w1.heap.size _ from heap_new w1 (.cells (ic 0 0 [] nS false) 93));have hu3:Upd (fun _=>False) w1 ((w1.alloc (.cells (ic 0 0 [] nS false) 93)).setRow w1.heap.size (ic 4 0 [] nS true)):=
  (upd_alloc (fun _=>False) w1 _).above ((upd_setRow _ w1.heap.size _).mono (T:=fun k=>w1.heap.size≤k) fun k _ hk=>by omega)
 have H3:=hid (show At ((w1.alloc (.cells (ic 0 0 [] nS false) 93)).setRow w1.heap.size (ic 4 0 [] nS true)) w1.heap.size (.cells (ic 4 0 [] nS true) 93)∧At ((w1.alloc (.cells (ic 0 0 [] nS false) 93)).setRow w1.heap.size (ic 4 0 [] nS true)) w.heap.size (.cells (ic 0 0 [] nS false) 93)∧At ((w1.alloc (.cells (ic 0 0 [] nS false) 93)).setRow w1.heap.size (ic 4 0 [] nS true)) P (.cells (pc s a) 284)∧Below w.heap.size w ((w1.alloc (.cells (ic 0 0 [] nS false) 93)).setRow w1.heap.size (ic 4 0 [] nS true))∧w.heap.size+2≤((w1.alloc (.cells (ic 0 0 [] nS false) 93)).setRow w1.heap.size (ic 4 0 [] nS true)).heap.size from
  ⟨hnew.out.row _,H1.out.1.upd hu3 (fun h=>h),H1.out.2.1.upd hu3 (fun h=>h),H1.out.2.2.trans (hu3.below H1.out.2.2.size (fun _ h=>h.elim)),by simp[HS1.out]⟩)
 clear hu3;go_wp2_with (refine sR 93 7 10 w1.heap.size (ic 4 0 [] nS true) hnew.out (size93 rfl) (ic_one ..) ?_);clear hz hb hnew H1;generalize World.setRow (World.alloc w1 _) _ _=w2 at*;rw[HS1.out]at*;clear HS1;go_frame;go_loopw [11] (fun _ wr=>∃(j:Nat) (av:Option Addr) (c:Nat) (cs:List (Array Value)),j≤m∧At wr (w.heap.size+1) (.cells (ic 4 0 [] (.slice av j c) true) 93)∧At wr w.heap.size (.cells (ic 0 0 [] nS false) 93)∧At wr P (.cells (pc s (a+(encs (l.take j)).length)) 284)∧Upd (·=P) w wr∧w.heap.size+2≤wr.heap.size∧wr.ownsRow (w.heap.size+2) 93 5 (.slice av j c) j (cs.flatMap (·.toList))∧Kids (w.heap.size+2) wr.heap.size (gOf av) wr cs (l.take j)) (fun _ wr=>m+1-lenAt wr (w.heap.size+1));case atStart=>exact⟨0,none,0,[],by omega,H3.out.1,H3.out.2.1,by simpa[encs]using H3.out.2.2.1,upd_of_below H3.out.2.2.2.1,H3.out.2.2.2.2,World.ownsRow_nil _ _ _ _,trivial⟩
 case round=>
  obtain⟨j,av,c,cs,hj,hX,hT,hP,hu,hsz,hrow,hkids⟩:=hrel;obtain⟨p0,p1,p2⟩:=pthree hP;obtain⟨x0,x1,x2,x3,x4⟩:=five hX;have HR:=hid (And.intro hX (And.intro hT (And.intro hP (And.intro hu (And.intro hsz (And.intro hrow hkids))))));clear hX hT hP hu hsz hrow hkids;by_cases hjm:j<m
  · have hj0:(j:Int)<(m:Int):=by omega
    have hj1:¬(j:Int)=(m:Int):=by omega
    have hj2:¬(j:Int)=1000:=by omega
    have hjl:j<l.length:=by have:=HM.out.1;omega
    have hle:=drop_le_item HD.out.1 HD.out.2.1 j;have hdi:=drop_item HD.out.1 j hjl;have hj5:¬(j:Int)= -1:=by omega
    go_upto_region 3 with(fail);go_wp2_with fail;refine(broken_no s _ l[j] _ P wr HR.out.2.2.1 hle HD.out.2.2.1 (wf_at l j hjl HM.out.2.2) hdi).mono ?_;rintro e wq ⟨rfl,hbq⟩;have HR0:=HR;clear HR;have HR:=hid (show At wq (w.heap.size+1) (.cells (ic 4 0 [] (.slice av j c) true) 93)∧At wq w.heap.size (.cells (ic 0 0 [] nS false) 93)∧At wq P (.cells (pc s (a+(encs (l.take j)).length)) 284)∧Upd (·=P) w wq∧w.heap.size+2≤wq.heap.size∧wq.ownsRow (w.heap.size+2) 93 5 (.slice av j c) j (cs.flatMap (·.toList))∧Kids (w.heap.size+2) wq.heap.size (gOf av) wq cs (l.take j)from
     ⟨HR0.out.1.keep hbq,HR0.out.2.1.keep hbq,HR0.out.2.2.1.keep hbq,HR0.out.2.2.2.1.trans (upd_of_below hbq),Nat.le_trans HR0.out.2.2.2.2.1 hbq.size,row_keep HR0.out.2.2.2.2.2.1 hbq,Kids.move (H:=wr.heap.size) (g:=gOf av) (S:=fun _=>False) (w:=wr) (Nat.le_refl _) (upd_of_below hbq) (fun k e=>e.elim) hbq.size (.inl rfl) HR0.out.2.2.2.2.2.2⟩)
    clear p0 p1 p2 x0 x1 x2 x3 x4 hbq;obtain⟨p0,p1,p2⟩:=pthree HR.out.2.2.1;obtain⟨x0,x1,x2,x3,x4⟩:=five HR.out.1;go_upto_region 8 with(fail);refine ent (C:=rg Tryz.f239 8) (by kernel_rfl) ?_;have hXne:∀q,av=some q→q.block≠w.heap.size+1:=fun q hq e=>by
     have:=(HR.out.2.2.2.2.2.1.lt q.block (by rw[hq];rfl)).1;omega
    have hown2:∀k,(Value.slice av j c).ownBlock=some k→w.heap.size+2≤k∧k<wq.heap.size:=HR.out.2.2.2.2.2.1.lt;obtain⟨kk,hkk⟩:∃kk,kk=cs:=⟨_,rfl⟩;rw[←hkk]at HR;have hC:Calls Tryz.prog 175 #[.pointer (some ⟨P,0,none⟩),.int .i64 (d-1:Nat)] wq.drew fun e w2=>∃cs:Array Value,e= .returned (.agg cs)∧cs.size=5∧cs.all (·.oneCell')=true∧w2.ownsRow (w.heap.size+2) 93 5 (.slice av j c) j (kk.flatMap (·.toList))∧w2.cell? ⟨w.heap.size+1,3,none⟩=some (.slice av j c)∧w2.frozen? ⟨w.heap.size+1,3,none⟩=false∧w.heap.size+2≤w2.heap.size∧(At w2 P (.cells (pc s (a+(encs (l.take j)).length+(enc l[j]).length)) 284)∧Upd (·=P) wq.drew w2∧Keeps wq.drew.heap.size w2.heap.size w2 fun w3=>IsI w3 cs l[j]):=by
     refine(HI.out j hjl _ _ wq.drew HR.out.2.2.1 hle hdi).mono ?_;rintro e w5 ⟨ds,rfl,h1,h2,h3,h4,h5⟩;have hXP:¬w.heap.size+1=P:=by have:=HP.out;omega
     refine⟨ds,rfl,h1,h2,row_upd (w:=wq.drew) HR.out.2.2.2.2.2.1 h4 (fun k hk e=>by have:=hown2 k hk;have:=HP.out;omega),h4.cell (w:=wq.drew) (show wq.drew.cell? _=_ from x3) hXP,(World.frozen?_of_block (h4.block _ (show w.heap.size+1<wq.heap.size by have:=HR.out.2.2.2.2.1;omega) hXP)).trans (frozen_of_row wq.drew _ 3 _ 93 HR.out.1),Nat.le_trans HR.out.2.2.2.2.1 h4.size,h3,h4,h5⟩
    refine plist_r P (w.heap.size+1) d j c (w.heap.size+2) av _ _ wq _ HD.out.2.2.2.1 (by have:=HD.out.2.2.2.2;omega) (by omega) hXne x3 hC ?_;intro y47 y48 y49 y50 y51 y52 y53 y54 y55 ds w5 w6 g2 c2 hF hds hone hown hgrow hg2;have HF:=hid (And.intro hF (And.intro hds (And.intro hone (And.intro hown (And.intro hgrow (And.intro hg2 hown2))))));clear hF hds hone hown hgrow hg2 hown2 p0 p1 p2 x0 x1 x2 x3 x4 hC hdi hle;go_roundw;case rel=>
     obtain⟨⟨hP5,hu5,hk5⟩,hds,hone,hown,hgrow,hg2,hown2⟩:=HF.out;have hPw:=HP.out;have hs5:wq.heap.size≤w5.heap.size:=hu5.size;have hu6:Upd (·=P) wq w5:=(upd_drew _ wq).trans hu5;have hdw:wq.drew.heap.size=wq.heap.size:=rfl;have hua:=upd_alloc (fun k=>some k=(Value.slice av j c).ownBlock) w5 (.cells ds 93);have hug:=upd_grown hgrow;have huc:=upd_setCell w6 ⟨w.heap.size+1,3,none⟩ (.slice (some ⟨g2,0,none⟩) (j+1) c2);have hall:Upd (fun k=>some k=(Value.slice av j c).ownBlock∨k=w.heap.size+1) w5 (w6.setCell ⟨w.heap.size+1,3,none⟩ (.slice (some ⟨g2,0,none⟩) (j+1) c2)):=
      ((hua.trans hug).mono (fun k _ h=> .inl h)).trans (huc.mono (fun k _ h=> .inr h))
     have hX6:At w6 (w.heap.size+1) (.cells (ic 4 0 [] (.slice av j c) true) 93):=((HR.out.1.upd (w:=wq.drew) hu5 (by omega)).upd (hua.trans hug) (fun e=>by have:=hown2 _ e.symm;omega));have hS:∀k,(some k=(Value.slice av j c).ownBlock∨k=w.heap.size+1)→w.heap.size<k∧(k<w.heap.size+2∨k=gOf av)∧k<wq.heap.size:=fun k hk=>by
      rcases hk with hk|hk
      · have h1:=hown2 k hk.symm;refine⟨by omega,.inr ?_,h1.2⟩;cases av with
        |none=>cases hk
        |some q=>simpa[Value.ownBlock,gOf]using hk
      · have:=HR.out.2.2.2.2.1;exact⟨by omega,.inl (by omega),by omega⟩
     have hg3:g2=gOf av∨w5.heap.size≤g2:=by
      rcases hg2 with h|h
      · left;cases av with
        |none=>cases h
        |some q=>simpa[Value.ownBlock,gOf]using h.symm
      · right;omega
     have hg4:¬(wq.heap.size≤g2∧g2<w5.heap.size):=fun h=>by
      rcases hg2 with h2|h2
      · have:=(hown2 _ h2).2;omega
      · omega
     have hen:(encs (l.take (j+1))).length=(encs (l.take j)).length+(enc l[j]).length:=by rw[enc_take l j hjl,List.length_append]
     have htk:l.take (j+1)=l.take j++[l[j]]:=by simp
     (repeat apply Exists.intro);refine⟨?_,rfl⟩;refine⟨j+1,some ⟨g2,0,none⟩,c2,kk++[ds],by omega,heap_setCell_same w6 (w.heap.size+1) 3 _ 93 (.slice (some ⟨g2,0,none⟩) (j+1) c2) hX6,?_,?_,?_,?_,?_,?_⟩
     · exact((HR.out.2.1.upd (w:=wq.drew) hu5 (by omega)).upd hall (fun e=>by have:=hS _ e;omega))
     · rw[hen, ←Nat.add_assoc];exact hP5.upd hall (fun e=>by have:=hS _ e;omega)
     · refine Upd.above' (HR.out.2.2.2.1.trans hu6) hall (fun k e=>?_);have:=hS _ e;omega
     · have:=HR.out.2.2.2.2.1;have:=hall.size;omega
     · rw[List.flatMap_append];simp only[List.flatMap_cons,List.flatMap_nil,List.append_nil];refine row_upd hown huc (fun k hk e=>?_);have e2:g2=k:=by simpa[Value.ownBlock]using hk
       have e3:k=w.heap.size+1:=e;rcases hg2 with h|h
       · have:=(hown2 _ h).1;omega
       · have:=HR.out.2.2.2.2.1;omega
     · rw[htk];refine Kids.snoc ?_ hds hone ⟨wq.heap.size,w5.heap.size,HR.out.2.2.2.2.1,hall.size,hg4,hk5.upd hall (Nat.le_refl _) (fun k h1 _ e=>by have:=hS _ e;omega)⟩;refine Kids.move (H:=w5.heap.size) (g:=gOf av) (S:=fun k=>some k=(Value.slice av j c).ownBlock∨k=w.heap.size+1) (w:=w5) (Nat.le_refl _) hall (fun k e=>(hS k e).2.1) hall.size hg3 ?_;exact Kids.move (H:=wq.heap.size) (g:=gOf av) (S:=(·=P)) (w:=wq) (Nat.le_refl _) hu6 (fun k e=> .inl (by have e:k=P:=e;omega)) hs5 (.inl rfl) HR.out.2.2.2.2.2.2
    case measure=>
     obtain⟨⟨hP5,hu5,hk5⟩,hds,hone,hown,hgrow,hg2,hown2⟩:=HF.out;have hPw:=HP.out;have hua:=upd_alloc (fun k=>some k=(Value.slice av j c).ownBlock) w5 (.cells ds 93);have hX6:At w6 (w.heap.size+1) (.cells (ic 4 0 [] (.slice av j c) true) 93):=((HR.out.1.upd (w:=wq.drew) hu5 (by omega)).upd (hua.trans (upd_grown hgrow)) (fun e=>by have:=hown2 _ e.symm;omega));rw[lenAt_of HR0.out.1,lenAt_of (heap_setCell_same w6 (w.heap.size+1) 3 _ 93 (.slice (some ⟨g2,0,none⟩) (j+1) c2) hX6)];omega
  · have hj9:j=m:=by omega
    subst hj9;have htk:l.take j=l:=by rw[HM.out.1,List.take_length]
    rw[htk]at HR;have hj5:¬(j:Int)= -1:=by omega
    have hle:a+(encs l).length≤s.length:=by have:=drop_le_item HD.out.1 HD.out.2.1 j;rwa [htk]at this
    have hdi:s.drop (a+(encs l).length)=b8 255::r:=drop_at (u:=b8 255::r) HD.out.1;go_upto_region 3 with(fail);go_wp2_with fail;refine(broken_yes s r _ P wr HR.out.2.2.1 hle HD.out.2.2.1 hdi).mono ?_;rintro e wq ⟨rfl,hbq⟩;have HR0:=HR;clear HR;have HR:=hid (show At wq (w.heap.size+1) (.cells (ic 4 0 [] (.slice av j c) true) 93)∧At wq w.heap.size (.cells (ic 0 0 [] nS false) 93)∧At wq P (.cells (pc s (a+(encs l).length)) 284)∧Upd (·=P) w wq∧w.heap.size+2≤wq.heap.size∧wq.ownsRow (w.heap.size+2) 93 5 (.slice av j c) j (cs.flatMap (·.toList))∧Kids (w.heap.size+2) wq.heap.size (gOf av) wq cs l from
     ⟨HR0.out.1.keep hbq,HR0.out.2.1.keep hbq,HR0.out.2.2.1.keep hbq,HR0.out.2.2.2.1.trans (upd_of_below hbq),Nat.le_trans HR0.out.2.2.2.2.1 hbq.size,row_keep HR0.out.2.2.2.2.2.1 hbq,Kids.move (H:=wr.heap.size) (g:=gOf av) (S:=fun _=>False) (w:=wr) (Nat.le_refl _) (upd_of_below hbq) (fun k e=>e.elim) hbq.size (.inl rfl) HR0.out.2.2.2.2.2.2⟩)
    clear p0 p1 p2 x0 x1 x2 x3 x4 hbq;have hq8:((a+(encs l).length:Nat):Int)≤100000:=by have:=HD.out.2.2.1;omega
    obtain⟨q,hq⟩:∃q,q=a+(encs l).length:=⟨_,rfl⟩;rw[←hq]at HR hq8;have HQ:=hid hq;clear hq;obtain⟨p0,p1,p2⟩:=pthree HR.out.2.2.1;have pf:=pfree HR.out.2.2.1 1;have hu8:=upd_setCell wq ⟨P,1,none⟩ (.int .i64 (q+1:Nat));have H9:=hid (show At (wq.setCell ⟨P,1,none⟩ (.int .i64 (q+1:Nat))) (w.heap.size+1) (.cells (ic 4 0 [] (.slice av j c) true) 93)∧At (wq.setCell ⟨P,1,none⟩ (.int .i64 (q+1:Nat))) w.heap.size (.cells (ic 0 0 [] nS false) 93)∧At (wq.setCell ⟨P,1,none⟩ (.int .i64 (q+1:Nat))) P (.cells (pc s (q+1)) 284)∧Upd (·=P) w (wq.setCell ⟨P,1,none⟩ (.int .i64 (q+1:Nat)))∧Upd (fun k=>k≤w.heap.size) wq (wq.setCell ⟨P,1,none⟩ (.int .i64 (q+1:Nat)))from
     ⟨HR.out.1.upd hu8 (by have:=HP.out;show ¬_=P;omega),HR.out.2.1.upd hu8 (by have:=HP.out;show ¬_=P;omega),pset HR.out.2.2.1 rfl,HR.out.2.2.2.1.trans hu8,hu8.mono (fun k _ e=>by have:=HP.out;have e:k=P:=e;show k≤_;omega)⟩)
    rw[Int.natCast_add]at H9;clear hu8 hle hdi;go_upto_region 5 with(fail);generalize World.setCell wq _ _=w9 at*;clear p0 p1 p2 pf;have hfin:At w9 (w.heap.size+1) (.cells (ic 4 0 [] (.slice av j c) true) 93)∧At w9 w.heap.size (.cells (ic 0 0 [] nS false) 93)∧At w9 P (.cells (pc s (a+(encs l).length+1)) 284)∧Upd (·=P) w w9∧Upd (fun k=>k≤w.heap.size) wq w9:=by first|exact H9.out|(rw[←HQ.out];exact H9.out)
    clear H9;go_wp2_with (first
     |(refine lQ 93 7 hfin.1 ?_)
     |(refine sR 93 6 36 w.heap.size (ic 4 0 [] (.slice av j c) true) hfin.2.1 (size93 rfl) (ic_one ..) ?_))
    have hua:=upd_setRow w9 w.heap.size (ic 4 0 [] (.slice av j c) true);refine bodyPost_ret (rQ (hfin.2.1.row _)) rfl ⟨_,rfl,rfl,by have:=ic_one 4 0 [] av j c true;simpa using this,hfin.2.2.1.upd hua (by have:=HP.out;show ¬P=w.heap.size;omega),hfin.2.2.2.1.above' hua (fun k e=>by rw[e];exact Nat.le_refl _),?_⟩;have hall:Upd (fun k=>k≤w.heap.size) wq (w9.setRow w.heap.size (ic 4 0 [] (.slice av j c) true)):=hfin.2.2.2.2.trans (hua.mono (fun k _ e=>by rw[e];exact Nat.le_refl _));intro w3 hw3;have hag:∀k,w.heap.size+2≤k→k<wq.heap.size→w3.heap[k]? =wq.heap[k]? :=fun k h1 h2=>(hw3 k (by omega) (by have:=hall.size;omega)).trans (hall.block k h2 (by omega));obtain⟨_,_,_,_,_,hrow,hkids⟩:=HR.out;rw[IsI];refine⟨av,c,by rw[HM.out.1],?_,?_⟩
    · rcases hrow.2 with⟨hv,h0⟩|⟨g,cap,cur,hv,_,_,hn,_⟩
      · have:=HM.out.1;omega
      · injection hv with e1 e2 e3
        rw[←HM.out.1,e3];exact hn
    · rcases hrow.2 with⟨hv,h0⟩|⟨g,cap,cur,hv,hb,hg,hn,_⟩
      · left;exact List.eq_nil_of_length_eq_zero (by have:=HM.out.1;omega)
      · right;injection hv with e1 e2 e3
        subst e1;refine⟨g,0,rfl,Kids.isL hag 0 hkids (range_of (row_range hrow) (hag g hb (heap_lt hg)))⟩
end
section
open Go.RowKit
theorem pitem_arr (s:List UInt8)(a P d q L n:Nat)(o:Bool)(N:Int)(F:Array Value→World→Prop)(w:World)(h:At w P (.cells (pc s a) 284))(ha:a≤s.length)(hl:s.length≤100000)(hq9:q≤9)(hd1:1≤d)(hd8:d≤8)
 (hB:∀(R:Nat) (w:World),At w R (.cells (rc (s.drop a) 0) 423)→Calls Tryz.prog 234 #[.pointer (some ⟨R,0,none⟩)] w fun e w'=>e= .returned (.tuple #[.int .i64 4,.int .u64 n,.bool o])∧At w' R (.cells (rc (s.drop a) q) 423)∧Upd (·=R) w w')
 (hA:∀(R:Nat) (w:World),At w R (.cells (rc (s.drop a) 0) 423)→Calls Tryz.prog 238 #[.pointer (some ⟨R,0,none⟩)] w fun e w'=>e= .returned (.int .i64 N)∧At w' R (.cells (rc (s.drop a) q) 423)∧Upd (·=R) w w')
 (hL:∀w:World,At w P (.cells (pc s (a+q)) 284)→Calls Tryz.prog 239 #[.pointer (some ⟨P,0,none⟩),.int .i64 N,.int .i64 d] w fun e w'=>∃cs:Array Value,e= .returned (.agg cs)∧cs.size=5∧cs.all (·.oneCell')=true∧At w' P (.cells (pc s (a+q+L)) 284)∧Upd (·=P) w w'∧Keeps w.heap.size w'.heap.size w' (F cs)):
 Calls Tryz.prog 175 #[.pointer (some ⟨P,0,none⟩),.int .i64 d] w fun e w'=>∃cs:Array Value,e= .returned (.agg cs)∧cs.size=5∧cs.all (·.oneCell')=true∧At w' P (.cells (pc s (a+q+L)) 284)∧Upd (·=P) w w'∧Keeps w.heap.size w'.heap.size w' (F cs):=by
 have hd0:¬(d:Int)<1:=by omega
 have hz:=zero93;have ha1:=At.keep h ((Below.refl w.heap.size w).alloc (Nat.le_refl _) (.cells (ic 0 0 [] nS false) 93));have H1:=hid (And.intro (show At (w.alloc (.cells (ic 0 0 [] nS false) 93)) w.heap.size _ from heap_new w (.cells (ic 0 0 [] nS false) 93)) (And.intro ha1 ((Below.refl w.heap.size w).alloc (Nat.le_refl _) (.cells (ic 0 0 [] nS false) 93))));have HR:=hid (fun(w:World) (h:At w P (.cells (pc s a) 284))=>preader_any s a P w h ha hl);have HB:=hid hB;have HA:=hid hA;have HL:=hid hL;have HZ:=hid (show q≤9∧a≤100000 from⟨hq9,by omega⟩);have HP:=hid h.lt;generalize s.drop a=t at*;clear h ha1 ha hl hd1 hd8 hB hA hL hq9;go_enter Tryz.func175,Tryz.ntmps175;go_upto_region 1 with(fail);generalize World.alloc w _=w1 at*;clear hz;go_wp2_with fail;refine(HR.out _ H1.out.2.1).mono ?_;rintro e w2 ⟨R,rfl,hR,hat,hbl⟩;have H2:=hid (show At w2 w.heap.size (.cells (ic 0 0 [] nS false) 93)∧At w2 P (.cells (pc s a) 284)∧Below w.heap.size w w2 from⟨(show At w1 _ _ from H1.out.1).keep hbl,H1.out.2.1.keep hbl,H1.out.2.2.trans (hbl.mono H1.out.2.2.size)⟩);have HRR:=hid (And.intro hat (show w.heap.size<R from Nat.lt_of_lt_of_le (heap_lt H1.out.1) hR));clear hat hbl hR H1;go_wp2_with fail;refine(HB.out R _ HRR.out.1).mono ?_;rintro e w4 ⟨rfl,hat,hu⟩;have HNE:=hid (show P<w.heap.size∧w.heap.size<R from⟨HP.out,HRR.out.2⟩);have H4:=hid (show At w4 w.heap.size (.cells (ic 0 0 [] nS false) 93)∧At w4 P (.cells (pc s a) 284)∧At w4 R _∧Below w.heap.size w w4 from⟨H2.out.1.upd hu (by have:=HNE.out;show ¬_=R;omega),H2.out.2.1.upd hu (by have:=HNE.out;show ¬_=R;omega),hat,H2.out.2.2.trans (hu.below H2.out.2.2.size (fun k e=>by have:=HNE.out;have e:k=R:=e;omega))⟩);clear hat hu H2;go_wp2_with fail;refine(bad_any _ R _ _ H4.out.2.2.1).mono ?_;rintro e w6 ⟨rfl,hb6⟩;have H6:=hid (And.intro (H4.out.1.keep hb6) (And.intro (H4.out.2.1.keep hb6) (H4.out.2.2.2.trans (hb6.mono H4.out.2.2.2.size))));clear hb6 H4 HRR HNE;go_upto_region 15 with(fail);go_wp2_with fail;refine(HR.out _ H6.out.2.1).mono ?_;rintro e w7 ⟨R2,rfl,hR,hat,hbl⟩;have H7:=hid (show At w7 w.heap.size (.cells (ic 0 0 [] nS false) 93)∧At w7 P (.cells (pc s a) 284)∧Below w.heap.size w w7 from⟨H6.out.1.keep hbl,H6.out.2.1.keep hbl,H6.out.2.2.trans (hbl.mono H6.out.2.2.size)⟩);have HRR:=hid (And.intro hat (show w.heap.size<R2 from Nat.lt_of_lt_of_le H6.out.1.lt hR));clear hat hbl hR H6;go_wp2_with fail;refine(HA.out R2 _ HRR.out.1).mono ?_;rintro e w8 ⟨rfl,hat,hu⟩;have HNE:=hid (show P<w.heap.size∧w.heap.size<R2 from⟨HP.out,HRR.out.2⟩);have H8:=hid (show At w8 w.heap.size (.cells (ic 0 0 [] nS false) 93)∧At w8 P (.cells (pc s a) 284)∧At w8 R2 (.cells (rc t q) 423)∧Below w.heap.size w w8 from⟨H7.out.1.upd hu (by have:=HNE.out;show ¬_=R2;omega),H7.out.2.1.upd hu (by have:=HNE.out;show ¬_=R2;omega),hat,H7.out.2.2.trans (hu.below H7.out.2.2.size (fun k e=>by have:=HNE.out;have e:k=R2:=e;omega))⟩);clear hat hu H7;go_wp2_with fail;refine(bad_any _ R2 _ _ H8.out.2.2.1).mono ?_;rintro e w9 ⟨rfl,hb9⟩
 have H9:=hid (And.intro (H8.out.1.keep hb9) (And.intro (H8.out.2.1.keep hb9) (And.intro (H8.out.2.2.1.keep hb9) (H8.out.2.2.2.trans (hb9.mono H8.out.2.2.2.size)))));clear hb9 H8;obtain⟨p0,p1,p2⟩:=pthree H9.out.2.1;have pf:=pfree H9.out.2.1 1;have HAT:=hid (fun(w:World) (h:At w R2 (.cells (rc t q) 423))=>at_any _ R2 _ w h);go_upto_region 20 with(fail);have hq9:(q:Int)≤9:=by have:=HZ.out;omega
 have ha9:(a:Int)≤100000:=by have:=HZ.out;omega
 have hu7:=upd_setCell w9.drew ⟨P,1,none⟩ (.int .i64 (a+q:Nat));have HX:=hid (show At (w9.setCell ⟨P,1,none⟩ (.int .i64 (a+q:Nat))).drew P (.cells (pc s (a+q)) 284)∧At (w9.setCell ⟨P,1,none⟩ (.int .i64 (a+q:Nat))).drew w.heap.size (.cells (ic 0 0 [] nS false) 93)∧Upd (·=P) w (w9.setCell ⟨P,1,none⟩ (.int .i64 (a+q:Nat))).drew from
  ⟨pset H9.out.2.1 rfl,At.upd (w:=w9.drew) H9.out.1 hu7 (by have:=HNE.out;show ¬w.heap.size=P;omega),(upd_of_below (below_drew H9.out.2.2.2)).trans hu7⟩)
 rw[Int.natCast_add]at HX;clear hu7;go_still_tail 9,(by kernel_rfl);still_call ((HAT.out w9.drew (show At w9.drew R2 _ from H9.out.2.2.1)).mono fun _ _ ⟨h1,h2⟩=>⟨h1,h2.symm⟩);repeat still_step
 refine wpStill_nil ?_;go_upto_region 21 with(fail);generalize World.drew (World.setCell w9 _ _)=w10 at*;clear p0 p1 p2 pf H9;go_wp2_with fail;refine(HL.out _ HX.out.1).mono ?_;rintro e w11 ⟨cs,rfl,hcs,hone,hat,hu,hk⟩;have HY:=hid (show At w11 P (.cells (pc s (a+q+L)) 284)∧At w11 w.heap.size (.cells (ic 0 0 [] nS false) 93)∧Upd (·=P) w w11∧Keeps w10.heap.size w11.heap.size w11 (F cs)∧w.heap.size<w10.heap.size from
  ⟨hat,HX.out.2.1.upd hu (by have:=HNE.out;show ¬w.heap.size=P;omega),HX.out.2.2.trans hu,hk,HX.out.2.1.lt⟩)
 have HC:=hid (And.intro hcs hone);clear hcs hone hat hu hk HX;go_wp2_with (refine wpList_store_row rfl 93 (.tmp 4) (.tmp 117) rfl w.heap.size cs rfl rfl 93 _ HY.out.2.1 (size93 HC.out.1) (by rw[HC.out.1];rfl) HC.out.2 ?_);have hu9:=upd_setRow w11 w.heap.size cs;refine bodyPost_ret (results_cell_row (g:=w.heap.size) rfl _ _ 93 cs (0,0) _ rfl (HY.out.2.1.row _) Tryz.underlying93 rfl (size93 HC.out.1)) rfl ⟨cs,rfl,HC.out.1,by have:=HC.out.2;simpa using this,HY.out.1.upd hu9 (by have:=HNE.out;show ¬P=w.heap.size;omega),HY.out.2.2.1.above' hu9 (fun k e=>by rw[e];exact Nat.le_refl _),?_⟩;exact(HY.out.2.2.2.1.upd hu9 (Nat.le_refl _) (fun k h1 h2 e=>by have:=HY.out.2.2.2.2;have e:k=w.heap.size:=e;omega)).wide (by have:=HY.out.2.2.2.2;omega) hu9.size
def PItemOk (s:List UInt8)(P d:Nat)(x:Itm):Prop:=∀(r:List UInt8) (a:Nat) (w:World),At w P (.cells (pc s a) 284)→a≤s.length→s.drop a=enc x++r→
 Calls Tryz.prog 175 #[.pointer (some ⟨P,0,none⟩),.int .i64 d] w fun e w'=>∃cs:Array Value,e= .returned (.agg cs)∧cs.size=5∧cs.all (·.oneCell')=true∧At w' P (.cells (pc s (a+(enc x).length)) 284)∧Upd (·=P) w w'∧Keeps w.heap.size w'.heap.size w' fun w2=>IsI w2 cs x
theorem pitem_any (s:List UInt8)(P:Nat)(hl:s.length≤100000):∀(d:Nat) (x:Itm),deep x≤d→wf x→d≤8→PItemOk s P d x
 |d,.num n,hd,hw,h8=>fun r a w h ha hdr=>by
  have hd1:1≤d:=hd;refine(pitem_num s r a n P d w h ha hl (by rw[hdr,enc]) hw hd1 h8).mono ?_;rintro e w' ⟨rfl,hat,hu⟩;exact⟨_,rfl,rfl,ic_one ..,hat,hu,fun w2 _=>by simp[IsI]⟩
 |d,.str b,hd,hw,h8=>fun r a w h ha hdr=>by
  have hd1:1≤d:=hd;refine(pitem_str s b r a b.length P d w h ha hl (by rw[hdr,enc,bs,List.append_assoc]) rfl hd1 h8).mono ?_;rintro e w' ⟨rfl,hat,hu⟩;exact⟨_,rfl,rfl,ic_one ..,by simpa[enc,bs]using hat,hu,fun w2 _=>by simp[IsI]⟩
 |d,.txt b,hd,hw,h8=>fun r a w h ha hdr=>by
  have hd1:1≤d:=hd;refine(pitem_txt s b r a b.length P d w h ha hl (by rw[hdr,enc,tx,List.append_assoc]) rfl hd1 h8).mono ?_;rintro e w' ⟨rfl,hat,hu⟩;exact⟨_,rfl,rfl,ic_one ..,by simpa[enc,tx]using hat,hu,fun w2 _=>by simp[IsI]⟩
 |0,.arr o l,hd,_,_=>by simp[deep]at hd
 |d+1,.arr false l,hd,hw,h8=>fun r a w h ha hdr=>by
  have hw2:l.length≤1000∧wfs l:=by simpa[wf]using hw
  have hd2:deeps l≤d:=by simpa[deep]using hd
  have hdr2:s.drop a=YtlhlmflacdeafaaGreatDoor.hd 4 l.length++(encs l++r):=by rw[hdr,enc];simp
  have hlen:=congrArg List.length hdr2;simp only[List.length_drop,List.length_append]at hlen;have hlt:(encs l++r).length≤100000:=by rw[List.length_append];omega
  refine(pitem_arr s a P (d+1) (YtlhlmflacdeafaaGreatDoor.hd 4 l.length).length (encs l).length l.length false (l.length:Nat) (fun cs w2=>IsI w2 cs (.arr false l)) w h ha hl (hd_len _ _) (by omega) h8 ?_ ?_ ?_).mono ?_
  · intro R w hR;rw[hdr2]at hR ⊢;exact Head_any 4 l.length R _ w (by omega) (by omega) hR hlt
  · intro R w hR;rw[hdr2]at hR ⊢;exact rarray_any l.length R _ w hw2.1 hR hlt
  · intro w hP;exact plist_some l s r _ P (d+1) w hP (drop_le hdr2 ha) hl (drop_at hdr2) (by omega) h8 hw2.1 hw2.2 fun i hi t a w h1 h2 h3=>pitem_any s P hl d l[i] (Nat.le_trans (deep_at l i hi) hd2) (wf_at l i hi hw2.2) (by omega) t a w h1 h2 h3
  · rintro e w' ⟨cs,rfl,h1,h2,h3,h4,h5⟩;exact⟨cs,rfl,h1,h2,by rw[enc];simpa[Nat.add_assoc]using h3,h4,h5⟩
 |d+1,.arr true l,hd,hw,h8=>fun r a w h ha hdr=>by
  have hw2:l.length≤1000∧wfs l:=by simpa[wf]using hw
  have hd2:deeps l≤d:=by simpa[deep]using hd
  have hdr2:s.drop a=[b8 159]++(encs l++([0xff]++r)):=by rw[hdr,enc];simp;rfl
  have hlen:=congrArg List.length hdr2;simp only[List.length_drop,List.length_append,List.length_cons,List.length_nil]at hlen;have hlt:(encs l++([0xff]++r)).length≤100000:=by simp only[List.length_append,List.length_cons,List.length_nil];omega
  refine(pitem_arr s a P (d+1) 1 ((encs l).length+1) 0 true (-1) (fun cs w2=>IsI w2 cs (.arr true l)) w h ha hl (by omega) (by omega) h8 ?_ ?_ ?_).mono ?_
  · intro R w hR;rw[hdr2]at hR ⊢;exact Head_open 4 R _ w (.inl rfl) hR hlt
  · intro R w hR;rw[hdr2]at hR ⊢;exact rarray_open R _ w hR hlt
  · intro w hP;exact plist_open l s r _ P (d+1) w hP (drop_le (t:=[b8 159]) hdr2 ha) hl (drop_at (t:=[b8 159]) hdr2) (by omega) h8 hw2.1 hw2.2 fun i hi t a w h1 h2 h3=>pitem_any s P hl d l[i] (Nat.le_trans (deep_at l i hi) hd2) (wf_at l i hi hw2.2) (by omega) t a w h1 h2 h3
  · rintro e w' ⟨cs,rfl,h1,h2,h3,h4,h5⟩;exact⟨cs,rfl,h1,h2,by rw[enc];simpa[Nat.add_assoc,Nat.add_comm]using h3,h4,h5⟩
end
section
open Go.RowKit
structure Eid where
 k:Nat
 s:List UInt8
 n:Nat
 m:Nat
def noneL:List UInt8:=[110,111,110,101]
def eNone:Eid:=⟨1,noneL,0,0⟩
def nd (i:Nat):Eid:=⟨2,[],i+1,0⟩
def Eid.ipn (e:Eid):Prop:=e.k=2∧e.s=[]∧e.n≤4294967295∧e.m≤4294967295
def Eid.ok (e:Eid):Prop:=e.ipn∨e=eNone
def ec (e:Eid):Array Value:=#[.int .i64 e.k,.string (st e.s),.int .u64 e.n,.int .u64 e.m]
def eitm (e:Eid):Itm:=if e.k=2 then .arr false [.num 2,.arr false [.num e.n,.num e.m]]else .arr false [.num 1,.num 0]
structure Prim where
 flags:Nat
 crc:Nat
 dst:Eid
 src:Eid
 rpt:Eid
 time:Nat
 seq:Nat
 life:Nat
def prc (p:Prim):Array Value:=#[.int .u64 p.flags,.int .i64 p.crc,.int .i64 p.dst.k,.string (st p.dst.s),.int .u64 p.dst.n,.int .u64 p.dst.m,.int .i64 p.src.k,.string (st p.src.s),.int .u64 p.src.n,.int .u64 p.src.m,
 .int .i64 p.rpt.k,.string (st p.rpt.s),.int .u64 p.rpt.n,.int .u64 p.rpt.m,.int .u64 p.time,.int .u64 p.seq,.int .u64 p.life,.int .u64 0,.int .u64 0]
def bunc (p:Prim)(l:Value):Array Value:=#[.int .u64 p.flags,.int .i64 p.crc,.int .i64 p.dst.k,.string (st p.dst.s),.int .u64 p.dst.n,.int .u64 p.dst.m,.int .i64 p.src.k,.string (st p.src.s),.int .u64 p.src.n,.int .u64 p.src.m,
 .int .i64 p.rpt.k,.string (st p.rpt.s),.int .u64 p.rpt.n,.int .u64 p.rpt.m,.int .u64 p.time,.int .u64 p.seq,.int .u64 p.life,.int .u64 0,.int .u64 0,l]
def pits (p:Prim):List Itm:=[.num 7,.num p.flags,.num p.crc,eitm p.dst,eitm p.src,eitm p.rpt,.arr false [.num p.time,.num p.seq],.num p.life]
def sumd (l:List Itm):List Itm:=l++[.str (sumL (enc (.arr false (l++[.str [0,0]]))))]
def pitm (p:Prim):Itm:= .arr false (if p.crc=0 then pits p else sumd (pits p))
structure Prim.ok (p:Prim):Prop where
 kind:(p.flags=262144∧p.crc=1)∨(p.flags=0∧p.crc=1)∨(p.flags=2∧p.crc=0)
 dst:p.dst.ipn
 src:p.src.ipn
 rpt:p.rpt.ok
 time:p.time≤1099511627776
 seq:p.seq≤1099511627776
 life:p.life≤1099511627776
structure Blk5 where
 typ:Nat
 num:Nat
 flags:Nat
 crc:Nat
 data:List UInt8
def blc (b:Blk5):Array Value:=#[.int .i64 b.typ,.int .i64 b.num,.int .u64 b.flags,.int .i64 b.crc,.string (st b.data)]
def bits5 (b:Blk5):List Itm:=[.num b.typ,.num b.num,.num b.flags,.num b.crc,.str b.data]
def bitm (b:Blk5):Itm:= .arr false (if b.crc=0 then bits5 b else sumd (bits5 b))
structure Blk5.ok (b:Blk5):Prop where
 typ:b.typ=1∨b.typ=6∨b.typ=7∨b.typ=10
 num:1≤b.num∧b.num≤100
 flags:b.flags=0
 crc:b.crc≤1
 data:b.data.length≤1000
 pay:b.typ=1↔b.num=1
structure Bun where
 p:Prim
 l:List Blk5
def Bun.itm (b:Bun):Itm:= .arr true (pitm b.p::b.l.map bitm)
def Bun.enc (b:Bun):List UInt8:=YtlhlmflacdeafaaGreatDoor.enc b.itm
structure Bun.ok (b:Bun):Prop where
 p:b.p.ok
 l:∀x∈b.l,x.ok
 time:1≤b.p.time
 few:b.l.length≤8
 nums:(b.l.map (·.num)).Nodup
 typs:(b.l.map (·.typ)).Nodup
 last:∃r y,b.l=r++[y]∧y.typ=1
 size:b.enc.length≤4000
def IsR (w:World)(a:Option Addr)(l:List Blk5):Prop:=l=[]∨∃b off,a=some ⟨b,off,none⟩∧w.rangeAt b off (l.flatMap fun x=>(blc x).toList)
def IsB (w:World)(cs:Array Value)(b:Bun):Prop:=∃a cap,cs=bunc b.p (.slice a b.l.length cap)∧b.l.length≤cap∧IsR w a b.l
theorem IsR.keep {w w':World}(hu:Below w.heap.size w w'){a:Option Addr}{l:List Blk5}(h:IsR w a l):IsR w' a l:=by
 rcases h with rfl|⟨b,off,ha,h⟩
 · exact .inl rfl
 · rcases l with _|⟨x,l⟩
   · exact .inl rfl
   · exact .inr ⟨b,off,ha,range_keep hu h (range_lt h (by simp[blc]))⟩
theorem IsB.keep {w w':World}(hu:Below w.heap.size w w'){cs:Array Value}{b:Bun}(h:IsB w cs b):IsB w' cs b:=by
 obtain⟨a,cap,h1,h2,h3⟩:=h;exact⟨a,cap,h1,h2,h3.keep hu⟩
theorem flat_at {α β:Type}{f:α→List β}{n:Nat}(hf:∀x,(f x).length=n):∀(l:List α) (i j:Nat) (h:i<l.length),j<n→(l.flatMap f)[n*i+j]? =(f l[i])[j]?
 | [],_,_,h,_=>absurd h (by simp)
 |x::r,0,j,_,hj=>by
  rw[List.flatMap_cons,Nat.mul_zero,Nat.zero_add,List.getElem?_append_left (by rw[hf];exact hj)];rfl
 |x::r,i+1,j,h,hj=>by
  rw[List.flatMap_cons,List.getElem?_append_right (by rw[hf,Nat.mul_add];omega),hf,show n*(i+1)+j-n=n*i+j by rw[Nat.mul_add];omega];exact flat_at hf r i j (by simpa using h) hj
theorem range_blk {w:World}{b off:Nat}{l:List Blk5}(h:w.rangeAt b off (l.flatMap fun x=>(blc x).toList))(i:Nat)(hi:i<l.length):w.rangeAt b (off+5*i) (blc l[i]).toList:=fun j v hj=>by
 have hj5:j<5:=by have:=(List.getElem?_eq_some_iff.1 hj).1;simpa[blc]using this
 rw[Nat.add_assoc];refine h (5*i+j) v ?_;rw[flat_at (n:=5) (fun x=>by simp[blc]) l i j hi hj5];exact hj
theorem prc_size (p:Prim):(prc p).size=19:=rfl
theorem ipn_ok {e:Eid}(h:e.ipn):e.ok:= .inl h
theorem nd_ipn (i:Nat)(h:i≤100):(nd i).ipn:=⟨rfl,rfl,by show i+1≤_;omega,Nat.zero_le _⟩
theorem blk_cell {w:World}{b off:Nat}{l:List Blk5}(h:w.rangeAt b off (l.flatMap fun x=>(blc x).toList))(i:Nat)(hi:i<l.length):
 w.cell? ⟨b,off+5*i,none⟩=some (.int .i64 l[i].typ)∧w.cell? ⟨b,off+5*i+1,none⟩=some (.int .i64 l[i].num)∧w.cell? ⟨b,off+5*i+2,none⟩=some (.int .u64 l[i].flags)∧
 w.cell? ⟨b,off+5*i+3,none⟩=some (.int .i64 l[i].crc)∧w.cell? ⟨b,off+5*i+4,none⟩=some (.string (st l[i].data)):=by
 have h:=range_blk h i hi;exact⟨h 0 _ rfl,h 1 _ rfl,h 2 _ rfl,h 3 _ rfl,h 4 _ rfl⟩
theorem eitm_wf {e:Eid}(h:e.ok):wf (eitm e):=by
 rcases h with⟨h1,_,h3,h4⟩|rfl
 · simp[eitm,h1,wf,wfs];omega
 · simp[eitm,eNone,wf,wfs]
theorem eitm_deep (e:Eid):deep (eitm e)≤3:=by
 unfold eitm;split<;>simp[deep,deeps]
theorem eitm_len (e:Eid):(enc (eitm e)).length≤54:=by
 unfold eitm;split<;>simp only[enc,encs,List.length_append,List.length_nil,List.length_cons,if_false,Bool.false_eq_true]
 · have h0:=hd_len 4 (0+1+1);have h1:=hd_len 4 2;have h2:=hd_len 0 2;have h3:=hd_len 0 e.n;have h4:=hd_len 0 e.m;omega
 · have h0:=hd_len 4 (0+1+1);have h1:=hd_len 4 2;have h2:=hd_len 0 1;have h3:=hd_len 0 0;omega
theorem pits_wf {p:Prim}(h:p.ok):wfs (pits p):=by
 have h1:=h.kind;have h3:=h.time;have h4:=h.seq;have h5:=h.life;have e1:=eitm_wf (ipn_ok h.dst);have e2:=eitm_wf (ipn_ok h.src);have e3:=eitm_wf h.rpt;simp only[pits,wfs,wf,e1,e2,e3,true_and,and_true,List.length_cons,List.length_nil];omega
theorem pits_deep (p:Prim):deeps (pits p)≤3:=by
 have h1:=eitm_deep p.dst;have h2:=eitm_deep p.src;have h3:=eitm_deep p.rpt;simp only[pits,deeps,deep];omega
theorem wfs_app {a b:List Itm}(ha:wfs a)(hb:wfs b):wfs (a++b):=by
 induction a with
 |nil=>exact hb
 |cons x a ih=>exact⟨ha.1,ih ha.2⟩
theorem deeps_app (a b:List Itm):deeps (a++b)=max (deeps a) (deeps b):=by
 induction a with
 |nil=>simp[deeps]
 |cons x a ih=>simp[deeps,ih,Nat.max_assoc]
theorem pits_len (p:Prim):(encs (pits p)).length≤300:=by
 have h1:=eitm_len p.dst;have h2:=eitm_len p.src;have h3:=eitm_len p.rpt;simp only[pits,enc,encs,List.length_append,List.length_nil,List.length_cons,if_false,Bool.false_eq_true];have a1:=hd_len 0 7;have a2:=hd_len 0 p.flags;have a3:=hd_len 0 p.crc;have a4:=hd_len 4 (0+1+1);have a5:=hd_len 0 p.time;have a6:=hd_len 0 p.seq;have a7:=hd_len 0 p.life;omega
theorem bits5_wf {b:Blk5}(h:b.ok):wfs (bits5 b):=by
 have h1:=h.typ;have h2:=h.num;have h3:=h.flags;have h4:=h.crc;have h5:=h.data;simp only[bits5,wfs,wf,and_true];omega
theorem bits5_deep (b:Blk5):deeps (bits5 b)=1:=by simp[bits5,deeps,deep]
theorem bits5_len (b:Blk5):(encs (bits5 b)).length≤45+b.data.length:=by
 simp only[bits5,enc,encs,bs,List.length_append,List.length_nil];have a1:=hd_len 0 b.typ;have a2:=hd_len 0 b.num;have a3:=hd_len 0 b.flags;have a4:=hd_len 0 b.crc;have a5:=hd_len 2 b.data.length;omega
theorem sumd_wf {l:List Itm}(h:wfs l):wfs (sumd l):=wfs_app h ⟨by show(sumL _).length≤4000;rw[sumL_len];decide,trivial⟩
theorem sumd_deep (l:List Itm)(h:1≤deeps l):deeps (sumd l)=deeps l:=by
 unfold sumd;rw[deeps_app];simp only[deeps,deep];omega
theorem sumd_len (l:List Itm):(sumd l).length=l.length+1:=by simp[sumd]
theorem pitm_wf {p:Prim}(h:p.ok):wf (pitm p):=by
 unfold pitm;split
 · exact⟨by simp[pits],pits_wf h⟩
 · exact⟨by rw[sumd_len];simp[pits],sumd_wf (pits_wf h)⟩
theorem pitm_deep (p:Prim):deep (pitm p)≤4:=by
 have h1:=pits_deep p;have h2:1≤deeps (pits p):=by simp[pits,deeps,deep];omega
 unfold pitm;split
 · rw[deep];omega
 · rw[deep,sumd_deep _ h2];omega
theorem bitm_wf {b:Blk5}(h:b.ok):wf (bitm b):=by
 unfold bitm;split
 · exact⟨by simp[bits5],bits5_wf h⟩
 · exact⟨by rw[sumd_len];simp[bits5],sumd_wf (bits5_wf h)⟩
theorem bitm_deep (b:Blk5):deep (bitm b)=2:=by
 unfold bitm;split
 · rw[deep,bits5_deep]
 · rw[deep,sumd_deep _ (by rw[bits5_deep];omega),bits5_deep]
theorem sumd_enc (l:List Itm):(encs (sumd l)).length≤(encs l).length+20:=by
 unfold sumd;rw[encs_app,List.length_append];simp only[encs,enc,bs,List.length_append,List.length_nil,sumL_len];have:=hd_len 2 2;omega
theorem bitm_len (b:Blk5):(enc (bitm b)).length≤80+b.data.length:=by
 have h1:=bits5_len b;have h2:=sumd_enc (bits5 b);unfold bitm;split<;>simp only[enc,List.length_append,if_false,Bool.false_eq_true,List.length_nil]
 · have:=hd_len 4 (bits5 b).length;omega
 · have:=hd_len 4 (sumd (bits5 b)).length;omega
theorem pitm_len (p:Prim):(enc (pitm p)).length≤400:=by
 have h1:=pits_len p;have h2:=sumd_enc (pits p);unfold pitm;split<;>simp only[enc,List.length_append,if_false,Bool.false_eq_true,List.length_nil]
 · have:=hd_len 4 (pits p).length;omega
 · have:=hd_len 4 (sumd (pits p)).length;omega
theorem bun_wf {b:Bun}(h:b.ok):wf b.itm:=by
 refine⟨by have:=h.few;simp;omega,pitm_wf h.p,?_⟩;have hl:=h.l;generalize b.l=l at hl;induction l with
 |nil=>exact trivial
 |cons x l ih=>exact⟨bitm_wf (hl x (by simp)),ih fun y hy=>hl y (by simp[hy])⟩
theorem bun_deep (b:Bun):deep b.itm≤5:=by
 have h1:=pitm_deep b.p;have h2:deeps (b.l.map bitm)≤2:=by
  generalize b.l=l;induction l with
  |nil=>simp[deeps]
  |cons x l ih=>rw[List.map_cons,deeps,bitm_deep];omega
 rw[Bun.itm,deep,deeps];omega
theorem ec_cells {w:World}{b:Nat}{e:Eid}(h:At w b (.cells (ec e) 34)):
 w.cell? ⟨b,0,none⟩=some (.int .i64 e.k)∧w.cell? ⟨b,1,none⟩=some (.string (st e.s))∧w.cell? ⟨b,2,none⟩=some (.int .u64 e.n)∧w.cell? ⟨b,3,none⟩=some (.int .u64 e.m):=by
 refine⟨?_,?_,?_,?_⟩<;>(rw[cell_of_row _ _ _ _ 34 (0,0) h];rfl)
theorem prc_cells {w:World}{b:Nat}{p:Prim}(h:At w b (.cells (prc p) 40)):
 w.cell? ⟨b,0,none⟩=some (.int .u64 p.flags)∧w.cell? ⟨b,1,none⟩=some (.int .i64 p.crc)∧w.cell? ⟨b,2,none⟩=some (.int .i64 p.dst.k)∧w.cell? ⟨b,3,none⟩=some (.string (st p.dst.s))∧w.cell? ⟨b,4,none⟩=some (.int .u64 p.dst.n)∧w.cell? ⟨b,5,none⟩=some (.int .u64 p.dst.m)∧w.cell? ⟨b,6,none⟩=some (.int .i64 p.src.k)∧w.cell? ⟨b,7,none⟩=some (.string (st p.src.s))∧w.cell? ⟨b,8,none⟩=some (.int .u64 p.src.n)∧w.cell? ⟨b,9,none⟩=some (.int .u64 p.src.m)∧w.cell? ⟨b,10,none⟩=some (.int .i64 p.rpt.k)∧w.cell? ⟨b,11,none⟩=some (.string (st p.rpt.s))∧w.cell? ⟨b,12,none⟩=some (.int .u64 p.rpt.n)∧w.cell? ⟨b,13,none⟩=some (.int .u64 p.rpt.m)∧w.cell? ⟨b,14,none⟩=some (.int .u64 p.time)∧w.cell? ⟨b,15,none⟩=some (.int .u64 p.seq)∧w.cell? ⟨b,16,none⟩=some (.int .u64 p.life)∧w.cell? ⟨b,17,none⟩=some (.int .u64 0)∧w.cell? ⟨b,18,none⟩=some (.int .u64 0):=by
 refine⟨?_,?_,?_,?_,?_,?_,?_,?_,?_,?_,?_,?_,?_,?_,?_,?_,?_,?_,?_⟩<;>(rw[cell_of_row _ _ _ _ 40 (0,0) h];rfl)
theorem blc_cells {w:World}{b:Nat}{x:Blk5}(h:At w b (.cells (blc x) 136)):
 w.cell? ⟨b,0,none⟩=some (.int .i64 x.typ)∧w.cell? ⟨b,1,none⟩=some (.int .i64 x.num)∧w.cell? ⟨b,2,none⟩=some (.int .u64 x.flags)∧w.cell? ⟨b,3,none⟩=some (.int .i64 x.crc)∧w.cell? ⟨b,4,none⟩=some (.string (st x.data)):=by
 refine⟨?_,?_,?_,?_,?_⟩<;>(rw[cell_of_row _ _ _ _ 136 (0,0) h];rfl)
theorem bunc_cells {w:World}{b:Nat}{p:Prim}{l:Value}(h:At w b (.cells (bunc p l) 43)):
 w.cell? ⟨b,0,none⟩=some (.int .u64 p.flags)∧w.cell? ⟨b,1,none⟩=some (.int .i64 p.crc)∧w.cell? ⟨b,2,none⟩=some (.int .i64 p.dst.k)∧w.cell? ⟨b,3,none⟩=some (.string (st p.dst.s))∧w.cell? ⟨b,4,none⟩=some (.int .u64 p.dst.n)∧w.cell? ⟨b,5,none⟩=some (.int .u64 p.dst.m)∧w.cell? ⟨b,6,none⟩=some (.int .i64 p.src.k)∧w.cell? ⟨b,7,none⟩=some (.string (st p.src.s))∧w.cell? ⟨b,8,none⟩=some (.int .u64 p.src.n)∧w.cell? ⟨b,9,none⟩=some (.int .u64 p.src.m)∧w.cell? ⟨b,10,none⟩=some (.int .i64 p.rpt.k)∧w.cell? ⟨b,11,none⟩=some (.string (st p.rpt.s))∧w.cell? ⟨b,12,none⟩=some (.int .u64 p.rpt.n)∧w.cell? ⟨b,13,none⟩=some (.int .u64 p.rpt.m)∧w.cell? ⟨b,14,none⟩=some (.int .u64 p.time)∧w.cell? ⟨b,15,none⟩=some (.int .u64 p.seq)∧w.cell? ⟨b,16,none⟩=some (.int .u64 p.life)∧w.cell? ⟨b,17,none⟩=some (.int .u64 0)∧w.cell? ⟨b,18,none⟩=some (.int .u64 0)∧w.cell? ⟨b,19,none⟩=some l:=by
 refine⟨?_,?_,?_,?_,?_,?_,?_,?_,?_,?_,?_,?_,?_,?_,?_,?_,?_,?_,?_,?_⟩<;>(rw[cell_of_row _ _ _ _ 43 (0,0) h];rfl)
theorem ec_one (e:Eid):(ec e).all (·.oneCell')=true:=by simp[ec,Value.oneCell']
theorem prc_one (p:Prim):(prc p).all (·.oneCell')=true:=by simp[prc,Value.oneCell']
theorem blc_one (x:Blk5):(blc x).all (·.oneCell')=true:=by simp[blc,Value.oneCell']
theorem bunc_one (p:Prim)(a:Option Addr)(n c:Nat):(bunc p (.slice a n c)).all (·.oneCell')=true:=by simp[bunc,Value.oneCell']
theorem At.kp {w w':World}{b:Nat}{o:Obj}(h:At w b o)(hu:Below w.heap.size w w'):At w' b o:=h.keep hu
theorem IsI.kp {w w':World}{cs:Array Value}{x:Itm}(h:IsI w cs x)(hu:Below w.heap.size w w'):IsI w' cs x:=IsI.keep hu x cs h
theorem IsR.kp {w w':World}{a:Option Addr}{l:List Blk5}(h:IsR w a l)(hu:Below w.heap.size w w'):IsR w' a l:=h.keep hu
theorem IsB.kp {w w':World}{cs:Array Value}{b:Bun}(h:IsB w cs b)(hu:Below w.heap.size w w'):IsB w' cs b:=h.keep hu
theorem mk1 (w:World)(cs:Array Value)(t:TypeId):∃w1,w1=w.alloc (.cells cs t)∧Below w.heap.size w w1∧At w1 w.heap.size (.cells cs t):=
 ⟨_,rfl,(Below.refl w.heap.size w).alloc (Nat.le_refl _) _,heap_new w _⟩
theorem mk2 (w:World)(cs:Array Value)(t:TypeId)(ds:Array Value)(t2:TypeId):∃w1,w1=(w.alloc (.cells cs t)).alloc (.cells ds t2)∧Below w.heap.size w w1∧At w1 w.heap.size (.cells cs t)∧At w1 (w.heap.size+1) (.cells ds t2):=by
 obtain⟨w1,rfl,hu,ha⟩:=mk1 w cs t;obtain⟨w2,rfl,hu2,ha2⟩:=mk1 (w.alloc (.cells cs t)) ds t2;rw[World.size_alloc]at ha2;exact⟨_,rfl,hu.trans (hu2.mono hu.size),ha.kp hu2,ha2⟩
theorem mk3 (w:World)(cs:Array Value)(t:TypeId)(ds:Array Value)(t2:TypeId)(es:Array Value)(t3:TypeId):∃w1,w1=((w.alloc (.cells cs t)).alloc (.cells ds t2)).alloc (.cells es t3)∧Below w.heap.size w w1∧At w1 w.heap.size (.cells cs t)∧At w1 (w.heap.size+1) (.cells ds t2)∧At w1 (w.heap.size+2) (.cells es t3):=by
 obtain⟨w1,rfl,hu,ha,hb⟩:=mk2 w cs t ds t2;obtain⟨w2,rfl,hu2,ha2⟩:=mk1 ((w.alloc (.cells cs t)).alloc (.cells ds t2)) es t3;rw[World.size_alloc,World.size_alloc]at ha2;exact⟨_,rfl,hu.trans (hu2.mono hu.size),ha.kp hu2,hb.kp hu2,ha2⟩
end
end Go.Proofs.YtlhlmflacdeafaaGreatDoor
