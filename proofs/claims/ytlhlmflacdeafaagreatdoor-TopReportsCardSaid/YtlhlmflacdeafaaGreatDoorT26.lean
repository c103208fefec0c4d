/-
  A part of the walk of TopReports.
-/
import Derived.Test.YtlhlmflacdeafaaGreatDoorT25
import Derived.WideMake
set_option maxRecDepth 100000
set_option maxHeartbeats 4000000
set_option linter.unusedVariables false
set_option linter.unusedSimpArgs false
namespace Go.Proofs.YtlhlmflacdeafaaGreatDoor
section
open Go.Conc Go.RowKit
def RowIs (w:World)(base:Nat)(e:TypeId)(size:Nat)(v:Value)(n:Nat)(xs:List Value):Prop:=w.ownsRow base e size v n xs
section
variable {w w':World} {base n size:Nat} {e:TypeId} {v:Value} {xs:List Value} {S:Nat→Prop}
theorem RowIs.kp (h:RowIs w base e size v n xs)(hb:Below w.heap.size w w'):RowIs w' base e size v n xs:=row_keep h hb
theorem RowIs.upd (h:RowIs w base e size v n xs)(hu:Upd S w w')(hn:∀k,v.ownBlock=some k→¬S k):RowIs w' base e size v n xs:=row_upd h hu hn
end
theorem Cnt.at {q:IntKind}{k:TypeId}{w:World}{M n:Nat}{f:Nat→Nat}(h:Cnt q k w M n f):∃es c,At w M (.map es c):=by
 obtain⟨D,⟨es,clock,hb,-⟩,-⟩:=h;exact⟨es,clock,hb⟩
structure Nd where
 (lo hi A:Nat)
 a:Ag
def Fresh (a:Ag)(i n:Nat):Prop:=a.i=i∧a.n=n∧a.now=100∧a.seq=0∧a.giv=nS∧a.l0=[]∧a.l1=[]∧a.seen=nS
def Typed (w:World)(k:Nat):Prop:=∃cs t,At w k (.cells cs t)∧(t=34∨t=85∨t=86)
section
variable {lo hi A:Nat} {w w':World} {a:Ag} {S:Nat→Prop}
theorem AgOk.updT (h:AgOk lo hi w A a)(hu:Upd S w w')(hn:∀k,S k→Typed w k):AgOk lo hi w' A a:=by
 obtain⟨cur,r1,r2⟩:=h.rts;have qc:∀{b:Nat} {cs:Array Value} {t:TypeId},At w b (.cells cs t)→t≠34→t≠85→t≠86→¬S b:=fun {b cs t} hb h1 h2 h3 hS=>by
  obtain⟨ds,u,hk,hu⟩:=hn b hS;rcases hu with rfl|rfl|rfl
  · exact hk.cne hb (Ne.symm h1) rfl
  · exact hk.cne hb (Ne.symm h2) rfl
  · exact hk.cne hb (Ne.symm h3) rfl
 have ql:∀{b k:Nat} {l:List Value},Lane w b k l→¬S b:=fun {b k l} hb hS=>by
  obtain⟨ds,u,hk,-⟩:=hn b hS;exact hb.ne hk rfl
 have qm:∀{b c:Nat} {es:Array MapEntry},At w b (.map es c)→¬S b:=fun {b c es} hb hS=>by
  obtain⟨ds,u,hk,-⟩:=hn b hS;exact hk.mne hb rfl
 exact⟨h.ag.upd hu (qc h.ag (by decide) (by decide) (by decide)),h.box.upd hu (qc h.box (by decide) (by decide) (by decide)),h.l0.upd hu (ql h.l0),h.l1.upd hu (ql h.l1),h.tab.upd hu (qc h.tab (by decide) (by decide) (by decide)),
  h.joi.upd hu (qc h.joi (by decide) (by decide) (by decide)),h.jt.upd hu (qc h.jt (by decide) (by decide) (by decide)),h.map.upd hu (qm h.map),⟨cur,r1.upd hu (qc r1 (by decide) (by decide) (by decide)),r2⟩,h.rc,h.ne,h.i8,h.now,h.lo⟩
end
def AgsAt (w:World)(L:Nat→Nd)(j n b:Nat):Prop:=
 (∀t,t<j→AgOk (L t).lo (L t).hi w (L t).A (L t).a∧Fresh (L t).a t n∧b≤(L t).lo∧(L t).hi≤w.heap.size)∧∀t k,t<k→k<j→(L t).hi≤(L k).lo
section
variable {w w':World} {L:Nat→Nd} {j n b:Nat} {S:Nat→Prop}
theorem AgsAt.kp (h:AgsAt w L j n b)(hb:Below w.heap.size w w'):AgsAt w' L j n b:=
 ⟨fun t ht=>⟨(h.1 t ht).1.kp hb,(h.1 t ht).2.1,(h.1 t ht).2.2.1,Nat.le_trans (h.1 t ht).2.2.2 hb.size⟩,h.2⟩
theorem AgsAt.low (h:AgsAt w L j n b)(hu:Upd S w w')(hn:∀k,S k→k<b):AgsAt w' L j n b:=
 ⟨fun t ht=>⟨(h.1 t ht).1.upd hu (fun k hk=> .inl (Nat.lt_of_lt_of_le (hn k hk) (h.1 t ht).2.2.1)),(h.1 t ht).2.1,(h.1 t ht).2.2.1,Nat.le_trans (h.1 t ht).2.2.2 hu.size⟩,h.2⟩
theorem AgsAt.typ (h:AgsAt w L j n b)(hu:Upd S w w')(hn:∀k,S k→Typed w k):AgsAt w' L j n b:=
 ⟨fun t ht=>⟨(h.1 t ht).1.updT hu hn,(h.1 t ht).2.1,(h.1 t ht).2.2.1,Nat.le_trans (h.1 t ht).2.2.2 hu.size⟩,h.2⟩
def put1 (L:Nat→Nd)(j:Nat)(x:Nd)(t:Nat):Nd:=if t=j then x else L t
theorem put1_at (L:Nat→Nd)(j:Nat)(x:Nd):put1 L j x j=x:=if_pos rfl
theorem put1_ne (L:Nat→Nd){j t:Nat}(x:Nd)(h:t≠j):put1 L j x t=L t:=if_neg h
theorem AgsAt.add (h:AgsAt w L j n b)(x:Nd)(hx:AgOk x.lo x.hi w x.A x.a)(hf:Fresh x.a j n)(hb:b≤x.lo)(hh:x.hi≤w.heap.size)(hl:∀t,t<j→(L t).hi≤x.lo):AgsAt w (put1 L j x) (j+1) n b:=by
 refine⟨fun t ht=>?_,fun t k htk hk=>?_⟩
 · rcases Nat.lt_succ_iff_lt_or_eq.1 ht with q|rfl
   · rw[put1_ne L x (by omega)];exact h.1 t q
   · rw[put1_at];exact⟨hx,hf,hb,hh⟩
 · rw[put1_ne L x (show t≠j by omega)];rcases Nat.lt_succ_iff_lt_or_eq.1 hk with q|rfl
   · rw[put1_ne L x (show k≠j by omega)];exact h.2 t k htk q
   · rw[put1_at];exact hl t htk
end
def pts (L:Nat→Nd)(j:Nat):List Value:=(List.range j).map fun t=> .pointer (some ⟨(L t).A,0,none⟩)
theorem pts_add (L:Nat→Nd)(j:Nat)(x:Nd):pts (put1 L j x) (j+1)=pts L j++[.pointer (some ⟨x.A,0,none⟩)]:=by
 unfold pts;rw[List.range_succ,List.map_append];congr 1
 · refine List.map_congr_left fun t ht=>?_;rw[put1_ne L x (by have:=List.mem_range.1 ht;omega)]
 · simp[put1_at]
def CfAt (w:World)(cc:Array Value)(n:Nat):Prop:=∀t,t<n→∃kb ro rc cur,(∀i v,(cfc t t kb 3 ro (rts t n).length rc 100).toList[i]? =some v→cc.toList[t*10+i]? =some v)∧
 At w kb (.cells ky6 186)∧At w ro (.cells cur 103)∧cur.toList.take ((rts t n).length*9)=((rts t n).flatMap fun r=>(rtc r).toList)∧(rts t n).length≤rc
theorem cf_at {w:World}{g:Nat}{cc cs:Array Value}{t:Nat}(h:At w g (.cells cc 72))(hc:∀i v,cs.toList[i]? =some v→cc.toList[t*10+i]? =some v):w.rangeAt g (0+t*10) cs.toList:=fun i v hv=>by
 rw[cell_of_row _ _ _ _ 72 (0,0) h,Nat.zero_add, ←Array.getElem?_toList];exact hc i v hv
structure WOk (n W:Nat) (L:Nat→Nd) (out:Value) (w:World):Prop where
 wb:∃ga gn cn gl cl c1 c2,At w W (.cells #[.pointer ga,.slice (some ⟨gn,0,none⟩) n cn,.slice (some ⟨gl,0,none⟩) n cl,out] 85)∧At w gn (.cells c1 34)∧c1.toList.take (n*4)=ecs n∧At w gl (.cells c2 86)∧c2.toList.take n=pts L n∧n≤cn∧n≤cl
 ag:∀t,t<n→AgOk (L t).lo (L t).hi w (L t).A (L t).a∧(L t).a.i=t∧(L t).a.n=n
 ap:∀t k,t<k→k<n→(L t).hi≤(L k).lo
end
section
open Go.Conc Go.RowKit
instance :Inhabited Ag:=⟨⟨0,0,0,nS,0,0,0,none,none,0,0,0,0,0,0,0,0,0,nS,[],[],nS⟩⟩
theorem World_any (n gc cp:Nat)(cc:Array Value)(w:World)(hn1:1≤n)(hn:n≤4)(hcp:n≤cp)(hg:At w gc (.cells cc 72))(hc:CfAt w cc n):
 Calls Tryz.prog 22 #[.agg #[.bool true,.slice (some ⟨gc,0,none⟩) n cp]] w fun e_ w'=>∃WB L,e_= .returned (.tuple #[.pointer (some ⟨WB,0,none⟩),.int .i64 0])∧WOk n WB L nS w'∧((∀t,t<n→Fresh (L t).a t n)∧(∀t,t<n→w.heap.size≤(L t).lo)∧w.heap.size≤WB)∧Below w.heap.size w w':=by
 have HN:=hid (And.intro hn1 (And.intro hn hcp));have HG:=hid (And.intro hg hc);have hn4:(n:Int)≤4:=by omega
 have hn0:1≤(n:Int):=by omega
 have hnc:(n:Int)≤(cp:Int):=by omega
 clear hn hn1 hcp hg hc;have hz72:=zero72;obtain⟨w1,HE,U0,P'⟩:=mH1 w (#[.bool true,.slice (some ⟨gc,0,none⟩) n cp]) 66;go_enter Tryz.func22,Tryz.ntmps22;go_upto_region 1 with(fail);rw[←HE.out];clear HE;go_wp2_with fail;refine(ereal w1).mono ?_;rintro e_ w_1 ⟨ga0,rfl,hb⟩;replace P':=hid (P'.out.kp hb);have U':=tR U0 hb;clear U0;clear hb;go_upto_region 2 with fail;have HW0:=hid (U'.out.size);obtain⟨w_4,he,hb,hk⟩:=mk1 w_1 (#[.pointer ga0,nS,nS,nS]) 85;rw[←he];clear he;replace P':=hid (P'.out.kp hb);replace U':=tR U' hb;have W':=hid hk;clear hb hk;have HWL:=hid (show w.heap.size≤w_1.heap.size from by have:=HW0.out;omega);generalize hwb:w_1.heap.size=WB at*;obtain⟨c0,c1⟩:=c66_cells P'.out;go_wp2_with fail;refine(eideal w_4).mono ?_;rintro e_ w_8 ⟨ga,rfl,hb⟩;replace P':=hid (P'.out.kp hb);replace W':=hid (W'.out.kp hb);replace U':=tR U' hb;clear hb;clear c0 c1;have x0:=(wcell W'.out).1;have f0:=frozen_of_row w_8 WB 0 _ 85 W'.out;go_upto_region 4 with fail;clear x0 f0;have HNE:=hid ((P'.out).cne (W'.out) (by decide));have HWL2:=hid (show w.heap.size≤WB from HWL.out);clear HWL;have hwl:=HWL2.out;have hu:=upd_setCell w_8 ⟨WB,0,none⟩ (.pointer ga);have he:At (w_8.setCell ⟨WB,0,none⟩ (.pointer ga)) (WB) (.cells (#[.pointer ga,nS,nS,nS]) 85):=At.setc W'.out 0 _;generalize World.setCell w_8 ⟨WB,0,none⟩ (.pointer ga)=w_13 at*;replace P':=hid (P'.out.upd hu (HNE.out));replace W':=hid (he);replace U':=hid (U'.out.trans (hu.below U'.out.size (fun k e=>by have e:k=WB:=e;omega)));clear hu he;clear hwl;have hmm:=@run_makeMap Tryz.prog;go_upto_region 5 with fail;clear hmm;have hM0:=Cnt.made (q:= .u64) (k:=32) w_13;have hb:=(Below.refl w_13.heap.size w_13).alloc (Nat.le_refl _) (.map #[] 0);have HML:=hid (show w.heap.size≤w_13.heap.size from(U'.out).size);generalize hmb:w_13.heap.size=MB at*;generalize w_13.alloc (.map #[] 0)=wm at*;have hb:Below w_13.heap.size w_13 wm:=by rw[hmb];exact hb
 clear hmb;replace P':=hid (P'.out.kp hb);replace W':=hid (W'.out.kp hb);replace U':=tR U' hb;have M':=hid (hM0);clear hb hM0;obtain⟨c0,c1⟩:=c66_cells P'.out;go_wp2_with fail;clear c0 c1;go_loopw [23] (fun i wr=>∃(j:Nat) (vn vl:Value) (L:Nat→Nd),j≤n∧i= .int .i64 j∧At wr WB (.cells (#[.pointer ga,vn,vl,nS]) 85)∧RowIs wr w.heap.size 34 4 vn j (ecs j)∧RowIs wr w.heap.size 86 1 vl j (pts L j)∧Cnt .u64 32 wr MB j (upto j)∧AgsAt wr L j n (MB+1)∧Below w.heap.size w wr) (fun i _=>n-(intOf i).toNat);case atStart=>exact⟨0,nS,nS,fun _=>⟨0,0,0,default⟩,Nat.zero_le _,rfl,W'.out,rowZ _ _ _ _,rowZ _ _ _ _,by rw[show upto 0=fun _=>0 from by funext x;simp[upto]];exact M'.out,⟨fun t h=>absurd h (Nat.not_lt_zero _),fun t k _ h=>absurd h (Nat.not_lt_zero _)⟩,U'.out⟩
 case round=>
  obtain⟨j,vn,vl,L,hj,rfl,hW,hN,hL,hM,hA,hu⟩:=hrel;have U9:=hid hu;have W9:=hid hW;have N9:=hid hN;have L9:=hid hL;have M9:=hid hM;have A9:=hid hA;clear hu hW hN hL hM hA;by_cases hjn:j<n
  · have HJ:=hid hjn;have HJ4:=hid (show j≤4 from by have:=HN.out.2.1;omega);have hj0:(j:Int)<(n:Int):=by omega
    have HMT:=hid M9.out.lt;have HAT:=hid (fun t ht=>(A9.out.1 t ht).2.2.2);have UB:=hid (Below.refl wr.heap.size wr);obtain⟨kb,ro,rc,cur,hcc,hkb,hro,hcur,hrc⟩:=HG.out.2 j hjn;have rj:=cf_at (HG.out.1.kp U9.out) hcc;have HK:=hid (hkb.kp U9.out);have HR:=hid (hro.kp U9.out);have HR2:=hid (And.intro hcur hrc);clear hj hjn hcc hkb hro hcur hrc;go_upto_region 8 with(first|(refine sV 72 7 26 (cfc j j kb 3 ro (rts j n).length rc 100) (size72 rfl) (cfc_one ..) ?_;intro w_501 hb hk)|refine wpList_load_mid rfl 72 (.tmp 25) rfl gc (0+j*10) (by first|rfl|simp[Act.eval]) (cfc j j kb 3 ro (rts j n).length rc 100).toList _ rj Tryz.underlying72 rfl (size72 rfl) ?_);replace W':=hid (W9.out.kp hb);have N':=hid (N9.out.kp hb);have L':=hid (L9.out.kp hb);replace M':=hid (M9.out.kp hb);have G':=hid (A9.out.kp hb);have K':=hid (HK.out.kp hb);have R':=hid (HR.out.kp hb);replace U':=tR UB hb;clear W9 N9 L9 M9 A9 HK HR UB;have X':=hid hk;clear hb hk;clear rj;have HSV:=hid ((U'.out).size);go_upto_region 8 with(fail);refine ent (C:=rg Tryz.f22 8) (by kernel_rfl) ?_;refine wnew_r8 WB (wr.heap.size) j n kb ro rc cur ga vn vl _ _ W'.out X'.out K'.out R'.out HR2.out.1 HR2.out.2 HJ.out HN.out.2.1 ?_;intro y27 y28 y29 y30 y31 y32 y33 y34 y35 A a w6 hO hF hb;replace W':=hid (W'.out.kp hb);replace N':=hid (N'.out.kp hb);replace L':=hid (L'.out.kp hb);replace M':=hid (M'.out.kp hb);replace G':=hid (G'.out.kp hb);replace K':=hid (K'.out.kp hb);replace R':=hid (R'.out.kp hb);replace X':=hid (X'.out.kp hb);replace U':=tR U' hb;have GA:=hid (show AgsAt w6 (put1 L j ⟨w_501.heap.size,w6.heap.size,A,a⟩) (j+1) n (MB+1)from(G'.out).add ⟨w_501.heap.size,w6.heap.size,A,a⟩ hO hF (by have h1:=HMT.out;have h2:=HSV.out;show MB+1≤w_501.heap.size;omega) (Nat.le_refl _) (fun t ht=>Nat.le_trans (HAT.out t ht) HSV.out));clear hO hF hb;go_upto_region 9 with(fail);refine ent (C:=rg Tryz.f22 9) (by kernel_rfl) ?_;refine wnew_r9 WB (wr.heap.size) MB j n kb ro rc w.heap.size ga vn vl _ _ W'.out X'.out M'.out N'.out HJ4.out ?_;intro y36 y37 y38 y39 y40 y41 y42 y43 y44 y45 y46 y47 y48 y49 y50 y51 y52 w7 hb;replace W':=hid (W'.out.kp hb);replace N':=hid (N'.out.kp hb);replace L':=hid (L'.out.kp hb);replace M':=hid (M'.out.kp hb);replace G':=hid (GA.out.kp hb);replace K':=hid (K'.out.kp hb);replace R':=hid (R'.out.kp hb);replace X':=hid (X'.out.kp hb);replace U':=tR U' hb;clear GA;clear hb;have hl:=wseen M'.out (by have:=HJ4.out;omega);obtain⟨wn,hs,hm,hu⟩:=(M'.out).set (t:=105) Tryz.underlying32 Tryz.underlying105 (by have:=HJ4.out;omega) j 1 (wf_small j (by have:=HJ4.out;omega)) (wf_nat 1 (by decide));rw[upto_put]at hm;rw[show((1:Nat):Int)=1 from rfl]at hs;have x4:=cfc_cell X'.out 4 (.int .u64 j) rfl;go_upto_region 12 with(refine wpList_mapUpdate_run rfl _ _ _ 105 rfl (.map (some MB)) (.int .u64 j) (.int .i64 1) rfl rfl rfl hs ?_);obtain⟨es,ck,hmp⟩:=(M'.out).at;have W10:=hid ((W'.out).upd hu ((W'.out).mne hmp));have X10:=hid ((X'.out).upd hu ((X'.out).mne hmp))
    have N10:=hid ((N'.out).upd hu (fun k hk e=>by obtain⟨_,h1,-⟩:=own_at N'.out hk;exact h1.mne hmp e));have L10:=hid ((L'.out).upd hu (fun k hk e=>by obtain⟨_,h1,-⟩:=own_at L'.out hk;exact h1.mne hmp e));have G10:=hid ((G'.out).low hu (fun k e=>by have e:k=MB:=e;omega));have M10:=hid hm;have U10:=hid ((U9.out.trans ((U'.out).mono U9.out.size)).trans (hu.below (Nat.le_trans U9.out.size (U'.out).size) (fun k e=>by have e:k=MB:=e;rw[e];exact HML.out)));have HBW:=hid (show w.heap.size≤wn.heap.size from U10.out.size);clear hl hs hm hu x4 hmp;clear W' N' L' M' G' K' R' X' U';go_upto_region 12 with(fail);refine ent (C:=rg Tryz.f22 12) (by kernel_rfl) ?_;refine wnew_r12 WB (wr.heap.size) A j j kb 3 ro (rts j n).length rc w.heap.size ga vn vl (pts L j) _ _ W10.out X10.out N10.out L10.out HJ4.out HBW.out ?_;intro y59 y60 y61 y62 y63 y64 y65 y66 y67 y68 y69 y70 y71 y72 y73 y74 y75 y76 y77 y78 y79 v1 v2 w9 hu hW hN hL;have hty:∀k,(SO vn vl k∨k=WB)→Typed wn k:=fun k hk=>by
     rcases hk with(h|h)|rfl
     · obtain⟨cur,h1,-⟩:=own_at N10.out h.symm;exact⟨_,_,h1,.inl rfl⟩
     · obtain⟨cur,h1,-⟩:=own_at L10.out h.symm;exact⟨_,_,h1,.inr (.inr rfl)⟩
     · exact⟨_,_,W10.out,.inr (.inl rfl)⟩
    have hG:=(G10.out).typ hu hty;have hM:=(M10.out).upd hu (fun h=>by obtain⟨es,ck,hmp⟩:=(M10.out).at;obtain⟨cs,t,h1,-⟩:=hty _ h;exact h1.mne hmp rfl);have hU:=(U10.out).trans (hu.below (U10.out).size (fun k h=>by
     rcases h with(h|h)|rfl
     · exact(own_at N10.out h.symm).choose_spec.2
     · exact(own_at L10.out h.symm).choose_spec.2
     · exact HWL2.out))
    have HHH:=hid (And.intro hW (And.intro hN (And.intro hL (And.intro hM (And.intro hG hU)))));clear hW hN hL hM hG hU hty hu;go_wp2_with fail;obtain⟨hW,hN,hL,hM,hG,hU⟩:=HHH.out;go_roundw;case rel=>exact⟨j+1,v1,v2,(put1 L j ⟨w_501.heap.size,w6.heap.size,A,a⟩),by have:=HJ.out;omega,by go_num,hW,by rw[ecs_succ];exact hN,by rw[pts_add];exact hL,hM,hG,hU⟩
    case measure=>simp[intOf];have:=HJ.out;omega
  · obtain rfl:j=n:=by omega
    have hj9:¬(j:Int)<(j:Int):=by omega
    obtain⟨g1,cp1,hv⟩:∃g cp,vn= .slice (some ⟨g,0,none⟩) j cp:=by
     rcases N9.out.2 with⟨-,h⟩|⟨g,cap,cur,h,-⟩
     · exact absurd h (by have:=HN.out.1;omega)
     · exact⟨g,cap,h⟩
    obtain⟨g2,cp2,hv2⟩:∃g cp,vl= .slice (some ⟨g,0,none⟩) j cp:=by
     rcases L9.out.2 with⟨-,h⟩|⟨g,cap,cur,h,-⟩
     · exact absurd h (by have:=HN.out.1;omega)
     · exact⟨g,cap,h⟩
    subst hv hv2;have x2:=(wcell W9.out).2.2.1;have hl1:¬(j:Int)<1:=by omega
    have hl4:¬4<(j:Int):=by omega
    go_wp2_with fail;go_ret2;have hN:=N9.out;have hL:=L9.out;rcases hN.2 with⟨h,-⟩|⟨g,cap,cur,h,h1,h2,h3,-,-,h4⟩
    · cases h
    rcases hL.2 with⟨k,-⟩|⟨gk,capk,curk,k,k1,k2,k3,-,-,k4⟩
    · cases k
    injection h with h5 h6 h7
    injection h5 with h5
    injection h5 with h5
    injection k with k5 k6 k7
    injection k5 with k5
    injection k5 with k5
    subst h5 h7 k5 k7;refine⟨WB,rfl,L,⟨⟨ga,g1,cp1,g2,cp2,cur,curk,W9.out,h2,h4,k2,by have:=k4;rw[Nat.mul_one]at this;exact this,h3,k3⟩,fun t ht=>⟨((A9.out).1 t ht).1,((A9.out).1 t ht).2.1.1,((A9.out).1 t ht).2.1.2.1⟩,(A9.out).2⟩,⟨fun t ht=>((A9.out).1 t ht).2.1,fun t ht=>Nat.le_trans (Nat.le_trans HML.out (Nat.le_succ _)) ((A9.out).1 t ht).2.2.1,HWL2.out⟩,U9.out⟩
theorem World_real (n gc cp:Nat)(cc:Array Value)(w:World)(hn1:1≤n)(hn:n≤4)(hcp:n≤cp)(hg:At w gc (.cells cc 72))(hc:CfAt w cc n):
 Calls Tryz.prog 22 #[.agg #[.bool false,.slice (some ⟨gc,0,none⟩) n cp]] w fun e_ w'=>∃WB L,e_= .returned (.tuple #[.pointer (some ⟨WB,0,none⟩),.int .i64 0])∧WOk n WB L nS w'∧((∀t,t<n→Fresh (L t).a t n)∧(∀t,t<n→w.heap.size≤(L t).lo)∧w.heap.size≤WB)∧Below w.heap.size w w':=by
 have HN:=hid (And.intro hn1 (And.intro hn hcp));have HG:=hid (And.intro hg hc);have hn4:(n:Int)≤4:=by omega
 have hn0:1≤(n:Int):=by omega
 have hnc:(n:Int)≤(cp:Int):=by omega
 clear hn hn1 hcp hg hc;have hz72:=zero72;obtain⟨w1,HE,U0,P'⟩:=mH1 w (#[.bool false,.slice (some ⟨gc,0,none⟩) n cp]) 66;go_enter Tryz.func22,Tryz.ntmps22;go_upto_region 1 with(fail);rw[←HE.out];clear HE;go_wp2_with fail;refine(ereal w1).mono ?_;rintro e_ w_1 ⟨ga0,rfl,hb⟩;replace P':=hid (P'.out.kp hb);have U':=tR U0 hb;clear U0;clear hb;go_upto_region 2 with fail;have HW0:=hid (U'.out.size);obtain⟨w_4,he,hb,hk⟩:=mk1 w_1 (#[.pointer ga0,nS,nS,nS]) 85;rw[←he];clear he;replace P':=hid (P'.out.kp hb);replace U':=tR U' hb;have W':=hid hk;clear hb hk;have HWL:=hid (show w.heap.size≤w_1.heap.size from by have:=HW0.out;omega);generalize hwb:w_1.heap.size=WB at*;obtain⟨c0,c1⟩:=c66_cells P'.out;have HWL2:=hid (show w.heap.size≤WB from HWL.out);clear HWL;have hmm:=@run_makeMap Tryz.prog;go_upto_region 5 with fail;clear hmm c0 c1;have hM0:=Cnt.made (q:= .u64) (k:=32) w_4;have hb:=(Below.refl w_4.heap.size w_4).alloc (Nat.le_refl _) (.map #[] 0);have HML:=hid (show w.heap.size≤w_4.heap.size from(U'.out).size);generalize hmb:w_4.heap.size=MB at*;generalize w_4.alloc (.map #[] 0)=wm at*;have hb:Below w_4.heap.size w_4 wm:=by rw[hmb];exact hb
 clear hmb;replace P':=hid (P'.out.kp hb);replace W':=hid (W'.out.kp hb);replace U':=tR U' hb;have M':=hid (hM0);clear hb hM0;obtain⟨c0,c1⟩:=c66_cells P'.out;go_wp2_with fail;clear c0 c1;go_loopw [23] (fun i wr=>∃(j:Nat) (vn vl:Value) (L:Nat→Nd),j≤n∧i= .int .i64 j∧At wr WB (.cells (#[.pointer ga0,vn,vl,nS]) 85)∧RowIs wr w.heap.size 34 4 vn j (ecs j)∧RowIs wr w.heap.size 86 1 vl j (pts L j)∧Cnt .u64 32 wr MB j (upto j)∧AgsAt wr L j n (MB+1)∧Below w.heap.size w wr) (fun i _=>n-(intOf i).toNat);case atStart=>exact⟨0,nS,nS,fun _=>⟨0,0,0,default⟩,Nat.zero_le _,rfl,W'.out,rowZ _ _ _ _,rowZ _ _ _ _,by rw[show upto 0=fun _=>0 from by funext x;simp[upto]];exact M'.out,⟨fun t h=>absurd h (Nat.not_lt_zero _),fun t k _ h=>absurd h (Nat.not_lt_zero _)⟩,U'.out⟩
 case round=>
  obtain⟨j,vn,vl,L,hj,rfl,hW,hN,hL,hM,hA,hu⟩:=hrel;have U9:=hid hu;have W9:=hid hW;have N9:=hid hN;have L9:=hid hL;have M9:=hid hM;have A9:=hid hA;clear hu hW hN hL hM hA;by_cases hjn:j<n
  · have HJ:=hid hjn;have HJ4:=hid (show j≤4 from by have:=HN.out.2.1;omega);have hj0:(j:Int)<(n:Int):=by omega
    have HMT:=hid M9.out.lt;have HAT:=hid (fun t ht=>(A9.out.1 t ht).2.2.2);have UB:=hid (Below.refl wr.heap.size wr);obtain⟨kb,ro,rc,cur,hcc,hkb,hro,hcur,hrc⟩:=HG.out.2 j hjn;have rj:=cf_at (HG.out.1.kp U9.out) hcc;have HK:=hid (hkb.kp U9.out);have HR:=hid (hro.kp U9.out);have HR2:=hid (And.intro hcur hrc);clear hj hjn hcc hkb hro hcur hrc;go_upto_region 8 with(first|(refine sV 72 7 26 (cfc j j kb 3 ro (rts j n).length rc 100) (size72 rfl) (cfc_one ..) ?_;intro w_501 hb hk)|refine wpList_load_mid rfl 72 (.tmp 25) rfl gc (0+j*10) (by first|rfl|simp[Act.eval]) (cfc j j kb 3 ro (rts j n).length rc 100).toList _ rj Tryz.underlying72 rfl (size72 rfl) ?_);replace W':=hid (W9.out.kp hb);have N':=hid (N9.out.kp hb);have L':=hid (L9.out.kp hb);replace M':=hid (M9.out.kp hb);have G':=hid (A9.out.kp hb);have K':=hid (HK.out.kp hb);have R':=hid (HR.out.kp hb);replace U':=tR UB hb;clear W9 N9 L9 M9 A9 HK HR UB;have X':=hid hk;clear hb hk;clear rj;have HSV:=hid ((U'.out).size);go_upto_region 8 with(fail);refine ent (C:=rg Tryz.f22 8) (by kernel_rfl) ?_;refine wnew_r8 WB (wr.heap.size) j n kb ro rc cur ga0 vn vl _ _ W'.out X'.out K'.out R'.out HR2.out.1 HR2.out.2 HJ.out HN.out.2.1 ?_;intro y27 y28 y29 y30 y31 y32 y33 y34 y35 A a w6 hO hF hb;replace W':=hid (W'.out.kp hb);replace N':=hid (N'.out.kp hb);replace L':=hid (L'.out.kp hb);replace M':=hid (M'.out.kp hb);replace G':=hid (G'.out.kp hb);replace K':=hid (K'.out.kp hb);replace R':=hid (R'.out.kp hb);replace X':=hid (X'.out.kp hb);replace U':=tR U' hb;have GA:=hid (show AgsAt w6 (put1 L j ⟨w_501.heap.size,w6.heap.size,A,a⟩) (j+1) n (MB+1)from(G'.out).add ⟨w_501.heap.size,w6.heap.size,A,a⟩ hO hF (by have h1:=HMT.out;have h2:=HSV.out;show MB+1≤w_501.heap.size;omega) (Nat.le_refl _) (fun t ht=>Nat.le_trans (HAT.out t ht) HSV.out));clear hO hF hb;go_upto_region 9 with(fail);refine ent (C:=rg Tryz.f22 9) (by kernel_rfl) ?_;refine wnew_r9 WB (wr.heap.size) MB j n kb ro rc w.heap.size ga0 vn vl _ _ W'.out X'.out M'.out N'.out HJ4.out ?_;intro y36 y37 y38 y39 y40 y41 y42 y43 y44 y45 y46 y47 y48 y49 y50 y51 y52 w7 hb;replace W':=hid (W'.out.kp hb);replace N':=hid (N'.out.kp hb);replace L':=hid (L'.out.kp hb);replace M':=hid (M'.out.kp hb);replace G':=hid (GA.out.kp hb);replace K':=hid (K'.out.kp hb);replace R':=hid (R'.out.kp hb);replace X':=hid (X'.out.kp hb);replace U':=tR U' hb;clear GA;clear hb;have hl:=wseen M'.out (by have:=HJ4.out;omega);obtain⟨wn,hs,hm,hu⟩:=(M'.out).set (t:=105) Tryz.underlying32 Tryz.underlying105 (by have:=HJ4.out;omega) j 1 (wf_small j (by have:=HJ4.out;omega)) (wf_nat 1 (by decide));rw[upto_put]at hm;rw[show((1:Nat):Int)=1 from rfl]at hs;have x4:=cfc_cell X'.out 4 (.int .u64 j) rfl;go_upto_region 12 with(refine wpList_mapUpdate_run rfl _ _ _ 105 rfl (.map (some MB)) (.int .u64 j) (.int .i64 1) rfl rfl rfl hs ?_);obtain⟨es,ck,hmp⟩:=(M'.out).at;have W10:=hid ((W'.out).upd hu ((W'.out).mne hmp));have X10:=hid ((X'.out).upd hu ((X'.out).mne hmp))
    have N10:=hid ((N'.out).upd hu (fun k hk e=>by obtain⟨_,h1,-⟩:=own_at N'.out hk;exact h1.mne hmp e));have L10:=hid ((L'.out).upd hu (fun k hk e=>by obtain⟨_,h1,-⟩:=own_at L'.out hk;exact h1.mne hmp e));have G10:=hid ((G'.out).low hu (fun k e=>by have e:k=MB:=e;omega));have M10:=hid hm;have U10:=hid ((U9.out.trans ((U'.out).mono U9.out.size)).trans (hu.below (Nat.le_trans U9.out.size (U'.out).size) (fun k e=>by have e:k=MB:=e;rw[e];exact HML.out)));have HBW:=hid (show w.heap.size≤wn.heap.size from U10.out.size);clear hl hs hm hu x4 hmp;clear W' N' L' M' G' K' R' X' U';go_upto_region 12 with(fail);refine ent (C:=rg Tryz.f22 12) (by kernel_rfl) ?_;refine wnew_r12 WB (wr.heap.size) A j j kb 3 ro (rts j n).length rc w.heap.size ga0 vn vl (pts L j) _ _ W10.out X10.out N10.out L10.out HJ4.out HBW.out ?_;intro y59 y60 y61 y62 y63 y64 y65 y66 y67 y68 y69 y70 y71 y72 y73 y74 y75 y76 y77 y78 y79 v1 v2 w9 hu hW hN hL;have hty:∀k,(SO vn vl k∨k=WB)→Typed wn k:=fun k hk=>by
     rcases hk with(h|h)|rfl
     · obtain⟨cur,h1,-⟩:=own_at N10.out h.symm;exact⟨_,_,h1,.inl rfl⟩
     · obtain⟨cur,h1,-⟩:=own_at L10.out h.symm;exact⟨_,_,h1,.inr (.inr rfl)⟩
     · exact⟨_,_,W10.out,.inr (.inl rfl)⟩
    have hG:=(G10.out).typ hu hty;have hM:=(M10.out).upd hu (fun h=>by obtain⟨es,ck,hmp⟩:=(M10.out).at;obtain⟨cs,t,h1,-⟩:=hty _ h;exact h1.mne hmp rfl);have hU:=(U10.out).trans (hu.below (U10.out).size (fun k h=>by
     rcases h with(h|h)|rfl
     · exact(own_at N10.out h.symm).choose_spec.2
     · exact(own_at L10.out h.symm).choose_spec.2
     · exact HWL2.out))
    have HHH:=hid (And.intro hW (And.intro hN (And.intro hL (And.intro hM (And.intro hG hU)))));clear hW hN hL hM hG hU hty hu;go_wp2_with fail;obtain⟨hW,hN,hL,hM,hG,hU⟩:=HHH.out;go_roundw;case rel=>exact⟨j+1,v1,v2,(put1 L j ⟨w_501.heap.size,w6.heap.size,A,a⟩),by have:=HJ.out;omega,by go_num,hW,by rw[ecs_succ];exact hN,by rw[pts_add];exact hL,hM,hG,hU⟩
    case measure=>simp[intOf];have:=HJ.out;omega
  · obtain rfl:j=n:=by omega
    have hj9:¬(j:Int)<(j:Int):=by omega
    obtain⟨g1,cp1,hv⟩:∃g cp,vn= .slice (some ⟨g,0,none⟩) j cp:=by
     rcases N9.out.2 with⟨-,h⟩|⟨g,cap,cur,h,-⟩
     · exact absurd h (by have:=HN.out.1;omega)
     · exact⟨g,cap,h⟩
    obtain⟨g2,cp2,hv2⟩:∃g cp,vl= .slice (some ⟨g,0,none⟩) j cp:=by
     rcases L9.out.2 with⟨-,h⟩|⟨g,cap,cur,h,-⟩
     · exact absurd h (by have:=HN.out.1;omega)
     · exact⟨g,cap,h⟩
    subst hv hv2;have x2:=(wcell W9.out).2.2.1;have hl1:¬(j:Int)<1:=by omega
    have hl4:¬4<(j:Int):=by omega
    go_wp2_with fail;go_ret2;have hN:=N9.out;have hL:=L9.out;rcases hN.2 with⟨h,-⟩|⟨g,cap,cur,h,h1,h2,h3,-,-,h4⟩
    · cases h
    rcases hL.2 with⟨k,-⟩|⟨gk,capk,curk,k,k1,k2,k3,-,-,k4⟩
    · cases k
    injection h with h5 h6 h7
    injection h5 with h5
    injection h5 with h5
    injection k with k5 k6 k7
    injection k5 with k5
    injection k5 with k5
    subst h5 h7 k5 k7;refine⟨WB,rfl,L,⟨⟨ga0,g1,cp1,g2,cp2,cur,curk,W9.out,h2,h4,k2,by have:=k4;rw[Nat.mul_one]at this;exact this,h3,k3⟩,fun t ht=>⟨((A9.out).1 t ht).1,((A9.out).1 t ht).2.1.1,((A9.out).1 t ht).2.1.2.1⟩,(A9.out).2⟩,⟨fun t ht=>((A9.out).1 t ht).2.1,fun t ht=>Nat.le_trans (Nat.le_trans HML.out (Nat.le_succ _)) ((A9.out).1 t ht).2.2.1,HWL2.out⟩,U9.out⟩
end
section
open Go.Conc Go.RowKit
def RowAt (cc:Array Value)(t:Nat)(x:Array Value):Prop:=∀i v,x.toList[i]? =some v→cc.toList[t*10+i]? =some v
theorem cfl_get:∀(l:List (Nat×Nat)) (j t:Nat) (h:t<l.length) (i:Nat) (v:Value),(cfc (j+t) (j+t) l[t].1 3 l[t].2 1 1 100).toList[i]? =some v→(cfl j l)[t*10+i]? =some v
 | [],_,_,h,_,_,_=>absurd h (by simp)
 |x::l,j,0,_,i,v,hv=>by
  have hv:(cfc j j x.1 3 x.2 1 1 100).toList[i]? =some v:=hv;have hi:=(List.getElem?_eq_some_iff.1 hv).1;rw[cfl,Nat.zero_mul,Nat.zero_add,List.getElem?_append_left hi];exact hv
 |x::l,j,t+1,h,i,v,hv=>by
  have h10:(cfc j j x.1 3 x.2 1 1 100).toList.length=10:=rfl;rw[cfl,List.getElem?_append_right (by rw[h10];omega),h10,show(t+1)*10+i-10=t*10+i by omega];refine cfl_get l (j+1) t (by simpa using h) i v ?_;rw[show j+1+t=j+(t+1) by omega];exact hv
theorem take_get {cc:Array Value}{m k:Nat}{xs:List Value}{v:Value}(h:cc.toList.take m=xs)(hk:xs[k]? =some v):cc.toList[k]? =some v:=by
 rw[←h,List.getElem?_take]at hk;split at hk
 · exact hk
 · cases hk
section
variable {cc x:Array Value} {t k i num K kc ro rl rc now:Nat} {v:Value}
theorem cfc_lt {i2:Nat}{u:Value}(h:(cfc i num K kc ro rl rc now).toList[i2]? =some u):i2<10:=(List.getElem?_eq_some_iff.1 h).1
theorem RowAt.set_other (h:RowAt cc t (cfc i num K kc ro rl rc now))(hk:∀q,q<10→t*10+q≠k):RowAt (cc.setIfInBounds k v) t (cfc i num K kc ro rl rc now):=fun q u hu=>by
 rw[Array.toList_setIfInBounds,List.getElem?_set_ne (fun e=>hk q (cfc_lt hu) e.symm)];exact h q u hu
theorem setin_same {u:Value}(h:cc.toList[k]? =some u):(cc.setIfInBounds k v).toList[k]? =some v:=by
 rw[Array.toList_setIfInBounds];exact List.getElem?_set_self (List.getElem?_eq_some_iff.1 h).1
theorem RowAt.set7 {ro2 rl2 rc2:Nat}(h:RowAt cc t (cfc i num K kc ro rl rc now)):RowAt (cc.setIfInBounds (t*10+7) (.slice (some ⟨ro2,0,none⟩) rl2 rc2)) t (cfc i num K kc ro2 rl2 rc2 now):=fun q u hu=>by
 have hq:=cfc_lt hu;by_cases e:q=7
 · subst e;have hu:some (Value.slice (some ⟨ro2,0,none⟩) rl2 rc2)=some u:=hu;rw[←hu];exact setin_same (h 7 _ rfl)
 · rw[Array.toList_setIfInBounds,List.getElem?_set_ne (by omega)];refine h q u ?_;rw[←hu];rcases(show q=0∨q=1∨q=2∨q=3∨q=4∨q=5∨q=6∨q=8∨q=9 by omega)with rfl|rfl|rfl|rfl|rfl|rfl|rfl|rfl|rfl<;>rfl
theorem RowAt.set8 (h:RowAt cc t (cfc i num K kc ro rl rc now)):RowAt (cc.setIfInBounds (t*10+8) (.int .i64 0)) t (cfc i num K kc ro rl rc now):=fun q u hu=>by
 by_cases e:q=8
 · subst e;have hu:some (Value.int .i64 0)=some u:=hu;rw[←hu];exact setin_same (h 8 _ rfl)
 · rw[Array.toList_setIfInBounds,List.getElem?_set_ne (by omega)];exact h q u hu
end
def CfIn (w:World)(cc:Array Value)(n j:Nat):Prop:=∀t,t<n→∃kb ro rl rc cur,RowAt cc t (cfc t t kb 3 ro rl rc 100)∧At w kb (.cells ky6 186)∧
 (t<j→rl=(rts t n).length∧At w ro (.cells cur 103)∧cur.toList.take ((rts t n).length*9)=rows (rts t n)∧(rts t n).length≤rc)
section
variable {w w':World} {cc:Array Value} {n j g:Nat} {S:Nat→Prop}
theorem CfIn.kp (h:CfIn w cc n j)(hb:Below w.heap.size w w'):CfIn w' cc n j:=fun t ht=>by
 obtain⟨kb,ro,rl,rc,cur,h1,h2,h3⟩:=h t ht;exact⟨kb,ro,rl,rc,cur,h1,h2.kp hb,fun q=>⟨(h3 q).1,(h3 q).2.1.kp hb,(h3 q).2.2⟩⟩
theorem CfIn.upd (h:CfIn w cc n j)(hu:Upd (·=g) w w')(hg:At w g (.cells cc 72)):CfIn w' cc n j:=fun t ht=>by
 obtain⟨kb,ro,rl,rc,cur,h1,h2,h3⟩:=h t ht;exact⟨kb,ro,rl,rc,cur,h1,h2.upd hu (h2.cne hg (by decide)),fun q=>⟨(h3 q).1,(h3 q).2.1.upd hu ((h3 q).2.1.cne hg (by decide)),(h3 q).2.2⟩⟩
theorem CfIn.done (h:CfIn w cc n n):CfAt w cc n:=fun t ht=>by
 obtain⟨kb,ro,rl,rc,cur,h1,h2,h3⟩:=h t ht;obtain⟨rfl,h4,h5,h6⟩:=h3 ht;exact⟨kb,ro,rc,cur,h1,h2,h4,h5,h6⟩
theorem CfIn.next (h:CfIn w cc n j)(hj:j<n){ro rc:Nat}{cur:Array Value}(hr:At w ro (.cells cur 103))(ht:cur.toList.take ((rts j n).length*9)=rows (rts j n))(hc:(rts j n).length≤rc):
 CfIn w (cc.setIfInBounds (j*10+7) (.slice (some ⟨ro,0,none⟩) (rts j n).length rc)) n (j+1):=fun t hn=>by
 obtain⟨kb,ro1,rl1,rc1,cur1,h1,h2,h3⟩:=h t hn;by_cases e:t=j
 · subst e;exact⟨kb,ro,_,rc,cur,h1.set7,h2,fun _=>⟨rfl,hr,ht,hc⟩⟩
 · exact⟨kb,ro1,rl1,rc1,cur1,h1.set_other (fun q hq=>by omega),h2,fun q=>h3 (by omega)⟩
theorem CfIn.most (h:CfIn w cc n j)(k:Nat):CfIn w (cc.setIfInBounds (k*10+8) (.int .i64 0)) n j:=fun t hn=>by
 obtain⟨kb,ro1,rl1,rc1,cur1,h1,h2,h3⟩:=h t hn;refine⟨kb,ro1,rl1,rc1,cur1,?_,h2,h3⟩;by_cases e:t=k
 · subst e;exact h1.set8
 · exact h1.set_other (fun q hq=>by omega)
theorem CfIn.start {cs:List (Nat×Nat)}(hn:cs.length=n)(ht:cc.toList.take (n*10)=cfl 0 cs)(hk:∀x∈cs,At w x.1 (.cells ky6 186)):CfIn w cc n 0:=fun t htn=>by
 have hl:t<cs.length:=by omega
 refine⟨cs[t].1,cs[t].2,1,1,#[],fun i v hv=>take_get ht (cfl_get cs 0 t hl i v (by rw[Nat.zero_add];exact hv)),hk _ (List.getElem_mem hl),fun q=>absurd q (Nat.not_lt_zero _)⟩
end
end
section
open Go.Conc Go.RowKit
variable {x1 x2 x3 x4 x5 x6 x7 x8 x11 x12 x13 x14 x15 x16 x17 x18 x19 x20 x21 x22 x23 x24 x25 x26 x27 x28 x29:Value} {r:List Value}
theorem chain_r5 (C g cp j n:Nat)(cc:Array Value)(u ov:Value)(w:World)(Q:QT)(hC:At w C (.cells #[u,.slice (some ⟨g,0,none⟩) n cp] 66))(hg:At w g (.cells cc 72))(hv:cc.toList[j*10+7]? =some ov)(hj:j<n)(hn:n≤4)(hcp:n≤cp)
 (hQ:∀(y22 y23 y24 y25 y26 y27 y28 y29:Value) (ro rc:Nat) (cur:Array Value) (w9:World),Upd (·=g) w w9→At w9 g (.cells (cc.setIfInBounds (j*10+7) (.slice (some ⟨ro,0,none⟩) (rts j n).length rc)) 72)→At w9 ro (.cells cur 103)→cur.toList.take ((rts j n).length*9)=rows (rts j n)→(rts j n).length≤rc→Q .normal ⟨(.int .i64 n::x1::x2::x3::x4::x5::x6::x7::x8::.pointer (some ⟨C,0,none⟩)::.int .i64 j::x11::x12::x13::x14::x15::x16::x17::x18::x19::x20::x21::y22::y23::y24::y25::y26::y27::y28::y29::r).toArray,[]⟩ w9):
 Code.wp Tryz.prog (rg Tryz.f9 5) Q ⟨(.int .i64 n::x1::x2::x3::x4::x5::x6::x7::x8::.pointer (some ⟨C,0,none⟩)::.int .i64 j::x11::x12::x13::x14::x15::x16::x17::x18::x19::x20::x21::x22::x23::x24::x25::x26::x27::x28::x29::r).toArray,[]⟩ w:=by
 have HQ:=hid hQ;clear hQ;conv=>arg 2;whnf
 refine reg (fun w'=>w'.cell? ⟨C,1,none⟩=some (.slice (some ⟨g,0,none⟩) n cp)) (fun j=>j==8) (fun w' hu=>(c66_cells (hC.kp hu)).2) fun HS HU0 hHeld=>?_;have HG:=hid hg;have HV:=hid hv;have HN:=hid (And.intro hj hn);have hj0:(j:Int)<(n:Int):=by omega
 have hnc:(n:Int)≤(cp:Int):=by omega
 clear hC hg hv hj hn hcp;refine t3 0 ?_;refine t3 1 ?_;refine t3 2 ?_;refine t3 3 ?_;refine t3 4 ?_;refine rd1 5 rfl fun K hK=>?_;go_simp;(with_reducible refine(routes_any j n (w.drew) HN.out.1 HN.out.2).mono ?_);rintro e_ w1 ⟨ro,rc,cur,rfl,h1,h2,h3,h4,hb⟩;have HRR:=hid (And.intro h1 (And.intro h2 h3));clear h1 h2 h3 h4;have HU1:=tR HU0 hb;clear hb;refine kK hK (HS.out _ HU1.out) fun hHeld=>?_;try simp only[Act.put,fr]
 refine t3 6 ?_;refine t3 7 ?_;refine wpAnyT_ready (rs:=[8]) (by kernel_rfl) (by simp) ?_;refine AllReadyT.last (o:=_) rfl (fun K hK=>?_) (by kernel_rfl);have hg8:=HG.out.kp HU1.out;have hc8:w1.cell? ⟨g,j*10+7,none⟩=some ov:=by rw[cell_of_row _ _ _ _ 72 (0,0) hg8, ←Array.getElem?_toList];exact HV.out
 have hf8:=frozen_of_row w1 g (j*10+7) _ 72 hg8;have hu9:=upd_setCell w1 ⟨g,j*10+7,none⟩ (.slice (some ⟨ro,0,none⟩) (rts j n).length rc);have HG9:=hid (show At (w1.setCell ⟨g,j*10+7,none⟩ (.slice (some ⟨ro,0,none⟩) (rts j n).length rc)) g (.cells (cc.setIfInBounds (j*10+7) (.slice (some ⟨ro,0,none⟩) (rts j n).length rc)) 72)from At.setc hg8 _ _);have HR9:=hid (HRR.out.1.upd hu9 (HRR.out.1.cne hg8 (by decide)));have HU9:=hid (Upd.trans (upd_of_below (S:=(·=g)) HU1.out) hu9);go_simp;clear hg8 hc8 hf8 hu9;refine hK.out _ _ ?_;clear hK K;try simp only[Act.put,fr]
 exact dN (HQ.out _ _ _ _ _ _ _ _ ro rc cur _ HU9.out HG9.out HR9.out HRR.out.2.1 HRR.out.2.2)
theorem World_both (id:Bool)(n gc cp:Nat)(cc:Array Value)(w:World)(hn1:1≤n)(hn:n≤4)(hcp:n≤cp)(hg:At w gc (.cells cc 72))(hc:CfAt w cc n):
 Calls Tryz.prog 22 #[.agg #[.bool id,.slice (some ⟨gc,0,none⟩) n cp]] w fun e_ w'=>∃WB L,e_= .returned (.tuple #[.pointer (some ⟨WB,0,none⟩),.int .i64 0])∧WOk n WB L nS w'∧((∀t,t<n→Fresh (L t).a t n)∧(∀t,t<n→w.heap.size≤(L t).lo)∧w.heap.size≤WB)∧Below w.heap.size w w':=by
 cases id
 · exact World_real n gc cp cc w hn1 hn hcp hg hc
 · exact World_any n gc cp cc w hn1 hn hcp hg hc
theorem chain_any (id:Bool)(n:Nat)(w:World)(hn1:2≤n)(hn:n≤4):
 Calls Tryz.prog 9 #[.int .i64 n,.bool id,nS,.int .i64 0] w fun e_ w'=>∃WB L,e_= .returned (.pointer (some ⟨WB,0,none⟩))∧WOk n WB L nS w'∧((∀t,t<n→Fresh (L t).a t n)∧(∀t,t<n→w.heap.size≤(L t).lo)∧w.heap.size≤WB)∧Below w.heap.size w w':=by
 have HN:=hid (And.intro hn1 hn);have hn4:(n:Int)≤4:=by omega
 clear hn hn1;have hz66:=zero66;have U0:=hid (Below.refl w.heap.size w);go_enter Tryz.func9,Tryz.ntmps9;go_upto_region 1 with(fail);go_wp2_with fail;refine(Cfg28_any n id w HN.out.1 HN.out.2).mono ?_;rintro e_ w_1 ⟨cs,g,cp,rfl,hb,hl,hr,hk⟩;have U':=tR U0 hb;clear U0;clear hb;have HC:=hid (And.intro hl (And.intro hr hk));clear hl hr hk;go_upto_region 2 with(refine sR 66 9 16 (w_1).heap.size (#[.bool id,.slice (some ⟨g,0,none⟩) n cp]) (heap_new _ _) (size66 rfl) (by simp[Value.oneCell']) ?_);have hv:=varnew w_1 (#[.bool false,nS]) (#[.bool id,.slice (some ⟨g,0,none⟩) n cp]) 66;generalize World.setRow (World.alloc w_1 (.cells (#[.bool false,nS]) 66)) (w_1).heap.size (#[.bool id,.slice (some ⟨g,0,none⟩) n cp])=w_3 at*;have HSZ:=hid (U'.out.size);obtain⟨hb,hk⟩:=hv;have HBV:=hid hb;replace U':=tR U' hb;have C':=hid hk;clear hb hk;have HX:=hid (show ∃cc,At w_1 g (.cells cc 72)∧cc.toList.take (n*10)=cfl 0 cs∧n≤cp∧w.heap.size≤g from by
  obtain⟨-,⟨-,h⟩⟩:=HC.out.2.1 |> fun h=>(⟨trivial,h⟩:True∧_);rcases h with⟨h,-⟩|⟨g1,cap,cur,h,h1,h2,h3,-,-,h4⟩
  · cases h
  · injection h with h5 h6 h7
    injection h5 with h5
    injection h5 with h5
    subst h5 h7;exact⟨cur,h2,h4,h3,h1⟩)
 obtain⟨cc0,hg0,ht0,hc0,hgl⟩:=HX.out;have HGC:=hid (And.intro hc0 hgl);have hnc:(n:Int)≤(cp:Int):=by omega
 have hci:=CfIn.start (w:=w_1) (cc:=cc0) HC.out.1 ht0 HC.out.2.2;generalize hcb:w_1.heap.size=CB at*;have HCB:=hid (show w.heap.size≤CB from HSZ.out);have HCE:=hid hcb;clear hcb;have HBE:=hid (show At w_3 g (.cells cc0 72)∧CfIn w_3 cc0 n 0 from⟨hg0.kp (by rw[HCE.out];exact HBV.out),hci.kp (by rw[HCE.out];exact HBV.out)⟩);clear hg0 ht0 hc0 hgl hci HX HC HBV;go_wp2_with fail;go_loopw [10] (fun i wr=>∃(j:Nat) (cc:Array Value),j≤n∧i= .int .i64 j∧At wr CB (.cells (#[.bool id,.slice (some ⟨g,0,none⟩) n cp]) 66)∧At wr g (.cells cc 72)∧CfIn wr cc n j∧Below w.heap.size w wr) (fun i _=>n-(intOf i).toNat);case atStart=>exact⟨0,cc0,Nat.zero_le _,rfl,C'.out,HBE.out.1,HBE.out.2,U'.out⟩
 case round=>
  obtain⟨j,cc,hj,rfl,hC,hg,hci,hu⟩:=hrel;have U9:=hid hu;have C9:=hid hC;have G9:=hid hg;have I9:=hid hci;clear hu hC hg hci;by_cases hjn:j<n
  · have HJ:=hid hjn;have hj0:(j:Int)<(n:Int):=by omega
    clear hj hjn;have HOV:=hid (show ∃ov,cc.toList[j*10+7]? =some ov from by obtain⟨kb,ro,rl,rc,cur,h1,-⟩:=I9.out j HJ.out;exact⟨_,h1 7 _ rfl⟩);obtain⟨ov,hov⟩:=HOV.out;have HV:=hid hov;clear hov;go_upto_region 5 with(fail);refine ent (C:=rg Tryz.f9 5) (by kernel_rfl) ?_;refine chain_r5 CB g cp j n cc _ ov _ _ C9.out G9.out HV.out HJ.out HN.out.2 HGC.out.1 ?_;intro y22 y23 y24 y25 y26 y27 y28 y29 ro rc cur w9 hu hg hr ht hc;have HI:=hid ((I9.out.upd hu G9.out).next HJ.out hr ht hc);have C10:=hid (C9.out.upd hu (C9.out.cne G9.out (by decide)));have U10:=hid ((U9.out).trans (hu.below (U9.out).size (fun k e=>by have e:k=g:=e;rw[e];exact HGC.out.2)));have G10:=hid hg;clear hu hg hr ht hc;obtain⟨c0,c1⟩:=c66_cells C10.out;generalize cc.setIfInBounds (j*10+7) (.slice (some ⟨ro,0,none⟩) (rts j n).length rc)=cc2 at*;have HO8:=hid (show ∃ov,cc2.toList[j*10+8]? =some ov from by obtain⟨kb,ro,rl,rc,cur,h1,-⟩:=HI.out j HJ.out;exact⟨_,h1 8 _ rfl⟩);obtain⟨o8,ho8⟩:=HO8.out;have x8:w9.cell? ⟨g,j*10+8,none⟩=some o8:=by rw[cell_of_row _ _ _ _ 72 (0,0) G10.out, ←Array.getElem?_toList];exact ho8
    have f8:=frozen_of_row w9 g (j*10+8) _ 72 G10.out;clear ho8;go_wp2_with fail;go_roundw;case rel=>
     have hu:=upd_setCell w9 ⟨g,j*10+8,none⟩ (.int .i64 0);exact⟨j+1,cc2.setIfInBounds (j*10+8) (.int .i64 0),by have:=HJ.out;omega,by go_num,C10.out.upd hu (C10.out.cne G10.out (by decide)),At.setc G10.out _ _,(HI.out.upd hu G10.out).most j,U10.out.trans (hu.below U10.out.size (fun k e=>by have e:k=g:=e;rw[e];exact HGC.out.2))⟩
    case measure=>simp[intOf];have:=HJ.out;omega
  · obtain rfl:j=n:=by omega
    have hj9:¬(j:Int)<(j:Int):=by omega
    have HCC:=hid I9.out.done;have HSZ:=hid ((U9.out).size);go_wp2_with (refine wpList_load_row rfl 66 (.tmp 9) rfl (CB) rfl 66 (#[.bool id,.slice (some ⟨g,0,none⟩) j cp]) (0,0) _ C9.out Tryz.underlying66 rfl (size66 rfl) ?_);refine(World_both id j g cp cc wr (by have:=HN.out.1;omega) HN.out.2 HGC.out.1 G9.out HCC.out).mono ?_;rintro e_ w_901 ⟨WB,L,rfl,hO,hF,hb⟩;replace C':=hid (C9.out.kp hb);replace U':=tR U9 hb;clear C9 U9;clear hb;have HO:=hid (And.intro hO hF);clear hO hF;go_wp2_with fail;go_ret;exact⟨WB,L,rfl,HO.out.1,⟨HO.out.2.1,fun t ht=>Nat.le_trans HSZ.out (HO.out.2.2.1 t ht),Nat.le_trans HSZ.out HO.out.2.2.2⟩,U'.out⟩
end
section
open Go.Conc Go.RowKit
theorem within_any (i n:Nat)(w:World)(hi:i<n)(hn:n≤4):
 Rv 29 #[.int .i64 i,.int .i64 n] w (.int .i64 i):=by
 have h1:¬(n:Int)=0:=by omega
 have h3:Int.tmod (i:Int) (n:Int)=i:=by rw[Int.tmod_eq_emod_of_nonneg (by omega)];exact Int.emod_eq_of_lt (by omega) (by omega)
 have h5:Int.tmod ((i:Int)+(n:Int)) (n:Int)=i:=by rw[Int.tmod_eq_emod_of_nonneg (by omega),Int.add_emod_right];exact Int.emod_eq_of_lt (by omega) (by omega)
 have U0:=hid (Below.refl w.heap.size w);go_enter Tryz.func29,Tryz.ntmps29;go_upto_region 1 with(fail);go_wp2_with fail;go_ret;exact⟨rfl,U0.out⟩
theorem pts_get (L:Nat→Nd)(n i:Nat)(h:i<n):(pts L n)[i]? =some (.pointer (some ⟨(L i).A,0,none⟩)):=by
 unfold pts;rw[List.getElem?_map,List.getElem?_range h];rfl
theorem list_at {w:World}{g n i:Nat}{cur:Array Value}{xs:List Value}{v:Value}(h:At w g (.cells cur 86))(ht:cur.toList.take n=xs)(hx:xs[i]? =some v):w.cell? ⟨g,i,none⟩=some v:=by
 rw[cell_of_row _ _ _ _ 86 (0,0) h, ←Array.getElem?_toList];exact take_get ht hx
theorem Agent_any (n W i:Nat)(L:Nat→Nd)(out:Value)(w:World)(hO:WOk n W L out w)(hi:i<n)(hn:n≤4):
 Rv 30 #[.pointer (some ⟨W,0,none⟩),.int .i64 i] w (.pointer (some ⟨(L i).A,0,none⟩)):=by
 obtain⟨ga,gn,cn,gl,cl,c1,c2,h1,h2,h3,h4,h5,h6,h7⟩:=hO.wb;have x2:=(wcell h1).2.2.1;have xa:=list_at h4 h5 (pts_get L n i hi);have hi0:(i:Int)<(n:Int):=by omega
 have hi1:¬(i:Int)<0:=by omega
 have hi2:¬(n:Int)≤(i:Int):=by omega
 have hi3:(i:Int)<(cl:Int):=by omega
 have hlc:(n:Int)≤(cl:Int):=by omega
 clear h1 h2 h3 h4 h5 h6;have U0:=hid (Below.refl w.heap.size w);go_enter Tryz.func30,Tryz.ntmps30;go_upto_region 1 with(fail);go_wp2_with fail;go_ret;exact⟨rfl,U0.out⟩
end
section
open Go.Conc Go.RowKit
def dos:Nat→Array MapEntry
 |0=>#[]
 |k+1=>(dos k).push { key:= .int .i64 k,val:= .func (.func (23+k)) #[] #[],born:=k }
theorem dos_none:∀k:Nat,k<6→Instr.findNow (.int .i64) (.int .i64 (k:Nat)) (dos k).toList 0=some none:=by
 intro k hk;rcases(show k=0∨k=1∨k=2∨k=3∨k=4∨k=5 by omega)with rfl|rfl|rfl|rfl|rfl|rfl<;>rfl
theorem dos_some:∀k:Nat,k<6→Instr.findNow (.int .i64) (.int .i64 (k:Nat)) (dos 6).toList 0=some (some (k,Value.func (.func (23+k)) #[] #[])):=by
 intro k hk;rcases(show k=0∨k=1∨k=2∨k=3∨k=4∨k=5 by omega)with rfl|rfl|rfl|rfl|rfl|rfl<;>rfl
theorem run_ins {w:World}{r k:Nat}(hb:At w r (.map (dos k) k))(hk:k<6):∃w1,(Instr.mapUpdate 77 (.map (some r)) (.int .i64 k) (.func (.func (23+k)) #[] #[])).run Tryz.prog w= .ok () w1∧At w1 r (.map (dos (k+1)) (k+1))∧Upd (·=r) w w1:=by
 have hf:=dos_none k hk;have hc:(Instr.checkKey false 10000 3 (.int .i64 k)).run Tryz.prog w= .ok () w:=MapKept.run_checkKey (k:= .int .i64 k) Tryz.underlying3 (by simp[MapKept.IsKey]) false 9999;refine⟨{ w with heap:=w.heap.setIfInBounds r (.map (dos (k+1)) (k+1)) },?_,?_,?_⟩
 · simp[Instr.mapUpdate,run_underlying Tryz.underlying77,MapKept.run_getObj_map hb,hc,MapKept.run_findKey Tryz.underlying3 hf,MapKept.run_setObj_map _ hb,Result.andThen,dos]
 · unfold At at hb ⊢;have hl:=heap_lt hb;simp[Array.getElem?_setIfInBounds,hl]
 · refine⟨rfl,rfl,rfl,by simp,fun i hi hs=>?_⟩;have hs:¬i=r:=hs;simp[Array.getElem?_setIfInBounds,Ne.symm hs]
theorem dolook {w:World}{r k:Nat}(hb:At w r (.map (dos 6) 6))(hk:k<6):(Instr.lookup 77 (.map (some r)) (.int .i64 k) true).run Tryz.prog w= .ok (.tuple #[.func (.func (23+k)) #[] #[],.bool true]) w:=by
 have hf:=dos_some k hk;have hc:(Instr.checkKey (dos 6).isEmpty 10000 3 (.int .i64 k)).run Tryz.prog w= .ok () w:=MapKept.run_checkKey (k:= .int .i64 k) Tryz.underlying3 (by simp[MapKept.IsKey]) _ 9999;simp[Instr.lookup,run_underlying Tryz.underlying77,MapKept.run_getObj_map hb,hc,MapKept.run_findKey Tryz.underlying3 hf,Result.andThen]
theorem wpList_insert_run {P:Program}{ops:Array Oper}{rest:List Oper}{o:Oper}{a:Act}{w w1:World}{Q:QT}(hg:o.guard=none)(m x v:Operand)(t:TypeId)(hop:o.op=Op.insert t m x v)
 (mv xv vv:Value)(hm:a.eval m=mv)(hx:a.eval x=xv)(hv:a.eval v=vv)(hr:(Instr.mapUpdate t mv xv vv).run P w= .ok () w1)(h:wpList P ops Q rest (a.put o.dst undef) w1):wpList P ops Q (o::rest) a w:=by
 refine wpList_plain hg fun K' hK'=>?_;unfold Oper.wp;simp[execOp,hop,hm,hx,hv,hr,Result.andThen];exact hK' _ _ h
end
end Go.Proofs.YtlhlmflacdeafaaGreatDoor
