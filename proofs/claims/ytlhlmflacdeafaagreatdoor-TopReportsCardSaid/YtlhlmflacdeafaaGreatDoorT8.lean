/-
  A part of the walk of TopReports.
-/
import Derived.Test.YtlhlmflacdeafaaGreatDoorT7
set_option maxRecDepth 100000
set_option maxHeartbeats 4000000
set_option linter.unusedVariables false
set_option linter.unusedSimpArgs false
namespace Go.Proofs.YtlhlmflacdeafaaGreatDoor
section
open Go.RowKit
theorem bparts_any (b:Bun)(h:b.ok)(g off cap:Nat)(w:World)(hc:b.l.length≤cap)(hr:RB w g off b.l):
 Rv 209 #[.agg (bv b g off cap)] w (.int .i64 0):=by
 have HO:=hid h;have HR:=hid hr;have HC:=hid hc;have hn8:(b.l.length:Int)≤8:=by have:=h.few;omega
 have hnc:(b.l.length:Int)≤(cap:Int):=by omega
 have hz136:=zero136;clear h hr hc;obtain⟨w1,HE,U0,B'⟩:=mH1 w (bv b g off cap) 43;go_enter Tryz.func209,Tryz.ntmps209;go_upto_region 1 with(fail);rw[←HE.out];clear HE;go_wp2_with (refine lM 40 7 (w.heap.size) 0 (prc b.p) (bun_prc B'.out) Tryz.underlying40 i40 ?_);refine(pright_any b.p HO.out.p w1).mono ?_;rintro e w_1 ⟨rfl,hb⟩;replace B':=hid (B'.out.kp hb);have U':=tR U0 hb;clear U0;clear hb;obtain⟨-,-,-,-,-,-,-,-,-,-,-,-,-,-,-,-,-,-,-,c19⟩:=bunc_cells B'.out;go_wp2_with fail;go_loopw [16] (fun i wr=>∃j:Nat,j≤b.l.length∧i= .int .i64 j∧Below w.heap.size w wr) (fun i _=>b.l.length-(intOf i).toNat);case atStart=>exact⟨0,Nat.zero_le _,rfl,U'.out⟩
 case round=>
  obtain⟨j,hj,rfl,hu⟩:=hrel;have U9:=hid hu;clear hu;by_cases hjl:j<b.l.length
  · have HJ:=hid hjl;have hj0:(j:Int)<(b.l.length:Int):=by omega
    have rj:=(RB.kp HR.out U9.out).at j hjl;have HXO:=hid (HO.out.l _ (List.getElem_mem hjl));generalize hx:b.l[j]=x at*;have HX:=hid hx;clear hx hjl hj;go_upto_region 7 with(first|(refine sV 136 5 19 (blc x) (size136 rfl) (blc_one _) ?_;intro w_1 hb hk)|refine wpList_load_mid rfl 136 (.tmp 18) rfl g (off+j*5) (by first|rfl|simp[Act.eval]) (blc x).toList _ rj Tryz.underlying136 rfl i136 ?_);replace U':=tR U9 hb;clear U9;have X':=hid hk;clear hb hk;clear rj;go_wp2_with (refine lQ 136 5 X'.out ?_);refine(bright_any x HXO.out w_1).mono ?_;rintro e w_4 ⟨rfl,hb⟩;replace X':=hid (X'.out.kp hb);replace U':=tR U' hb;clear hb;go_wp2_with fail;go_roundw;case rel=>exact⟨j+1,by have:=HJ.out;omega,by go_num,U'.out⟩
    case measure=>simp[intOf];have:=HJ.out;omega
  · have hj9:¬(j:Int)<(b.l.length:Int):=by omega
    go_wp2_with fail;go_ret;exact⟨rfl,U9.out⟩
def cnum (l:List Blk5):Nat→Nat:=fun k=>(l.map (·.num)).count k
def ctyp (l:List Blk5):Nat→Nat:=fun k=>(l.map (·.typ)).count k
theorem count_step (f:Blk5→Nat)(l:List Blk5)(j:Nat)(hj:j<l.length)(hn:(l.map f).Nodup):((l.take j).map f).count (f l[j])=0∧put (fun k=>((l.take j).map f).count k) (f l[j]) 1=fun k=>((l.take (j+1)).map f).count k:=by
 have h0:((l.take j).map f).count (f l[j])=0:=by
  rw[List.count_eq_zero,List.map_take,List.mem_take_iff_getElem];rintro⟨i,hi,he⟩;rw[List.getElem_map]at he;have hi2:i<l.length:=by omega
  have h1:=(List.pairwise_iff_getElem.1 hn) i j (by simpa using hi2) (by simpa using hj) (by omega);rw[List.getElem_map,List.getElem_map]at h1;exact h1 he
 refine⟨h0,?_⟩;funext k;rw[List.take_succ_eq_append_getElem hj,List.map_append,List.count_append];unfold put;by_cases e:k=f l[j]
 · subst e;rw[h0];simp
 · have e2:¬f l[j]=k:=fun h=>e h.symm;simp[e,e2,List.count_cons]
theorem one_le (f:Blk5→Nat)(l:List Blk5)(hn:(l.map f).Nodup)(k:Nat):(l.map f).count k≤1:=List.nodup_iff_count.1 hn k
theorem wf_nat (n:Nat)(h:n≤100000):(Lit.int .i64 n).wf=true:=WalkArith.wf_i64 (by omega)
theorem pay_one {b:Bun}(h:b.ok):ctyp b.l 1=1:=by
 obtain⟨r,y,hl,hy⟩:=h.last;have h1:=one_le (·.typ) b.l h.typs 1;have h2:0<(b.l.map (·.typ)).count 1:=by
  rw[List.count_pos_iff,hl];simp[hy]
 unfold ctyp;omega
theorem bonce_any (b:Bun)(h:b.ok)(g off cap:Nat)(w:World)(hc:b.l.length≤cap)(hr:RB w g off b.l):
 Rv 282 #[.slice (some ⟨g,off,none⟩) b.l.length cap] w (.bool true):=by
 have HO:=hid h;have HR:=hid hr;have HC:=hid hc;have hn8:(b.l.length:Int)≤8:=by have:=h.few;omega
 have hnc:(b.l.length:Int)≤(cap:Int):=by omega
 have hz136:=zero136;have hmm:=@run_makeMap Tryz.prog;have HC1:=hid (Cnt.made (q:= .i64) (k:=3) w);have HC2:=hid (Cnt.made (q:= .i64) (k:=3) (w.alloc (.map #[] 0)));have HUB:=hid (((Below.refl w.heap.size w).alloc (Nat.le_refl _) (.map #[] 0)).alloc (by rw[World.size_alloc];omega) (.map #[] 0));clear h hr hc;go_enter Tryz.func282,Tryz.ntmps282;go_wp2_with fail;go_loopw [11] (fun i wr=>∃j:Nat,j≤b.l.length∧i= .int .i64 j∧Cnt .i64 3 wr w.heap.size j (cnum (b.l.take j))∧Cnt .i64 3 wr (w.heap.size+1) j (ctyp (b.l.take j))∧Below w.heap.size w wr) (fun i _=>b.l.length-(intOf i).toNat);case atStart=>exact⟨0,Nat.zero_le _,rfl,HC1.out.kp ((Below.refl _ _).alloc (Nat.le_refl _) _),(by have:=HC2.out;rw[World.size_alloc]at this;exact this),HUB.out⟩
 case round=>
  clear HC1 HC2 HUB hmm;obtain⟨j,hj,rfl,hc1,hc2,hu⟩:=hrel;have U9:=hid hu;have M1:=hid hc1;have M2:=hid hc2;clear hu hc1 hc2;by_cases hjl:j<b.l.length
  · have HLT:=hid (show w.heap.size+1<wr.heap.size from M2.out.lt);have HS1:=hid (count_step (·.num) b.l j hjl HO.out.nums);have HS2:=hid (count_step (·.typ) b.l j hjl HO.out.typs);have HJ:=hid hjl;have hj0:(j:Int)<(b.l.length:Int):=by omega
    have rj:=(RB.kp HR.out U9.out).at j hjl;have HXO:=hid (HO.out.l _ (List.getElem_mem hjl));generalize hx:b.l[j]=x at*;have HX:=hid hx;clear hx hjl hj;go_upto_region 5 with(first|(refine sV 136 6 14 (blc x) (size136 rfl) (blc_one _) ?_;intro w_1 hb hk)|refine wpList_load_mid rfl 136 (.tmp 13) rfl g (off+j*5) (by first|rfl|simp[Act.eval]) (blc x).toList _ rj Tryz.underlying136 rfl i136 ?_);have M':=hid (M1.out.kp hb);have N':=hid (M2.out.kp hb);have U':=tR U9 hb;clear M1 M2 U9;have X':=hid hk;clear hb hk;clear rj;have HB1:=hid (show x.num≤100000∧x.typ≤100000 from by have h1:=HXO.out.num;have h2:=HXO.out.typ;omega);have hl:=(M'.out).look (t:=193) Tryz.underlying3 Tryz.underlying193 x.num (wf_nat _ (by have:=HB1.out;omega));rw[show cnum (b.l.take j) x.num=0 from HS1.out.1]at hl;rw[show((0:Nat):Int)=0 from rfl]at hl;obtain⟨wn6,hs,hm,hu⟩:=(M'.out).set (t:=193) Tryz.underlying3 Tryz.underlying193 (by have:=HJ.out;have:=HO.out.few;omega) x.num 1 (wf_nat _ (by have:=HB1.out;omega)) (wf_nat 1 (by decide));rw[show((1:Nat):Int)=1 from rfl]at hs;obtain⟨-,b1,-,-,-⟩:=blc_cells X'.out;go_upto_region 6 with(refine wpList_mapUpdate_run rfl _ _ _ 193 rfl (.map (some w.heap.size)) (.int .i64 x.num) (.int .i64 1) rfl rfl rfl hs ?_);have M8:=hid (show Cnt .i64 3 wn6 w.heap.size (j+1) (cnum (b.l.take (j+1)))from by have:=HS1.out.2;unfold cnum at hm ⊢;rw[this]at hm;exact hm);have N8:=hid ((N'.out).upd hu (show ¬w.heap.size+1=w.heap.size by omega));have X8:=hid ((X'.out).upd hu (show ¬(wr.heap.size)=w.heap.size by have:=HLT.out;omega));have U8:=hid ((U'.out).trans (hu.below (U'.out).size (fun k e=>by rw[e];exact Nat.le_refl _)));clear hl hs hm hu b1;have hl:=(N8.out).look (t:=193) Tryz.underlying3 Tryz.underlying193 x.typ (wf_nat _ (by have:=HB1.out;omega));rw[show ctyp (b.l.take j) x.typ=0 from HS2.out.1]at hl;rw[show((0:Nat):Int)=0 from rfl]at hl;obtain⟨wn7,hs,hm,hu⟩:=(N8.out).set (t:=193) Tryz.underlying3 Tryz.underlying193 (by have:=HJ.out;have:=HO.out.few;omega) x.typ 1 (wf_nat _ (by have:=HB1.out;omega)) (wf_nat 1 (by decide));rw[show((1:Nat):Int)=1 from rfl]at hs;obtain⟨b0,-,-,-,-⟩:=blc_cells X8.out;go_upto_region 7 with(refine wpList_mapUpdate_run rfl _ _ _ 193 rfl (.map (some (w.heap.size+1))) (.int .i64 x.typ) (.int .i64 1) rfl rfl rfl hs ?_);have N7:=hid (show Cnt .i64 3 wn7 (w.heap.size+1) (j+1) (ctyp (b.l.take (j+1)))from by have:=HS2.out.2;unfold ctyp at hm ⊢;rw[this]at hm;exact hm);have M7:=hid ((M8.out).upd hu (show ¬w.heap.size=w.heap.size+1 by omega));have X7:=hid ((X8.out).upd hu (show ¬(wr.heap.size)=w.heap.size+1 by have:=HLT.out;omega));have U7:=hid ((U8.out).trans (hu.below (U8.out).size (fun k e=>by rw[e];omega)));clear hl hs hm hu b0;have hl:=(M7.out).look (t:=193) Tryz.underlying3 Tryz.underlying193 x.num (wf_nat _ (by have:=HB1.out;omega));have h1:(cnum (b.l.take (j+1)) x.num:Int)≤1:=by have:=one_le (·.num) (b.l.take (j+1)) (HO.out.nums.sublist ((List.take_sublist _ _).map _)) x.num;unfold cnum;omega
    generalize cnum (b.l.take (j+1)) x.num=c at hl h1;obtain⟨-,b1,-,-,-⟩:=blc_cells X7.out;go_wp2_with fail;go_roundw;case rel=>exact⟨j+1,by have:=HJ.out;omega,by go_num,M7.out,N7.out,U7.out⟩
    case measure=>simp[intOf];have:=HJ.out;omega
  · have hj9:j=b.l.length:=by omega
    subst hj9;rw[List.take_length]at M2;have L1:=M2.out.look (t:=193) Tryz.underlying3 Tryz.underlying193 1 (wf_nat _ (by decide));have L6:=M2.out.look (t:=193) Tryz.underlying3 Tryz.underlying193 6 (wf_nat _ (by decide));have L7:=M2.out.look (t:=193) Tryz.underlying3 Tryz.underlying193 7 (wf_nat _ (by decide));have L10:=M2.out.look (t:=193) Tryz.underlying3 Tryz.underlying193 10 (wf_nat _ (by decide));rw[show ctyp b.l 1=1 from pay_one HO.out]at L1;rw[show((1:Nat):Int)=1 from rfl]at L1;rw[show((6:Nat):Int)=6 from rfl]at L6;rw[show((7:Nat):Int)=7 from rfl]at L7;rw[show((10:Nat):Int)=10 from rfl]at L10;have h6:(ctyp b.l 6:Int)<2:=by have:=one_le (·.typ) b.l HO.out.typs 6;unfold ctyp;omega
    have h7:(ctyp b.l 7:Int)<2:=by have:=one_le (·.typ) b.l HO.out.typs 7;unfold ctyp;omega
    have h10:(ctyp b.l 10:Int)<2:=by have:=one_le (·.typ) b.l HO.out.typs 10;unfold ctyp;omega
    generalize ctyp b.l 6=c6 at L6 h6;generalize ctyp b.l 7=c7 at L7 h7;generalize ctyp b.l 10=c10 at L10 h10;clear M1 M2 hj;go_wp2_with fail;go_ret;exact⟨rfl,U9.out⟩
theorem last_typ {b:Bun}(h:b.ok):∃(hl:b.l.length-1<b.l.length),b.l[b.l.length-1].typ=1:=by
 obtain⟨r,y,hl,hy⟩:=h.last;refine⟨by rw[hl];simp,?_⟩;simp[hl,hy]
theorem blasts_any (b:Bun)(h:b.ok)(g off cap:Nat)(w:World)(hc:b.l.length≤cap)(hr:RB w g off b.l):
 Rv 281 #[.slice (some ⟨g,off,none⟩) b.l.length cap] w (.bool true):=by
 obtain⟨hl,ht⟩:=last_typ h;have hcl:=(hr.cell (b.l.length-1) hl).1;rw[ht,show((1:Nat):Int)=1 from rfl]at hcl;obtain⟨m,hm⟩:∃m,b.l.length=m+1:=⟨b.l.length-1,by omega⟩;rw[hm]at hcl hc ⊢;have hm8:(m:Int)≤8:=by have:=h.few;omega
 have hmc:(m:Int)+1≤(cap:Int):=by omega
 rw[show m+1-1=m by omega]at hcl;clear h hr hc hl ht hm;go_enter Tryz.func281,Tryz.ntmps281;go_wp2_with fail;go_ret;exact⟨rfl,Below.refl _ _⟩
theorem flags_bit {p:Prim}(h:p.ok):bits .and .u64 (p.flags:Int) 1=0:=by
 rcases h.kind with⟨h,_⟩|⟨h,_⟩|⟨h,_⟩<;>rw[h]<;>decide+kernel
theorem bfits_any (b:Bun)(h:b.ok)(g off cap:Nat)(w:World)(hc:b.l.length≤cap)(hr:RB w g off b.l):
 Rv 283 #[.agg (bv b g off cap)] w (.bool true):=by
 have hbit:=flags_bit h.p;obtain⟨hl,ht⟩:=last_typ h;have hcl:=(hr.cell (b.l.length-1) hl).2.2.2.2;have HR:=hid hcl;obtain⟨m,hm⟩:∃m,b.l.length=m+1:=⟨b.l.length-1,by omega⟩;have HD:=hid (h.l _ (List.getElem_mem hl)).data;generalize b.l[b.l.length-1].data=d at*;unfold bv;rw[hm]at HR hc ⊢;have hm8:(m:Int)≤8:=by have:=h.few;omega
 have hmc:(m:Int)+1≤(cap:Int):=by omega
 rw[show m+1-1=m by omega]at HR;have HG:=hid hr.1;clear h hr hc ht hm hcl hl;obtain⟨w1,HE,U0,B'⟩:=mH1 w (bunc b.p (.slice (some ⟨g,off,none⟩) (m+1) cap)) 43;go_enter Tryz.func283,Tryz.ntmps283;go_upto_region 1 with(fail);rw[←HE.out];clear HE;obtain⟨c0,-,-,-,-,-,-,-,-,-,-,-,-,-,-,-,-,-,-,c19⟩:=bunc_cells B'.out;have hd:=(upd_of_below (S:=fun _=>False) U0.out).cell HR.out (fun h=>h);have hsz:(st d).size=d.length:=st_size d;have hdl:(d.length:Int)≤1000:=by have:=HD.out;omega
 go_wp2_with fail;go_ret;exact⟨rfl,U0.out⟩
theorem bfind_any (b:Bun)(g off cap typ:Nat)(w:World)(hn:b.l.length≤8)(hc:b.l.length≤cap)(hr:RB w g off b.l):
 Rv 194 #[.agg (bv b g off cap),.int .i64 typ] w (.tuple #[.agg (blc (fnd b.l typ).1),.bool (fnd b.l typ).2]):=by
 have HR:=hid hr;have HC:=hid hc;have HN:=hid hn;have hn8:(b.l.length:Int)≤8:=by omega
 have hnc:(b.l.length:Int)≤(cap:Int):=by omega
 have hz136:=zero136;clear hr hc hn;have hz136:=zero136;obtain⟨w1,HE,U0,B',R'⟩:=mH2 w (bv b g off cap) 43 (blc kZ) 136;go_enter Tryz.func194,Tryz.ntmps194;go_upto_region 1 with(fail);rw[←HE.out];clear HE;obtain⟨-,-,-,-,-,-,-,-,-,-,-,-,-,-,-,-,-,-,-,c19⟩:=bunc_cells B'.out;go_wp2_with fail;clear c19;go_loopw [11] (fun i wr=>∃j:Nat,j≤b.l.length∧i= .int .i64 j∧(∀i (h:i<b.l.length),i<j→b.l[i].typ≠typ)∧At wr (w.heap.size+1) (.cells (blc kZ) 136)∧Below w.heap.size w wr) (fun i _=>b.l.length-(intOf i).toNat);case atStart=>exact⟨0,Nat.zero_le _,rfl,fun _ _ h=>absurd h (by omega),R'.out,U0.out⟩
 case round=>
  obtain⟨j,hj,rfl,hno,hR,hu⟩:=hrel;have U9:=hid hu;have R9:=hid hR;have HNO:=hid hno;clear hu hR hno B' R' U0;by_cases hjl:j<b.l.length
  · have HF:=hid (show b.l[j].typ=typ→fnd b.l typ=(b.l[j],true)from fun e=>fnd_hit b.l typ j hjl HNO.out e);have HF2:=hid (show b.l[j].typ≠typ→∀i (h:i<b.l.length),i<j+1→b.l[i].typ≠typ from fun e i h hi=>by rcases Nat.lt_or_ge i j with q|q;exact HNO.out i h q;obtain rfl:i=j:=(by omega);exact e);clear HNO;have HJ:=hid hjl;have hj0:(j:Int)<(b.l.length:Int):=by omega
    have rj:=(RB.kp HR.out U9.out).at j hjl;generalize hx:b.l[j]=x at*;have HX:=hid hx;clear hx hjl hj;go_upto_region 4 with(first|(refine sV 136 7 14 (blc x) (size136 rfl) (blc_one _) ?_;intro w_1 hb hk)|refine wpList_load_mid rfl 136 (.tmp 13) rfl g (off+j*5) (by first|rfl|simp[Act.eval]) (blc x).toList _ rj Tryz.underlying136 rfl i136 ?_);replace R':=hid (R9.out.kp hb);have U':=tR U9 hb;clear R9 U9;have X':=hid hk;clear hb hk;clear rj;obtain⟨b0,-,-,-,-⟩:=blc_cells X'.out;by_cases hty:x.typ=typ
    · have hti:(x.typ:Int)=(typ:Int):=by omega
      have HE:=hid (HF.out hty);clear hty HF HF2;go_wp2_with (first|refine sR 136 4 19 (w.heap.size+1) (blc x) R'.out (size136 rfl) (blc_one _) ?_|refine lQ 136 7 X'.out ?_);have hu9:=upd_setRow w_1 (w.heap.size+1) (blc x);have hb9:=hu9.below (U'.out).size (fun k e=>by rw[e];first|exact Nat.le_refl _|omega);exact bodyPost_ret (rU ((R'.out).row _)) rfl ⟨by rw[HE.out];rfl,(U'.out).trans (hb9.mono (Nat.le_refl _))⟩
    · have hti:¬(x.typ:Int)=(typ:Int):=by omega
      have HE:=hid (HF2.out hty);clear hty HF HF2;go_wp2_with fail;go_roundw;case rel=>exact⟨j+1,by have:=HJ.out;omega,by go_num,HE.out,R'.out,U'.out⟩
      case measure=>simp[intOf];have:=HJ.out;omega
  · have HE:=hid (fnd_miss b.l typ fun i h=>HNO.out i h (by omega));have hj9:¬(j:Int)<(b.l.length:Int):=by omega
    clear HNO hj hjl;go_wp2_with (refine sR 136 4 21 (w.heap.size+1) (blc kZ) R9.out (size136 rfl) (blc_one _) ?_);have hu9:=upd_setRow wr (w.heap.size+1) (blc kZ);have hb9:=hu9.below (U9.out).size (fun k e=>by rw[e];first|exact Nat.le_refl _|omega);exact bodyPost_ret (rU ((R9.out).row _)) rfl ⟨by rw[HE.out];rfl,(U9.out).trans (hb9.mono (Nat.le_refl _))⟩
theorem bfind_k (b:Bun)(g off cap typ:Nat)(k:Int)(hk:k=(typ:Int))(w:World)(hn:b.l.length≤8)(hc:b.l.length≤cap)(hr:RB w g off b.l):Rv 194 #[.agg (bv b g off cap),.int .i64 k] w (.tuple #[.agg (blc (fnd b.l typ).1),.bool (fnd b.l typ).2]):=by
 subst hk;exact bfind_any b g off cap typ w hn hc hr
end
section
open Go.RowKit
theorem brules_any (b:Bun)(h:b.ok)(g off cap:Nat)(w:World)(hc:b.l.length≤cap)(hr:RB w g off b.l):
 Rv 210 #[.agg (bv b g off cap)] w (.int .i64 0):=by
 have htm:¬(b.p.time:Int)=0:=by have:=h.time;omega
 have HO:=hid h;have HR:=hid hr;have HC:=hid hc;have hn8:(b.l.length:Int)≤8:=by have:=h.few;omega
 have hnc:(b.l.length:Int)≤(cap:Int):=by omega
 have hz136:=zero136;clear h hr hc;obtain⟨w1,HE,U0,B'⟩:=mH1 w (bv b g off cap) 43;go_enter Tryz.func210,Tryz.ntmps210;go_upto_region 1 with(fail);rw[←HE.out];clear HE;obtain⟨-,-,-,-,-,-,-,-,-,-,-,-,-,-,-,-,-,-,-,c19⟩:=bunc_cells B'.out;go_upto_region 3 with(fail);clear c19;go_wp2_with (refine lQ 43 1 B'.out ?_);refine(bfind_k b g off cap 7 7 rfl w1 HO.out.few HC.out (RB.kp HR.out U0.out)).mono ?_;rintro e w_1 ⟨rfl,hb⟩;replace B':=hid (B'.out.kp hb);have U':=tR U0 hb;clear U0;clear hb;generalize fnd b.l 7=q at*;obtain⟨fx,fb⟩:=q;go_upto_region 4 with(refine sV 136 3 12 (blc fx) (size136 rfl) (blc_one _) ?_;intro w_4 hb hk);replace B':=hid (B'.out.kp hb);replace U':=tR U' hb;have F':=hid hk;clear hb hk;obtain⟨c0,c1,c2,c3,c4,c5,c6,c7,c8,c9,c10,c11,c12,c13,c14,c15,c16,c17,c18,c19⟩:=bunc_cells B'.out;go_wp2_with fail;refine(blasts_any b HO.out g off cap w_4 HC.out (RB.kp HR.out U'.out)).mono ?_;rintro e w_8 ⟨rfl,hb⟩;replace B':=hid (B'.out.kp hb);replace F':=hid (F'.out.kp hb);replace U':=tR U' hb;clear hb c0 c1 c2 c3 c4 c5 c6 c7 c8 c9 c10 c11 c12 c13 c14 c15 c16 c17 c18 c19;obtain⟨c0,c1,c2,c3,c4,c5,c6,c7,c8,c9,c10,c11,c12,c13,c14,c15,c16,c17,c18,c19⟩:=bunc_cells B'.out;go_wp2_with fail;refine(bonce_any b HO.out g off cap w_8 HC.out (RB.kp HR.out U'.out)).mono ?_;rintro e w_12 ⟨rfl,hb⟩;replace B':=hid (B'.out.kp hb);replace F':=hid (F'.out.kp hb);replace U':=tR U' hb;clear hb c0 c1 c2 c3 c4 c5 c6 c7 c8 c9 c10 c11 c12 c13 c14 c15 c16 c17 c18 c19;obtain⟨-,-,-,-,-,-,-,-,-,-,-,-,-,-,c14,-,-,-,-,-⟩:=bunc_cells B'.out;go_wp2_with (refine wpList_load_g (by rfl) 43 (.tmp 1) rfl (w.heap.size) 0 (by rfl) (bv b g off cap) _ (at_range B'.out) Tryz.underlying43 rfl (size43 rfl) ?_);refine(bfits_any b HO.out g off cap w_12 HC.out (RB.kp HR.out U'.out)).mono ?_;rintro e w_16 ⟨rfl,hb⟩;replace B':=hid (B'.out.kp hb);replace F':=hid (F'.out.kp hb);replace U':=tR U' hb;clear hb c14;go_wp2_with fail;go_ret;exact⟨rfl,U'.out⟩
def bacc (b:Bun)(j:Nat):List UInt8:=[0x9f]++encs (pitm b.p::(b.l.take j).map bitm)
theorem bacc_zero (b:Bun):[0x9f]++enc (pitm b.p)=bacc b 0:=by simp[bacc,encs]
theorem bacc_succ (b:Bun)(j:Nat)(hj:j<b.l.length):bacc b j++enc (bitm b.l[j])=bacc b (j+1):=by
 unfold bacc;rw[List.take_succ_eq_append_getElem hj,List.map_append];simp[encs,encs_app]
theorem bacc_end (b:Bun):bacc b b.l.length++[0xff]=b.enc:=by
 unfold bacc;rw[List.take_length];simp[Bun.enc,Bun.itm,enc]
theorem bacc_le (b:Bun)(h:b.ok):∀n j,b.l.length=j+n→(bacc b j).length≤4000
 |0,j,hj=>by
  have h1:=h.size;rw[←bacc_end,List.length_append]at h1;rw[show b.l.length=j by omega]at h1;omega
 |n+1,j,hj=>by
  have h1:=bacc_le b h n (j+1) (by omega);rw[←bacc_succ b j (by omega),List.length_append]at h1;omega
theorem bbuild_any (b:Bun)(h:b.ok)(g off cap:Nat)(w:World)(hc:b.l.length≤cap)(hr:RB w g off b.l):
 Rv 211 #[.agg (bv b g off cap)] w (.string (st b.enc)):=by
 have HO:=hid h;have HR:=hid hr;have HC:=hid hc;have hn8:(b.l.length:Int)≤8:=by have:=h.few;omega
 have hnc:(b.l.length:Int)≤(cap:Int):=by omega
 have hz136:=zero136;clear h hr hc;obtain⟨w1,HE,U0,B'⟩:=mH1 w (bv b g off cap) 43;go_enter Tryz.func211,Tryz.ntmps211;go_upto_region 1 with(fail);rw[←HE.out];clear HE;go_wp2_with (refine lM 40 10 (w.heap.size) 0 (prc b.p) (bun_prc B'.out) Tryz.underlying40 i40 ?_);refine(pBuild_any b.p HO.out.p w1).mono ?_;rintro e w_1 ⟨rfl,hb⟩;replace B':=hid (B'.out.kp hb);have U':=tR U0 hb;clear U0;clear hb;go_wp2_with fail;refine(open_array w_1).mono ?_;rintro e w_4 ⟨rfl,hb⟩;replace B':=hid (B'.out.kp hb);replace U':=tR U' hb;clear hb;obtain⟨-,-,-,-,-,-,-,-,-,-,-,-,-,-,-,-,-,-,-,c19⟩:=bunc_cells B'.out;have hap:st ([0x9f])++st (enc (pitm b.p))=st (bacc b 0):=by rw[st_app];exact congrArg st (bacc_zero b)
 obtain⟨p,hp⟩:∃p,(st ([0x9f])).size=p:=⟨_,rfl⟩;obtain⟨q,hq⟩:∃q,(st (enc (pitm b.p))).size=q:=⟨_,rfl⟩;have hsz:p+q≤4000:=by rw[←hp, ←hq,st_size,st_size, ←List.length_append,bacc_zero b];exact bacc_le b HO.out _ 0 (Nat.zero_add _).symm
 go_wp2_with fail;clear hap hp hq hsz p q c19;go_loopw [3,21] (fun t i wr=>∃j:Nat,j≤b.l.length∧i= .int .i64 j∧t= .string (st (bacc b j))∧Below w.heap.size w wr) (fun _ i _=>b.l.length-(intOf i).toNat);case atStart=>exact⟨0,Nat.zero_le _,rfl,rfl,U'.out⟩
 case round=>
  obtain⟨j,hj,rfl,rfl,hu⟩:=hrel;have U9:=hid hu;clear hu;by_cases hjl:j<b.l.length
  · have HJ:=hid hjl;have hj0:(j:Int)<(b.l.length:Int):=by omega
    have rj:=(RB.kp HR.out U9.out).at j hjl;have HXO:=hid (HO.out.l _ (List.getElem_mem hjl));have HS:=hid (bacc_succ b j hjl);have HZ:=hid (bacc_le b HO.out _ (j+1) (show b.l.length=j+1+(b.l.length-(j+1)) by omega));generalize hx:b.l[j]=x at*;have HX:=hid hx;clear hx hjl hj;go_upto_region 6 with(first|(refine sV 136 6 24 (blc x) (size136 rfl) (blc_one _) ?_;intro w_1 hb hk)|refine wpList_load_mid rfl 136 (.tmp 23) rfl g (off+j*5) (by first|rfl|simp[Act.eval]) (blc x).toList _ rj Tryz.underlying136 rfl i136 ?_);replace U':=tR U9 hb;clear U9;have X':=hid hk;clear hb hk;clear rj;go_wp2_with (refine lQ 136 6 X'.out ?_);refine(bBuild_any x HXO.out w_1).mono ?_;rintro e w_4 ⟨rfl,hb⟩;replace X':=hid (X'.out.kp hb);replace U':=tR U' hb;clear hb;have hap:st (bacc b j)++st (enc (bitm x))=st (bacc b (j+1)):=by rw[st_app];exact congrArg st (HS.out)
    obtain⟨p,hp⟩:∃p,(st (bacc b j)).size=p:=⟨_,rfl⟩;obtain⟨q,hq⟩:∃q,(st (enc (bitm x))).size=q:=⟨_,rfl⟩;have hsz:p+q≤4000:=by rw[←hp, ←hq,st_size,st_size, ←List.length_append,HS.out];exact HZ.out
    go_wp2_with fail;go_roundw;case rel=>exact⟨j+1,by have:=HJ.out;omega,by go_num,rfl,U'.out⟩
    case measure=>simp[intOf];have:=HJ.out;omega
  · have hj9:j=b.l.length:=by omega
    subst hj9;clear hj hjl;go_wp2_with fail;refine(open_break wr).mono ?_;rintro e w_1 ⟨rfl,hb⟩;replace U':=tR U9 hb;clear U9;clear hb;have hap:st (bacc b b.l.length)++st ([0xff])=st (b.enc):=by rw[st_app];exact congrArg st (bacc_end b)
    obtain⟨p,hp⟩:∃p,(st (bacc b b.l.length)).size=p:=⟨_,rfl⟩;obtain⟨q,hq⟩:∃q,(st ([0xff])).size=q:=⟨_,rfl⟩;have hsz:p+q≤4000:=by rw[←hp, ←hq,st_size,st_size, ←List.length_append,bacc_end b];exact HO.out.size
    go_wp2_with fail;go_ret;exact⟨rfl,U'.out⟩
theorem bmade_any (b:Bun)(h:b.ok)(g off cap:Nat)(w:World)(hc:b.l.length≤cap)(hr:RB w g off b.l):
 Rv 151 #[.agg (bv b g off cap)] w (.tuple #[.string (st b.enc),.int .i64 0]):=by
 have HO:=hid h;have HR:=hid hr;have HC:=hid hc;have hn8:(b.l.length:Int)≤8:=by have:=h.few;omega
 have hnc:(b.l.length:Int)≤(cap:Int):=by omega
 clear h hr hc;obtain⟨w1,HE,U0,B'⟩:=mH1 w (bv b g off cap) 43;go_enter Tryz.func151,Tryz.ntmps151;go_upto_region 1 with(fail);rw[←HE.out];clear HE;go_wp2_with (refine lQ 43 1 B'.out ?_);refine(bparts_any b HO.out g off cap w1 HC.out (RB.kp HR.out U0.out)).mono ?_;rintro e w_1 ⟨rfl,hb⟩;replace B':=hid (B'.out.kp hb);have U':=tR U0 hb;clear U0;clear hb;go_wp2_with (refine lQ 43 1 B'.out ?_);refine(brules_any b HO.out g off cap w_1 HC.out (RB.kp HR.out U'.out)).mono ?_;rintro e w_4 ⟨rfl,hb⟩;replace B':=hid (B'.out.kp hb);replace U':=tR U' hb;clear hb;go_wp2_with (refine lQ 43 1 B'.out ?_);refine(bbuild_any b HO.out g off cap w_4 HC.out (RB.kp HR.out U'.out)).mono ?_;rintro e w_7 ⟨rfl,hb⟩;replace B':=hid (B'.out.kp hb);replace U':=tR U' hb;clear hb;have hsz:=st_size b.enc;have hle:¬(4000:Int)<(b.enc.length:Int):=by have:=HO.out.size;omega
 go_wp2_with fail;refine bodyPost_ret (v:= .tuple #[.string (st b.enc),.int .i64 0]) (by simp[results,Tryz.results151,go_sem]) rfl ⟨rfl,U'.out⟩
theorem bRight_any (b:Bun)(h:b.ok)(g off cap:Nat)(w:World)(hc:b.l.length≤cap)(hr:RB w g off b.l):
 Rv 110 #[.agg (bv b g off cap)] w (.int .i64 0):=by
 have HO:=hid h;have HR:=hid hr;have HC:=hid hc;have hn8:(b.l.length:Int)≤8:=by have:=h.few;omega
 have hnc:(b.l.length:Int)≤(cap:Int):=by omega
 clear h hr hc;obtain⟨w1,HE,U0,B'⟩:=mH1 w (bv b g off cap) 43;go_enter Tryz.func110,Tryz.ntmps110;go_upto_region 1 with(fail);rw[←HE.out];clear HE;go_wp2_with (refine lQ 43 1 B'.out ?_);refine(bmade_any b HO.out g off cap w1 HC.out (RB.kp HR.out U0.out)).mono ?_;rintro e w_1 ⟨rfl,hb⟩;replace B':=hid (B'.out.kp hb);have U':=tR U0 hb;clear U0;clear hb;go_wp2_with fail;go_ret;exact⟨rfl,U'.out⟩
theorem bBun_any (b:Bun)(h:b.ok)(g off cap:Nat)(w:World)(hc:b.l.length≤cap)(hr:RB w g off b.l):
 Rv 89 #[.agg (bv b g off cap)] w (.tuple #[.string (st b.enc),.int .i64 0]):=by
 have HO:=hid h;have HR:=hid hr;have HC:=hid hc;have hn8:(b.l.length:Int)≤8:=by have:=h.few;omega
 have hnc:(b.l.length:Int)≤(cap:Int):=by omega
 clear h hr hc;obtain⟨w1,HE,U0,B'⟩:=mH1 w (bv b g off cap) 43;go_enter Tryz.func89,Tryz.ntmps89;go_upto_region 1 with(fail);rw[←HE.out];clear HE;go_wp2_with (refine lQ 43 1 B'.out ?_);refine(bmade_any b HO.out g off cap w1 HC.out (RB.kp HR.out U0.out)).mono ?_;rintro e w_1 ⟨rfl,hb⟩;replace B':=hid (B'.out.kp hb);have U':=tR U0 hb;clear U0;clear hb;go_wp2_with fail;refine bodyPost_ret (v:= .tuple #[.string (st b.enc),.int .i64 0]) (by simp[results,Tryz.results89,go_sem]) rfl ⟨rfl,U'.out⟩
end
end Go.Proofs.YtlhlmflacdeafaaGreatDoor
