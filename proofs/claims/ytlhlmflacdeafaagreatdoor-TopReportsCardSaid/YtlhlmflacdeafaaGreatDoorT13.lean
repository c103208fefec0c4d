/-
  A part of the walk of TopReports.
-/
import Derived.Test.YtlhlmflacdeafaaGreatDoorT12
import Derived.Lib.AppendZerosOnto
import Derived.Lib.Overlaps
import Derived.Laws.Externs
import Derived.Laws.CopyRow
import Derived.Deep.RegionLaw
set_option maxRecDepth 100000
set_option maxHeartbeats 4000000
set_option linter.unusedVariables false
set_option linter.unusedSimpArgs false
namespace Go.Proofs.YtlhlmflacdeafaaGreatDoor
section
open Go.RowKit
theorem run_copy_rows {P:Program}(w:World)(dT sT ty elem:TypeId)(size m g o dLen dCap:Nat)(a:Addr)(sLen sCap:Nat)(cur:Array Value)(t:TypeId)(cs:List Value)
 (hu:P.underlying dT=some (.slice elem))(hs:(P.info? elem).map (·.size)=some size)(hg:w.heap[g]? =some (.cells cur t (0,0)))(hm:Nat.min sLen dLen=m)(hn:cs.length=m*size)
 (hsrc:∀j v,cs[j]? =some v→w.cell? (a.add j)=some v)(hfit:o+cs.length≤cur.size)(h1:∀v∈cs,v.oneCell'=true):
 (Builtin.copy_ #[dT,sT] ty #[.slice (some ⟨g,o,none⟩) dLen dCap,.slice (some a) sLen sCap]).run P w=
  .ok (.int .i64 m) (w.setRow g (cur.toList.take o++cs++cur.toList.drop (o+cs.length)).toArray):=by
 have hl:=run_loadCells_list (P:=P) w a cs hsrc;have hst:=run_storeCells_at P g o t cs 0 cur w hg (by simpa using hfit) h1;cases hq:P.info? elem with
 |none=>simp[hq]at hs
 |some i=>
  have hi:i.size=size:=by simpa[hq]using hs
  rw[hn]at hl;simp[Builtin.copy_,run_underlying hu,Builtin.lenOf,Builtin.firstCells,sizeOf,typeInfo,hq,hi,hm,hl,hst,goInt]
theorem wpList_copy_run {P:Program}{w:World}{ops:Array Oper}{rest:List Oper}{o:Oper}{a:Act}{Q:QT}(hgd:o.guard=none)(d s:Operand)(t t':TypeId)
 (ho:o.op= .call { callee:= .builtin .copy,args:=#[d,s],argTypes:=#[t,t'] })(v u:Value)(hd:a.eval d=v)(hs:a.eval s=u){v':Value}{w':World}
 (hr:(Builtin.copy_ #[t,t'] o.type #[v,u]).run P w= .ok v' w')(h:wpList P ops Q rest (a.put o.dst v') w'):wpList P ops Q (o::rest) a w:=
 wpList_plain hgd fun _ hK=>by
  unfold Oper.wp execOp;simp only[ho,resolve,invoke,builtin,Sem.run_bind,Sem.run_pure,Result.andThen_ok,List.map_toArray,List.map_cons,List.map_nil,hd,hs,hr];exact hK _ _ h
theorem wpList_append2_run {P:Program}{w:World}{ops:Array Oper}{rest:List Oper}{o:Oper}{a:Act}{Q:QT}(hgd:o.guard=none)(d s:Operand)(t t':TypeId)
 (ho:o.op= .call { callee:= .builtin .append,args:=#[d,s],argTypes:=#[t,t'] })(v u:Value)(hd:a.eval d=v)(hs:a.eval s=u){v':Value}{w':World}
 (hr:(Builtin.append_ #[t,t'] o.type #[v,u]).run P w= .ok v' w')(h:wpList P ops Q rest (a.put o.dst v') w'):wpList P ops Q (o::rest) a w:=
 wpList_plain hgd fun _ hK=>by
  unfold Oper.wp execOp;simp only[ho,resolve,invoke,builtin,Sem.run_bind,Sem.run_pure,Result.andThen_ok,List.map_toArray,List.map_cons,List.map_nil,hd,hs,hr];exact hK _ _ h
theorem step_copy_run {P:Program}{ops:Array Oper}{o:Oper}{a:Act}{w:World}{K:Act→World→Prop}{Q:QT}{E:Prop}
 (hg:o.guard=none)(d x:Operand)(dT sT:TypeId)(hop:o.op=Op.call { callee:=Callee.builtin Builtin.copy,args:=#[d,x],argTypes:=#[dT,sT] })
 (v u:Value)(hd:a.eval d=v)(hx:a.eval x=u){v':Value}{w':World}(hr:(Builtin.copy_ #[dT,sT] o.type #[v,u]).run P w= .ok v' w')(hK:K (a.put o.dst v') w'):
 if Region.wanted o (yielded ops a.tmps)=true then Oper.wp P o a w K Q else E:=by
 have hw:Region.wanted o (yielded ops a.tmps)=true:=by simp[Region.wanted,hg]
 rw[if_pos hw];unfold Oper.wp execOp;simp only[hop,resolve,invoke,builtin,Sem.run_bind,Sem.run_pure,Result.andThen_ok,List.map_toArray,List.map_cons,List.map_nil,hd,hx,hr];exact hK
theorem shape_of {w:World}{b:Nat}{cs:Array Value}{t:TypeId}(h:At w b (.cells cs t)):w.shape? b=some (t,cs.size):=by
 have h:w.heap[b]? =some (.cells cs t (0,0)):=h;simp[World.shape?,h]
theorem overlaps_no {w:World}{a b:Nat}(o la ca lb cb:Nat){ca' cb':Array Value}{ta tb:TypeId}(ha:At w a (.cells ca' ta))(hb:At w b (.cells cb' tb))(hne:a≠b)(hz:cb'.size≠0):
 (callFunc 349 #[.slice (some ⟨a,0,none⟩) la ca,.slice (some ⟨b,o,none⟩) lb cb]).run Tryz.prog w= .ok (.value (.bool false)) w:=by
 rw[run_callFunc_extern Tryz.func349 (by kernel_rfl) (by kernel_rfl) (by kernel_rfl) (e:=Extern.SlicesOverlaps.overlaps #[41,41] #[4]) (by kernel_rfl),
  Lib.run_overlaps_apart w 41 4 136 Tryz.underlying41 5 Tryz.sizeOf136 ⟨a,0,none⟩ ⟨b,o,none⟩ la ca lb cb hne ta tb ca'.size cb'.size (shape_of ha) (shape_of hb) hz (frozen_of_row w a 0 _ ta ha) (frozen_of_row w a _ _ ta ha)]
 rfl
theorem i136s:(Tryz.prog.info? 136).map (·.size)=some 5:=size136 (cs:=blc kZ) rfl
theorem zc_len (n:Nat):(Builtin.zeroCells (Value.agg (blc kZ)).cells n).size=n*5:=by simp[Builtin.zeroCells,Value.cells,blc]
theorem splice_take {α:Type}(L cs:List α)(o:Nat)(ho:o≤L.length):(L.take o++cs++L.drop (o+cs.length)).take (o+cs.length)=L.take o++cs:=by
 rw[List.take_append_of_le_length (by rw[List.length_append,List.length_take];omega),List.take_of_length_le (by rw[List.length_append,List.length_take];omega)]
theorem binsert_1 (l:List Blk5)(y x:Blk5)(g cap vb vc:Nat)(cur:Array Value)(w:World)(hl:l.length=1)(hg:At w g (.cells cur 136))(hs:cur.size=cap*5)(hn:2≤cap)(hm:cap≤maxLen)(ht:cur.toList.take 10=(l++[y]).flatMap fun x=>(blc x).toList)(hv:At w vb (.cells (blc x) 136))(hne:vb≠g):
 Calls Tryz.prog 279 #[.slice (some ⟨g,0,none⟩) 2 cap,.int .i64 1,.slice (some ⟨vb,0,none⟩) 1 vc] w fun e w'=>∃g2 cap2,e= .returned (.slice (some ⟨g2,0,none⟩) 3 cap2)∧3≤cap2∧RB w' g2 0 (l++[x,y])∧Upd (·=g) w w'∧(g2=g∨w.heap.size≤g2):=by
 have hfl:=flat_len l;rw[hl]at hfl;have hbx:(blc x).toList.length=5:=rfl;have hby:(blc y).toList.length=5:=rfl;have ht2:cur.toList.take 10=(l.flatMap fun x=>(blc x).toList)++(blc y).toList:=by rw[ht,List.flatMap_append];simp
 have hfy:cur.toList.length=cap*5:=by rw[Array.length_toList,hs]
 have ht3:cur.toList.take 5=l.flatMap fun x=>(blc x).toList:=by
  have e:=congrArg (List.take 5) ht2;rw[List.take_take,Nat.min_eq_left (by decide)]at e;rw[e,List.take_append_of_le_length (by omega),List.take_of_length_le (by omega)]
 have hc0:∀j v,(l.flatMap fun x=>(blc x).toList)[j]? =some v→w.cell? ⟨g,j,none⟩=some v:=fun j v hj=>by
  rw[cell_of_row w g j cur 136 (0,0) hg, ←Array.getElem?_toList];rw[←ht3,List.getElem?_take]at hj;split at hj
  · exact hj
  · cases hj
 have hc1:∀j v,(blc y).toList[j]? =some v→w.cell? ⟨g,5+j,none⟩=some v:=fun j v hj=>by
  rw[cell_of_row w g (5+j) cur 136 (0,0) hg, ←Array.getElem?_toList];have hj5:j<5:=by have:=(List.getElem?_eq_some_iff.1 hj).1;omega
  have h2:((l.flatMap fun x=>(blc x).toList)++(blc y).toList)[5+j]? =some v:=by rw[List.getElem?_append_right (by omega),hfl,show 5+j-1*5=j by omega];exact hj
  rw[←ht2,List.getElem?_take,if_pos (by omega)]at h2;exact h2
 have hc2:∀j v,(blc x).toList[j]? =some v→w.cell? ⟨vb,j,none⟩=some v:=fun j v hj=>by
  rw[cell_of_row w vb j _ 136 (0,0) hv, ←Array.getElem?_toList];exact hj
 have hend:((l++[x,y]).flatMap fun x=>(blc x).toList)=(l.flatMap fun x=>(blc x).toList)++(blc x).toList++(blc y).toList:=by simp
 have hlen2:(l++[x,y]).length=3:=by simp[hl]
 obtain⟨i0,hi0,hz0,hz1,hz2⟩:=info_parts info136;by_cases hcap:cap=2
 · subst hcap;have hold:(Builtin.firstCells i0.size 1 (.slice (some ⟨g,0,none⟩) 1 2)).run Tryz.prog w.drew= .ok (l.flatMap fun x=>(blc x).toList).toArray w.drew:=by
    rw[hz1];exact run_firstCells_some w.drew 5 1 ⟨g,0,none⟩ 1 2 _ hfl (fun j v hj=>by rw[Addr.add_lit,Nat.zero_add];exact hc0 j v hj)
   have hrz:∀ty,(Builtin.append_ #[41,3] ty #[.slice (some ⟨g,0,none⟩) 1 2,.int .i64 2]).run Tryz.prog w=_:=fun ty=>
    Lib.run_append_grow_zeros w 41 3 ty 136 i0 _ .i64 .i64 Tryz.underlying41 Tryz.underlying3 hi0 hz0 (some ⟨g,0,none⟩) 1 2 (l.flatMap fun x=>(blc x).toList) hold 2 (by decide) (by omega) (by decide) (by decide) (by rw[hz2];decide) (by rw[hz2];exact growslice_fits (by decide) (by decide))
   rw[show 1+2=3 from rfl]at hrz;have hGn:=grownCap_ge w 3 2 136;have hG63:=grownCap_le_maxLen w 3 2 136 (by decide);generalize grownCap w 3 2 136=G at*;obtain⟨ROW,hROW⟩:∃ROW:Array Value,ROW=(l.flatMap fun x=>(blc x).toList).toArray++Builtin.zeroCells (Value.agg (blc kZ)).cells 2++Builtin.zeroCells (Value.agg (blc kZ)).cells (G-3):=⟨_,rfl⟩;rw[←hROW]at hrz;have hRs:ROW.size=G*5:=by rw[hROW];simp only[Array.size_append,zc_len,List.size_toArray,hfl];omega
   have hRt:ROW.toList.take 5=l.flatMap fun x=>(blc x).toList:=by
    rw[hROW,Array.toList_append,Array.toList_append,List.append_assoc,List.take_append_of_le_length (by simp[hfl]),List.take_of_length_le (by simp[hfl])]
   clear hROW hold;obtain⟨w1,he,hb0,hN⟩:=mk1 w.drew ROW 136;rw[←he]at hrz;have hsz:w.drew.heap.size=w.heap.size:=rfl;rw[hsz]at hN;have hb1:Below w.heap.size w w1:=⟨hb0.os,hb0.tape,hb0.output,hb0.size,hb0.block⟩;clear hb0;have HE1:=hid he;clear he;have hgw:=At.lt hg;have hvw:=At.lt hv;have hrA:∀ty dc,(Builtin.copy_ #[41,41] ty #[.slice (some ⟨w.heap.size,5,none⟩) 2 dc,.slice (some ⟨vb,0,none⟩) 1 vc]).run Tryz.prog w1=_:=fun ty dc=>
    run_copy_rows w1 41 41 ty 136 5 1 w.heap.size 5 2 dc ⟨vb,0,none⟩ 1 vc ROW 136 (blc x).toList Tryz.underlying41 i136s hN rfl rfl (fun j v hj=>by rw[Addr.add_lit,Nat.zero_add];exact(upd_of_below (S:=fun _=>False) hb1).cell (hc2 j v hj) (fun h=>h)) (by rw[hbx,hRs];omega) (all_one (blc_one x))
   rw[hbx]at hrA;obtain⟨R1,hR1⟩:∃R1,R1=(ROW.toList.take 5++(blc x).toList++ROW.toList.drop (5+5)).toArray:=⟨_,rfl⟩;rw[←hR1]at hrA;have hR1s:R1.size=G*5:=by rw[hR1];simp only[List.size_toArray,List.length_append,List.length_take,List.length_drop,Array.length_toList,hbx,hRs];omega
   have hR1t:R1.toList.take (5+5)=(l.flatMap fun x=>(blc x).toList)++(blc x).toList:=by
    rw[hR1, ←hRt];exact splice_take ROW.toList (blc x).toList 5 (by rw[Array.length_toList,hRs];omega)
   have hN2:At (w1.setRow w.heap.size R1) w.heap.size (.cells R1 136):=At.row hN R1;have hu2:=upd_setRow w1 w.heap.size R1;generalize World.setRow w1 w.heap.size R1=w2 at*;have hrB:∀ty dc sc,(Builtin.copy_ #[41,41] ty #[.slice (some ⟨w.heap.size,10,none⟩) 1 dc,.slice (some ⟨g,5,none⟩) 1 sc]).run Tryz.prog w2.drew=_:=fun ty dc sc=>
    run_copy_rows w2.drew 41 41 ty 136 5 1 w.heap.size 10 1 dc ⟨g,5,none⟩ 1 sc R1 136 (blc y).toList Tryz.underlying41 i136s hN2 rfl rfl (fun j v hj=>by rw[Addr.add_lit];exact hu2.cell ((upd_of_below (S:=fun _=>False) hb1).cell (hc1 j v hj) (fun h=>h)) (show ¬g=w.heap.size by omega)) (by rw[hby,hR1s];omega) (all_one (blc_one y))
   rw[hby]at hrB;obtain⟨R2,hR2⟩:∃R2,R2=(R1.toList.take 10++(blc y).toList++R1.toList.drop (10+5)).toArray:=⟨_,rfl⟩;rw[←hR2]at hrB;have hR2t:R2.toList.take 15=(l.flatMap fun x=>(blc x).toList)++(blc x).toList++(blc y).toList:=by
    have:=splice_take R1.toList (blc y).toList 10 (by rw[Array.length_toList,hR1s];omega);rw[hby]at this;rw[hR2, ←hR1t];exact this
   have HF:=hid (show RB (w2.drew.setRow w.heap.size R2) w.heap.size 0 (l++[x,y])∧Upd (·=g) w (w2.drew.setRow w.heap.size R2)from
    ⟨RB.of (At.row (w:=w2.drew) hN2 R2) (by rw[hlen2,hend];exact hR2t),by
     have u1:Upd (·=g) w w1:=upd_of_below hb1;have u2:Upd (·=g) w w2:=u1.above' (T:=(·=w.heap.size)) hu2 (fun i e=>by rw[e];exact Nat.le_refl _);exact u2.above' (T:=(·=w.heap.size)) ((upd_drew _ w2).trans (upd_setRow w2.drew w.heap.size R2)) (fun i e=>by rw[e];exact Nat.le_refl _)⟩)
   generalize World.setRow w2.drew w.heap.size R2=w3 at*;have HG:=hid (And.intro hGn hG63);have hG0:(3:Int)≤(G:Int):=by omega
   have hG1:(G:Int)≤9223372036854775807:=by unfold maxLen at hG63;omega
   have hq1:¬(G=1):=by omega
   have hq2:¬(G=2):=by omega
   clear hR2t hR2 hR1t hR1 hR1s hRt hRs hN2 hu2 hN hb1 hc0 hc1 hc2 hend hlen2 hfl hbx hby ht ht2 ht3 hfy hs hn hm hv hg hgw hvw hi0 hz0 hz1 hz2 hGn hG63 hsz hl;go_enter Tryz.func279,Tryz.ntmps279;go_upto_region 11 with(first
    |refine wpList_append2_run (o:=⟨some 40,_,_,_,_,_⟩) rfl (.tmp 34) (.tmp 39) 41 3 rfl (.slice (some ⟨g,0,none⟩) 1 2) (.int .i64 2) (by rfl) (by rfl) (hrz 41) ?_
    |refine wpList_copy_run (o:=⟨some 45,_,_,_,_,_⟩) rfl (.tmp 43) (.tmp 44) 41 41 rfl (.slice (some ⟨w.heap.size,5,none⟩) 2 (G-1)) (.slice (some ⟨vb,0,none⟩) 1 vc) (by rfl) (by rfl) (hrA 3 _) ?_)
   have hwr:IntKind.i64.wrap 2=2:=rfl;go_region_law (refine step_copy_run rfl (.tmp 50) (.tmp 53) 41 41 rfl (.slice (some ⟨w.heap.size,10,none⟩) 1 (G-2)) (.slice (some ⟨g,5,none⟩) 1 1) (by simp[Act.eval,Act.put]) (by simp[Act.eval,Act.put]) (hrB 3 _ _) ?_);go_wp2_with fail;go_ret;exact⟨w.heap.size,G,rfl,HG.out.1,HF.out.1,HF.out.2,.inr (Nat.le_refl _)⟩
 · have hroom:3≤cap:=by omega
   have hrA:∀ty dc sc,(Builtin.copy_ #[41,41] ty #[.slice (some ⟨g,10,none⟩) 1 dc,.slice (some ⟨g,5,none⟩) 2 sc]).run Tryz.prog w.drew=_:=fun ty dc sc=>
    run_copy_rows w.drew 41 41 ty 136 5 1 g 10 1 dc ⟨g,5,none⟩ 2 sc cur 136 (blc y).toList Tryz.underlying41 i136s hg rfl rfl (fun j v hj=>by rw[Addr.add_lit];exact hc1 j v hj) (by rw[hby,hs];omega) (all_one (blc_one y))
   rw[hby]at hrA;obtain⟨R1,hR1⟩:∃R1,R1=(cur.toList.take 10++(blc y).toList++cur.toList.drop (10+5)).toArray:=⟨_,rfl⟩;rw[←hR1]at hrA;have hR1s:R1.size=cap*5:=by rw[hR1];simp only[List.size_toArray,List.length_append,List.length_take,List.length_drop,hfy,hby];omega
   have hR1l:R1.toList=(l.flatMap fun x=>(blc x).toList)++((blc y).toList++((blc y).toList++cur.toList.drop (10+5))):=by rw[hR1,ht2];simp
   have hN2:At (w.drew.setRow g R1) g (.cells R1 136):=At.row (w:=w.drew) hg R1;have hu2:Upd (·=g) w (w.drew.setRow g R1):=(upd_drew _ w).trans (upd_setRow w.drew g R1);have hov:=fun la ca o lb cb=>overlaps_no (w:=w) o la ca lb cb hv hg hne (by rw[hs];omega);generalize World.setRow w.drew g R1=w2 at*;have hrB:∀ty dc,(Builtin.copy_ #[41,41] ty #[.slice (some ⟨g,5,none⟩) 2 dc,.slice (some ⟨vb,0,none⟩) 1 vc]).run Tryz.prog w2=_:=fun ty dc=>
    run_copy_rows w2 41 41 ty 136 5 1 g 5 2 dc ⟨vb,0,none⟩ 1 vc R1 136 (blc x).toList Tryz.underlying41 i136s hN2 rfl rfl (fun j v hj=>by rw[Addr.add_lit,Nat.zero_add];exact hu2.cell (hc2 j v hj) hne) (by rw[hbx,hR1s];omega) (all_one (blc_one x))
   rw[hbx]at hrB;obtain⟨R2,hR2⟩:∃R2,R2=(R1.toList.take 5++(blc x).toList++R1.toList.drop (5+5)).toArray:=⟨_,rfl⟩;rw[←hR2]at hrB;have hR2t:R2.toList.take 15=(l.flatMap fun x=>(blc x).toList)++(blc x).toList++(blc y).toList:=by
    have e1:R1.toList.take 5=l.flatMap fun x=>(blc x).toList:=by rw[hR1l,List.take_append_of_le_length (by omega),List.take_of_length_le (by omega)]
    have e2:R1.toList.drop (5+5)=(blc y).toList++cur.toList.drop (10+5):=by
     have e3:R1.toList.drop (5+5)=(R1.toList.drop 5).drop 5:=by rw[List.drop_drop]
     rw[e3,hR1l,List.drop_left' hfl,List.drop_left' hby]
    rw[hR2,e1,e2, ←List.append_assoc];rw[List.take_append_of_le_length (by simp only[List.length_append,hfl,hbx,hby];omega),List.take_of_length_le (by simp only[List.length_append,hfl,hbx,hby];omega)]
   have HF:=hid (show RB (w2.setRow g R2) g 0 (l++[x,y])∧Upd (·=g) w (w2.setRow g R2)from
    ⟨RB.of (At.row hN2 R2) (by rw[hlen2,hend];exact hR2t),hu2.trans (upd_setRow w2 g R2)⟩)
   generalize World.setRow w2 g R2=w3 at*;have HG:=hid hroom;have hG0:(3:Int)≤(cap:Int):=by omega
   have hG1:(cap:Int)≤9223372036854775807:=by unfold maxLen at hm;omega
   have hq1:¬(cap=1):=by omega
   have hq2:¬(cap=2):=by omega
   clear hR2t hR2 hR1 hR1s hR1l hN2 hu2 hc0 hc1 hc2 hend hlen2 hfl hbx hby ht ht2 ht3 hfy hs hn hm hv hg hi0 hz0 hz1 hz2 hroom hl hcap;go_enter Tryz.func279,Tryz.ntmps279;go_wp2_with (simp only[hov]);have hwr:IntKind.i64.wrap 2=2:=rfl;go_region_law (refine step_copy_run rfl (.tmp 73) (.tmp 76) 41 41 rfl (.slice (some ⟨g,10,none⟩) 1 (cap-2)) (.slice (some ⟨g,5,none⟩) 2 (cap-1)) (by simp[Act.eval,Act.put]) (by simp[Act.eval,Act.put]) (hrA 3 _ _) ?_);go_wp2_with (refine wpList_copy_run (o:=⟨some 82,_,_,_,_,_⟩) rfl (.tmp 80) (.tmp 81) 41 41 rfl (.slice (some ⟨g,5,none⟩) 2 (cap-1)) (.slice (some ⟨vb,0,none⟩) 1 vc) (by rfl) (by rfl) (hrB 3 _) ?_);go_ret;exact⟨g,cap,rfl,HG.out,HF.out.1,HF.out.2,.inl rfl⟩
theorem binsert_2 (l:List Blk5)(y x:Blk5)(g cap vb vc:Nat)(cur:Array Value)(w:World)(hl:l.length=2)(hg:At w g (.cells cur 136))(hs:cur.size=cap*5)(hn:3≤cap)(hm:cap≤maxLen)(ht:cur.toList.take 15=(l++[y]).flatMap fun x=>(blc x).toList)(hv:At w vb (.cells (blc x) 136))(hne:vb≠g):
 Calls Tryz.prog 279 #[.slice (some ⟨g,0,none⟩) 3 cap,.int .i64 2,.slice (some ⟨vb,0,none⟩) 1 vc] w fun e w'=>∃g2 cap2,e= .returned (.slice (some ⟨g2,0,none⟩) 4 cap2)∧4≤cap2∧RB w' g2 0 (l++[x,y])∧Upd (·=g) w w'∧(g2=g∨w.heap.size≤g2):=by
 have hfl:=flat_len l;rw[hl]at hfl;have hbx:(blc x).toList.length=5:=rfl;have hby:(blc y).toList.length=5:=rfl;have ht2:cur.toList.take 15=(l.flatMap fun x=>(blc x).toList)++(blc y).toList:=by rw[ht,List.flatMap_append];simp
 have hfy:cur.toList.length=cap*5:=by rw[Array.length_toList,hs]
 have ht3:cur.toList.take 10=l.flatMap fun x=>(blc x).toList:=by
  have e:=congrArg (List.take 10) ht2;rw[List.take_take,Nat.min_eq_left (by decide)]at e;rw[e,List.take_append_of_le_length (by omega),List.take_of_length_le (by omega)]
 have hc0:∀j v,(l.flatMap fun x=>(blc x).toList)[j]? =some v→w.cell? ⟨g,j,none⟩=some v:=fun j v hj=>by
  rw[cell_of_row w g j cur 136 (0,0) hg, ←Array.getElem?_toList];rw[←ht3,List.getElem?_take]at hj;split at hj
  · exact hj
  · cases hj
 have hc1:∀j v,(blc y).toList[j]? =some v→w.cell? ⟨g,10+j,none⟩=some v:=fun j v hj=>by
  rw[cell_of_row w g (10+j) cur 136 (0,0) hg, ←Array.getElem?_toList];have hj5:j<5:=by have:=(List.getElem?_eq_some_iff.1 hj).1;omega
  have h2:((l.flatMap fun x=>(blc x).toList)++(blc y).toList)[10+j]? =some v:=by rw[List.getElem?_append_right (by omega),hfl,show 10+j-2*5=j by omega];exact hj
  rw[←ht2,List.getElem?_take,if_pos (by omega)]at h2;exact h2
 have hc2:∀j v,(blc x).toList[j]? =some v→w.cell? ⟨vb,j,none⟩=some v:=fun j v hj=>by
  rw[cell_of_row w vb j _ 136 (0,0) hv, ←Array.getElem?_toList];exact hj
 have hend:((l++[x,y]).flatMap fun x=>(blc x).toList)=(l.flatMap fun x=>(blc x).toList)++(blc x).toList++(blc y).toList:=by simp
 have hlen2:(l++[x,y]).length=4:=by simp[hl]
 obtain⟨i0,hi0,hz0,hz1,hz2⟩:=info_parts info136;by_cases hcap:cap=3
 · subst hcap;have hold:(Builtin.firstCells i0.size 2 (.slice (some ⟨g,0,none⟩) 2 3)).run Tryz.prog w.drew= .ok (l.flatMap fun x=>(blc x).toList).toArray w.drew:=by
    rw[hz1];exact run_firstCells_some w.drew 5 2 ⟨g,0,none⟩ 2 3 _ hfl (fun j v hj=>by rw[Addr.add_lit,Nat.zero_add];exact hc0 j v hj)
   have hrz:∀ty,(Builtin.append_ #[41,3] ty #[.slice (some ⟨g,0,none⟩) 2 3,.int .i64 2]).run Tryz.prog w=_:=fun ty=>
    Lib.run_append_grow_zeros w 41 3 ty 136 i0 _ .i64 .i64 Tryz.underlying41 Tryz.underlying3 hi0 hz0 (some ⟨g,0,none⟩) 2 3 (l.flatMap fun x=>(blc x).toList) hold 2 (by decide) (by omega) (by decide) (by decide) (by rw[hz2];decide) (by rw[hz2];exact growslice_fits (by decide) (by decide))
   rw[show 2+2=4 from rfl]at hrz;have hGn:=grownCap_ge w 4 3 136;have hG63:=grownCap_le_maxLen w 4 3 136 (by decide);generalize grownCap w 4 3 136=G at*;obtain⟨ROW,hROW⟩:∃ROW:Array Value,ROW=(l.flatMap fun x=>(blc x).toList).toArray++Builtin.zeroCells (Value.agg (blc kZ)).cells 2++Builtin.zeroCells (Value.agg (blc kZ)).cells (G-4):=⟨_,rfl⟩;rw[←hROW]at hrz;have hRs:ROW.size=G*5:=by rw[hROW];simp only[Array.size_append,zc_len,List.size_toArray,hfl];omega
   have hRt:ROW.toList.take 10=l.flatMap fun x=>(blc x).toList:=by
    rw[hROW,Array.toList_append,Array.toList_append,List.append_assoc,List.take_append_of_le_length (by simp[hfl]),List.take_of_length_le (by simp[hfl])]
   clear hROW hold;obtain⟨w1,he,hb0,hN⟩:=mk1 w.drew ROW 136;rw[←he]at hrz;have hsz:w.drew.heap.size=w.heap.size:=rfl;rw[hsz]at hN;have hb1:Below w.heap.size w w1:=⟨hb0.os,hb0.tape,hb0.output,hb0.size,hb0.block⟩;clear hb0;have HE1:=hid he;clear he;have hgw:=At.lt hg;have hvw:=At.lt hv;have hrA:∀ty dc,(Builtin.copy_ #[41,41] ty #[.slice (some ⟨w.heap.size,10,none⟩) 2 dc,.slice (some ⟨vb,0,none⟩) 1 vc]).run Tryz.prog w1=_:=fun ty dc=>
    run_copy_rows w1 41 41 ty 136 5 1 w.heap.size 10 2 dc ⟨vb,0,none⟩ 1 vc ROW 136 (blc x).toList Tryz.underlying41 i136s hN rfl rfl (fun j v hj=>by rw[Addr.add_lit,Nat.zero_add];exact(upd_of_below (S:=fun _=>False) hb1).cell (hc2 j v hj) (fun h=>h)) (by rw[hbx,hRs];omega) (all_one (blc_one x))
   rw[hbx]at hrA;obtain⟨R1,hR1⟩:∃R1,R1=(ROW.toList.take 10++(blc x).toList++ROW.toList.drop (10+5)).toArray:=⟨_,rfl⟩;rw[←hR1]at hrA;have hR1s:R1.size=G*5:=by rw[hR1];simp only[List.size_toArray,List.length_append,List.length_take,List.length_drop,Array.length_toList,hbx,hRs];omega
   have hR1t:R1.toList.take (10+5)=(l.flatMap fun x=>(blc x).toList)++(blc x).toList:=by
    rw[hR1, ←hRt];exact splice_take ROW.toList (blc x).toList 10 (by rw[Array.length_toList,hRs];omega)
   have hN2:At (w1.setRow w.heap.size R1) w.heap.size (.cells R1 136):=At.row hN R1;have hu2:=upd_setRow w1 w.heap.size R1;generalize World.setRow w1 w.heap.size R1=w2 at*;have hrB:∀ty dc sc,(Builtin.copy_ #[41,41] ty #[.slice (some ⟨w.heap.size,15,none⟩) 1 dc,.slice (some ⟨g,10,none⟩) 1 sc]).run Tryz.prog w2.drew=_:=fun ty dc sc=>
    run_copy_rows w2.drew 41 41 ty 136 5 1 w.heap.size 15 1 dc ⟨g,10,none⟩ 1 sc R1 136 (blc y).toList Tryz.underlying41 i136s hN2 rfl rfl (fun j v hj=>by rw[Addr.add_lit];exact hu2.cell ((upd_of_below (S:=fun _=>False) hb1).cell (hc1 j v hj) (fun h=>h)) (show ¬g=w.heap.size by omega)) (by rw[hby,hR1s];omega) (all_one (blc_one y))
   rw[hby]at hrB;obtain⟨R2,hR2⟩:∃R2,R2=(R1.toList.take 15++(blc y).toList++R1.toList.drop (15+5)).toArray:=⟨_,rfl⟩;rw[←hR2]at hrB;have hR2t:R2.toList.take 20=(l.flatMap fun x=>(blc x).toList)++(blc x).toList++(blc y).toList:=by
    have:=splice_take R1.toList (blc y).toList 15 (by rw[Array.length_toList,hR1s];omega);rw[hby]at this;rw[hR2, ←hR1t];exact this
   have HF:=hid (show RB (w2.drew.setRow w.heap.size R2) w.heap.size 0 (l++[x,y])∧Upd (·=g) w (w2.drew.setRow w.heap.size R2)from
    ⟨RB.of (At.row (w:=w2.drew) hN2 R2) (by rw[hlen2,hend];exact hR2t),by
     have u1:Upd (·=g) w w1:=upd_of_below hb1;have u2:Upd (·=g) w w2:=u1.above' (T:=(·=w.heap.size)) hu2 (fun i e=>by rw[e];exact Nat.le_refl _);exact u2.above' (T:=(·=w.heap.size)) ((upd_drew _ w2).trans (upd_setRow w2.drew w.heap.size R2)) (fun i e=>by rw[e];exact Nat.le_refl _)⟩)
   generalize World.setRow w2.drew w.heap.size R2=w3 at*;have HG:=hid (And.intro hGn hG63);have hG0:(4:Int)≤(G:Int):=by omega
   have hG1:(G:Int)≤9223372036854775807:=by unfold maxLen at hG63;omega
   have hq1:¬(G=2):=by omega
   have hq2:¬(G=3):=by omega
   clear hR2t hR2 hR1t hR1 hR1s hRt hRs hN2 hu2 hN hb1 hc0 hc1 hc2 hend hlen2 hfl hbx hby ht ht2 ht3 hfy hs hn hm hv hg hgw hvw hi0 hz0 hz1 hz2 hGn hG63 hsz hl;go_enter Tryz.func279,Tryz.ntmps279;go_upto_region 11 with(first
    |refine wpList_append2_run (o:=⟨some 40,_,_,_,_,_⟩) rfl (.tmp 34) (.tmp 39) 41 3 rfl (.slice (some ⟨g,0,none⟩) 2 3) (.int .i64 2) (by rfl) (by rfl) (hrz 41) ?_
    |refine wpList_copy_run (o:=⟨some 45,_,_,_,_,_⟩) rfl (.tmp 43) (.tmp 44) 41 41 rfl (.slice (some ⟨w.heap.size,10,none⟩) 2 (G-2)) (.slice (some ⟨vb,0,none⟩) 1 vc) (by rfl) (by rfl) (hrA 3 _) ?_)
   have hwr:IntKind.i64.wrap 3=3:=rfl;go_region_law (refine step_copy_run rfl (.tmp 50) (.tmp 53) 41 41 rfl (.slice (some ⟨w.heap.size,15,none⟩) 1 (G-3)) (.slice (some ⟨g,10,none⟩) 1 1) (by simp[Act.eval,Act.put]) (by simp[Act.eval,Act.put]) (hrB 3 _ _) ?_);go_wp2_with fail;go_ret;exact⟨w.heap.size,G,rfl,HG.out.1,HF.out.1,HF.out.2,.inr (Nat.le_refl _)⟩
 · have hroom:4≤cap:=by omega
   have hrA:∀ty dc sc,(Builtin.copy_ #[41,41] ty #[.slice (some ⟨g,15,none⟩) 1 dc,.slice (some ⟨g,10,none⟩) 2 sc]).run Tryz.prog w.drew=_:=fun ty dc sc=>
    run_copy_rows w.drew 41 41 ty 136 5 1 g 15 1 dc ⟨g,10,none⟩ 2 sc cur 136 (blc y).toList Tryz.underlying41 i136s hg rfl rfl (fun j v hj=>by rw[Addr.add_lit];exact hc1 j v hj) (by rw[hby,hs];omega) (all_one (blc_one y))
   rw[hby]at hrA;obtain⟨R1,hR1⟩:∃R1,R1=(cur.toList.take 15++(blc y).toList++cur.toList.drop (15+5)).toArray:=⟨_,rfl⟩;rw[←hR1]at hrA;have hR1s:R1.size=cap*5:=by rw[hR1];simp only[List.size_toArray,List.length_append,List.length_take,List.length_drop,hfy,hby];omega
   have hR1l:R1.toList=(l.flatMap fun x=>(blc x).toList)++((blc y).toList++((blc y).toList++cur.toList.drop (15+5))):=by rw[hR1,ht2];simp
   have hN2:At (w.drew.setRow g R1) g (.cells R1 136):=At.row (w:=w.drew) hg R1;have hu2:Upd (·=g) w (w.drew.setRow g R1):=(upd_drew _ w).trans (upd_setRow w.drew g R1);have hov:=fun la ca o lb cb=>overlaps_no (w:=w) o la ca lb cb hv hg hne (by rw[hs];omega);generalize World.setRow w.drew g R1=w2 at*;have hrB:∀ty dc,(Builtin.copy_ #[41,41] ty #[.slice (some ⟨g,10,none⟩) 2 dc,.slice (some ⟨vb,0,none⟩) 1 vc]).run Tryz.prog w2=_:=fun ty dc=>
    run_copy_rows w2 41 41 ty 136 5 1 g 10 2 dc ⟨vb,0,none⟩ 1 vc R1 136 (blc x).toList Tryz.underlying41 i136s hN2 rfl rfl (fun j v hj=>by rw[Addr.add_lit,Nat.zero_add];exact hu2.cell (hc2 j v hj) hne) (by rw[hbx,hR1s];omega) (all_one (blc_one x))
   rw[hbx]at hrB;obtain⟨R2,hR2⟩:∃R2,R2=(R1.toList.take 10++(blc x).toList++R1.toList.drop (10+5)).toArray:=⟨_,rfl⟩;rw[←hR2]at hrB;have hR2t:R2.toList.take 20=(l.flatMap fun x=>(blc x).toList)++(blc x).toList++(blc y).toList:=by
    have e1:R1.toList.take 10=l.flatMap fun x=>(blc x).toList:=by rw[hR1l,List.take_append_of_le_length (by omega),List.take_of_length_le (by omega)]
    have e2:R1.toList.drop (10+5)=(blc y).toList++cur.toList.drop (15+5):=by
     have e3:R1.toList.drop (10+5)=(R1.toList.drop 10).drop 5:=by rw[List.drop_drop]
     rw[e3,hR1l,List.drop_left' hfl,List.drop_left' hby]
    rw[hR2,e1,e2, ←List.append_assoc];rw[List.take_append_of_le_length (by simp only[List.length_append,hfl,hbx,hby];omega),List.take_of_length_le (by simp only[List.length_append,hfl,hbx,hby];omega)]
   have HF:=hid (show RB (w2.setRow g R2) g 0 (l++[x,y])∧Upd (·=g) w (w2.setRow g R2)from
    ⟨RB.of (At.row hN2 R2) (by rw[hlen2,hend];exact hR2t),hu2.trans (upd_setRow w2 g R2)⟩)
   generalize World.setRow w2 g R2=w3 at*;have HG:=hid hroom;have hG0:(4:Int)≤(cap:Int):=by omega
   have hG1:(cap:Int)≤9223372036854775807:=by unfold maxLen at hm;omega
   have hq1:¬(cap=2):=by omega
   have hq2:¬(cap=3):=by omega
   clear hR2t hR2 hR1 hR1s hR1l hN2 hu2 hc0 hc1 hc2 hend hlen2 hfl hbx hby ht ht2 ht3 hfy hs hn hm hv hg hi0 hz0 hz1 hz2 hroom hl hcap;go_enter Tryz.func279,Tryz.ntmps279;go_wp2_with (simp only[hov]);have hwr:IntKind.i64.wrap 3=3:=rfl;go_region_law (refine step_copy_run rfl (.tmp 73) (.tmp 76) 41 41 rfl (.slice (some ⟨g,15,none⟩) 1 (cap-3)) (.slice (some ⟨g,10,none⟩) 2 (cap-2)) (by simp[Act.eval,Act.put]) (by simp[Act.eval,Act.put]) (hrA 3 _ _) ?_);go_wp2_with (refine wpList_copy_run (o:=⟨some 82,_,_,_,_,_⟩) rfl (.tmp 80) (.tmp 81) 41 41 rfl (.slice (some ⟨g,10,none⟩) 2 (cap-2)) (.slice (some ⟨vb,0,none⟩) 1 vc) (by rfl) (by rfl) (hrB 3 _) ?_);go_ret;exact⟨g,cap,rfl,HG.out,HF.out.1,HF.out.2,.inl rfl⟩
end
section
open Go.RowKit
variable {x0 x1 x5 x7 x8 x9 x10 x11 x12 x13 x14 x15 x16 x17 x18 x19 x20 x21 x22 x23 x24:Value}
theorem RB.rng {w:World}{g off:Nat}{l:List Blk5}(h:RB w g off l):w.rangeAt g off (l.flatMap fun x=>(blc x).toList):=h.2
theorem bput_r1 (B X S g off cap:Nat)(p:Prim)(x y:Blk5)(l:List Blk5)(w:World)(Q:QT)(hl:l.length=1)(ho:Bun.ok ⟨p,l++[x,y]⟩)(hBS:B≠S)(hXS:X≠S)(hB:At w B (.cells (bunc p (.slice (some ⟨g,off,none⟩) 2 cap)) 43))(hX:At w X (.cells (blc x) 136))(hS:At w S (.cells (bunc pZ nS) 43))(hq:RB w g off (l++[y]))
 (hQ:∀(y13 y14 y15 y16 y17 y18 y19 y20 y21 y22 y23 y24:Value) (g3 cap3:Nat) (w6:World),Below w.heap.size w w6→At w6 S (.cells (bunc pZ nS) 43)→w.heap.size≤g3→3≤cap3→RB w6 g3 0 (l++[x,y])→Q .normal ⟨(x0::x1::.pointer (some ⟨B,0,none⟩)::.pointer (some ⟨X,0,none⟩)::.pointer (some ⟨S,0,none⟩)::.int .i64 0::.int .i64 2::x7::x8::x9::x10::x11::x12::y13::y14::y15::y16::y17::y18::y19::y20::y21::y22::y23::y24::[]).toArray,[]⟩ (w6.setRow S (bunc p (.slice (some ⟨g3,0,none⟩) 3 cap3)))):
 Code.wp Tryz.prog (rg Tryz.f204 4) Q ⟨(x0::x1::.pointer (some ⟨B,0,none⟩)::.pointer (some ⟨X,0,none⟩)::.pointer (some ⟨S,0,none⟩)::x5::.int .i64 2::x7::x8::x9::x10::x11::x12::x13::x14::x15::x16::x17::x18::x19::x20::x21::x22::x23::x24::[]).toArray,[]⟩ w:=by
 have HQ:=hid hQ;clear hQ;have HU0:=hid (below_drew (Below.refl w.heap.size w));have hwr:IntKind.i64.wrap (1:Int)=1:=rfl;have HS:=hid (show ∀w',Below w.heap.size w w'→w'.rangeAt B 0 (bunc p (.slice (some ⟨g,off,none⟩) 2 cap)).toList∧w'.cell? ⟨B,19,none⟩=some (.slice (some ⟨g,off,none⟩) 2 cap)∧w'.rangeAt X 0 ((#[.int .i64 x.typ,.int .i64 x.num,.int .u64 x.flags,.int .i64 x.crc,.string (st x.data)]:Array Value)).toList from fun w' hu=>⟨at_range (hB.kp hu),by rw[cell_of_row _ _ _ _ 43 (0,0) (hB.kp hu)];rfl,at_range (cs:=blc x) (hX.kp hu)⟩);have HS2:=hid (show ∀(w':World) cs,Below w.heap.size w w'→(w'.setRow S cs).rangeAt B 0 (bunc p (.slice (some ⟨g,off,none⟩) 2 cap)).toList∧(w'.setRow S cs).cell? ⟨B,19,none⟩=some (.slice (some ⟨g,off,none⟩) 2 cap)∧(w'.setRow S cs).rangeAt X 0 ((#[.int .i64 x.typ,.int .i64 x.num,.int .u64 x.flags,.int .i64 x.crc,.string (st x.data)]:Array Value)).toList from fun w' cs hu=>⟨at_range ((hB.kp hu).upd (upd_setRow w' S cs) hBS),by rw[cell_of_row _ _ _ _ 43 (0,0) ((hB.kp hu).upd (upd_setRow w' S cs) hBS)];rfl,at_range (cs:=blc x) ((hX.kp hu).upd (upd_setRow w' S cs) hXS)⟩);have hSh:=hid hS;have HL:=hid hl;have HO:=hid ho;have HQ0:=hid hq;clear hB hX hS hl ho hq hBS hXS;conv=>arg 2;whnf
 refine wp_region_T (S:=fun w'=>w'.rangeAt B 0 (bunc p (.slice (some ⟨g,off,none⟩) 2 cap)).toList∧w'.cell? ⟨B,19,none⟩=some (.slice (some ⟨g,off,none⟩) 2 cap)∧w'.rangeAt X 0 ((#[.int .i64 x.typ,.int .i64 x.num,.int .u64 x.flags,.int .i64 x.crc,.string (st x.data)]:Array Value)).toList) (fun _=>false) (by kernel_rfl) (HS.out _ HU0.out) (fun hHeld=>?_);refine u2 0 _ rfl (yQ 43 2 B (0) (bunc p (.slice (some ⟨g,off,none⟩) 2 cap)) (fun w h=>h.1)) ?_;refine t2 1 ?_;refine t2 2 ?_;refine t2 4 ?_;refine t2 5 ?_;refine u2 6 _ rfl (yM 136 3 X (0) ((#[.int .i64 x.typ,.int .i64 x.num,.int .u64 x.flags,.int .i64 x.crc,.string (st x.data)]:Array Value)) (fun w h=>h.2.2) Tryz.underlying136 (size136 (cs:=(#[.int .i64 x.typ,.int .i64 x.num,.int .u64 x.flags,.int .i64 x.crc,.string (st x.data)]:Array Value)) rfl)) ?_;refine wpAnyT_ready (rs:=[3,7]) (by kernel_rfl) (by simp) ?_;refine AllReadyT.cons (o:=_) rfl (fun K hK=>?_) (by kernel_rfl) ?_
 · have HUC:=hid (show w.heap.size≤(w.drew).heap.size from HU0.out.size);go_simp;(with_reducible refine(clone_own g off 2 cap _ _ (show((l++[y]).flatMap fun x=>(blc x).toList).length=2*5 by simp only[flat_len,List.length_append,HL.out,List.length_cons,List.length_nil]) (by decide) (RB.rng (RB.kp HQ0.out HU0.out)) (flat_one (l++[y]))).mono ?_);rintro e w1 ⟨g2,cap2,cur,rfl,h1,hat,h3,h4,h5,h6,hb⟩;have HU1:=tR HU0 hb;have HC:=hid (show(w.drew).heap.size≤g2∧g2<w1.heap.size∧2≤cap2∧cap2≤maxLen∧cur.size=cap2*5∧cur.toList.take 10=(l++[y]).flatMap fun x=>(blc x).toList from⟨h1,At.lt hat,h3,h4,h5,h6⟩);have C1:=hid hat;clear hb h1 hat h3 h4 h5 h6;refine kK hK (HS.out _ HU1.out) fun hHeld=>?_;try simp only[Act.put,fr]
   refine rd1 7 rfl fun K hK=>?_;go_simp;refine aL ?_;intro w2 hb hnew;have HU2:=tR HU1 hb;have C2:=hid (C1.out.keep hb);have V2:=hid hnew;clear hb hnew;refine kK hK (HS.out _ HU2.out) fun hHeld=>?_;try simp only[Act.put,fr]
   refine rd1 8 rfl fun K hK=>?_;have hne:w1.heap.size≠g2:=by have h1:=HC.out.1;have h2:=HC.out.2.1;(try simp only[World.drew,World.alloc,Array.size_push]at h1 h2);first|omega|(have h3:=At.lt V1.out;omega)
   have hb0:=HC.out.1;have hsz0:=HUC.out;have hV:At (w2) (w1.heap.size) (.cells (blc x) 136):=V2.out;go_simp;(with_reducible refine(binsert_1 l y x g2 cap2 (w1.heap.size) 1 cur _ HL.out C2.out HC.out.2.2.2.2.1 HC.out.2.2.1 HC.out.2.2.2.1 HC.out.2.2.2.2.2 hV hne).mono ?_);rintro e w3 ⟨g3,cap3,rfl,h1,h2,hu,h4⟩;have HU3:=hid (HU2.out.trans (hu.below HU2.out.size (fun k e=>by have e:k=g2:=e;rw[e];exact Nat.le_trans hsz0 hb0)));have HF:=hid (show 3≤cap3∧w.heap.size≤g3∧RB w3 g3 0 (l++[x,y])from⟨h1,by rcases h4 with h|h;exact h▸Nat.le_trans hsz0 hb0;exact Nat.le_trans HU2.out.size h,h2⟩);clear hV hne hb0 hsz0 h1 h2 hu h4;refine kK hK (HS.out _ HU3.out) fun hHeld=>?_;try simp only[Act.put,fr]
   refine rd1 9 rfl fun K hK=>?_;go_simp;have hlen3:(l++[x,y]).length=3:=by simp[HL.out]
   have hch:=bchecked_any ⟨p,l++[x,y]⟩ HO.out (.slice (some ⟨g,off,none⟩) 2 cap) rfl g3 0 cap3 w3 (by rw[hlen3];exact HF.out.1) HF.out.2.2;simp only[bv,hlen3]at hch;(with_reducible refine hch.mono ?_);clear hch;rintro e w4 ⟨rfl,hb⟩;have HU4:=tR HU3 hb;have HF2:=hid (HF.out.2.2.kp hb);clear hb hlen3;refine kK hK (HS.out _ HU4.out) fun hHeld=>?_;try simp only[Act.put,fr]
   refine t2 10 ?_;refine t2 11 ?_;refine rd1 12 rfl fun K hK=>?_;refine wp_store_row 43 (.tmp 4) (.tmp 23) rfl S (bunc p (.slice (some ⟨g3,0,none⟩) 3 cap3)) rfl rfl 43 _ (At.kp hSh.out HU4.out) (size43 rfl) rfl (bunc_one ..) ?_;refine hK.out _ _ (fun _=>HS2.out _ _ HU4.out) (fun hHeld=>?_);clear hK K;try simp only[Act.put,fr]
   refine t2 13 ?_;exact dN (HQ.out _ _ _ _ _ _ _ _ _ _ _ _ _ _ _ HU4.out (At.kp hSh.out HU4.out) HF.out.2.1 HF.out.1 HF2.out)
 refine AllReadyT.cons (o:=_) rfl (fun K hK=>?_) (by kernel_rfl) AllReadyT.nil;go_simp;refine aD ?_;intro w1 hb hnew;have HU1:=tR HU0 hb;have V1:=hid hnew;clear hb hnew;refine kK hK (HS.out _ HU1.out) fun hHeld=>?_;try simp only[Act.put,fr]
 refine rd1 3 rfl fun K hK=>?_;have HUC:=hid (show w.heap.size≤(w1).heap.size from HU1.out.size);go_simp;(with_reducible refine(clone_own g off 2 cap _ _ (show((l++[y]).flatMap fun x=>(blc x).toList).length=2*5 by simp only[flat_len,List.length_append,HL.out,List.length_cons,List.length_nil]) (by decide) (RB.rng (RB.kp HQ0.out HU1.out)) (flat_one (l++[y]))).mono ?_);rintro e w2 ⟨g2,cap2,cur,rfl,h1,hat,h3,h4,h5,h6,hb⟩;have HU2:=tR HU1 hb;have V2:=hid (V1.out.keep hb);have HC:=hid (show(w1).heap.size≤g2∧g2<w2.heap.size∧2≤cap2∧cap2≤maxLen∧cur.size=cap2*5∧cur.toList.take 10=(l++[y]).flatMap fun x=>(blc x).toList from⟨h1,At.lt hat,h3,h4,h5,h6⟩);have C2:=hid hat;clear hb h1 hat h3 h4 h5 h6;refine kK hK (HS.out _ HU2.out) fun hHeld=>?_;try simp only[Act.put,fr]
 refine rd1 8 rfl fun K hK=>?_;have hne:w.heap.size≠g2:=by have h1:=HC.out.1;have h2:=HC.out.2.1;(try simp only[World.drew,World.alloc,Array.size_push]at h1 h2);first|omega|(have h3:=At.lt V1.out;omega)
 have hb0:=HC.out.1;have hsz0:=HUC.out;have hV:At (w2) (w.heap.size) (.cells (blc x) 136):=V2.out;go_simp;(with_reducible refine(binsert_1 l y x g2 cap2 (w.heap.size) 1 cur _ HL.out C2.out HC.out.2.2.2.2.1 HC.out.2.2.1 HC.out.2.2.2.1 HC.out.2.2.2.2.2 hV hne).mono ?_);rintro e w3 ⟨g3,cap3,rfl,h1,h2,hu,h4⟩;have HU3:=hid (HU2.out.trans (hu.below HU2.out.size (fun k e=>by have e:k=g2:=e;rw[e];exact Nat.le_trans hsz0 hb0)));have HF:=hid (show 3≤cap3∧w.heap.size≤g3∧RB w3 g3 0 (l++[x,y])from⟨h1,by rcases h4 with h|h;exact h▸Nat.le_trans hsz0 hb0;exact Nat.le_trans HU2.out.size h,h2⟩);clear hV hne hb0 hsz0 h1 h2 hu h4;refine kK hK (HS.out _ HU3.out) fun hHeld=>?_;try simp only[Act.put,fr]
 refine rd1 9 rfl fun K hK=>?_;go_simp;have hlen3:(l++[x,y]).length=3:=by simp[HL.out]
 have hch:=bchecked_any ⟨p,l++[x,y]⟩ HO.out (.slice (some ⟨g,off,none⟩) 2 cap) rfl g3 0 cap3 w3 (by rw[hlen3];exact HF.out.1) HF.out.2.2;simp only[bv,hlen3]at hch;(with_reducible refine hch.mono ?_);clear hch;rintro e w4 ⟨rfl,hb⟩;have HU4:=tR HU3 hb;have HF2:=hid (HF.out.2.2.kp hb);clear hb hlen3;refine kK hK (HS.out _ HU4.out) fun hHeld=>?_;try simp only[Act.put,fr]
 refine t2 10 ?_;refine t2 11 ?_;refine rd1 12 rfl fun K hK=>?_;refine wp_store_row 43 (.tmp 4) (.tmp 23) rfl S (bunc p (.slice (some ⟨g3,0,none⟩) 3 cap3)) rfl rfl 43 _ (At.kp hSh.out HU4.out) (size43 rfl) rfl (bunc_one ..) ?_;refine hK.out _ _ (fun _=>HS2.out _ _ HU4.out) (fun hHeld=>?_);clear hK K;try simp only[Act.put,fr]
 refine t2 13 ?_;exact dN (HQ.out _ _ _ _ _ _ _ _ _ _ _ _ _ _ _ HU4.out (At.kp hSh.out HU4.out) HF.out.2.1 HF.out.1 HF2.out)
theorem bput_1 (p:Prim)(x y:Blk5)(l:List Blk5)(hl:l.length=1)(ho:Bun.ok ⟨p,l++[x,y]⟩)(g off cap:Nat)(w:World)(hr:RB w g off (l++[y])):
 Calls Tryz.prog 204 #[.agg (bunc p (.slice (some ⟨g,off,none⟩) 2 cap)),.agg (blc x)] w fun e w'=>∃g3 cap3,e= .returned (.tuple #[.agg (bunc p (.slice (some ⟨g3,0,none⟩) 3 cap3)),.int .i64 0])∧Below w.heap.size w w'∧w.heap.size≤g3∧3≤cap3∧RB w' g3 0 (l++[x,y]):=by
 have HL:=hid hl;have HO:=hid ho;have HQ0:=hid hr;clear hl ho hr;have hz43:=zero43;obtain⟨w1,he,hu,hB,hX,hS⟩:=mk3 w (bunc p (.slice (some ⟨g,off,none⟩) 2 cap)) 43 (blc x) 136 (bunc pZ nS) 43;have HE:=hid he;have U0:=hid hu;have B':=hid hB;have X':=hid hX;have S':=hid (show At w1 (w.heap.size+1+1) _ from hS);clear he hu hB hX hS;go_enter Tryz.func204,Tryz.ntmps204;go_upto_region 1 with(fail);rw[←HE.out];clear HE;obtain⟨-,-,-,-,-,-,-,-,-,-,-,-,-,-,-,-,-,-,-,c19⟩:=bunc_cells B'.out;go_upto_region 4 with(fail);clear c19;refine ent (C:=rg Tryz.f204 4) (by kernel_rfl) ?_;refine bput_r1 w.heap.size (w.heap.size+1) (w.heap.size+1+1) g off cap p x y l _ _ HL.out HO.out (by omega) (by omega) B'.out X'.out S'.out (RB.kp HQ0.out U0.out) ?_;intro y13 y14 y15 y16 y17 y18 y19 y20 y21 y22 y23 y24 g3 cap3 w6 hb hS h1 h2 h3;have hu9:=upd_setRow w6 (w.heap.size+1+1) (bunc p (.slice (some ⟨g3,0,none⟩) 3 cap3));have HS6:=hid hS;have HF:=hid (And.intro h1 (And.intro h2 h3));have U6:=hid ((U0.out).trans (hb.mono (U0.out).size));have HV:=hid (And.intro hu9 (show w.heap.size+2<w1.heap.size from(S'.out).lt));clear hb hS h1 h2 h3 hu9;go_wp2_with fail;exact bodyPost_ret (rU (HS6.out.row _)) rfl ⟨g3,cap3,rfl,U6.out.trans (HV.out.1.below U6.out.size (fun k e=>by rw[e];omega)),by have:=HF.out.1;have:=HV.out.2;omega,HF.out.2.1,HF.out.2.2.upd HV.out.1 (show ¬g3=w.heap.size+1+1 by have:=HF.out.1;have:=HV.out.2;omega)⟩
theorem bput_r2 (B X S g off cap:Nat)(p:Prim)(x y:Blk5)(l:List Blk5)(w:World)(Q:QT)(hl:l.length=2)(ho:Bun.ok ⟨p,l++[x,y]⟩)(hBS:B≠S)(hXS:X≠S)(hB:At w B (.cells (bunc p (.slice (some ⟨g,off,none⟩) 3 cap)) 43))(hX:At w X (.cells (blc x) 136))(hS:At w S (.cells (bunc pZ nS) 43))(hq:RB w g off (l++[y]))
 (hQ:∀(y13 y14 y15 y16 y17 y18 y19 y20 y21 y22 y23 y24:Value) (g3 cap3:Nat) (w6:World),Below w.heap.size w w6→At w6 S (.cells (bunc pZ nS) 43)→w.heap.size≤g3→4≤cap3→RB w6 g3 0 (l++[x,y])→Q .normal ⟨(x0::x1::.pointer (some ⟨B,0,none⟩)::.pointer (some ⟨X,0,none⟩)::.pointer (some ⟨S,0,none⟩)::.int .i64 0::.int .i64 3::x7::x8::x9::x10::x11::x12::y13::y14::y15::y16::y17::y18::y19::y20::y21::y22::y23::y24::[]).toArray,[]⟩ (w6.setRow S (bunc p (.slice (some ⟨g3,0,none⟩) 4 cap3)))):
 Code.wp Tryz.prog (rg Tryz.f204 4) Q ⟨(x0::x1::.pointer (some ⟨B,0,none⟩)::.pointer (some ⟨X,0,none⟩)::.pointer (some ⟨S,0,none⟩)::x5::.int .i64 3::x7::x8::x9::x10::x11::x12::x13::x14::x15::x16::x17::x18::x19::x20::x21::x22::x23::x24::[]).toArray,[]⟩ w:=by
 have HQ:=hid hQ;clear hQ;have HU0:=hid (below_drew (Below.refl w.heap.size w));have hwr:IntKind.i64.wrap (2:Int)=2:=rfl;have HS:=hid (show ∀w',Below w.heap.size w w'→w'.rangeAt B 0 (bunc p (.slice (some ⟨g,off,none⟩) 3 cap)).toList∧w'.cell? ⟨B,19,none⟩=some (.slice (some ⟨g,off,none⟩) 3 cap)∧w'.rangeAt X 0 ((#[.int .i64 x.typ,.int .i64 x.num,.int .u64 x.flags,.int .i64 x.crc,.string (st x.data)]:Array Value)).toList from fun w' hu=>⟨at_range (hB.kp hu),by rw[cell_of_row _ _ _ _ 43 (0,0) (hB.kp hu)];rfl,at_range (cs:=blc x) (hX.kp hu)⟩);have HS2:=hid (show ∀(w':World) cs,Below w.heap.size w w'→(w'.setRow S cs).rangeAt B 0 (bunc p (.slice (some ⟨g,off,none⟩) 3 cap)).toList∧(w'.setRow S cs).cell? ⟨B,19,none⟩=some (.slice (some ⟨g,off,none⟩) 3 cap)∧(w'.setRow S cs).rangeAt X 0 ((#[.int .i64 x.typ,.int .i64 x.num,.int .u64 x.flags,.int .i64 x.crc,.string (st x.data)]:Array Value)).toList from fun w' cs hu=>⟨at_range ((hB.kp hu).upd (upd_setRow w' S cs) hBS),by rw[cell_of_row _ _ _ _ 43 (0,0) ((hB.kp hu).upd (upd_setRow w' S cs) hBS)];rfl,at_range (cs:=blc x) ((hX.kp hu).upd (upd_setRow w' S cs) hXS)⟩);have hSh:=hid hS;have HL:=hid hl;have HO:=hid ho;have HQ0:=hid hq;clear hB hX hS hl ho hq hBS hXS;conv=>arg 2;whnf
 refine wp_region_T (S:=fun w'=>w'.rangeAt B 0 (bunc p (.slice (some ⟨g,off,none⟩) 3 cap)).toList∧w'.cell? ⟨B,19,none⟩=some (.slice (some ⟨g,off,none⟩) 3 cap)∧w'.rangeAt X 0 ((#[.int .i64 x.typ,.int .i64 x.num,.int .u64 x.flags,.int .i64 x.crc,.string (st x.data)]:Array Value)).toList) (fun _=>false) (by kernel_rfl) (HS.out _ HU0.out) (fun hHeld=>?_);refine u2 0 _ rfl (yQ 43 2 B (0) (bunc p (.slice (some ⟨g,off,none⟩) 3 cap)) (fun w h=>h.1)) ?_;refine t2 1 ?_;refine t2 2 ?_;refine t2 4 ?_;refine t2 5 ?_;refine u2 6 _ rfl (yM 136 3 X (0) ((#[.int .i64 x.typ,.int .i64 x.num,.int .u64 x.flags,.int .i64 x.crc,.string (st x.data)]:Array Value)) (fun w h=>h.2.2) Tryz.underlying136 (size136 (cs:=(#[.int .i64 x.typ,.int .i64 x.num,.int .u64 x.flags,.int .i64 x.crc,.string (st x.data)]:Array Value)) rfl)) ?_;refine wpAnyT_ready (rs:=[3,7]) (by kernel_rfl) (by simp) ?_;refine AllReadyT.cons (o:=_) rfl (fun K hK=>?_) (by kernel_rfl) ?_
 · have HUC:=hid (show w.heap.size≤(w.drew).heap.size from HU0.out.size);go_simp;(with_reducible refine(clone_own g off 3 cap _ _ (show((l++[y]).flatMap fun x=>(blc x).toList).length=3*5 by simp only[flat_len,List.length_append,HL.out,List.length_cons,List.length_nil]) (by decide) (RB.rng (RB.kp HQ0.out HU0.out)) (flat_one (l++[y]))).mono ?_);rintro e w1 ⟨g2,cap2,cur,rfl,h1,hat,h3,h4,h5,h6,hb⟩;have HU1:=tR HU0 hb;have HC:=hid (show(w.drew).heap.size≤g2∧g2<w1.heap.size∧3≤cap2∧cap2≤maxLen∧cur.size=cap2*5∧cur.toList.take 15=(l++[y]).flatMap fun x=>(blc x).toList from⟨h1,At.lt hat,h3,h4,h5,h6⟩);have C1:=hid hat;clear hb h1 hat h3 h4 h5 h6;refine kK hK (HS.out _ HU1.out) fun hHeld=>?_;try simp only[Act.put,fr]
   refine rd1 7 rfl fun K hK=>?_;go_simp;refine aL ?_;intro w2 hb hnew;have HU2:=tR HU1 hb;have C2:=hid (C1.out.keep hb);have V2:=hid hnew;clear hb hnew;refine kK hK (HS.out _ HU2.out) fun hHeld=>?_;try simp only[Act.put,fr]
   refine rd1 8 rfl fun K hK=>?_;have hne:w1.heap.size≠g2:=by have h1:=HC.out.1;have h2:=HC.out.2.1;(try simp only[World.drew,World.alloc,Array.size_push]at h1 h2);first|omega|(have h3:=At.lt V1.out;omega)
   have hb0:=HC.out.1;have hsz0:=HUC.out;have hV:At (w2) (w1.heap.size) (.cells (blc x) 136):=V2.out;go_simp;(with_reducible refine(binsert_2 l y x g2 cap2 (w1.heap.size) 1 cur _ HL.out C2.out HC.out.2.2.2.2.1 HC.out.2.2.1 HC.out.2.2.2.1 HC.out.2.2.2.2.2 hV hne).mono ?_);rintro e w3 ⟨g3,cap3,rfl,h1,h2,hu,h4⟩;have HU3:=hid (HU2.out.trans (hu.below HU2.out.size (fun k e=>by have e:k=g2:=e;rw[e];exact Nat.le_trans hsz0 hb0)));have HF:=hid (show 4≤cap3∧w.heap.size≤g3∧RB w3 g3 0 (l++[x,y])from⟨h1,by rcases h4 with h|h;exact h▸Nat.le_trans hsz0 hb0;exact Nat.le_trans HU2.out.size h,h2⟩);clear hV hne hb0 hsz0 h1 h2 hu h4;refine kK hK (HS.out _ HU3.out) fun hHeld=>?_;try simp only[Act.put,fr]
   refine rd1 9 rfl fun K hK=>?_;go_simp;have hlen3:(l++[x,y]).length=4:=by simp[HL.out]
   have hch:=bchecked_any ⟨p,l++[x,y]⟩ HO.out (.slice (some ⟨g,off,none⟩) 3 cap) rfl g3 0 cap3 w3 (by rw[hlen3];exact HF.out.1) HF.out.2.2;simp only[bv,hlen3]at hch;(with_reducible refine hch.mono ?_);clear hch;rintro e w4 ⟨rfl,hb⟩;have HU4:=tR HU3 hb;have HF2:=hid (HF.out.2.2.kp hb);clear hb hlen3;refine kK hK (HS.out _ HU4.out) fun hHeld=>?_;try simp only[Act.put,fr]
   refine t2 10 ?_;refine t2 11 ?_;refine rd1 12 rfl fun K hK=>?_;refine wp_store_row 43 (.tmp 4) (.tmp 23) rfl S (bunc p (.slice (some ⟨g3,0,none⟩) 4 cap3)) rfl rfl 43 _ (At.kp hSh.out HU4.out) (size43 rfl) rfl (bunc_one ..) ?_;refine hK.out _ _ (fun _=>HS2.out _ _ HU4.out) (fun hHeld=>?_);clear hK K;try simp only[Act.put,fr]
   refine t2 13 ?_;exact dN (HQ.out _ _ _ _ _ _ _ _ _ _ _ _ _ _ _ HU4.out (At.kp hSh.out HU4.out) HF.out.2.1 HF.out.1 HF2.out)
 refine AllReadyT.cons (o:=_) rfl (fun K hK=>?_) (by kernel_rfl) AllReadyT.nil;go_simp;refine aD ?_;intro w1 hb hnew;have HU1:=tR HU0 hb;have V1:=hid hnew;clear hb hnew;refine kK hK (HS.out _ HU1.out) fun hHeld=>?_;try simp only[Act.put,fr]
 refine rd1 3 rfl fun K hK=>?_;have HUC:=hid (show w.heap.size≤(w1).heap.size from HU1.out.size);go_simp;(with_reducible refine(clone_own g off 3 cap _ _ (show((l++[y]).flatMap fun x=>(blc x).toList).length=3*5 by simp only[flat_len,List.length_append,HL.out,List.length_cons,List.length_nil]) (by decide) (RB.rng (RB.kp HQ0.out HU1.out)) (flat_one (l++[y]))).mono ?_);rintro e w2 ⟨g2,cap2,cur,rfl,h1,hat,h3,h4,h5,h6,hb⟩;have HU2:=tR HU1 hb;have V2:=hid (V1.out.keep hb);have HC:=hid (show(w1).heap.size≤g2∧g2<w2.heap.size∧3≤cap2∧cap2≤maxLen∧cur.size=cap2*5∧cur.toList.take 15=(l++[y]).flatMap fun x=>(blc x).toList from⟨h1,At.lt hat,h3,h4,h5,h6⟩);have C2:=hid hat;clear hb h1 hat h3 h4 h5 h6;refine kK hK (HS.out _ HU2.out) fun hHeld=>?_;try simp only[Act.put,fr]
 refine rd1 8 rfl fun K hK=>?_;have hne:w.heap.size≠g2:=by have h1:=HC.out.1;have h2:=HC.out.2.1;(try simp only[World.drew,World.alloc,Array.size_push]at h1 h2);first|omega|(have h3:=At.lt V1.out;omega)
 have hb0:=HC.out.1;have hsz0:=HUC.out;have hV:At (w2) (w.heap.size) (.cells (blc x) 136):=V2.out;go_simp;(with_reducible refine(binsert_2 l y x g2 cap2 (w.heap.size) 1 cur _ HL.out C2.out HC.out.2.2.2.2.1 HC.out.2.2.1 HC.out.2.2.2.1 HC.out.2.2.2.2.2 hV hne).mono ?_);rintro e w3 ⟨g3,cap3,rfl,h1,h2,hu,h4⟩;have HU3:=hid (HU2.out.trans (hu.below HU2.out.size (fun k e=>by have e:k=g2:=e;rw[e];exact Nat.le_trans hsz0 hb0)));have HF:=hid (show 4≤cap3∧w.heap.size≤g3∧RB w3 g3 0 (l++[x,y])from⟨h1,by rcases h4 with h|h;exact h▸Nat.le_trans hsz0 hb0;exact Nat.le_trans HU2.out.size h,h2⟩);clear hV hne hb0 hsz0 h1 h2 hu h4;refine kK hK (HS.out _ HU3.out) fun hHeld=>?_;try simp only[Act.put,fr]
 refine rd1 9 rfl fun K hK=>?_;go_simp;have hlen3:(l++[x,y]).length=4:=by simp[HL.out]
 have hch:=bchecked_any ⟨p,l++[x,y]⟩ HO.out (.slice (some ⟨g,off,none⟩) 3 cap) rfl g3 0 cap3 w3 (by rw[hlen3];exact HF.out.1) HF.out.2.2;simp only[bv,hlen3]at hch;(with_reducible refine hch.mono ?_);clear hch;rintro e w4 ⟨rfl,hb⟩;have HU4:=tR HU3 hb;have HF2:=hid (HF.out.2.2.kp hb);clear hb hlen3;refine kK hK (HS.out _ HU4.out) fun hHeld=>?_;try simp only[Act.put,fr]
 refine t2 10 ?_;refine t2 11 ?_;refine rd1 12 rfl fun K hK=>?_;refine wp_store_row 43 (.tmp 4) (.tmp 23) rfl S (bunc p (.slice (some ⟨g3,0,none⟩) 4 cap3)) rfl rfl 43 _ (At.kp hSh.out HU4.out) (size43 rfl) rfl (bunc_one ..) ?_;refine hK.out _ _ (fun _=>HS2.out _ _ HU4.out) (fun hHeld=>?_);clear hK K;try simp only[Act.put,fr]
 refine t2 13 ?_;exact dN (HQ.out _ _ _ _ _ _ _ _ _ _ _ _ _ _ _ HU4.out (At.kp hSh.out HU4.out) HF.out.2.1 HF.out.1 HF2.out)
theorem bput_2 (p:Prim)(x y:Blk5)(l:List Blk5)(hl:l.length=2)(ho:Bun.ok ⟨p,l++[x,y]⟩)(g off cap:Nat)(w:World)(hr:RB w g off (l++[y])):
 Calls Tryz.prog 204 #[.agg (bunc p (.slice (some ⟨g,off,none⟩) 3 cap)),.agg (blc x)] w fun e w'=>∃g3 cap3,e= .returned (.tuple #[.agg (bunc p (.slice (some ⟨g3,0,none⟩) 4 cap3)),.int .i64 0])∧Below w.heap.size w w'∧w.heap.size≤g3∧4≤cap3∧RB w' g3 0 (l++[x,y]):=by
 have HL:=hid hl;have HO:=hid ho;have HQ0:=hid hr;clear hl ho hr;have hz43:=zero43;obtain⟨w1,he,hu,hB,hX,hS⟩:=mk3 w (bunc p (.slice (some ⟨g,off,none⟩) 3 cap)) 43 (blc x) 136 (bunc pZ nS) 43;have HE:=hid he;have U0:=hid hu;have B':=hid hB;have X':=hid hX;have S':=hid (show At w1 (w.heap.size+1+1) _ from hS);clear he hu hB hX hS;go_enter Tryz.func204,Tryz.ntmps204;go_upto_region 1 with(fail);rw[←HE.out];clear HE;obtain⟨-,-,-,-,-,-,-,-,-,-,-,-,-,-,-,-,-,-,-,c19⟩:=bunc_cells B'.out;go_upto_region 4 with(fail);clear c19;refine ent (C:=rg Tryz.f204 4) (by kernel_rfl) ?_;refine bput_r2 w.heap.size (w.heap.size+1) (w.heap.size+1+1) g off cap p x y l _ _ HL.out HO.out (by omega) (by omega) B'.out X'.out S'.out (RB.kp HQ0.out U0.out) ?_;intro y13 y14 y15 y16 y17 y18 y19 y20 y21 y22 y23 y24 g3 cap3 w6 hb hS h1 h2 h3;have hu9:=upd_setRow w6 (w.heap.size+1+1) (bunc p (.slice (some ⟨g3,0,none⟩) 4 cap3));have HS6:=hid hS;have HF:=hid (And.intro h1 (And.intro h2 h3));have U6:=hid ((U0.out).trans (hb.mono (U0.out).size));have HV:=hid (And.intro hu9 (show w.heap.size+2<w1.heap.size from(S'.out).lt));clear hb hS h1 h2 h3 hu9;go_wp2_with fail;exact bodyPost_ret (rU (HS6.out.row _)) rfl ⟨g3,cap3,rfl,U6.out.trans (HV.out.1.below U6.out.size (fun k e=>by rw[e];omega)),by have:=HF.out.1;have:=HV.out.2;omega,HF.out.2.1,HF.out.2.2.upd HV.out.1 (show ¬g3=w.heap.size+1+1 by have:=HF.out.1;have:=HV.out.2;omega)⟩
end
end Go.Proofs.YtlhlmflacdeafaaGreatDoor
