/-
  A part of the walk of TopReports.
-/
import Derived.Test.YtlhlmflacdeafaaGreatDoorT27
set_option maxRecDepth 100000
set_option maxHeartbeats 4000000
set_option linter.unusedVariables false
set_option linter.unusedSimpArgs false
namespace Go.Proofs.YtlhlmflacdeafaaGreatDoor
section
open Go.Conc Go.RowKit
variable {x1 x2 x3 x4 x5 x6 x7 x8 x9 x10 x11 x12 x13 x14 x15 x16 x17 x18 x19 x20 x21 x22 x23 x24 x25 x26 x27 x28 x29 x30 x31 x32 x33 x34 x35 x36:Value} {r:List Value}
theorem eqs34 (n:Nat)(w:World):(binOp .eql 34 (.agg (ec (nd n))) (.agg (ec (nd n)))).run Tryz.prog w= .ok (.bool true) w:=by
 refine(eq34 (n+1) (n+1) w).trans ?_;rw[decide_eq_true rfl]
theorem idx_hit_r (g cp j t V:Nat)(cur:Array Value)(w:World)(Q:QT)(hj:t<j)(hg:At w g (.cells cur 34))(ht:cur.toList.take (j*4)=ecs j)(hV:At w V (.cells (ec (nd t)) 34))
 (hQ:∀(y11 y12 y13 y14 y15:Value) (w6:World),Below w.heap.size w w6→Q .normal ⟨(.slice (some ⟨g,0,none⟩) j cp::x1::x2::.pointer (some ⟨V,0,none⟩)::x4::.int .i64 t::x6::x7::x8::x9::x10::y11::y12::y13::y14::y15::.bool true::r).toArray,[]⟩ w6):
 Code.wp Tryz.prog (rg Tryz.f52 4) Q ⟨(.slice (some ⟨g,0,none⟩) j cp::x1::x2::.pointer (some ⟨V,0,none⟩)::x4::.int .i64 t::x6::x7::x8::x9::x10::x11::x12::x13::x14::x15::x16::r).toArray,[]⟩ w:=by
 have HQ:=hid hQ;clear hQ;conv=>arg 2;whnf
 refine reg (fun w'=>w'.rangeAt V 0 (ec (nd t)).toList∧w'.rangeAt g (0+t*4) (ec (nd t)).toList) (fun _=>false) (fun w' hu=>⟨at_range (hV.kp hu),ecs_at (hg.kp hu) ht t hj⟩) fun HS HU0 hHeld=>?_;have hj0:(t:Int)<(j:Int):=by omega
 clear hV hg ht hj;refine u2 0 _ rfl (yQ 34 3 V (0) (ec (nd t)) (fun w h=>h.1)) ?_;refine t2 1 ?_;refine t2 2 ?_;refine u2 3 (.pointer (some ⟨g,0+t*4,none⟩)) rfl (Or.inl ⟨by rfl,?_⟩) ?_
 · intro w' hSw;go_split_ands;go_simp;try rfl
 try simp only[Act.put,fr]
 refine u2 4 _ rfl (yQ 34 14 g (0+t*4) (ec (nd t)) (fun w h=>h.2)) ?_;refine u2 5 (.bool true) rfl (Or.inl ⟨by rfl,?_⟩) ?_
 · intro w' hSw;go_split_ands;exact run_exec_binOp .eql 34 _ _ _ (by rfl) _ _ _ (by rfl) (by rfl) (guard34 _ _ _ _ _) (eqs34 t _)
 try simp only[Act.put,fr]
 exact dN (HQ.out _ _ _ _ _ _ HU0.out)
theorem idx_hit (g cp j p:Nat)(cur:Array Value)(w:World)(hj:p<j)(hj4:j≤4)(hcp:j≤cp)(hg:At w g (.cells cur 34))(ht:cur.toList.take (j*4)=ecs j):
 Rv 52 #[.slice (some ⟨g,0,none⟩) j cp,.agg (ec (nd p))] w (.int .i64 (p:Nat)):=by
 have HG:=hid (And.intro hg ht);have HJ:=hid (And.intro hj hcp);have HJ4:=hid hj4;have hj9:(j:Int)≤4:=by omega
 clear hg ht hcp hj hj4;obtain⟨w1,HE,U0,V'⟩:=mH1 w (ec (nd p)) 34;go_enter Tryz.func52,Tryz.ntmps52;go_upto_region 1 with fail;rw[←HE.out];clear HE;go_wp2_with fail;go_loopw [8] (fun i wr=>∃t:Nat,t≤p∧i= .int .i64 t∧At wr w.heap.size (.cells (ec (nd p)) 34)∧Below w.heap.size w wr) (fun i _=>j-(intOf i).toNat);case atStart=>exact⟨0,Nat.zero_le _,rfl,V'.out,U0.out⟩
 case round=>
  obtain⟨t,htp,rfl,hV,hu⟩:=hrel;have U9:=hid hu;have V9:=hid hV;clear hu hV;have hj0:(t:Int)<(j:Int):=by have:=HJ.out.1;omega
  by_cases hjn:t<p
  · have HT:=hid hjn;clear htp hjn;go_upto_region 4 with(fail);refine ent (C:=rg Tryz.f52 4) (by kernel_rfl) ?_;refine idx_r g cp j t p w.heap.size cur _ _ (by have:=HT.out;have:=HJ.out.1;omega) HT.out (HG.out.1.kp U9.out) HG.out.2 V9.out ?_;intro y11 y12 y13 y14 y15 w6 hb;replace V':=hid (V9.out.kp hb);have U':=tR U9 hb;clear V9 U9;clear hb;go_wp2_with fail;go_roundw;case rel=>exact⟨t+1,by have:=HT.out;omega,by go_num,V'.out,U'.out⟩
    case measure=>simp[intOf];have:=HT.out;have:=HJ.out.1;omega
  · obtain rfl:t=p:=by omega
    clear htp hjn;go_upto_region 4 with(fail);refine ent (C:=rg Tryz.f52 4) (by kernel_rfl) ?_;refine idx_hit_r g cp j t w.heap.size cur _ _ HJ.out.1 (HG.out.1.kp U9.out) HG.out.2 V9.out ?_;intro y11 y12 y13 y14 y15 w6 hb;replace V':=hid (V9.out.kp hb);replace U':=tR U9 hb;clear V9 U9;clear hb;go_wp2_with fail;go_ret;exact⟨rfl,U'.out⟩
theorem stc_parts {w:World}{V:Nat}{e:Eid}{s:List UInt8}(h:At w V (.cells (stc e s) 116)):w.rangeAt V 0 (ec e).toList∧w.cell? ⟨V,4,none⟩=some (.string (st s)):=by
 refine⟨fun j v hj=>?_,by rw[cell_of_row _ _ _ _ 116 (0,0) h];rfl⟩;have hj4:j<4:=by have:=(List.getElem?_eq_some_iff.1 hj).1;simpa[ec]using this
 rw[cell_of_row _ _ _ _ 116 (0,0) h];rcases(show j=0∨j=1∨j=2∨j=3 by omega)with rfl|rfl|rfl|rfl<;>simpa[stc,ec]using hj
theorem wpoll_r4 (W V i m B:Nat)(tx:Eid)(s:List UInt8)(a0 a1 a2 ov:Value)(xs:List Value)(w:World)(Q:QT)(hW:At w W (.cells #[a0,a1,a2,ov] 85))(hX:At w V (.cells (stc tx s) 116))(hn:w.ownsRow B 112 6 ov m xs)(hm:m≤4)(hB:B≤w.heap.size)
 (hQ:∀(y22 y23 y24 y25 y26 y27 y28 y29 y30 y31 y32 y33 y34 y35 y36:Value) (v2:Value) (w9:World),Upd (fun k=>some k=ov.ownBlock∨k=W) w w9→At w9 W (.cells #[a0,a1,a2,v2] 85)→w9.ownsRow B 112 6 v2 (m+1) (xs++(emc i tx s).toList)→Q .normal ⟨(.pointer (some ⟨W,0,none⟩)::.int .i64 i::x2::x3::x4::x5::x6::.pointer (some ⟨V,0,none⟩)::x8::x9::x10::x11::x12::x13::x14::x15::x16::x17::x18::x19::x20::x21::y22::y23::y24::y25::y26::y27::y28::y29::y30::y31::y32::y33::y34::y35::y36::[]).toArray,[]⟩ w9):
 Code.wp Tryz.prog (rg Tryz.f28 4) Q ⟨(.pointer (some ⟨W,0,none⟩)::.int .i64 i::x2::x3::x4::x5::x6::.pointer (some ⟨V,0,none⟩)::x8::x9::x10::x11::x12::x13::x14::x15::x16::x17::x18::x19::x20::x21::x22::x23::x24::x25::x26::x27::x28::x29::x30::x31::x32::x33::x34::x35::x36::[]).toArray,[]⟩ w:=by
 have HQ:=hid hQ;clear hQ;have HU0:=hid (below_drew (Below.refl w.heap.size w));have HS:=hid (show ∀w',At w' W (.cells #[a0,a1,a2,ov] 85)→At w' V (.cells (stc tx s) 116)→w'.cell? ⟨W,3,none⟩=some ov∧w'.rangeAt V 0 (ec tx).toList∧w'.cell? ⟨V,4,none⟩=some (.string (st s))from fun w' h1 h2=>⟨(wcell h1).2.2.2,(stc_parts h2).1,(stc_parts h2).2⟩);have FW0:=hid (hW.kp HU0.out);have FX0:=hid (hX.kp HU0.out);have N0:=hid (row_keep hn HU0.out);have US0:=hid (upd_of_below (S:=fun k=>some k=ov.ownBlock) HU0.out);have HM4:=hid hm;have HB:=hid hB;clear hW hX hn hm hB;conv=>arg 2;whnf
 refine wp_region_T (S:=fun w'=>w'.cell? ⟨W,3,none⟩=some ov∧w'.rangeAt V 0 (ec tx).toList∧w'.cell? ⟨V,4,none⟩=some (.string (st s))) (fun j=>j==0||j==13||j==14||j==15) (by kernel_rfl) (HS.out _ FW0.out FX0.out) (fun hHeld=>?_);refine wpAnyT_take4 (i:=0) (oi:=_) (v:=?_) rfl (by kernel_rfl) (by kernel_rfl) (by kernel_rfl) (by rfl) (fun _ _ _ h=>h) (Or.inl ⟨by rfl,?_⟩) ?_;rotate_left
 · intro w' hSw;go_simp;try rfl
 try simp only[Act.put,fr]
 refine t3 1 ?_;refine t3 2 ?_;refine t3 3 ?_;refine t3 4 ?_;refine t3 5 ?_;refine t3 6 ?_;refine u3 7 _ rfl (yQ 34 28 V (0) (ec tx) (fun w h=>h.2.1)) ?_;refine t3 8 ?_;refine t3 9 ?_;refine u3 10 (.agg (emc i tx s)) rfl (Or.inl ⟨by rfl,?_⟩) ?_
 · intro w' hSw;go_split_ands;exact run_exec_build 112 _ (by rfl) (emc i tx s) (by kernel_rfl)
 try simp only[Act.put,fr]
 refine rd1 11 rfl fun K hK=>?_;refine wp_buildSliceTo (o:=⟨some 33,_,_,_,_,_⟩) 83 112 1 _ rfl (some 33) rfl Tryz.underlying83 (emc i tx s) (by kernel_rfl) ?_;have hb:Below (w.drew).heap.size (w.drew) ((w.alloc (.cells (emc i tx s) 112)).drew):=(Below.refl _ _).alloc (Nat.le_refl _) _;have US1:=hid (US0.out.add hb);have FW1:=hid (FW0.out.kp hb);have FX1:=hid (FX0.out.kp hb);have N1:=hid (row_keep N0.out hb);have hnew:At ((w.alloc (.cells (emc i tx s) 112)).drew) (w).heap.size (.cells (emc i tx s) 112):=heap_new (w) _;have BT1:=hid hnew;clear hb hnew;refine hK.out _ _ (fun _=>HS.out _ FW1.out FX1.out) (fun hHeld=>?_);clear hK K;try simp only[Act.put,fr]
 refine rd1 12 rfl fun K hK=>?_;obtain⟨i0,hi,hz0,hz1,hz2⟩:=info_parts info112;refine step_append_lies _ (by rfl) (.tmp 26) (.tmp 33) 83 (by rfl) B 112 i0 _ 6 64 Tryz.underlying83 hi hz0 hz1 hz2 rfl (by decide) ov m xs (by rfl) N1.out ⟨w.heap.size,0,none⟩ 1 1 (emc i tx s).toList (by rfl) (by rfl) (World.news_of_block (cs:=emc i tx s) BT1.out) (all_one (emc_one ..)) (by decide) (by have:=HM4.out;unfold maxLen;omega) (by have:=HM4.out;omega) (Nat.le_trans HB.out US1.out.size) _ rfl ?_;intro gN cN wa2 hown hgrow hat hlt;clear hi hz0 hz1 hz2 i0;have hup:=upd_grown hgrow;have US2:=hid (US1.out.trans hup);have FW2:=hid (FW1.out.upd hup (fun e=>own_ne N1.out FW1.out (by decide) e.symm));have FX2:=hid (FX1.out.upd hup (fun e=>own_ne N1.out FX1.out (by decide) e.symm));have N2:=hid hown;clear hown hgrow hat hlt hup;refine hK.out _ _ (fun _=>HS.out _ FW2.out FX2.out) (fun hHeld=>?_);clear hK K;try simp only[Act.put,fr]
 refine wpAnyT_take4 (i:=13) (oi:=_) (v:=?_) rfl (by kernel_rfl) (by kernel_rfl) (by kernel_rfl) (by rfl) (fun _ _ _ h=>h) (Or.inl ⟨by rfl,?_⟩) ?_;rotate_left
 · intro w' hSw;go_simp;try rfl
 try simp only[Act.put,fr]
 refine wpAnyT_take4 (i:=14) (oi:=_) (v:=?_) rfl (by kernel_rfl) (by kernel_rfl) (by kernel_rfl) (by rfl) (fun _ _ _ h=>h) (Or.inl ⟨by rfl,?_⟩) ?_;rotate_left
 · intro w' hSw;go_simp;try rfl
 try simp only[Act.put,fr]
 refine wpAnyT_ready (rs:=[15]) (by kernel_rfl) (by simp) ?_;refine AllReadyT.last (o:=_) rfl (fun K hK=>?_) (by kernel_rfl);have hc8:=(wcell FW2.out).2.2.2;have hf8:=frozen_of_row wa2 W 3 _ 85 FW2.out;have hu9:=upd_setCell wa2 ⟨W,3,none⟩ (.slice (some ⟨gN,0,none⟩) (m+1) cN);have FW3:=hid (show At (wa2.setCell ⟨W,3,none⟩ (.slice (some ⟨gN,0,none⟩) (m+1) cN)) W (.cells #[a0,a1,a2,.slice (some ⟨gN,0,none⟩) (m+1) cN] 85)from At.setc FW2.out 3 _);have N3:=hid (row_upd N2.out hu9 (fun k hk e=>by have e:k=W:=e;subst e;exact own_ne N2.out FW2.out (by decide) hk));have US3:=hid ((US2.out.mono fun k _ e=>Or.inl e:Upd (fun k=>some k=ov.ownBlock∨k=W) _ _).trans (hu9.mono fun k _ e=>Or.inr e));go_simp;clear hc8 hf8 hu9;refine hK.out _ _ ?_;generalize (wa2.setCell ⟨W,3,none⟩ (.slice (some ⟨gN,0,none⟩) (m+1) cN))=ws3 at*;clear hK K;try simp only[Act.put,fr]
 exact dN (HQ.out _ _ _ _ _ _ _ _ _ _ _ _ _ _ _ _ _ US3.out FW3.out N3.out)
theorem wpoll_any (W n i m k at_ n2 k2 by_ fl li:Nat)(sd:List UInt8)(d r:Eid)(L:Nat→Nd)(out:Value)(xs:List Value)(tx:Eid)(s:List UInt8)(a2:Ag)(w:World)(hO:WOk n W L out w)(hi:i<n)(hn:n≤4)(B:Nat)(hB:B≤w.heap.size)(hrw:RowIs w B 112 6 out m xs)(hm:m≤4)(ha1:a2.i=i)(ha2:a2.n=n)(hcall:∀u,Below w.heap.size w u→Calls Tryz.prog 50 #[.pointer (some ⟨(L i).A,0,none⟩)] u fun e u'=>e= .returned (.tuple #[.agg (stc tx s),.bool true])∧AgOk (L i).lo (L i).hi u' (L i).A a2∧Upd (agS (L i).A (L i).a) u u'):
 Calls Tryz.prog 28 #[.pointer (some ⟨W,0,none⟩),.int .i64 i,.agg (opc k at_ n2 k2 by_ sd d r fl li)] w fun e_ w'=>∃v2,e_= .returned (.int .i64 0)∧WOk n W (upa L i a2) v2 w'∧RowIs w' B 112 6 v2 (m+1) (xs++(emc i tx s).toList)∧Upd (fun k=>agS (L i).A (L i).a k∨(some k=out.ownBlock∨k=W)) w w':=by
 have HRW:=hid hrw;have HBB0:=hid hB;have HM4:=hid hm;have HA2:=hid (And.intro ha1 ha2);clear hrw hm ha1 ha2 hB;obtain⟨ga,gn,cn,gl,cl,c1,c2,h1,h2,h3,h4,h5,h6,h7⟩:=hO.wb;have HO:=hid hO;have HW:=hid h1;have HL:=hid h4;have HX:=hid (And.intro hi h7);have HCL:=hid hcall;have HC2:=hid (fun(w':World) (h:At w' gl (.cells c2 86))=>list_at h h5 (pts_get L n i hi));have hi0:(i:Int)<(n:Int):=by omega
 have hi1:(i:Int)<(cl:Int):=by omega
 clear h1 h2 h3 h4 h5 h6 h7 hO hi hcall;obtain⟨w1,HE,U0,C'⟩:=mH1 w (opc k at_ n2 k2 by_ sd d r fl li) 36;go_enter Tryz.func28,Tryz.ntmps28;go_upto_region 1 with(fail);rw[←HE.out];clear HE;have O':=hid (HO.out.kp U0.out);have W':=hid (HW.out.kp U0.out);have G':=hid (HL.out.kp U0.out);have R':=hid (RowIs.kp HRW.out U0.out);clear C';have x2:=(wcell W'.out).2.2.1;have xa:=HC2.out _ G'.out;go_wp2_with fail;clear x2 xa hi0 hi1;refine(HCL.out w1 U0.out).mono ?_;rintro e_ w_2 ⟨rfl,hA2,hu⟩;have OX:=hid ((O'.out).step HX.out.1 hu hA2 HA2.out.1 HA2.out.2);have WX:=hid ((O'.out).str HX.out.1 hu W'.out);have RX:=hid ((O'.out).row R'.out HX.out.1 hu);have UQ:=hid ((upd_of_below (S:=agS (L i).A (L i).a) U0.out).trans hu);clear hA2 hu;clear O' W' G' R' U0;have HBB:=hid (Nat.le_trans HBB0.out UQ.out.size);have UB:=hid (Below.refl w_2.heap.size w_2);have hz116:=zero116;go_upto_region 2 with(refine sV 116 7 18 (stc tx s) (size116 rfl) (stc_one ..) ?_;intro w_5 hb hk);replace O':=hid (OX.out.kp hb);replace W':=hid (WX.out.kp hb);replace R':=hid (RX.out.kp hb);have U':=tR UB hb;clear OX WX RX UB;have V':=hid hk;clear hb hk;go_upto_region 4 with fail;refine ent (C:=rg Tryz.f28 4) (by kernel_rfl) ?_;refine wpoll_r4 W (w_2.heap.size) i m B tx s _ _ _ out xs _ _ W'.out V'.out R'.out HM4.out (Nat.le_trans HBB.out (U'.out).size) ?_;intro y22 y23 y24 y25 y26 y27 y28 y29 y30 y31 y32 y33 y34 y35 y36 v2 w9 hu hw hr;have HOE:=hid ((O'.out).emit R'.out hu W'.out hw);have HRE:=hid hr;have UE:=hid (((UQ.out.add U'.out).mono fun k _ e=>Or.inl e:Upd (fun k=>agS (L i).A (L i).a k∨(some k=out.ownBlock∨k=W)) _ _).trans (hu.mono fun k _ e=>Or.inr e));clear hu hw hr;go_wp2_with fail;go_ret;exact⟨v2,rfl,HOE.out,HRE.out,UE.out⟩
theorem wpoll_none (W n i m k at_ n2 k2 by_ fl li:Nat)(sd:List UInt8)(d r:Eid)(L:Nat→Nd)(out:Value)(w:World)(hO:WOk n W L out w)(hi:i<n)(hn:n≤4)(hcall:∀u,Below w.heap.size w u→Calls Tryz.prog 50 #[.pointer (some ⟨(L i).A,0,none⟩)] u fun e u'=>e= .returned (.tuple #[.agg stZ,.bool false])∧Below u.heap.size u u'):
 Rv 28 #[.pointer (some ⟨W,0,none⟩),.int .i64 i,.agg (opc k at_ n2 k2 by_ sd d r fl li)] w (.int .i64 15):=by
 obtain⟨ga,gn,cn,gl,cl,c1,c2,h1,h2,h3,h4,h5,h6,h7⟩:=hO.wb;have HO:=hid hO;have HW:=hid h1;have HL:=hid h4;have HX:=hid (And.intro hi h7);have HCL:=hid hcall;have HC2:=hid (fun(w':World) (h:At w' gl (.cells c2 86))=>list_at h h5 (pts_get L n i hi));have hi0:(i:Int)<(n:Int):=by omega
 have hi1:(i:Int)<(cl:Int):=by omega
 clear h1 h2 h3 h4 h5 h6 h7 hO hi hcall;obtain⟨w1,HE,U0,C'⟩:=mH1 w (opc k at_ n2 k2 by_ sd d r fl li) 36;go_enter Tryz.func28,Tryz.ntmps28;go_upto_region 1 with(fail);rw[←HE.out];clear HE;have W':=hid (HW.out.kp U0.out);have G':=hid (HL.out.kp U0.out);clear C';have x2:=(wcell W'.out).2.2.1;have xa:=HC2.out _ G'.out;go_wp2_with fail;clear x2 xa hi0 hi1;refine(HCL.out w1 U0.out).mono ?_;rintro e_ w_3 ⟨rfl,hb⟩;replace W':=hid (W'.out.kp hb);replace G':=hid (G'.out.kp hb);have U':=tR U0 hb;clear U0;clear hb;have hz116:=zero116;go_upto_region 2 with(refine sV 116 7 18 (stc eZ []) (size116 rfl) (stc_one ..) ?_;intro w_7 hb hk);replace W':=hid (W'.out.kp hb);replace G':=hid (G'.out.kp hb);replace U':=tR U' hb;have V':=hid hk;clear hb hk;go_wp2_with fail;go_ret;exact⟨rfl,U'.out⟩
end
section
open Go.Conc Go.RowKit
variable {x1 x2 x3 x4 x5 x6 x7 x8 x9 x10 x11 x12 x13 x14 x15 x16 x17 x18 x19 x20 x21 x22 x23 x24 x25 x26 x27 x28 x29 x30 x31 x32 x33 x34:Value} {r:List Value}
theorem zero112 (w:World):(zeroValue 112).run Tryz.prog w= .ok (.agg (emc 0 eZ [])) w:=by kernel_rfl
theorem em_parts {w:World}{V i:Nat}{e:Eid}{s:List UInt8}(h:At w V (.cells (emc i e s) 112)):w.rangeAt V 1 (ec e).toList∧w.cell? ⟨V,5,none⟩=some (.string (st s)):=by
 refine⟨fun j v hj=>?_,by rw[cell_of_row _ _ _ _ 112 (0,0) h];rfl⟩;have hj4:j<4:=by have:=(List.getElem?_eq_some_iff.1 hj).1;simpa[ec]using this
 rw[cell_of_row _ _ _ _ 112 (0,0) h];rcases(show j=0∨j=1∨j=2∨j=3 by omega)with rfl|rfl|rfl|rfl<;>simpa[emc,ec]using hj
theorem carry1_r0 (W i0 p g cN B:Nat)(s:List UInt8)(a0 a1 a2:Value)(xs:List Value)(w:World)(Q:QT)(hW:At w W (.cells #[a0,a1,a2,.slice (some ⟨g,0,none⟩) 1 cN] 85))(hr:w.ownsRow B 112 6 (.slice (some ⟨g,0,none⟩) 1 cN) 1 (xs++(emc i0 (nd p) s).toList))(hx:xs.length=0)
 (hQ:∀(y4 y5 y6 y7 y8 y9 y10 y11 y12 y13 y14 y15:Value) (V:Nat) (w6:World),Below w.heap.size w w6→w.heap.size≤V→At w6 V (.cells (emc i0 (nd p) s) 112)→Q .normal ⟨(.pointer (some ⟨W,0,none⟩)::x1::.pointer (some ⟨V,0,none⟩)::x3::y4::y5::y6::y7::y8::y9::y10::y11::y12::y13::y14::y15::r).toArray,[]⟩ w6):
 Code.wp Tryz.prog (rg Tryz.f33 0) Q ⟨(.pointer (some ⟨W,0,none⟩)::x1::x2::x3::x4::x5::x6::x7::x8::x9::x10::x11::x12::x13::x14::x15::r).toArray,[]⟩ w:=by
 have HQ:=hid hQ;clear hQ;have hz112:=zero112;have hwr:IntKind.i64.wrap 0=0:=rfl;have hc0:(0:Int)<(cN:Int):=by have:=row_cap hr;omega
 conv=>arg 2;whnf
 refine reg (fun w'=>w'.cell? ⟨W,3,none⟩=some (.slice (some ⟨g,0,none⟩) 1 cN)∧w'.rangeAt g 0 (emc i0 (nd p) s).toList) (fun _=>false) (fun w' hu=>⟨(wcell (hW.kp hu)).2.2.2,row_last (row_keep hr hu) hx⟩) fun HS HU0 hHeld=>?_;clear hW hr hx;refine t2 0 ?_;refine t2 1 ?_;refine t2 2 ?_;refine t2 3 ?_;refine t2 4 ?_;refine t2 5 ?_;refine t2 6 ?_;refine t2 7 ?_;refine t2 8 ?_;refine t2 9 ?_;refine u2 10 (.pointer (some ⟨g,0,none⟩)) rfl (Or.inl ⟨by rfl,?_⟩) ?_
 · intro w' hSw;go_split_ands;go_simp;try rfl
 try simp only[Act.put,fr]
 refine u2 11 _ rfl (yQ 112 14 g (0) (emc i0 (nd p) s) (fun w h=>h.2)) ?_;refine rd1 12 rfl fun K hK=>?_;go_simp;refine aD ?_;intro w1 hb hnew;have HPge:=hid (show w.heap.size≤w.heap.size from HU0.out.size);have HU1:=tR HU0 hb;have E1:=hid hnew;clear hb hnew;refine kK hK (HS.out _ HU1.out) fun hHeld=>?_;try simp only[Act.put,fr]
 refine rd1 13 rfl fun K hK=>?_;refine wp_store_row 112 (.tmp 2) (.tmp 15) rfl (w.heap.size) (emc i0 (nd p) s) rfl rfl 112 _ E1.out (size112 rfl) rfl ((emc_one ..)) ?_;have hu9:=upd_setRow (w1) (w.heap.size) (emc i0 (nd p) s);have HV9:=hid (show At ((w1).setRow (w.heap.size) (emc i0 (nd p) s)) (w.heap.size) (.cells (emc i0 (nd p) s) 112)from E1.out.row _);have HU9:=hid (HU1.out.trans (hu9.below HU1.out.size (fun k e=>by have e:k=w.heap.size:=e;rw[e];exact HPge.out)));clear hu9;refine kK hK (HS.out _ HU9.out) fun hHeld=>?_;try simp only[Act.put,fr]
 exact dN (HQ.out _ _ _ _ _ _ _ _ _ _ _ _ _ _ HU9.out HPge.out HV9.out)
theorem carry2_r0 (W i0 p g cN B:Nat)(s:List UInt8)(a0 a1 a2:Value)(xs:List Value)(w:World)(Q:QT)(hW:At w W (.cells #[a0,a1,a2,.slice (some ⟨g,0,none⟩) 2 cN] 85))(hr:w.ownsRow B 112 6 (.slice (some ⟨g,0,none⟩) 2 cN) 2 (xs++(emc i0 (nd p) s).toList))(hx:xs.length=6)
 (hQ:∀(y4 y5 y6 y7 y8 y9 y10 y11 y12 y13 y14 y15:Value) (V:Nat) (w6:World),Below w.heap.size w w6→w.heap.size≤V→At w6 V (.cells (emc i0 (nd p) s) 112)→Q .normal ⟨(.pointer (some ⟨W,0,none⟩)::x1::.pointer (some ⟨V,0,none⟩)::x3::y4::y5::y6::y7::y8::y9::y10::y11::y12::y13::y14::y15::r).toArray,[]⟩ w6):
 Code.wp Tryz.prog (rg Tryz.f33 0) Q ⟨(.pointer (some ⟨W,0,none⟩)::x1::x2::x3::x4::x5::x6::x7::x8::x9::x10::x11::x12::x13::x14::x15::r).toArray,[]⟩ w:=by
 have HQ:=hid hQ;clear hQ;have hz112:=zero112;have hwr:IntKind.i64.wrap 1=1:=rfl;have hc0:(1:Int)<(cN:Int):=by have:=row_cap hr;omega
 conv=>arg 2;whnf
 refine reg (fun w'=>w'.cell? ⟨W,3,none⟩=some (.slice (some ⟨g,0,none⟩) 2 cN)∧w'.rangeAt g 6 (emc i0 (nd p) s).toList) (fun _=>false) (fun w' hu=>⟨(wcell (hW.kp hu)).2.2.2,row_last (row_keep hr hu) hx⟩) fun HS HU0 hHeld=>?_;clear hW hr hx;refine t2 0 ?_;refine t2 1 ?_;refine t2 2 ?_;refine t2 3 ?_;refine t2 4 ?_;refine t2 5 ?_;refine t2 6 ?_;refine t2 7 ?_;refine t2 8 ?_;refine t2 9 ?_;refine u2 10 (.pointer (some ⟨g,6,none⟩)) rfl (Or.inl ⟨by rfl,?_⟩) ?_
 · intro w' hSw;go_split_ands;go_simp;try rfl
 try simp only[Act.put,fr]
 refine u2 11 _ rfl (yQ 112 14 g (6) (emc i0 (nd p) s) (fun w h=>h.2)) ?_;refine rd1 12 rfl fun K hK=>?_;go_simp;refine aD ?_;intro w1 hb hnew;have HPge:=hid (show w.heap.size≤w.heap.size from HU0.out.size);have HU1:=tR HU0 hb;have E1:=hid hnew;clear hb hnew;refine kK hK (HS.out _ HU1.out) fun hHeld=>?_;try simp only[Act.put,fr]
 refine rd1 13 rfl fun K hK=>?_;refine wp_store_row 112 (.tmp 2) (.tmp 15) rfl (w.heap.size) (emc i0 (nd p) s) rfl rfl 112 _ E1.out (size112 rfl) rfl ((emc_one ..)) ?_;have hu9:=upd_setRow (w1) (w.heap.size) (emc i0 (nd p) s);have HV9:=hid (show At ((w1).setRow (w.heap.size) (emc i0 (nd p) s)) (w.heap.size) (.cells (emc i0 (nd p) s) 112)from E1.out.row _);have HU9:=hid (HU1.out.trans (hu9.below HU1.out.size (fun k e=>by have e:k=w.heap.size:=e;rw[e];exact HPge.out)));clear hu9;refine kK hK (HS.out _ HU9.out) fun hHeld=>?_;try simp only[Act.put,fr]
 exact dN (HQ.out _ _ _ _ _ _ _ _ _ _ _ _ _ _ HU9.out HPge.out HV9.out)
theorem carry_r1 (W V i0 p n gn cn:Nat)(s:List UInt8)(a0 a2 a3:Value)(c1:Array Value)(w:World)(Q:QT)(hW:At w W (.cells #[a0,.slice (some ⟨gn,0,none⟩) n cn,a2,a3] 85))(hV:At w V (.cells (emc i0 (nd p) s) 112))(hg:At w gn (.cells c1 34))(ht:c1.toList.take (n*4)=ecs n)(hp:p<n)(hn:n≤4)(hcn:n≤cn)
 (hQ:∀(y16 y17 y18 y19 y20 y21 y22:Value) (w6:World),Below w.heap.size w w6→Q .normal ⟨(.pointer (some ⟨W,0,none⟩)::x1::.pointer (some ⟨V,0,none⟩)::.int .i64 p::x4::x5::x6::x7::x8::x9::x10::x11::x12::x13::x14::x15::y16::y17::y18::y19::y20::y21::y22::r).toArray,[]⟩ w6):
 Code.wp Tryz.prog (rg Tryz.f33 1) Q ⟨(.pointer (some ⟨W,0,none⟩)::x1::.pointer (some ⟨V,0,none⟩)::x3::x4::x5::x6::x7::x8::x9::x10::x11::x12::x13::x14::x15::x16::x17::x18::x19::x20::x21::x22::r).toArray,[]⟩ w:=by
 have HQ:=hid hQ;clear hQ;conv=>arg 2;whnf
 refine reg (fun w'=>w'.cell? ⟨W,1,none⟩=some (.slice (some ⟨gn,0,none⟩) n cn)∧w'.rangeAt V 1 (ec (nd p)).toList) (fun _=>false) (fun w' hu=>⟨(wcell (hW.kp hu)).2.1,(em_parts (hV.kp hu)).1⟩) fun HS HU0 hHeld=>?_;have HG:=hid hg;have HN:=hid (And.intro ht (And.intro hp (And.intro hn hcn)));clear hW hV hg ht hp hn hcn;refine t2 0 ?_;refine t2 1 ?_;refine t2 2 ?_;refine t2 3 ?_;refine t2 4 ?_;refine u2 5 _ rfl (yQ 34 20 V (1) (ec (nd p)) (fun w h=>h.2)) ?_;refine rd1 6 rfl fun K hK=>?_;go_simp;(with_reducible refine(idx_hit gn cn n p c1 w.drew HN.out.2.1 HN.out.2.2.1 HN.out.2.2.2 (HG.out.kp HU0.out) HN.out.1).mono ?_);rintro e_ w1 ⟨rfl,hb⟩;have HU1:=tR HU0 hb;clear hb;refine kK hK (HS.out _ HU1.out) fun hHeld=>?_;try simp only[Act.put,fr]
 refine t2 7 ?_;exact dN (HQ.out _ _ _ _ _ _ _ _ HU1.out)
theorem carry_r3 (W V A i0 p n gl cl:Nat)(s:List UInt8)(a0 a1 a3:Value)(Ψ:World→Prop)(c2:Array Value)(w:World)(Q:QT)(hW:At w W (.cells #[a0,a1,.slice (some ⟨gl,0,none⟩) n cl,a3] 85))(hV:At w V (.cells (emc i0 (nd p) s) 112))(hg:At w gl (.cells c2 86))(hc:∀w',At w' gl (.cells c2 86)→w'.cell? ⟨gl,p,none⟩=some (.pointer (some ⟨A,0,none⟩)))(hp:p<n)(hcl:n≤cl)(hcall:∀u,Below w.heap.size w u→Calls Tryz.prog 48 #[.pointer (some ⟨A,0,none⟩),.string (st s)] u fun e u'=>e= .returned (.int .i64 0)∧Ψ u')
 (hQ:∀(y25 y26 y27 y28 y29 y30 y31 y32 y33 y34:Value) (w9:World),Ψ w9→Q .normal ⟨(.pointer (some ⟨W,0,none⟩)::x1::.pointer (some ⟨V,0,none⟩)::.int .i64 p::x4::x5::x6::x7::x8::x9::x10::x11::x12::x13::x14::x15::x16::x17::x18::x19::x20::x21::x22::x23::x24::y25::y26::y27::y28::y29::y30::y31::y32::y33::y34::[]).toArray,[]⟩ w9):
 Code.wp Tryz.prog (rg Tryz.f33 3) Q ⟨(.pointer (some ⟨W,0,none⟩)::x1::.pointer (some ⟨V,0,none⟩)::.int .i64 p::x4::x5::x6::x7::x8::x9::x10::x11::x12::x13::x14::x15::x16::x17::x18::x19::x20::x21::x22::x23::x24::x25::x26::x27::x28::x29::x30::x31::x32::x33::x34::[]).toArray,[]⟩ w:=by
 have HQ:=hid hQ;clear hQ;conv=>arg 2;whnf
 refine reg (fun w'=>w'.cell? ⟨W,2,none⟩=some (.slice (some ⟨gl,0,none⟩) n cl)∧w'.cell? ⟨gl,p,none⟩=some (.pointer (some ⟨A,0,none⟩))∧w'.cell? ⟨V,5,none⟩=some (.string (st s))) (fun j=>j==9) (fun w' hu=>⟨(wcell (hW.kp hu)).2.2.1,hc _ (hg.kp hu),(em_parts (hV.kp hu)).2⟩) fun HS HU0 hHeld=>?_;have HCL:=hid hcall;have hi0:(p:Int)<(n:Int):=by omega
 have hi1:(p:Int)<(cl:Int):=by omega
 clear hW hV hg hc hcall hp hcl;refine t3 0 ?_;refine t3 1 ?_;refine t3 2 ?_;refine t3 3 ?_;refine t3 4 ?_;refine t3 5 ?_;refine t3 6 ?_;refine t3 7 ?_;refine t3 8 ?_;refine wpAnyT_ready (rs:=[9]) (by kernel_rfl) (by simp) ?_;refine AllReadyT.last (o:=_) rfl (fun K hK=>?_) (by kernel_rfl);go_simp;(with_reducible refine(HCL.out (w.drew) HU0.out).mono ?_);rintro e_ w9 ⟨rfl,hps⟩;have HPS:=hid hps;clear hps;refine hK.out _ _ ?_;clear hK K;try simp only[Act.put,fr]
 exact dN (HQ.out _ _ _ _ _ _ _ _ _ _ _ HPS.out)
theorem carry1 (W n i0 p g cN B:Nat)(L:Nat→Nd)(s:List UInt8)(xs:List Value)(Ψ:World→Prop)(w:World)(hO:WOk n W L (.slice (some ⟨g,0,none⟩) 1 cN) w)(hr:RowIs w B 112 6 (.slice (some ⟨g,0,none⟩) 1 cN) 1 (xs++(emc i0 (nd p) s).toList))(hx:xs.length=0)(hp:p<n)(hn:n≤4)(hcall:∀u,Below w.heap.size w u→Calls Tryz.prog 48 #[.pointer (some ⟨(L p).A,0,none⟩),.string (st s)] u fun e u'=>e= .returned (.int .i64 0)∧Ψ u'):
 Calls Tryz.prog 33 #[.pointer (some ⟨W,0,none⟩)] w fun e_ w'=>e_= .returned (.tuple #[])∧Ψ w':=by
 obtain⟨ga,gn,cn,gl,cl,c1,c2,h1,h2,h3,h4,h5,h6,h7⟩:=hO.wb;have HW:=hid h1;have HN:=hid h2;have HL:=hid h4;have HX:=hid (And.intro hp (And.intro hn (And.intro h6 (And.intro h7 h3))));have HCL:=hid hcall;have HR:=hid hr;have HK:=hid hx;have HC2:=hid (fun(w':World) (h:At w' gl (.cells c2 86))=>list_at h h5 (pts_get L n p hp));clear h1 h2 h3 h4 h5 h6 h7 hO hp hn hcall hr hx;go_enter Tryz.func33,Tryz.ntmps33;have UB:=hid (Below.refl w.heap.size w);go_upto_region 0 with fail;refine ent (C:=rg Tryz.f33 0) (by kernel_rfl) ?_;refine carry1_r0 W i0 p g cN B s _ _ _ xs _ _ HW.out HR.out HK.out ?_;intro y4 y5 y6 y7 y8 y9 y10 y11 y12 y13 y14 y15 V w6 hb hv0 hv;have W':=hid (HW.out.kp hb);have N':=hid (HN.out.kp hb);have L':=hid (HL.out.kp hb);have U':=tR UB hb;clear HW HN HL UB;have V':=hid (hv);clear hb hv hv0;go_upto_region 1 with(fail);refine ent (C:=rg Tryz.f33 1) (by kernel_rfl) ?_;refine carry_r1 W V i0 p n gn cn s _ _ _ c1 _ _ W'.out V'.out N'.out HX.out.2.2.2.2 HX.out.1 HX.out.2.1 HX.out.2.2.1 ?_;intro y16 y17 y18 y19 y20 y21 y22 w7 hb;replace W':=hid (W'.out.kp hb);replace N':=hid (N'.out.kp hb);replace L':=hid (L'.out.kp hb);replace V':=hid (V'.out.kp hb);replace U':=tR U' hb;clear hb;have hp0:(0:Int)≤(p:Int):=by omega
 go_upto_region 3 with fail;clear hp0;refine ent (C:=rg Tryz.f33 3) (by kernel_rfl) ?_;refine carry_r3 W V (L p).A i0 p n gl cl s _ _ _ Ψ c2 _ _ W'.out V'.out L'.out HC2.out HX.out.1 HX.out.2.2.2.1 (fun u hu=>HCL.out u ((U'.out).trans (hu.mono (U'.out).size))) ?_;intro y25 y26 y27 y28 y29 y30 y31 y32 y33 y34 w9 hps;have HPS:=hid hps;clear hps;go_wp2_with fail;go_end0;exact⟨rfl,HPS.out⟩
theorem carry2 (W n i0 p g cN B:Nat)(L:Nat→Nd)(s:List UInt8)(xs:List Value)(Ψ:World→Prop)(w:World)(hO:WOk n W L (.slice (some ⟨g,0,none⟩) 2 cN) w)(hr:RowIs w B 112 6 (.slice (some ⟨g,0,none⟩) 2 cN) 2 (xs++(emc i0 (nd p) s).toList))(hx:xs.length=6)(hp:p<n)(hn:n≤4)(hcall:∀u,Below w.heap.size w u→Calls Tryz.prog 48 #[.pointer (some ⟨(L p).A,0,none⟩),.string (st s)] u fun e u'=>e= .returned (.int .i64 0)∧Ψ u'):
 Calls Tryz.prog 33 #[.pointer (some ⟨W,0,none⟩)] w fun e_ w'=>e_= .returned (.tuple #[])∧Ψ w':=by
 obtain⟨ga,gn,cn,gl,cl,c1,c2,h1,h2,h3,h4,h5,h6,h7⟩:=hO.wb;have HW:=hid h1;have HN:=hid h2;have HL:=hid h4;have HX:=hid (And.intro hp (And.intro hn (And.intro h6 (And.intro h7 h3))));have HCL:=hid hcall;have HR:=hid hr;have HK:=hid hx;have HC2:=hid (fun(w':World) (h:At w' gl (.cells c2 86))=>list_at h h5 (pts_get L n p hp));clear h1 h2 h3 h4 h5 h6 h7 hO hp hn hcall hr hx;go_enter Tryz.func33,Tryz.ntmps33;have UB:=hid (Below.refl w.heap.size w);go_upto_region 0 with fail;refine ent (C:=rg Tryz.f33 0) (by kernel_rfl) ?_;refine carry2_r0 W i0 p g cN B s _ _ _ xs _ _ HW.out HR.out HK.out ?_;intro y4 y5 y6 y7 y8 y9 y10 y11 y12 y13 y14 y15 V w6 hb hv0 hv;have W':=hid (HW.out.kp hb);have N':=hid (HN.out.kp hb);have L':=hid (HL.out.kp hb);have U':=tR UB hb;clear HW HN HL UB;have V':=hid (hv);clear hb hv hv0;go_upto_region 1 with(fail);refine ent (C:=rg Tryz.f33 1) (by kernel_rfl) ?_;refine carry_r1 W V i0 p n gn cn s _ _ _ c1 _ _ W'.out V'.out N'.out HX.out.2.2.2.2 HX.out.1 HX.out.2.1 HX.out.2.2.1 ?_;intro y16 y17 y18 y19 y20 y21 y22 w7 hb;replace W':=hid (W'.out.kp hb);replace N':=hid (N'.out.kp hb);replace L':=hid (L'.out.kp hb);replace V':=hid (V'.out.kp hb);replace U':=tR U' hb;clear hb;have hp0:(0:Int)≤(p:Int):=by omega
 go_upto_region 3 with fail;clear hp0;refine ent (C:=rg Tryz.f33 3) (by kernel_rfl) ?_;refine carry_r3 W V (L p).A i0 p n gl cl s _ _ _ Ψ c2 _ _ W'.out V'.out L'.out HC2.out HX.out.1 HX.out.2.2.2.1 (fun u hu=>HCL.out u ((U'.out).trans (hu.mono (U'.out).size))) ?_;intro y25 y26 y27 y28 y29 y30 y31 y32 y33 y34 w9 hps;have HPS:=hid hps;clear hps;go_wp2_with fail;go_end0;exact⟨rfl,HPS.out⟩
end
section
open Go.Conc Go.RowKit
def opN:Array Value:=#[.int .i64 0,.int .i64 0,.int .i64 0,.int .i64 0,.int .u8 0,.string (st []),.int .i64 0,.string (st []),.int .u64 0,.int .u64 0,.int .i64 0,.string (st []),.int .u64 0,.int .u64 0,.int .u64 0,.int .u64 0]
def bN:Value→Nat
 | .bool true=>1
 |_=>0
theorem flow_any (W n p m:Nat)(J K I:World→Prop)(w:World)(hlen:∀u,J u∨I u→∃a0 a1 gl cl a3,At u W (.cells #[a0,a1,.slice gl n cl,a3] 85))(hJ:∀t,t<p→∀u,J u→Calls Tryz.prog 28 #[.pointer (some ⟨W,0,none⟩),.int .i64 (t:Nat),.agg opN] u fun e u'=>e= .returned (.int .i64 15)∧J u')(hP:∀u,J u→Calls Tryz.prog 28 #[.pointer (some ⟨W,0,none⟩),.int .i64 (p:Nat),.agg opN] u fun e u'=>e= .returned (.int .i64 0)∧K u')(hK:∀u,K u→Calls Tryz.prog 33 #[.pointer (some ⟨W,0,none⟩)] u fun e u'=>e= .returned (.tuple #[])∧I u')(hI:∀t,t<n→∀u,I u→Calls Tryz.prog 28 #[.pointer (some ⟨W,0,none⟩),.int .i64 (t:Nat),.agg opN] u fun e u'=>e= .returned (.int .i64 15)∧I u')(hp:p<n)(hn:n≤4)(hm:2≤m)(h0:J w):
 Calls Tryz.prog 15 #[.pointer (some ⟨W,0,none⟩),.int .i64 m] w fun e_ w'=>e_= .returned (.int .i64 1)∧I w':=by
 have HL:=hid hlen;have HJ:=hid hJ;have HP:=hid hP;have HK:=hid hK;have HI:=hid hI;have HN:=hid (And.intro hp hn);have H0:=hid h0;have hm1:(1:Int)<(m:Int):=by omega
 have hm0:(0:Int)<(m:Int):=by omega
 have hn4:(n:Int)≤4:=by omega
 clear hlen hJ hP hK hI hp hn hm h0;go_enter Tryz.func15,Tryz.ntmps15;go_wp2_with fail;go_loopw [5,6] (fun c b wr=>(c= .int .i64 0∧b= .bool true∧J wr)∨(c= .int .i64 1∧b= .bool true∧I wr)∨(c= .int .i64 1∧b= .bool false∧I wr)) (fun c b _=>2-(intOf c).toNat+bN b);case atStart=>exact .inl ⟨rfl,rfl,H0.out⟩
 case round=>
  rcases hrel with⟨rfl,rfl,hh⟩|⟨rfl,rfl,hh⟩|⟨rfl,rfl,hh⟩
  · have HH:=hid hh;clear hh;obtain⟨a0,a1,gl,cl,a3,hw⟩:=HL.out wr (.inl HH.out);have x2:=(wcell hw).2.2.1;clear hw;go_wp2_with fail;clear x2;go_loopw [14,5,6] (fun i c b wr=>∃t:Nat,t≤n∧i= .int .i64 t∧((t≤p∧c= .int .i64 0∧b= .bool false∧J wr)∨(p<t∧c= .int .i64 1∧b= .bool true∧I wr))) (fun i _ _ _=>n-(intOf i).toNat);case atStart=>exact⟨0,Nat.zero_le _,rfl,.inl ⟨Nat.zero_le _,rfl,rfl,HH.out⟩⟩
    case round=>
     clear HH;obtain⟨t,htn,rfl,hrel⟩:=hrel;rcases hrel with⟨htp,rfl,rfl,hh⟩|⟨htp,rfl,rfl,hh⟩
     · have HH:=hid hh;clear hh;have hj0:(t:Int)<(n:Int):=by have:=HN.out.1;omega
       by_cases hlt:t<p
       · have HT:=hid hlt;clear htn htp hlt;go_wp2_with fail;refine wp_loop_rounds 1 ?_;rw[rounds_succ];go_wp2_with (refine wpList_build_g (by rfl) 36 _ rfl opN (by kernel_rfl) ?_);refine(HJ.out t HT.out _ HH.out).mono ?_;rintro e_ w9 ⟨rfl,hh9⟩;have HH9:=hid hh9;clear hh9;go_wp2_with fail;go_roundw;case rel=>exact⟨t+1,by have:=HT.out;have:=HN.out.1;omega,by go_num,.inl ⟨by have:=HT.out;omega,rfl,rfl,HH9.out⟩⟩
         case measure=>simp[intOf];have:=HT.out;have:=HN.out.1;omega
       · obtain rfl:t=p:=by omega
         clear htn htp hlt;go_wp2_with fail;refine wp_loop_rounds 2 ?_;rw[rounds_succ];go_wp2_with (refine wpList_build_g (by rfl) 36 _ rfl opN (by kernel_rfl) ?_);refine(HP.out _ HH.out).mono ?_;rintro e_ w9 ⟨rfl,hh9⟩;have HH9:=hid hh9;clear hh9;go_wp2_with fail;refine(HK.out _ HH9.out).mono ?_;rintro e_ w8 ⟨rfl,hh8⟩;have HH8:=hid hh8;clear hh8;go_wp2_with fail;rw[rounds_succ];go_wp2_with (refine wpList_build_g (by rfl) 36 _ rfl opN (by kernel_rfl) ?_);refine(HI.out t HN.out.1 _ HH8.out).mono ?_;rintro e_ w7 ⟨rfl,hh7⟩;have HH7:=hid hh7;clear hh7;go_wp2_with fail;go_roundw;case rel=>exact⟨t+1,by have:=HN.out.1;omega,by go_num,.inr ⟨by omega,rfl,rfl,HH7.out⟩⟩
         case measure=>simp[intOf];have:=HN.out.1;omega
     · have HH:=hid hh;clear hh;by_cases hlt:t<n
       · have hj0:(t:Int)<(n:Int):=by omega
         have HT:=hid (And.intro hlt htp);clear htn htp hlt;go_wp2_with fail;refine wp_loop_rounds 1 ?_;rw[rounds_succ];go_wp2_with (refine wpList_build_g (by rfl) 36 _ rfl opN (by kernel_rfl) ?_);refine(HI.out t HT.out.1 _ HH.out).mono ?_;rintro e_ w9 ⟨rfl,hh9⟩;have HH9:=hid hh9;clear hh9;go_wp2_with fail;go_roundw;case rel=>exact⟨t+1,by have:=HT.out.1;omega,by go_num,.inr ⟨by have:=HT.out.2;omega,rfl,rfl,HH9.out⟩⟩
         case measure=>simp[intOf];have:=HT.out.1;omega
       · have hj0:¬(t:Int)<(n:Int):=by omega
         clear htn htp hlt;go_wp2_with fail;go_roundw;case rel=>exact .inr (.inl ⟨rfl,rfl,HH.out⟩)
         case measure=>simp[intOf,bN]
  · have HH:=hid hh;clear hh;obtain⟨a0,a1,gl,cl,a3,hw⟩:=HL.out wr (.inr HH.out);have x2:=(wcell hw).2.2.1;clear hw;go_wp2_with fail;clear x2;go_loopw [14,5,6] (fun i c b wr=>∃t:Nat,t≤n∧i= .int .i64 t∧c= .int .i64 1∧b= .bool false∧I wr) (fun i _ _ _=>n-(intOf i).toNat);case atStart=>exact⟨0,Nat.zero_le _,rfl,rfl,rfl,HH.out⟩
    case round=>
     clear HH;obtain⟨t,htn,rfl,rfl,rfl,hh⟩:=hrel;have HH:=hid hh;clear hh;by_cases hlt:t<n
     · have hj0:(t:Int)<(n:Int):=by omega
       have HT:=hid hlt;clear htn hlt;go_wp2_with fail;refine wp_loop_rounds 1 ?_;rw[rounds_succ];go_wp2_with (refine wpList_build_g (by rfl) 36 _ rfl opN (by kernel_rfl) ?_);refine(HI.out t HT.out _ HH.out).mono ?_;rintro e_ w9 ⟨rfl,hh9⟩;have HH9:=hid hh9;clear hh9;go_wp2_with fail;go_roundw;case rel=>exact⟨t+1,by have:=HT.out;omega,by go_num,rfl,rfl,HH9.out⟩
       case measure=>simp[intOf];have:=HT.out;omega
     · have hj0:¬(t:Int)<(n:Int):=by omega
       clear htn hlt;go_wp2_with fail;go_roundw;case rel=>exact .inr (.inr ⟨rfl,rfl,HH.out⟩)
       case measure=>simp[intOf,bN]
  · have HH:=hid hh;clear hh;go_wp2_with fail;go_ret;exact⟨rfl,HH.out⟩
end
section
open Go.Conc Go.RowKit
structure St (w0:World) (n W:Nat) (L:Nat→Nd) (m:Nat) (xs:List Value) (out:Value) (w:World):Prop where
 wo:WOk n W L out w
 hi:∀t,t<n→(L t).hi≤w.heap.size
 row:RowIs w w0.heap.size 112 6 out m xs
 fr:Below w0.heap.size w0 w
 lo:∀t,t<n→w0.heap.size≤(L t).lo
 wl:w0.heap.size≤W
section
variable {n W m i:Nat} {L:Nat→Nd} {xs:List Value} {out:Value} {w0 w w':World} {a:Ag}
theorem St.kp (h:St w0 n W L m xs out w)(hb:Below w.heap.size w w'):St w0 n W L m xs out w':=⟨h.wo.kp hb,fun t ht=>Nat.le_trans (h.hi t ht) hb.size,h.row.kp hb,h.fr.trans (hb.mono h.fr.size),h.lo,h.wl⟩
theorem St.step (h:St w0 n W L m xs out w)(hi:i<n)(hu:Upd (agS (L i).A (L i).a) w w')(ha:AgOk (L i).lo (L i).hi w' (L i).A a)(h1:a.i=i)(h2:a.n=n):St w0 n W (upa L i a) m xs out w':=
 ⟨h.wo.step hi hu ha h1 h2,fun t ht=>by rw[(upa_place L i t a).2.2];exact Nat.le_trans (h.hi t ht) hu.size,h.wo.row h.row hi hu,h.fr.trans (hu.below h.fr.size fun k hk=>Nat.le_trans (h.lo i hi) ((h.wo.ag i hi).1.S_in k hk).1),fun t ht=>by rw[(upa_place L i t a).2.1];exact h.lo t ht,h.wl⟩
def cutN (L:Nat→Nd)(m:Nat)(t:Nat):Nd:={ L t with hi:=min (L t).hi m }
theorem AgOk.cut {lo hi A:Nat}(h:AgOk lo hi w A a):AgOk lo (min hi w.heap.size) w A a:=by
 obtain⟨cur,r1,-⟩:=h.rts;refine⟨h.ag,h.box,h.l0,h.l1,h.tab,h.joi,h.jt,h.map,h.rts,h.rc,h.ne,h.i8,h.now,fun k hk=>?_⟩;have h1:=h.lo k hk;have h2:k<w.heap.size:=by
  simp only[List.mem_cons,List.not_mem_nil,or_false]at hk;rcases hk with rfl|rfl|rfl|rfl|rfl|rfl|rfl|rfl|rfl
  · exact h.ag.lt
  · exact h.box.lt
  · exact h.l0.lt
  · exact h.l1.lt
  · exact h.tab.lt
  · exact h.joi.lt
  · exact h.jt.lt
  · exact h.map.lt
  · exact r1.lt
 omega
theorem St.start (h:WOk n W L nS w)(hf:(∀t,t<n→Fresh (L t).a t n)∧(∀t,t<n→w0.heap.size≤(L t).lo)∧w0.heap.size≤W)(hb:Below w0.heap.size w0 w):St w0 n W (cutN L w.heap.size) 0 [] nS w∧∀t,t<n→Fresh (cutN L w.heap.size t).a t n:=
 ⟨⟨⟨h.wb,fun t ht=>⟨(h.ag t ht).1.cut,(h.ag t ht).2⟩,fun t k h1 h2=>Nat.le_trans (Nat.min_le_left _ _) (h.ap t k h1 h2)⟩,fun t _=>Nat.min_le_right _ _,rowZ _ _ _ _,hb,hf.2.1,hf.2.2⟩,hf.1⟩
end
theorem pick_next {n:Nat}(i j:Nat)(hn:n≤4)(hj:j<n)(hi:i<n)(h:i≠j):pick (rts i n) j=some (if j<i then i-1 else i+1):=by
 have:∀n,n≤4→∀j,j<n→∀i,i<n→i≠j→pick (rts i n) j=some (if j<i then i-1 else i+1):=by decide
 exact this n hn j hj i hi h
theorem run_send (w0:World)(n W i j x fl li:Nat)(s:List UInt8)(L:Nat→Nd)(out:Value)(m:Nat)(xs:List Value)(w:World)(h:St w0 n W L m xs out w)(hi:i<n)(hn:n≤4)(hj:j≤100)(hij:j≠i)(hp:pick (rts i n) j=some x)
 (hl:(L i).a.l1=[])(hq:(L i).a.seq=0)(hfl:bits .andNot .u64 fl 278532=0)(hf:(usr (L i).a fl (nd j) (nd 0) li s).ok)(hcan:(usr (L i).a fl (nd j) (nd 0) li s).can 0):
 Calls Tryz.prog 14 #[.pointer (some ⟨W,0,none⟩),.int .i64 i,.int .i64 j,.string (st s),.int .u64 fl,.int .u64 li] w fun e w'=>e= .returned (.int .i64 0)∧
  ∃g2 cap2,St w0 n W (upa L i { (L i).a with seq:=1,l1:=[.agg (wtc (usr (L i).a fl (nd j) (nd 0) li s).p (.slice (some ⟨g2,0,none⟩) (usr (L i).a fl (nd j) (nd 0) li s).l.length cap2) (nd x) (L i).a.now)] }) m xs out w'∧
   RB w' g2 0 (usr (L i).a fl (nd j) (nd 0) li s).l∧(usr (L i).a fl (nd j) (nd 0) li s).l.length≤cap2∧w.heap.size≤g2:=by
 refine tsend_any W n i j fl li s L out (fun w'=>∃g2 cap2,St w0 n W (upa L i { (L i).a with seq:=1,l1:=[.agg (wtc (usr (L i).a fl (nd j) (nd 0) li s).p (.slice (some ⟨g2,0,none⟩) (usr (L i).a fl (nd j) (nd 0) li s).l.length cap2) (nd x) (L i).a.now)] }) m xs out w'∧
  RB w' g2 0 (usr (L i).a fl (nd j) (nd 0) li s).l∧(usr (L i).a fl (nd j) (nd 0) li s).l.length≤cap2∧w.heap.size≤g2) w h.wo hi hn hj (fun u hu=>?_)
 have hs:=h.kp hu;obtain⟨ha,hai,han⟩:=hs.wo.ag i hi;have hc:=send_any (L i).lo (L i).hi (L i).A (L i).a j x fl li (nd 0) s u (hs.hi i hi) ha hj (by rw[hai];exact hij) (by rw[hai,han];exact hp) (by rw[hl];decide) hfl hf hcan hq;refine hc.mono ?_;rintro e u' ⟨g2,cap2,rfl,h1,h2,h3,h4,h5⟩;rw[hl,List.nil_append]at h1;exact⟨rfl,g2,cap2,hs.step hi h2 h1 hai han,h5,h4,Nat.le_trans hu.size h3⟩
theorem run_poll (w0:World)(n W i m k2 n2 by_ fl li:Nat)(sd:List UInt8)(d r:Eid)(L:Nat→Nd)(out:Value)(xs:List Value)(tx:Eid)(s:List UInt8)(a2:Ag)(w:World)(h:St w0 n W L m xs out w)(hi:i<n)(hn:n≤4)(hm:m≤4)(ha1:a2.i=i)(ha2:a2.n=n)
 (hcall:∀u,Below w.heap.size w u→St w0 n W L m xs out u→Calls Tryz.prog 50 #[.pointer (some ⟨(L i).A,0,none⟩)] u fun e u'=>e= .returned (.tuple #[.agg (stc tx s),.bool true])∧AgOk (L i).lo (L i).hi u' (L i).A a2∧Upd (agS (L i).A (L i).a) u u')(k:Nat)(at_:Nat):
 Calls Tryz.prog 28 #[.pointer (some ⟨W,0,none⟩),.int .i64 i,.agg (opc k at_ n2 k2 by_ sd d r fl li)] w fun e w'=>e= .returned (.int .i64 0)∧∃v2,St w0 n W (upa L i a2) (m+1) (xs++(emc i tx s).toList) v2 w':=by
 have hc:=wpoll_any W n i m k at_ n2 k2 by_ fl li sd d r L out xs tx s a2 w h.wo hi hn w0.heap.size h.fr.size h.row hm ha1 ha2 (fun u hu=>hcall u hu (h.kp hu));refine hc.mono ?_;rintro e w' ⟨v2,rfl,h1,h2,h3⟩;exact⟨rfl,v2,h1,fun t ht=>by rw[(upa_place L i t a2).2.2];exact Nat.le_trans (h.hi t ht) h3.size,h2,h.fr.trans (h3.below h.fr.size fun k hk=>by
  rcases hk with hk|hk|rfl
  · exact Nat.le_trans (h.lo i hi) ((h.wo.ag i hi).1.S_in k hk).1
  · exact(own_at h.row hk.symm).choose_spec.2
  · exact h.wl),fun t ht=>by rw[(upa_place L i t a2).2.1];exact h.lo t ht,h.wl⟩
theorem run_none (w0:World)(n W i m:Nat)(L:Nat→Nd)(out:Value)(xs:List Value)(w:World)(h:St w0 n W L m xs out w)(hi:i<n)(hn:n≤4)(h0:(L i).a.l0=[])(h1:(L i).a.l1=[]):
 Rv 28 #[.pointer (some ⟨W,0,none⟩),.int .i64 i,.agg opN] w (.int .i64 15):=by
 have hc:=wpoll_none W n i 0 0 0 0 0 0 0 0 [] eZ eZ L out w h.wo hi hn (fun u hu=>poll_none (L i).lo (L i).hi (L i).A (L i).a u ((h.kp hu).wo.ag i hi).1 h0 h1);exact hc
theorem run_again (w0:World)(n W i i0 j x at_ k2 by_ fl li:Nat)(sd:List UInt8)(d r:Eid)(L:Nat→Nd)(out:Value)(tx:Eid)(f:Fam)(w:World)(h:St w0 n W L 1 (emc i0 tx f.bun.enc).toList out w)(hi:i<n)(hn:n≤4)
 (hs:(L i).a.seen=nS)(hl:f.age≤f.p.life)(hw:NoWant f.p false)(hd:f.p.dst=nd j)(hj:j≤100)(hp:pick (rts i n) j=some x)(hl1:(L i).a.l1=[])(hij:j≠i)(hc:f.can 0):
 Calls Tryz.prog 25 #[.pointer (some ⟨W,0,none⟩),.int .i64 i,.agg (opc 2 at_ 0 k2 by_ sd d r fl li)] w fun e w'=>e= .returned (.int .i64 0)∧
  ∃v g2 cap2,St w0 n W (upa L i { (L i).a with l1:=[.agg (wtc f.p (.slice (some ⟨g2,0,none⟩) f.l.length cap2) (nd x) (L i).a.now)],seen:=v }) 1 (emc i0 tx f.bun.enc).toList out w'∧RB w' g2 0 f.l∧f.l.length≤cap2∧w.heap.size≤g2:=by
 obtain⟨g,cap,cur,rfl,hg,hcap,h5⟩:∃g cap cur,out= .slice (some ⟨g,0,none⟩) 1 cap∧At w g (.cells cur 112)∧1≤cap∧cur[5]? =some (.string (st f.bun.enc)):=by
  rcases h.row.2 with⟨-,h0⟩|⟨g,cap,cur,rfl,hb,hg,hc,h1,h2,ht⟩
  · cases h0
  · refine⟨g,cap,cur,rfl,hg,hc,?_⟩;have e:(cur.toList.take (1*6))[5]? =some (.string (st f.bun.enc)):=by rw[ht];rfl
    rw[List.getElem?_take]at e;split at e
    · rw[←Array.getElem?_toList];exact e
    · cases e
 refine wagain_any W n i at_ k2 by_ fl li g cap sd f.bun.enc d r L (fun w'=>∃v g2 cap2,St w0 n W (upa L i { (L i).a with l1:=[.agg (wtc f.p (.slice (some ⟨g2,0,none⟩) f.l.length cap2) (nd x) (L i).a.now)],seen:=v }) 1 (emc i0 tx f.bun.enc).toList (.slice (some ⟨g,0,none⟩) 1 cap) w'∧RB w' g2 0 f.l∧f.l.length≤cap2∧w.heap.size≤g2) cur w h.wo hg h5 hcap hi hn (fun u hu=>?_);have hs':=h.kp hu;obtain⟨ha,hai,han⟩:=hs'.wo.ag i hi;have hcc:=receive_relay (L i).lo (L i).hi (L i).A (L i).a j x f u (hs'.hi i hi) ha hs hl hw hd hj (by rw[hai,han];exact hp) (by rw[hl1];decide) (by rw[hai];exact hij) hc;refine hcc.mono ?_;rintro e u' ⟨v,g2,cap2,rfl,h1,h2,h3,h4,h5⟩;rw[hl1,List.nil_append]at h1;exact⟨rfl,v,g2,cap2,hs'.step hi h2 h1 hai han,h5,h4,Nat.le_trans hu.size h3⟩
theorem run_tick (w0:World)(n W i at_ n2 k2 by_ fl li g m:Nat)(l:List Blk5)(sd:List UInt8)(d r:Eid)(L:Nat→Nd)(xs:List Value)(out:Value)(w:World)(h:St w0 n W L m xs out w)(hi:i<n)(hn:n≤4)(hm:(L i).a.now+li≤1099511627776)(hr:RB w g 0 l)(hg:g≠(L i).A):
 Calls Tryz.prog 27 #[.pointer (some ⟨W,0,none⟩),.int .i64 i,.agg (opc 4 at_ n2 k2 by_ sd d r fl li)] w fun e w'=>e= .returned (.int .i64 0)∧(St w0 n W (upa L i { (L i).a with now:=(L i).a.now+li }) m xs out w'∧RB w' g 0 l):=by
 refine wtick_any W n i at_ n2 k2 by_ fl li sd d r L out (fun w'=>St w0 n W (upa L i { (L i).a with now:=(L i).a.now+li }) m xs out w'∧RB w' g 0 l) w h.wo hi hn (fun u hu=>?_);have hs':=h.kp hu;obtain⟨ha,hai,han⟩:=hs'.wo.ag i hi;refine(tick_any (L i).lo (L i).hi (L i).A (L i).a li u ha hm).mono ?_;rintro e u' ⟨rfl,h1,h2⟩;exact⟨rfl,hs'.step hi (h2.mono fun k _ e=>by rw[e];exact agS_A) h1 hai han,(hr.kp hu).upd h2 hg⟩
theorem run_flow (w0:World)(n W p q m mo:Nat)(L:Nat→Nd)(xs:List Value)(out:Value)(a1:Ag)(f:Fam)(F:World→Prop)(w:World)(h:St w0 n W L m xs out w)(hF:F w)(hFk:∀u u',Below u.heap.size u u'→F u→F u')(hm:m=0∨m=1)
 (hp:p<n)(hq:q<n)(hpq:q≠p)(hn:n≤4)(hmo:2≤mo)(hq0:∀t,t<n→t≠p→(L t).a.l0=[]∧(L t).a.l1=[])(ha1:a1.i=p)(ha2:a1.n=n)(ha3:a1.l0=[]∧a1.l1=[])
 (hpoll:∀u,St w0 n W L m xs out u→F u→Calls Tryz.prog 50 #[.pointer (some ⟨(L p).A,0,none⟩)] u fun e u'=>e= .returned (.tuple #[.agg (stc (nd q) f.bun.enc),.bool true])∧AgOk (L p).lo (L p).hi u' (L p).A a1∧Upd (agS (L p).A (L p).a) u u')
 (hse:(L q).a.seen=nS)(hgi:(L q).a.giv=nS)(hl:f.age≤f.p.life)(hw:NoWant f.p false)(hd:f.p.dst=nd q)(hok:f.ok):
 Calls Tryz.prog 15 #[.pointer (some ⟨W,0,none⟩),.int .i64 mo] w fun e w'=>e= .returned (.int .i64 1)∧
  ∃L2 out2 xs2 v g2 c2 g3 k3,St w0 n W L2 (m+1) xs2 out2 w'∧(L2 q).a={ (L q).a with giv:= .slice (some ⟨g2,0,none⟩) 1 c2,seen:=v }∧(∀t,t≠q→t≠p→L2 t=L t)∧RB w' g3 0 f.l∧f.l.length≤k3∧RG w' g2 (bv f.bun g3 0 k3).toList∧1≤c2:=by
 have hlx:xs.length=m*6:=h.row.1;refine flow_any W n p mo (fun u=>St w0 n W L m xs out u∧F u) (fun u=>∃v2,St w0 n W (upa L p a1) (m+1) (xs++(emc p (nd q) f.bun.enc).toList) v2 u)
  (fun u=>∃v2 v g2 c2 g3 k3,St w0 n W (upa (upa L p a1) q { (L q).a with giv:= .slice (some ⟨g2,0,none⟩) 1 c2,seen:=v }) (m+1) (xs++(emc p (nd q) f.bun.enc).toList) v2 u∧RB u g3 0 f.l∧f.l.length≤k3∧RG u g2 (bv f.bun g3 0 k3).toList∧1≤c2) w ?_ ?_ ?_ ?_ ?_ hp hn hmo ⟨h,hF⟩ |>.mono ?_
 · intro u hu;have hwo:∃L2 o2,WOk n W L2 o2 u:=by
    rcases hu with⟨h1,-⟩|⟨v2,v,g2,c2,g3,k3,h1,-⟩
    · exact⟨_,_,h1.wo⟩
    · exact⟨_,_,h1.wo⟩
   obtain⟨L2,o2,hwo⟩:=hwo;obtain⟨ga,gn,cn,gl,cl,c1,c2,q1,-⟩:=hwo.wb;exact⟨_,_,_,_,_,q1⟩
 · rintro t ht u ⟨h1,h2⟩;obtain⟨e0,e1⟩:=hq0 t (by omega) (by omega);refine(run_none w0 n W t m L out xs u h1 (by omega) hn e0 e1).mono ?_;rintro e u' ⟨rfl,hb⟩;exact⟨rfl,h1.kp hb,hFk u u' hb h2⟩
 · rintro u ⟨h1,h2⟩;exact run_poll w0 n W p m 0 0 0 0 0 [] eZ eZ L out xs (nd q) f.bun.enc a1 u h1 hp hn (by omega) ha1 ha2 (fun u2 hb hs=>hpoll u2 hs (hFk u u2 hb h2)) 0 0
 · rintro u ⟨v2,h1⟩;obtain⟨g,cap,rfl⟩:∃g cap,v2= .slice (some ⟨g,0,none⟩) (m+1) cap:=by
    rcases h1.row.2 with⟨-,h0⟩|⟨g,cap,cur,rfl,-⟩
    · cases h0
    · exact⟨g,cap,rfl⟩
   have hcall:∀u2,Below u.heap.size u u2→Calls Tryz.prog 48 #[.pointer (some ⟨(upa L p a1 q).A,0,none⟩),.string (st f.bun.enc)] u2 fun e u'=>e= .returned (.int .i64 0)∧∃v2 v g2 c2 g3 k3,St w0 n W (upa (upa L p a1) q { (L q).a with giv:= .slice (some ⟨g2,0,none⟩) 1 c2,seen:=v }) (m+1) (xs++(emc p (nd q) f.bun.enc).toList) v2 u'∧RB u' g3 0 f.l∧f.l.length≤k3∧RG u' g2 (bv f.bun g3 0 k3).toList∧1≤c2:=by
    intro u2 hb;have hs:=h1.kp hb;have eL:upa L p a1 q=L q:=upa_ne L a1 hpq;obtain⟨ha,hai,han⟩:=hs.wo.ag q hq;rw[eL]at ha hai han;have hhi:=hs.hi q hq;rw[eL]at hhi ⊢;refine(receive_local (L q).lo (L q).hi (L q).A (L q).a q f u2 hhi ha hse hl hw hd (by omega) hgi hai.symm hok).mono ?_;rintro e u' ⟨v,g2,c2,g3,k3,rfl,r1,r2,r3,r4,r5,r6,r7,r8⟩;have hst:=hs.step (i:=q) (a:={ (L q).a with giv:= .slice (some ⟨g2,0,none⟩) 1 c2,seen:=v }) hq (by rw[eL];exact r2) (by rw[eL];exact r1) hai han;exact⟨rfl,_,v,g2,c2,g3,k3,hst,r3,r5,r6,r8⟩
   rcases hm with rfl|rfl
   · exact carry1 W n p q g cap w0.heap.size (upa L p a1) f.bun.enc xs _ u h1.wo h1.row hlx hq hn hcall
   · exact carry2 W n p q g cap w0.heap.size (upa L p a1) f.bun.enc xs _ u h1.wo h1.row hlx hq hn hcall
 · rintro t ht u ⟨v2,v,g2,c2,g3,k3,h1,h2,h3,h4,h5⟩;have e:(upa (upa L p a1) q { (L q).a with giv:= .slice (some ⟨g2,0,none⟩) 1 c2,seen:=v } t).a.l0=[]∧(upa (upa L p a1) q { (L q).a with giv:= .slice (some ⟨g2,0,none⟩) 1 c2,seen:=v } t).a.l1=[]:=by
    by_cases e1:t=q
    · subst e1;rw[upa_at];exact hq0 t ht hpq
    · rw[upa_ne _ _ e1];by_cases e2:t=p
      · subst e2;rw[upa_at];exact ha3
      · rw[upa_ne _ _ e2];exact hq0 t ht e2
   refine(run_none w0 n W t (m+1) _ v2 _ u h1 ht hn e.1 e.2).mono ?_;rintro e u' ⟨rfl,hb⟩;exact⟨rfl,v2,v,g2,c2,g3,k3,h1.kp hb,h2.kp hb,h3,⟨range_of h4.1 (hb.block g2 h4.2),Nat.lt_of_lt_of_le h4.2 hb.size⟩,h5⟩
 · rintro e w' ⟨rfl,v2,v,g2,c2,g3,k3,h1,h2,h3,h4,h5⟩;refine⟨rfl,_,v2,_,v,g2,c2,g3,k3,h1,by rw[upa_at],fun t e1 e2=>?_,h2,h3,h4,h5⟩;rw[upa_ne _ _ e1,upa_ne _ _ e2]
end
end Go.Proofs.YtlhlmflacdeafaaGreatDoor
