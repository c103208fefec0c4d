/-
  A part of the walk of TopReports.
-/
import Derived.Test.YtlhlmflacdeafaaGreatDoorT1
set_option maxRecDepth 100000
set_option maxHeartbeats 4000000
set_option linter.unusedVariables false
set_option linter.unusedSimpArgs false
namespace Go.Proofs.YtlhlmflacdeafaaGreatDoor
section
open Go.RowKit
theorem st_mid (c:UInt8)(a r:List UInt8)(n:Nat)(h:a.length=n):(st (c::(a++r))).extract 1 (1+n)=st a:=by
 apply ByteArray.ext;rw[ByteArray.data_extract];unfold st;simp only[List.extract_toArray];congr 1;subst h;simp[List.extract]
theorem rhead_one (m n R:Nat)(r:List UInt8)(w:World)(hm:m<8)(hlo:24≤n)(hn:n<256)(h:At w R (.cells (rc (hd m n++r) 0) 423))(hl:r.length≤100000):
 Calls Tryz.prog 308 #[.pointer (some ⟨R,0,none⟩)] w fun e w'=>e= .returned (.tuple #[.int .i64 m,.int .u64 n,.bool false])∧At w' R (.cells (rc (hd m n++r) 2) 423)∧Upd (·=R) w w':=by
 have hh:hd m n=b8 (32*m+24)::beL n 1:=by unfold hd;rw[if_neg (by omega),if_pos hn]
 have hhl:(hd m n).length=2:=by rw[hh,List.length_cons,beL_len]
 have HH:=hid (fun w=>head_any m n w hm (by omega));have HZ:=hid (show(st (hd m n)).size=2 by rw[st_size,hhl]);have hjn:jn (beL n 1)=n:=by rw[be_jn];exact Nat.mod_eq_of_lt (by omega)
 have HJ:=hid (fun w=>join_any (beL n 1) w (by rw[beL_len];decide));rw[hjn]at HJ;rw[hh]at h ⊢;clear hh hhl hjn;obtain⟨c,hc⟩:∃c,c=32*m+24:=⟨_,rfl⟩;rw[←hc,List.cons_append]at h ⊢;have hmid:=st_mid (b8 c) (beL n 1) r 1 (beL_len n 1);have hbl:=beL_len n 1;generalize beL n 1=L at*;obtain⟨c0,c1,c2,c3,c4⟩:=rfive h;have hf:=rfree h 1;have HA:=hid h;clear h;have hcl:c<256:=by omega
 have hsh:(c:Int)/32=(m:Int):=by omega
 have han:=and31 c hcl;rw[show c%32=24 by omega]at han;have hem:=st_some (b8 c) (L++r);have hsz:(st (b8 c::(L++r))).size=r.length+2:=by rw[st_size];simp[hbl];omega
 have hwh:(st (b8 c::(L++r))).extract 0 (r.length+2)=st (b8 c::(L++r)):=by have h:=st_whole (b8 c::(L++r));rw[hsz]at h;exact h
 have hat:=fun h=>st_cons (b8 c) (L++r) h;have hb8:=b8_toNat c hcl;have hl0:(r.length:Int)≤100000:=by omega
 have hm0:(m:Int)<8:=by omega
 rw[show((24:Nat):Int)=24 from rfl]at han;clear hm hc hcl hl hn hlo hbl;go_enter Tryz.func308,Tryz.ntmps308;go_upto_region 3 with(fail);go_quiet (fail);go_upto_region 7 with(fail);go_quiet (fail);go_wp2_with fail;refine(HJ.out _).mono ?_;rintro e w2 ⟨rfl,hb2⟩;have hu2:=upd_of_below (S:=fun _=>False) hb2;go_wp2_with fail;refine(HH.out _).mono ?_;rintro e w3 ⟨rfl,hb3⟩;have hu3:=hu2.trans (upd_of_below (S:=fun _=>False) hb3);have d1:=hu3.cell c1 (fun h=>h);have HA3:=hid (show At w3 R _ from(hu3.block R (heap_lt HA.out) (fun h=>h)).trans HA.out);have d2:=rfree HA3.out 1;have HU3:=hid (show Upd (·=R) w w3 from Upd.mono (S:=fun _=>False) ((upd_drewN (fun _=>False) w _).trans hu3) (fun _ _ h=>False.elim h));have hz:=HZ.out;clear hb2 hb3 hu2 hu3 c0 c1 c2 c3 c4 hf;go_wp2_with fail;refine bodyPost_ret (v:= .tuple #[.int .i64 m,.int .u64 n,.bool false]) (by simp[results,Tryz.results308,go_sem]) rfl ⟨rfl,?_,?_⟩
 · exact rset' HA3.out rfl
 · exact HU3.out.trans ⟨rfl,rfl,rfl,by simp[World.setCell],fun k _ hk=>Below.heap_setCell _ _ _ _ hk⟩
theorem rhead_two (m n R:Nat)(r:List UInt8)(w:World)(hm:m<8)(hlo:256≤n)(hn:n<65536)(h:At w R (.cells (rc (hd m n++r) 0) 423))(hl:r.length≤100000):
 Calls Tryz.prog 308 #[.pointer (some ⟨R,0,none⟩)] w fun e w'=>e= .returned (.tuple #[.int .i64 m,.int .u64 n,.bool false])∧At w' R (.cells (rc (hd m n++r) 3) 423)∧Upd (·=R) w w':=by
 have hh:hd m n=b8 (32*m+25)::beL n 2:=by unfold hd;rw[if_neg (by omega),if_neg (by omega),if_pos hn]
 have hhl:(hd m n).length=3:=by rw[hh,List.length_cons,beL_len]
 have HH:=hid (fun w=>head_any m n w hm (by omega));have HZ:=hid (show(st (hd m n)).size=3 by rw[st_size,hhl]);have hjn:jn (beL n 2)=n:=by rw[be_jn];exact Nat.mod_eq_of_lt (by omega)
 have HJ:=hid (fun w=>join_any (beL n 2) w (by rw[beL_len];decide));rw[hjn]at HJ;rw[hh]at h ⊢;clear hh hhl hjn;obtain⟨c,hc⟩:∃c,c=32*m+25:=⟨_,rfl⟩;rw[←hc,List.cons_append]at h ⊢;have hmid:=st_mid (b8 c) (beL n 2) r 2 (beL_len n 2);have hbl:=beL_len n 2;generalize beL n 2=L at*;obtain⟨c0,c1,c2,c3,c4⟩:=rfive h;have hf:=rfree h 1;have HA:=hid h;clear h;have hcl:c<256:=by omega
 have hsh:(c:Int)/32=(m:Int):=by omega
 have han:=and31 c hcl;rw[show c%32=25 by omega]at han;have hem:=st_some (b8 c) (L++r);have hsz:(st (b8 c::(L++r))).size=r.length+3:=by rw[st_size];simp[hbl];omega
 have hwh:(st (b8 c::(L++r))).extract 0 (r.length+3)=st (b8 c::(L++r)):=by have h:=st_whole (b8 c::(L++r));rw[hsz]at h;exact h
 have hat:=fun h=>st_cons (b8 c) (L++r) h;have hb8:=b8_toNat c hcl;have hl0:(r.length:Int)≤100000:=by omega
 have hm0:(m:Int)<8:=by omega
 rw[show((25:Nat):Int)=25 from rfl]at han;clear hm hc hcl hl hn hlo hbl;go_enter Tryz.func308,Tryz.ntmps308;go_upto_region 3 with(fail);go_quiet (fail);go_upto_region 7 with(fail);go_quiet (fail);go_wp2_with fail;refine(HJ.out _).mono ?_;rintro e w2 ⟨rfl,hb2⟩;have hu2:=upd_of_below (S:=fun _=>False) hb2;go_wp2_with fail;refine(HH.out _).mono ?_;rintro e w3 ⟨rfl,hb3⟩;have hu3:=hu2.trans (upd_of_below (S:=fun _=>False) hb3);have d1:=hu3.cell c1 (fun h=>h);have HA3:=hid (show At w3 R _ from(hu3.block R (heap_lt HA.out) (fun h=>h)).trans HA.out);have d2:=rfree HA3.out 1;have HU3:=hid (show Upd (·=R) w w3 from Upd.mono (S:=fun _=>False) ((upd_drewN (fun _=>False) w _).trans hu3) (fun _ _ h=>False.elim h));have hz:=HZ.out;clear hb2 hb3 hu2 hu3 c0 c1 c2 c3 c4 hf;go_wp2_with fail;refine bodyPost_ret (v:= .tuple #[.int .i64 m,.int .u64 n,.bool false]) (by simp[results,Tryz.results308,go_sem]) rfl ⟨rfl,?_,?_⟩
 · exact rset' HA3.out rfl
 · exact HU3.out.trans ⟨rfl,rfl,rfl,by simp[World.setCell],fun k _ hk=>Below.heap_setCell _ _ _ _ hk⟩
theorem rhead_four (m n R:Nat)(r:List UInt8)(w:World)(hm:m<8)(hlo:65536≤n)(hn:n<4294967296)(h:At w R (.cells (rc (hd m n++r) 0) 423))(hl:r.length≤100000):
 Calls Tryz.prog 308 #[.pointer (some ⟨R,0,none⟩)] w fun e w'=>e= .returned (.tuple #[.int .i64 m,.int .u64 n,.bool false])∧At w' R (.cells (rc (hd m n++r) 5) 423)∧Upd (·=R) w w':=by
 have hh:hd m n=b8 (32*m+26)::beL n 4:=by unfold hd;rw[if_neg (by omega),if_neg (by omega),if_neg (by omega),if_pos hn]
 have hhl:(hd m n).length=5:=by rw[hh,List.length_cons,beL_len]
 have HH:=hid (fun w=>head_any m n w hm (by omega));have HZ:=hid (show(st (hd m n)).size=5 by rw[st_size,hhl]);have hjn:jn (beL n 4)=n:=by rw[be_jn];exact Nat.mod_eq_of_lt (by omega)
 have HJ:=hid (fun w=>join_any (beL n 4) w (by rw[beL_len];decide));rw[hjn]at HJ;rw[hh]at h ⊢;clear hh hhl hjn;obtain⟨c,hc⟩:∃c,c=32*m+26:=⟨_,rfl⟩;rw[←hc,List.cons_append]at h ⊢;have hmid:=st_mid (b8 c) (beL n 4) r 4 (beL_len n 4);have hbl:=beL_len n 4;generalize beL n 4=L at*;obtain⟨c0,c1,c2,c3,c4⟩:=rfive h;have hf:=rfree h 1;have HA:=hid h;clear h;have hcl:c<256:=by omega
 have hsh:(c:Int)/32=(m:Int):=by omega
 have han:=and31 c hcl;rw[show c%32=26 by omega]at han;have hem:=st_some (b8 c) (L++r);have hsz:(st (b8 c::(L++r))).size=r.length+5:=by rw[st_size];simp[hbl];omega
 have hwh:(st (b8 c::(L++r))).extract 0 (r.length+5)=st (b8 c::(L++r)):=by have h:=st_whole (b8 c::(L++r));rw[hsz]at h;exact h
 have hat:=fun h=>st_cons (b8 c) (L++r) h;have hb8:=b8_toNat c hcl;have hl0:(r.length:Int)≤100000:=by omega
 have hm0:(m:Int)<8:=by omega
 rw[show((26:Nat):Int)=26 from rfl]at han;clear hm hc hcl hl hn hlo hbl;go_enter Tryz.func308,Tryz.ntmps308;go_upto_region 3 with(fail);go_quiet (fail);go_upto_region 7 with(fail);go_quiet (fail);go_wp2_with fail;refine(HJ.out _).mono ?_;rintro e w2 ⟨rfl,hb2⟩;have hu2:=upd_of_below (S:=fun _=>False) hb2;go_wp2_with fail;refine(HH.out _).mono ?_;rintro e w3 ⟨rfl,hb3⟩;have hu3:=hu2.trans (upd_of_below (S:=fun _=>False) hb3);have d1:=hu3.cell c1 (fun h=>h);have HA3:=hid (show At w3 R _ from(hu3.block R (heap_lt HA.out) (fun h=>h)).trans HA.out);have d2:=rfree HA3.out 1;have HU3:=hid (show Upd (·=R) w w3 from Upd.mono (S:=fun _=>False) ((upd_drewN (fun _=>False) w _).trans hu3) (fun _ _ h=>False.elim h));have hz:=HZ.out;clear hb2 hb3 hu2 hu3 c0 c1 c2 c3 c4 hf;go_wp2_with fail;refine bodyPost_ret (v:= .tuple #[.int .i64 m,.int .u64 n,.bool false]) (by simp[results,Tryz.results308,go_sem]) rfl ⟨rfl,?_,?_⟩
 · exact rset' HA3.out rfl
 · exact HU3.out.trans ⟨rfl,rfl,rfl,by simp[World.setCell],fun k _ hk=>Below.heap_setCell _ _ _ _ hk⟩
theorem rhead_eight (m n R:Nat)(r:List UInt8)(w:World)(hm:m<8)(hlo:4294967296≤n)(hn:n<18446744073709551616)(h:At w R (.cells (rc (hd m n++r) 0) 423))(hl:r.length≤100000):
 Calls Tryz.prog 308 #[.pointer (some ⟨R,0,none⟩)] w fun e w'=>e= .returned (.tuple #[.int .i64 m,.int .u64 n,.bool false])∧At w' R (.cells (rc (hd m n++r) 9) 423)∧Upd (·=R) w w':=by
 have hh:hd m n=b8 (32*m+27)::beL n 8:=by unfold hd;rw[if_neg (by omega),if_neg (by omega),if_neg (by omega),if_neg (by omega)]
 have hhl:(hd m n).length=9:=by rw[hh,List.length_cons,beL_len]
 have HH:=hid (fun w=>head_any m n w hm (by omega));have HZ:=hid (show(st (hd m n)).size=9 by rw[st_size,hhl]);have hjn:jn (beL n 8)=n:=by rw[be_jn];exact Nat.mod_eq_of_lt (by omega)
 have HJ:=hid (fun w=>join_any (beL n 8) w (by rw[beL_len];decide));rw[hjn]at HJ;rw[hh]at h ⊢;clear hh hhl hjn;obtain⟨c,hc⟩:∃c,c=32*m+27:=⟨_,rfl⟩;rw[←hc,List.cons_append]at h ⊢;have hmid:=st_mid (b8 c) (beL n 8) r 8 (beL_len n 8);have hbl:=beL_len n 8;generalize beL n 8=L at*;obtain⟨c0,c1,c2,c3,c4⟩:=rfive h;have hf:=rfree h 1;have HA:=hid h;clear h;have hcl:c<256:=by omega
 have hsh:(c:Int)/32=(m:Int):=by omega
 have han:=and31 c hcl;rw[show c%32=27 by omega]at han;have hem:=st_some (b8 c) (L++r);have hsz:(st (b8 c::(L++r))).size=r.length+9:=by rw[st_size];simp[hbl];omega
 have hwh:(st (b8 c::(L++r))).extract 0 (r.length+9)=st (b8 c::(L++r)):=by have h:=st_whole (b8 c::(L++r));rw[hsz]at h;exact h
 have hat:=fun h=>st_cons (b8 c) (L++r) h;have hb8:=b8_toNat c hcl;have hl0:(r.length:Int)≤100000:=by omega
 have hm0:(m:Int)<8:=by omega
 rw[show((27:Nat):Int)=27 from rfl]at han;clear hm hc hcl hl hn hlo hbl;go_enter Tryz.func308,Tryz.ntmps308;go_upto_region 3 with(fail);go_quiet (fail);go_upto_region 7 with(fail);go_quiet (fail);go_wp2_with fail;refine(HJ.out _).mono ?_;rintro e w2 ⟨rfl,hb2⟩;have hu2:=upd_of_below (S:=fun _=>False) hb2;go_wp2_with fail;refine(HH.out _).mono ?_;rintro e w3 ⟨rfl,hb3⟩;have hu3:=hu2.trans (upd_of_below (S:=fun _=>False) hb3);have d1:=hu3.cell c1 (fun h=>h);have HA3:=hid (show At w3 R _ from(hu3.block R (heap_lt HA.out) (fun h=>h)).trans HA.out);have d2:=rfree HA3.out 1;have HU3:=hid (show Upd (·=R) w w3 from Upd.mono (S:=fun _=>False) ((upd_drewN (fun _=>False) w _).trans hu3) (fun _ _ h=>False.elim h));have hz:=HZ.out;clear hb2 hb3 hu2 hu3 c0 c1 c2 c3 c4 hf;go_wp2_with fail;refine bodyPost_ret (v:= .tuple #[.int .i64 m,.int .u64 n,.bool false]) (by simp[results,Tryz.results308,go_sem]) rfl ⟨rfl,?_,?_⟩
 · exact rset' HA3.out rfl
 · exact HU3.out.trans ⟨rfl,rfl,rfl,by simp[World.setCell],fun k _ hk=>Below.heap_setCell _ _ _ _ hk⟩
theorem rhead_any (m n R:Nat)(r:List UInt8)(w:World)(hm:m<8)(hn:n<18446744073709551616)(h:At w R (.cells (rc (hd m n++r) 0) 423))(hl:r.length≤100000):
 Calls Tryz.prog 308 #[.pointer (some ⟨R,0,none⟩)] w fun e w'=>e= .returned (.tuple #[.int .i64 m,.int .u64 n,.bool false])∧At w' R (.cells (rc (hd m n++r) (hd m n).length) 423)∧Upd (·=R) w w':=by
 by_cases h1:n<24
 · have hh:hd m n=[b8 (32*m+n)]:=by unfold hd;rw[if_pos h1]
   rw[hh]at h ⊢;exact rhead_small m n R r w hm h1 h hl
 · by_cases h2:n<256
   · have hh:(hd m n).length=2:=by unfold hd;rw[if_neg h1,if_pos h2,List.length_cons,beL_len]
     rw[hh];exact rhead_one m n R r w hm (by omega) h2 h hl
   · by_cases h3:n<65536
     · have hh:(hd m n).length=3:=by unfold hd;rw[if_neg h1,if_neg h2,if_pos h3,List.length_cons,beL_len]
       rw[hh];exact rhead_two m n R r w hm (by omega) h3 h hl
     · by_cases h4:n<4294967296
       · have hh:(hd m n).length=5:=by unfold hd;rw[if_neg h1,if_neg h2,if_neg h3,if_pos h4,List.length_cons,beL_len]
         rw[hh];exact rhead_four m n R r w hm (by omega) h4 h hl
       · have hh:(hd m n).length=9:=by unfold hd;rw[if_neg h1,if_neg h2,if_neg h3,if_neg h4,List.length_cons,beL_len]
         rw[hh];exact rhead_eight m n R r w hm (by omega) hn h hl
theorem Head_of (s:List UInt8)(b R:Nat)(v:Value)(m n:Nat)(o:Bool)(w:World)(hv:v= .tuple #[.int .i64 m,.int .u64 n,.bool o])(h:At w R (.cells (rc s 0) 423))
 (hc:∀w,At w R (.cells (rc s 0) 423)→Calls Tryz.prog 308 #[.pointer (some ⟨R,0,none⟩)] w fun e w'=>e= .returned v∧At w' R (.cells (rc s b) 423)∧Upd (·=R) w w'):
 Calls Tryz.prog 234 #[.pointer (some ⟨R,0,none⟩)] w fun e w'=>e= .returned v∧At w' R (.cells (rc s b) 423)∧Upd (·=R) w w':=by
 subst hv;obtain⟨c0,c1,c2,c3,c4⟩:=rfive h;have hf:=rfree h 4;have HA:=hid (rset4 h);clear h;have HC:=hid hc;clear hc;have HU:=hid (upd_setCell w ⟨R,4,none⟩ (.int .i64 0));go_enter Tryz.func234,Tryz.ntmps234;go_upto_region 2 with(fail);generalize World.setCell w _ _=w1 at*;go_wp2_with fail;refine(HC.out _ HA.out).mono ?_;rintro e w2 ⟨rfl,ha,hu⟩;have HF:=hid (And.intro ha (HU.out.trans hu));clear ha hu;go_wp2_with fail;exact bodyPost_ret (v:= .tuple #[.int .i64 m,.int .u64 n,.bool o]) (by simp[results,Tryz.results234,go_sem]) rfl ⟨rfl,HF.out⟩
theorem Head_any (m n R:Nat)(r:List UInt8)(w:World)(hm:m<8)(hn:n<18446744073709551616)(h:At w R (.cells (rc (hd m n++r) 0) 423))(hl:r.length≤100000):
 Calls Tryz.prog 234 #[.pointer (some ⟨R,0,none⟩)] w fun e w'=>e= .returned (.tuple #[.int .i64 m,.int .u64 n,.bool false])∧At w' R (.cells (rc (hd m n++r) (hd m n).length) 423)∧Upd (·=R) w w':=
 Head_of _ _ R _ m n false w rfl h (fun w h=>rhead_any m n R r w hm hn h hl)
theorem Head_open (m R:Nat)(r:List UInt8)(w:World)(hm:m=4∨m=7)(h:At w R (.cells (rc (b8 (32*m+31)::r) 0) 423))(hl:r.length≤100000):
 Calls Tryz.prog 234 #[.pointer (some ⟨R,0,none⟩)] w fun e w'=>e= .returned (.tuple #[.int .i64 m,.int .u64 0,.bool true])∧At w' R (.cells (rc (b8 (32*m+31)::r) 1) 423)∧Upd (·=R) w w':=
 Head_of _ _ R _ m 0 true w rfl h (fun w h=>rhead_open m R r w hm h hl)
end
section
open Go.RowKit
theorem st_mid3 (h b r:List UInt8)(p q:Nat)(hp:p=h.length)(hq:q=h.length+b.length):(st (h++(b++r))).extract p q=st b:=by
 apply ByteArray.ext;rw[ByteArray.data_extract];unfold st;simp only[List.extract_toArray];congr 1;subst hp hq;simp[List.extract]
theorem rstr_any (m n R:Nat)(b r:List UInt8)(w:World)(hm:m<8)(hn:b.length=n)(h:At w R (.cells (rc (hd m n++(b++r)) 0) 423))(hl:(b++r).length≤100000):
 Calls Tryz.prog 375 #[.pointer (some ⟨R,0,none⟩),.int .i64 m,.int .i64 1073741824] w fun e w'=>e= .returned (.string (st b))∧At w' R (.cells (rc (hd m n++(b++r)) ((hd m n).length+n)) 423)∧Upd (·=R) w w':=by
 rw[List.length_append]at hl;have HH:=hid (Head_any m n R (b++r) w hm (by omega) h (by rw[List.length_append];exact hl));have hk:=hd_len m n;obtain⟨k,hkl⟩:∃k,(hd m n).length=k:=⟨_,rfl⟩;rw[hkl]at HH hk ⊢;have hmid:=st_mid3 (hd m n) b r k (k+n) hkl.symm (by rw[hkl,hn]);have hsz:(st (hd m n++(b++r))).size=k+(n+r.length):=by rw[st_size,List.length_append,List.length_append,hkl,hn]
 have hn0:(n:Int)≤100000:=by omega
 have hr0:(r.length:Int)≤100000:=by omega
 have hk0:(k:Int)≤9:=by omega
 have hm0:(m:Int)<8:=by omega
 generalize hd m n++(b++r)=s at*;clear h hn hl hkl hk hm;go_enter Tryz.func375,Tryz.ntmps375;go_wp2_with fail;refine HH.out.mono ?_;rintro e w2 ⟨rfl,ha,hu⟩;obtain⟨c0,c1,c2,c3,c4⟩:=rfive ha;have hf:=rfree ha 1;have HA:=hid (And.intro ha hu);clear ha hu;go_upto_region 4 with(fail);go_quiet (fail);go_upto_region 10 with(fail);go_quiet (fail);go_wp2_with fail;refine bodyPost_ret (results_tmp rfl _ _ _) rfl ⟨?_,rset' HA.out.1 rfl,HA.out.2.trans ⟨rfl,rfl,rfl,by simp[World.setCell],fun k _ hk=>Below.heap_setCell _ _ _ _ hk⟩⟩;exact congrArg (fun x=>Ending.returned (Value.string x)) hmid
theorem rbytes_any (n R:Nat)(b r:List UInt8)(w:World)(hn:b.length=n)(h:At w R (.cells (rc (hd 2 n++(b++r)) 0) 423))(hl:(b++r).length≤100000):
 Calls Tryz.prog 309 #[.pointer (some ⟨R,0,none⟩),.int .i64 1073741824] w fun e w'=>e= .returned (.string (st b))∧At w' R (.cells (rc (hd 2 n++(b++r)) ((hd 2 n).length+n)) 423)∧Upd (·=R) w w':=by
 have HH:=hid (rstr_any 2 n R b r w (by decide) hn h hl);rw[show((2:Nat):Int)=2 from rfl]at HH;generalize hd 2 n++(b++r)=s at*;clear h hl hn;go_enter Tryz.func309,Tryz.ntmps309;go_wp2_with fail;refine HH.out.mono ?_;rintro e w2 ⟨rfl,ha⟩;have HA:=hid ha;clear ha;go_wp2_with fail;go_ret;exact⟨rfl,HA.out⟩
theorem rtext_any (n R:Nat)(b r:List UInt8)(w:World)(hn:b.length=n)(h:At w R (.cells (rc (hd 3 n++(b++r)) 0) 423))(hl:(b++r).length≤100000):
 Calls Tryz.prog 310 #[.pointer (some ⟨R,0,none⟩),.int .i64 1073741824] w fun e w'=>e= .returned (.string (st b))∧At w' R (.cells (rc (hd 3 n++(b++r)) ((hd 3 n).length+n)) 423)∧Upd (·=R) w w':=by
 have HH:=hid (rstr_any 3 n R b r w (by decide) hn h hl);rw[show((3:Nat):Int)=3 from rfl]at HH;generalize hd 3 n++(b++r)=s at*;clear h hl hn;go_enter Tryz.func310,Tryz.ntmps310;go_wp2_with fail;refine HH.out.mono ?_;rintro e w2 ⟨rfl,ha⟩;have HA:=hid ha;clear ha;go_wp2_with fail;go_ret;exact⟨rfl,HA.out⟩
theorem rarray_any (n R:Nat)(r:List UInt8)(w:World)(hn:n≤1000)(h:At w R (.cells (rc (hd 4 n++r) 0) 423))(hl:r.length≤100000):
 Calls Tryz.prog 238 #[.pointer (some ⟨R,0,none⟩)] w fun e w'=>e= .returned (.int .i64 n)∧At w' R (.cells (rc (hd 4 n++r) (hd 4 n).length) 423)∧Upd (·=R) w w':=by
 have HH:=hid (Head_any 4 n R r w (by decide) (by omega) h hl);rw[show((4:Nat):Int)=4 from rfl]at HH;have hn0:(n:Int)≤1000:=by omega
 generalize hd 4 n++r=s at*;clear h hl hn;go_enter Tryz.func238,Tryz.ntmps238;go_wp2_with fail;refine HH.out.mono ?_;rintro e w2 ⟨rfl,ha,hu⟩;obtain⟨c0,c1,c2,c3,c4⟩:=rfive ha;have HA:=hid (And.intro ha hu);clear ha hu;go_wp2_with fail;go_ret;exact⟨rfl,HA.out⟩
theorem rarray_open (R:Nat)(r:List UInt8)(w:World)(h:At w R (.cells (rc (b8 159::r) 0) 423))(hl:r.length≤100000):
 Calls Tryz.prog 238 #[.pointer (some ⟨R,0,none⟩)] w fun e w'=>e= .returned (.int .i64 (-1))∧At w' R (.cells (rc (b8 159::r) 1) 423)∧Upd (·=R) w w':=by
 have HH:=hid (Head_open 4 R r w (Or.inl rfl) h hl);rw[show((4:Nat):Int)=4 from rfl,show 32*4+31=159 from rfl]at HH;generalize b8 159::r=s at*;clear h hl;go_enter Tryz.func238,Tryz.ntmps238;go_wp2_with fail;refine HH.out.mono ?_;rintro e w2 ⟨rfl,ha,hu⟩;obtain⟨c0,c1,c2,c3,c4⟩:=rfive ha;have HA:=hid (And.intro ha hu);clear ha hu;go_wp2_with fail;go_ret;exact⟨rfl,HA.out⟩
end
section
open Go.RowKit
inductive Itm where
 |num (n:Nat)
 |str (s:List UInt8)
 |txt (s:List UInt8)
 |arr (o:Bool) (l:List Itm)
def ic (k n:Nat)(s:List UInt8)(l:Value)(o:Bool):Array Value:=#[.int .i64 k,.int .u64 n,.string (st s),l,.bool o]
mutual
/--Cells are an item's. -/
def IsI (w:World):Array Value→Itm→Prop
 |cs,.num n=>cs=ic 0 n [] nS false
 |cs,.str s=>cs=ic 2 0 s nS false
 |cs,.txt s=>cs=ic 3 0 s nS false
 |cs,.arr o l=>∃a cap,cs=ic 4 0 [] (.slice a l.length cap) o∧l.length≤cap∧(l=[]∨∃b off,a=some ⟨b,off,none⟩∧IsL w b off l)
/--Items lie one behind the other. -/
def IsL (w:World)(b:Nat):Nat→List Itm→Prop
 |_,[]=>True
 |off,x::r=>(∃cs,cs.size=5∧w.rangeAt b off cs.toList∧IsI w cs x)∧IsL w b (off+5) r
end
mutual
/--How deep. -/
def deep:Itm→Nat
 | .num _=>1
 | .str _=>1
 | .txt _=>1
 | .arr _ l=>deeps l+1
def deeps:List Itm→Nat
 | []=>0
 |x::r=>max (deep x) (deeps r)
end
mutual
/--All numbers and lengths are in their bounds. -/
def wf:Itm→Prop
 | .num n=>n<18446744073709551616
 | .str s=>s.length≤4000
 | .txt s=>s.length≤4000
 | .arr _ l=>l.length≤1000∧wfs l
def wfs:List Itm→Prop
 | []=>True
 |x::r=>wf x∧wfs r
end
mutual
/--An item's bytes. -/
def enc:Itm→List UInt8
 | .num n=>hd 0 n
 | .str s=>bs s
 | .txt s=>tx s
 | .arr o l=>(if o then[0x9f]else hd 4 l.length)++encs l++(if o then[0xff]else[])
def encs:List Itm→List UInt8
 | []=>[]
 |x::r=>enc x++encs r
end
theorem range_keep {w w':World}{n:Nat}(hu:Below n w w'){b o:Nat}{cs:List Value}(h:w.rangeAt b o cs)(hn:b<n):w'.rangeAt b o cs:=fun j u hj=>
 (World.cell?_of_block (w:=w) (a:=⟨b,o+j,none⟩) (hu.block b hn)).trans (h j u hj)
theorem range_lt {w:World}{b o:Nat}{cs:List Value}(h:w.rangeAt b o cs)(hn:0<cs.length):b<w.heap.size:=cell_lt (h 0 _ (List.getElem?_eq_getElem hn))
mutual
theorem IsI.keep {w w':World}(hu:Below w.heap.size w w'):∀(x:Itm) (cs:Array Value),IsI w cs x→IsI w' cs x
 | .num _,_,h=>h
 | .str _,_,h=>h
 | .txt _,_,h=>h
 | .arr o l,cs,h=>by
  rw[IsI]at h ⊢;obtain⟨a,cap,h1,h2,h3⟩:=h;refine⟨a,cap,h1,h2,h3.imp (fun h=>h) ?_⟩;rintro⟨b,off,h4,h5⟩;exact⟨b,off,h4,IsL.keep hu l b off h5⟩
theorem IsL.keep {w w':World}(hu:Below w.heap.size w w'):∀(l:List Itm) (b off:Nat),IsL w b off l→IsL w' b off l
 | [],_,_,_=>trivial
 |x::r,b,off,h=>by
  rw[IsL]at h ⊢;obtain⟨⟨cs,h1,h2,h3⟩,h4⟩:=h;exact⟨⟨cs,h1,range_keep hu h2 (range_lt h2 (by simp;omega)),IsI.keep hu x cs h3⟩,IsL.keep hu r b (off+5) h4⟩
end
theorem IsL.at {w:World}{b:Nat}:∀(l:List Itm) (off i:Nat) (h:i<l.length),IsL w b off l→∃cs,cs.size=5∧w.rangeAt b (off+5*i) cs.toList∧IsI w cs l[i]
 | [],_,_,h,_=>absurd h (by simp)
 |x::r,off,0,_,hl=>by
  rw[IsL]at hl;simpa using hl.1
 |x::r,off,i+1,h,hl=>by
  rw[IsL]at hl;have:=IsL.at r (off+5) i (by simpa using h) hl.2;rw[show off+5*(i+1)=off+5+5*i by omega];simpa using this
theorem deep_at:∀(l:List Itm) (i:Nat) (h:i<l.length),deep l[i]≤deeps l
 | [],_,h=>absurd h (by simp)
 |x::r,0,_=>by rw[deeps];exact Nat.le_max_left _ _
 |x::r,i+1,h=>by
  rw[deeps];exact Nat.le_trans (deep_at r i (by simpa using h)) (Nat.le_max_right _ _)
theorem wf_at:∀(l:List Itm) (i:Nat) (h:i<l.length),wfs l→wf l[i]
 | [],_,h,_=>absurd h (by simp)
 |x::r,0,_,hw=>by rw[wfs]at hw;exact hw.1
 |x::r,i+1,h,hw=>by rw[wfs]at hw;exact wf_at r i (by simpa using h) hw.2
theorem enc_take:∀(l:List Itm) (i:Nat) (h:i<l.length),encs (l.take (i+1))=encs (l.take i)++enc l[i]
 | [],_,h=>absurd h (by simp)
 |x::r,0,_=>by simp[encs]
 |x::r,i+1,h=>by
  have:=enc_take r i (by simpa using h);simp[encs,this]
end
section
open Go.RowKit
theorem i93:(Tryz.prog.info? 93).map (·.size)=some 5:=by kernel_rfl
theorem boxed (w:World)(k n:Nat)(s:List UInt8)(l:Value)(o:Bool):
 (w.alloc (.cells (ic k n s l o) 93)).cell? ⟨w.heap.size,0,none⟩=some (.int .i64 k)∧(w.alloc (.cells (ic k n s l o) 93)).cell? ⟨w.heap.size,1,none⟩=some (.int .u64 n)∧
 (w.alloc (.cells (ic k n s l o) 93)).cell? ⟨w.heap.size,2,none⟩=some (.string (st s))∧(w.alloc (.cells (ic k n s l o) 93)).cell? ⟨w.heap.size,3,none⟩=some l∧
 (w.alloc (.cells (ic k n s l o) 93)).cell? ⟨w.heap.size,4,none⟩=some (.bool o):=by
 have h:=heap_new w (.cells (ic k n s l o) 93);refine⟨?_,?_,?_,?_,?_⟩<;>(rw[cell_of_row _ _ _ _ 93 (0,0) h];rfl)
theorem st_nil:st []=⟨#[]⟩:=rfl
theorem right_num (n d:Nat)(w:World)(hd:1≤d)(hd8:d≤8):
 Rv 331 #[.agg (ic 0 n [] nS false),.int .i64 d] w (.bool true):=by
 obtain⟨c0,c1,c2,c3,c4⟩:=boxed w 0 n [] nS false;rw[st_nil]at c2;have HU:=hid ((Below.refl w.heap.size w).alloc (Nat.le_refl _) (.cells (ic 0 n [] nS false) 93));have h1:¬(d:Int)<1:=by omega
 clear hd hd8;go_enter Tryz.func331,Tryz.ntmps331;go_upto_region 1 with(fail);generalize World.alloc w _=w1 at*;go_wp2_with fail;go_ret;exact⟨rfl,HU.out⟩
theorem right_str (s:List UInt8)(d:Nat)(w:World)(hd:1≤d)(hd8:d≤8):
 Rv 331 #[.agg (ic 2 0 s nS false),.int .i64 d] w (.bool true):=by
 obtain⟨c0,c1,c2,c3,c4⟩:=boxed w 2 0 s nS false;have HU:=hid ((Below.refl w.heap.size w).alloc (Nat.le_refl _) (.cells (ic 2 0 s nS false) 93));have h1:¬(d:Int)<1:=by omega
 clear hd hd8;go_enter Tryz.func331,Tryz.ntmps331;go_upto_region 1 with(fail);generalize World.alloc w _=w1 at*;go_wp2_with fail;go_ret;exact⟨rfl,HU.out⟩
theorem right_txt (s:List UInt8)(d:Nat)(w:World)(hd:1≤d)(hd8:d≤8):
 Rv 331 #[.agg (ic 3 0 s nS false),.int .i64 d] w (.bool true):=by
 obtain⟨c0,c1,c2,c3,c4⟩:=boxed w 3 0 s nS false;have HU:=hid ((Below.refl w.heap.size w).alloc (Nat.le_refl _) (.cells (ic 3 0 s nS false) 93));have h1:¬(d:Int)<1:=by omega
 clear hd hd8;go_enter Tryz.func331,Tryz.ntmps331;go_upto_region 1 with(fail);generalize World.alloc w _=w1 at*;go_wp2_with fail;go_ret;exact⟨rfl,HU.out⟩
theorem ic_one (k n:Nat)(s:List UInt8)(a:Option Addr)(c m:Nat)(o:Bool):(ic k n s (.slice a c m) o).all (·.oneCell')=true:=by simp[ic,Value.oneCell']
theorem IsI.form {w:World}:∀{x:Itm} {cs:Array Value},IsI w cs x→∃k n s a c m o,cs=ic k n s (.slice a c m) o
 | .num n,cs,h=>⟨0,n,[],none,0,0,false,h⟩
 | .str s,cs,h=>⟨2,0,s,none,0,0,false,h⟩
 | .txt s,cs,h=>⟨3,0,s,none,0,0,false,h⟩
 | .arr o l,cs,h=>by
  rw[IsI]at h;obtain⟨a,cap,h1,_⟩:=h;exact⟨4,0,[],a,l.length,cap,o,h1⟩
theorem zero93 (w:World):(zeroValue 93).run Tryz.prog w= .ok (.agg (ic 0 0 [] nS false)) w:=by kernel_rfl
theorem size93 {cs:Array Value}(h:cs.size=5):(Tryz.prog.info? 93).map (·.size)=some cs.size:=by rw[h];exact i93
theorem right_arr (l:List Itm)(o:Bool)(a:Option Addr)(cap d m:Nat)(w:World)(hm:m=l.length)(hd:1≤d)(hd8:d≤8)(hl:l.length≤1000)(hc:l.length≤cap)(hr:l=[]∨∃b off,a=some ⟨b,off,none⟩∧IsL w b off l)
 (ih:∀(i:Nat) (h:i<l.length) (cs:Array Value) (w':World),IsI w' cs l[i]→Calls Tryz.prog 331 #[.agg cs,.int .i64 ((d:Int)-1)] w' fun e w''=>e= .returned (.bool true)∧Below w'.heap.size w' w''):
 Rv 331 #[.agg (ic 4 0 [] (.slice a m cap) o),.int .i64 d] w (.bool true):=by
 obtain⟨c0,c1,c2,c3,c4⟩:=boxed w 4 0 [] (.slice a m cap) o;rw[st_nil]at c2;have HU:=hid ((Below.refl w.heap.size w).alloc (Nat.le_refl _) (.cells (ic 4 0 [] (.slice a m cap) o) 93));have h1:¬(d:Int)<1:=by omega
 have hd9:(d:Int)≤8:=by omega
 have hl1:(m:Int)≤1000:=by omega
 have HL:=hid (And.intro hr hl);clear hr hl;have HI:=hid ih;clear ih;have HM:=hid hm;clear hm hd hd8 hc;go_enter Tryz.func331,Tryz.ntmps331;go_upto_region 1 with(fail);generalize World.alloc w _=w1 at*;go_wp2_with fail;clear c0 c1 c2 c3 c4;go_loopw [63] (fun i wr=>∃j:Nat,j≤m∧i= .int .i64 j∧Below w.heap.size w wr) (fun i _=>m-(intOf i).toNat);case atStart=>exact⟨0,by omega,rfl,HU.out⟩
 case round=>
  obtain⟨j,hj,rfl,hu⟩:=hrel;have HV:=hid hu;clear hu;by_cases hjm:j<m
  · have hj0:(j:Int)<(m:Int):=by omega
    obtain⟨b,off,rfl,hls⟩:∃b off,a=some ⟨b,off,none⟩∧IsL w b off l:=by
     rcases HL.out.1 with h|h
     · have:=HM.out;rw[h]at this;simp at this;omega
     · exact h
    obtain⟨cs,hcs,hrg,his⟩:=IsL.at l off j (by have:=HM.out;omega) hls;have HR:=hid (range_keep HV.out hrg (range_lt hrg (by simp;omega)));have hIS:=hid (IsI.keep HV.out _ _ his);have HCS:=hid hcs;obtain⟨k',n',s',a',c',m',o',rfl⟩:=his.form;clear hls hrg his hcs;have hnew:=hid (heap_new wr (.cells (ic 0 0 [] nS false) 93));have hua:=(Below.refl wr.heap.size wr).alloc (Nat.le_refl _) (.cells (ic 0 0 [] nS false) 93);have hub:=hua.trans ((upd_setRow _ wr.heap.size (ic k' n' s' (.slice a' c' m') o')).below hua.size (by intro k e;omega));have HUB:=hid hub;clear hua hub;have hz:=zero93;go_upto_region 15 with(first
     |(refine wpList_load_mid rfl 93 (.tmp 65) rfl b (off+5*j) (by show _=Value.pointer (some ⟨b,off+5*j,none⟩);rw[Nat.mul_comm 5 j];rfl) (ic k' n' s' (.slice a' c' m') o').toList _ HR.out Tryz.underlying93 rfl (size93 HCS.out) ?_)
     |(refine sR 93 6 66 wr.heap.size (ic k' n' s' (.slice a' c' m') o') hnew.out (size93 HCS.out) (ic_one ..) ?_))
    have hrow:=hid (setRow_heap (wr.alloc (.cells (ic 0 0 [] nS false) 93)) wr.heap.size _ (ic k' n' s' (.slice a' c' m') o') 93 (0,0) hnew.out);have hIS2:=hid (IsI.keep HUB.out _ _ hIS.out);have HU2:=hid (HV.out.trans (HUB.out.mono HV.out.size));clear hz hnew HR HUB hIS;generalize World.setRow (World.alloc wr _) _ _=w3 at*;go_wp2_with (refine lR 93 6 hrow.out Tryz.underlying93 (size93 HCS.out) ?_);refine(HI.out j (by have:=HM.out;omega) _ w3 hIS2.out).mono ?_;rintro e w4 ⟨rfl,hb4⟩;have HU4:=tR HU2 hb4;clear hb4;go_wp2_with fail;go_roundw;case rel=>exact⟨j+1,by omega,by go_num,HU4.out⟩
    case measure=>simp[intOf];omega
  · have hj9:j=m:=by omega
    subst hj9;go_wp2_with fail;go_ret;exact⟨rfl,HV.out⟩
theorem right_any:∀(d:Nat) (x:Itm) (cs:Array Value) (w:World),IsI w cs x→wf x→deep x≤d→d≤8→Calls Tryz.prog 331 #[.agg cs,.int .i64 d] w fun e w'=>e= .returned (.bool true)∧Below w.heap.size w w'
 |d,.num n,cs,w,hi,_,hd,h8=>by
  rw[IsI]at hi;subst hi;exact right_num n d w (by simpa[deep]using hd) h8
 |d,.str s,cs,w,hi,_,hd,h8=>by
  rw[IsI]at hi;subst hi;exact right_str s d w (by simpa[deep]using hd) h8
 |d,.txt s,cs,w,hi,_,hd,h8=>by
  rw[IsI]at hi;subst hi;exact right_txt s d w (by simpa[deep]using hd) h8
 |0,.arr o l,_,_,_,_,hd,_=>absurd hd (by simp[deep])
 |d+1,.arr o l,cs,w,hi,hw,hd,h8=>by
  rw[IsI]at hi;obtain⟨a,cap,rfl,hc,hr⟩:=hi;rw[wf]at hw;rw[deep]at hd;refine right_arr l o a cap (d+1) l.length w rfl (by omega) h8 hw.1 hc hr (fun i h cs w' his=>?_);have:=right_any d l[i] cs w' his (wf_at l i h hw.2) (Nat.le_trans (deep_at l i h) (by omega)) (by omega);rw[show((d+1:Nat):Int)-1=(d:Int) by omega];exact this
theorem IsI.size {w:World}{x:Itm}{cs:Array Value}(h:IsI w cs x):cs.size=5:=by
 obtain⟨_,_,_,_,_,_,_,rfl⟩:=h.form;rfl
theorem IsI.one {w:World}{x:Itm}{cs:Array Value}(h:IsI w cs x):cs.all (·.oneCell')=true:=by
 obtain⟨_,_,_,_,_,_,_,rfl⟩:=h.form;exact ic_one ..
theorem Right_any (x:Itm)(cs:Array Value)(w:World)(hi:IsI w cs x)(hw:wf x)(hd:deep x≤8):Rv 248 #[.agg cs] w (.bool true):=by
 have hu:=(Below.refl w.heap.size w).alloc (Nat.le_refl _) (.cells cs 93);have HR:=hid (right_any 8 x cs (w.alloc (.cells cs 93)) (IsI.keep hu _ _ hi) hw hd (Nat.le_refl _));rw[show((8:Nat):Int)=8 from rfl]at HR;have HN:=hid (heap_new w (.cells cs 93));have HU:=hid hu;have HS:=hid (size93 hi.size);clear hu hi;go_enter Tryz.func248,Tryz.ntmps248;go_upto_region 1 with(fail);generalize World.alloc w _=w1 at*;go_wp2_with (refine lR 93 1 HN.out Tryz.underlying93 HS.out ?_);refine HR.out.mono ?_;rintro e w2 ⟨rfl,hb⟩;have HU2:=tR HU hb;clear hb;go_wp2_with fail;go_ret;exact⟨rfl,HU2.out⟩
end
section
open Go.RowKit
def pc (s:List UInt8)(a:Nat):Array Value:=#[.string (st s),.int .i64 a,.int .i64 0]
theorem pthree {w:World}{P a:Nat}{s:List UInt8}(h:At w P (.cells (pc s a) 284)):
 w.cell? ⟨P,0,none⟩=some (.string (st s))∧w.cell? ⟨P,1,none⟩=some (.int .i64 a)∧w.cell? ⟨P,2,none⟩=some (.int .i64 0):=by
 refine⟨?_,?_,?_⟩<;>(rw[cell_of_row _ _ _ _ 284 (0,0) h];rfl)
theorem pfree {w:World}{P a:Nat}{s:List UInt8}(h:At w P (.cells (pc s a) 284))(j:Nat):w.frozen? ⟨P,j,none⟩=false:=frozen_of_row w P j _ 284 h
theorem pset {w w':World}{P a b:Nat}{s:List UInt8}(h:At w P (.cells (pc s a) 284))(he:w'.heap=w.heap):At (w'.setCell ⟨P,1,none⟩ (.int .i64 b)) P (.cells (pc s b) 284):=
 heap_setCell_same w' P 1 (pc s a) 284 (.int .i64 b) (show w'.heap[P]? =some (.cells (pc s a) 284 (0,0))from by rw[he];exact h)
theorem st_drop (s:List UInt8)(a n:Nat)(hn:n=s.length)(_ha:a≤s.length):(st s).extract a n=st (s.drop a):=by
 apply ByteArray.ext;rw[ByteArray.data_extract];unfold st;simp only[List.extract_toArray];congr 1;subst hn;simp only[List.extract];exact List.take_of_length_le (by simp)
theorem preader_any (s:List UInt8)(a P:Nat)(w:World)(h:At w P (.cells (pc s a) 284))(ha:a≤s.length)(hl:s.length≤100000):
 Calls Tryz.prog 233 #[.pointer (some ⟨P,0,none⟩)] w fun e w'=>∃R,e= .returned (.pointer (some ⟨R,0,none⟩))∧w.heap.size≤R∧At w' R (.cells (rc (s.drop a) 0) 423)∧Below w.heap.size w w':=by
 obtain⟨c0,c1,c2⟩:=pthree h;have hsz:=st_size s;have hex:=st_drop s a s.length rfl ha;have ha0:(a:Int)≤(s.length:Int):=by omega
 have hl0:(s.length:Int)≤100000:=by omega
 have HN:=hid (fun w=>newReader_any (s.drop a) w);clear h ha hl;go_enter Tryz.func233,Tryz.ntmps233;go_upto_region 1 with(fail);go_still_tail 9,(by kernel_rfl);go_wp2_with fail;refine(HN.out _).mono ?_;rintro e w2 ⟨rfl,hat,hb⟩;have HA:=hid (And.intro hat (show Below w.heap.size w w2 from(below_drew (Below.refl w.heap.size w)).trans hb));clear hat hb;go_wp2_with fail;go_ret;exact⟨_,rfl,Nat.le_refl _,HA.out⟩
theorem broken_yes (s r:List UInt8)(a P:Nat)(w:World)(h:At w P (.cells (pc s a) 284))(ha:a≤s.length)(hl:s.length≤100000)(hd:s.drop a=b8 255::r):
 Rv 312 #[.pointer (some ⟨P,0,none⟩)] w (.bool true):=by
 have HR:=hid (preader_any s a P w h ha hl);have hrl:r.length≤100000:=by
  have:=congrArg List.length hd;simp at this;omega
 have HH:=hid (fun(R:Nat) (w:World) (h:At w R (.cells (rc (b8 255::r) 0) 423))=>Head_open 7 R r w (Or.inr rfl) h hrl);have HD:=hid hd;clear h ha hl hd hrl;go_enter Tryz.func312,Tryz.ntmps312;go_wp2_with fail;refine HR.out.mono ?_;rintro e w2 ⟨R,rfl,hR,hat,hb⟩;rw[HD.out]at hat;have HB:=hid (And.intro hb hR);have HH2:=hid (HH.out R w2 hat);rw[show((7:Nat):Int)=7 from rfl]at HH2;clear hat hb hR;go_wp2_with fail;refine HH2.out.mono ?_;rintro e w3 ⟨rfl,hat,hu⟩;have HU:=hid (HB.out.1.trans (hu.below HB.out.1.size (fun k e=>by rw[e];exact HB.out.2)));clear hat hu;go_wp2_with fail;go_ret;exact⟨rfl,HU.out⟩
end
section
open Go.RowKit
theorem build_num (n:Nat)(w:World)(hn:n<18446744073709551616):
 Rv 249 #[.agg (ic 0 n [] nS false)] w (.string (st (enc (.num n)))):=by
 obtain⟨c0,c1,c2,c3,c4⟩:=boxed w 0 n [] nS false;rw[st_nil]at c2;have HU:=hid ((Below.refl w.heap.size w).alloc (Nat.le_refl _) (.cells (ic 0 n [] nS false) 93));have HH:=hid (fun w=>head_any 0 n w (by decide) hn);rw[show((0:Nat):Int)=0 from rfl]at HH;clear hn;go_enter Tryz.func249,Tryz.ntmps249;go_upto_region 1 with(fail);generalize World.alloc w _=w1 at*;go_wp2_with fail;refine(HH.out _).mono ?_;rintro e w2 ⟨rfl,hb⟩;have HU2:=tR HU hb;clear hb;go_wp2_with fail;go_ret;exact⟨rfl,HU2.out⟩
theorem build_str (s:List UInt8)(w:World)(hs:s.length≤4000):
 Rv 249 #[.agg (ic 2 0 s nS false)] w (.string (st (enc (.str s)))):=by
 obtain⟨c0,c1,c2,c3,c4⟩:=boxed w 2 0 s nS false;have HU:=hid ((Below.refl w.heap.size w).alloc (Nat.le_refl _) (.cells (ic 2 0 s nS false) 93));have HH:=hid (fun w=>bytes_any s w (by omega));clear hs;go_enter Tryz.func249,Tryz.ntmps249;go_upto_region 1 with(fail);generalize World.alloc w _=w1 at*;go_wp2_with fail;refine(HH.out _).mono ?_;rintro e w2 ⟨rfl,hb⟩;have HU2:=tR HU hb;clear hb;go_wp2_with fail;go_ret;exact⟨rfl,HU2.out⟩
theorem build_txt (s:List UInt8)(w:World)(hs:s.length≤4000):
 Rv 249 #[.agg (ic 3 0 s nS false)] w (.string (st (enc (.txt s)))):=by
 obtain⟨c0,c1,c2,c3,c4⟩:=boxed w 3 0 s nS false;have HU:=hid ((Below.refl w.heap.size w).alloc (Nat.le_refl _) (.cells (ic 3 0 s nS false) 93));have HH:=hid (fun w=>text_any s w (by omega));clear hs;go_enter Tryz.func249,Tryz.ntmps249;go_upto_region 1 with(fail);generalize World.alloc w _=w1 at*;go_wp2_with fail;refine(HH.out _).mono ?_;rintro e w2 ⟨rfl,hb⟩;have HU2:=tR HU hb;clear hb;go_wp2_with fail;go_ret;exact⟨rfl,HU2.out⟩
theorem encs_take (l:List Itm)(j:Nat):(encs (l.take j)).length≤(encs l).length:=by
 induction l generalizing j with
 |nil=>simp[encs]
 |cons x r ih=>
  cases j with
  |zero=>simp[encs]
  |succ j=>simp[encs];exact ih j
theorem build_arr (l:List Itm)(o:Bool)(a:Option Addr)(cap m:Nat)(w:World)(hm:m=l.length)(hl:l.length≤1000)(hc:l.length≤cap)(hr:l=[]∨∃b off,a=some ⟨b,off,none⟩∧IsL w b off l)(hz:(encs l).length≤1000000000)
 (ih:∀(i:Nat) (h:i<l.length) (cs:Array Value) (w':World),IsI w' cs l[i]→Calls Tryz.prog 249 #[.agg cs] w' fun e w''=>e= .returned (.string (st (enc l[i])))∧Below w'.heap.size w' w''):
 Rv 249 #[.agg (ic 4 0 [] (.slice a m cap) o)] w (.string (st (enc (.arr o l)))):=by
 obtain⟨c0,c1,c2,c3,c4⟩:=boxed w 4 0 [] (.slice a m cap) o;rw[st_nil]at c2;have HU:=hid ((Below.refl w.heap.size w).alloc (Nat.le_refl _) (.cells (ic 4 0 [] (.slice a m cap) o) 93));have hl1:(m:Int)≤1000:=by omega
 have HL:=hid (And.intro hr (And.intro hl hz));clear hr hl hz;have HI:=hid ih;clear ih;have HH:=hid (fun w=>head_any 4 m w (by decide) (by omega));rw[show((4:Nat):Int)=4 from rfl]at HH;have HM:=hid hm;clear hm hc;obtain⟨H,E,hHE,hH9,hE9⟩:∃H E:List UInt8,(H=if o then[0x9f]else hd 4 m)∧H.length≤9∧(E=if o then[0xff]else[]):=
  ⟨_,_,rfl,by split;simp;exact hd_len _ _,rfl⟩
 have HF:=hid (show enc (.arr o l)=H++encs l++E from by rw[enc, ←HM.out, ←hHE, ←hE9]);go_enter Tryz.func249,Tryz.ntmps249;go_upto_region 1 with(fail);generalize World.alloc w _=w1 at*;go_wp2_with fail;refine(HH.out _).mono ?_;rintro e w2 ⟨rfl,hb⟩;have HU2:=tR HU hb;have c32:w2.cell? ⟨w.heap.size,3,none⟩=some (.slice a m cap):=(upd_of_below (S:=fun _=>False) hb).cell c3 (fun h=>h);have c42:w2.cell? ⟨w.heap.size,4,none⟩=some (.bool o):=(upd_of_below (S:=fun _=>False) hb).cell c4 (fun h=>h);clear hb c0 c1 c2 c3 c4 HU HH;cases o;case' true=>
  go_wp2_with fail;refine(open_array _).mono ?_;rintro e w3 ⟨rfl,hb3⟩;go_wp2_with fail;refine(open_break _).mono ?_;rintro e w4 ⟨rfl,hb4⟩;have hb34:=hb3.trans (hb4.mono hb3.size);have c35:=(upd_of_below (S:=fun _=>False) hb34).cell c32 (fun h=>h);have HU5:=tR HU2 hb34;clear hb3 hb4 hb34 c32 c42 HU2;have hH:st [0x9f]=st H:=by rw[hHE];rfl
  have hE:st [0xff]=st E:=by rw[hE9];rfl
 case' false=>
  have HU5:=HU2;have c35:=c32;clear c32 HU2;have hH:st (hd 4 m)=st H:=by rw[hHE];rfl
  have hE:(⟨#[]⟩:ByteArray)=st E:=by rw[hE9];rfl
 all_goals
  rw[hH]
  have HHE:=hid (And.intro hHE hE9)
  have HE:=hid hE
  clear hHE hE9 hH hE
  go_upto_region 11 with(fail)
  go_wp2_with fail
  go_loopw [3,36] (fun h i wr=>∃j:Nat,j≤m∧i= .int .i64 j∧h= .string (st (H++encs (l.take j)))∧Below w.heap.size w wr) (fun _ i _=>m-(intOf i).toNat)
  case atStart=>exact⟨0,by omega,rfl,by simp[encs],HU5.out⟩
  case round=>
   obtain⟨j,hj,rfl,rfl,hu⟩:=hrel;have HV:=hid hu;clear hu;by_cases hjm:j<m
   · have hj0:(j:Int)<(m:Int):=by omega
     have hjl:j<l.length:=by have:=HM.out;omega
     obtain⟨b,off,rfl,hls⟩:∃b off,a=some ⟨b,off,none⟩∧IsL w b off l:=by
      rcases HL.out.1 with h|h
      · rw[h]at hjl;simp at hjl
      · exact h
     obtain⟨cs,hcs,hrg,his⟩:=IsL.at l off j hjl hls;have HR:=hid (range_keep HV.out hrg (range_lt hrg (by simp;omega)));have hIS:=hid (IsI.keep HV.out _ _ his);have HCS:=hid hcs;obtain⟨k',n',s',a',c',m',o',rfl⟩:=his.form;clear hls hrg his hcs;have hnew:=hid (heap_new wr (.cells (ic 0 0 [] nS false) 93));have hua:=(Below.refl wr.heap.size wr).alloc (Nat.le_refl _) (.cells (ic 0 0 [] nS false) 93);have hub:=hua.trans ((upd_setRow _ wr.heap.size (ic k' n' s' (.slice a' c' m') o')).below hua.size (by intro k e;omega));have HUB:=hid hub;clear hua hub;have hz:=zero93;have HEN:=hid (enc_take l j hjl);have HZ:=hid (encs_take l (j+1));go_upto_region 14 with(first
      |(refine wpList_load_mid rfl 93 (.tmp 38) rfl b (off+5*j) (by show _=Value.pointer (some ⟨b,off+5*j,none⟩);rw[Nat.mul_comm 5 j];rfl) (ic k' n' s' (.slice a' c' m') o').toList _ HR.out Tryz.underlying93 rfl (size93 HCS.out) ?_)
      |(refine sR 93 6 39 wr.heap.size (ic k' n' s' (.slice a' c' m') o') hnew.out (size93 HCS.out) (ic_one ..) ?_))
     have hrow:=hid (setRow_heap (wr.alloc (.cells (ic 0 0 [] nS false) 93)) wr.heap.size _ (ic k' n' s' (.slice a' c' m') o') 93 (0,0) hnew.out);have hIS2:=hid (IsI.keep HUB.out _ _ hIS.out);have HU3:=hid (HV.out.trans (HUB.out.mono HV.out.size));clear hz hnew HR HUB hIS;generalize World.setRow (World.alloc wr _) _ _=w8 at*;go_wp2_with (refine lR 93 6 hrow.out Tryz.underlying93 (size93 HCS.out) ?_);refine(HI.out j hjl _ w8 hIS2.out).mono ?_;rintro e w9 ⟨rfl,hb9⟩;have HU9:=tR HU3 hb9;clear hb9;have hap:st (H++encs (l.take j))++st (enc l[j])=st (H++encs (l.take (j+1))):=by rw[st_app,List.append_assoc, ←HEN.out]
     have hsz1:(st (H++encs (l.take j))).size+(st (enc l[j])).size≤1000000009:=by
      rw[st_size,st_size, ←List.length_append,List.append_assoc, ←HEN.out,List.length_append];have:=HL.out.2.2;have:=HZ.out;omega
     obtain⟨p,hp⟩:∃p,(st (H++encs (l.take j))).size=p:=⟨_,rfl⟩;obtain⟨q,hq⟩:∃q,(st (enc l[j])).size=q:=⟨_,rfl⟩;rw[hp,hq]at hsz1;go_wp2_with fail;go_roundw;case rel=>exact⟨j+1,by omega,by go_num,rfl,HU9.out⟩
     case measure=>simp[intOf];omega
   · have hj9:j=l.length:=by have:=HM.out;omega
     have hjm9:j=m:=by omega
     have hfin:st (H++encs (l.take j))++st E=st (H++encs l++E):=by rw[st_app,hj9,List.take_length]
     have hsz1:(st (H++encs (l.take j))).size+(st E).size≤1000000020:=by
      rw[st_size,st_size,List.length_append];have h1:=encs_take l j;have h2:=HL.out.2.2;have h3:E.length≤1:=by rw[HHE.out.2];simp
      omega
     obtain⟨p,hp⟩:∃p,(st (H++encs (l.take j))).size=p:=⟨_,rfl⟩;obtain⟨q,hq⟩:∃q,(st E).size=q:=⟨_,rfl⟩;rw[hp,hq]at hsz1;subst hjm9;rw[HE.out];clear hj9;go_wp2_with fail;go_ret;exact⟨by rw[HF.out,List.append_assoc];rfl,HV.out⟩
theorem build_any:∀(d:Nat) (x:Itm) (cs:Array Value) (w:World),IsI w cs x→wf x→deep x≤d→(enc x).length≤1000000000→Calls Tryz.prog 249 #[.agg cs] w fun e w'=>e= .returned (.string (st (enc x)))∧Below w.heap.size w w'
 |d,.num n,cs,w,hi,hw,_,_=>by
  rw[IsI]at hi;subst hi;exact build_num n w hw
 |d,.str s,cs,w,hi,hw,_,_=>by
  rw[IsI]at hi;subst hi;exact build_str s w hw
 |d,.txt s,cs,w,hi,hw,_,_=>by
  rw[IsI]at hi;subst hi;exact build_txt s w hw
 |0,.arr o l,_,_,_,_,hd,_=>absurd hd (by simp[deep])
 |d+1,.arr o l,cs,w,hi,hw,hd,hz=>by
  rw[IsI]at hi;obtain⟨a,cap,rfl,hc,hr⟩:=hi;rw[wf]at hw;rw[deep]at hd;have hz2:(encs l).length≤1000000000:=by
   rw[enc]at hz;simp only[List.length_append]at hz;omega
  refine build_arr l o a cap l.length w rfl hw.1 hc hr hz2 (fun i h cs w' his=>?_);refine build_any d l[i] cs w' his (wf_at l i h hw.2) (Nat.le_trans (deep_at l i h) (by omega)) ?_;have h1:=encs_take l (i+1);rw[enc_take l i h,List.length_append]at h1;omega
theorem Build_any (x:Itm)(cs:Array Value)(w:World)(hi:IsI w cs x)(hw:wf x)(hd:deep x≤8)(hz:(enc x).length≤1000000000):Rv 179 #[.agg cs] w (.tuple #[.string (st (enc x)),.int .i64 0]):=by
 have hu:=(Below.refl w.heap.size w).alloc (Nat.le_refl _) (.cells cs 93);have HR:=hid (Right_any x cs (w.alloc (.cells cs 93)) (IsI.keep hu _ _ hi) hw hd);have HB:=hid (fun(w2:World) (hu2:Below (w.alloc (.cells cs 93)).heap.size (w.alloc (.cells cs 93)) w2)=>build_any 8 x cs w2 (IsI.keep hu2 _ _ (IsI.keep hu _ _ hi)) hw hd hz);have HN:=hid (heap_new w (.cells cs 93));have HU:=hid hu;have HS:=hid (size93 hi.size);clear hu hi;go_enter Tryz.func179,Tryz.ntmps179;go_upto_region 1 with(fail);generalize World.alloc w _=w1 at*;go_wp2_with (refine lR 93 1 HN.out Tryz.underlying93 HS.out ?_);refine HR.out.mono ?_;rintro e w2 ⟨rfl,hb⟩;have HU2:=tR HU hb;have HN2:=hid ((hb.block _ (heap_lt HN.out)).trans HN.out);have HB2:=hid (HB.out w2 hb);clear hb;go_wp2_with (refine lR 93 1 HN2.out Tryz.underlying93 HS.out ?_);refine HB2.out.mono ?_;rintro e w3 ⟨rfl,hb⟩;have HU3:=tR HU2 hb;clear hb;go_wp2_with fail;go_ret2;exact⟨rfl,HU3.out⟩
end
section
open Go.RowKit
variable {x0 x1 x4 x6 x7 x8 x9 x10 x11 x12 x13 x14 x15 x16 x17 x18 x19 x20 x21 x22 x23 x24 x25 x26 x27 x28 x29 x30 x31 x32 x33 x34 x35 x36 x37 x38 x39 x40 x41 x42 x43 x44 x45 x46 x47 x48 x49 x50 x51 x52 x53 x54 x55 x56 x57 x58 x59:Value}
theorem same_r (A B b1 b2 o1 o2 m c1 c2 j:Nat)(cs ds:Array Value)(w:World)(Q:QT)(hj:j<m)(hm:m≤1000)(hc1:m≤c1)(hc2:m≤c2)(k1:w.cell? ⟨A,3,none⟩=some (.slice (some ⟨b1,o1,none⟩) m c1))(k2:w.cell? ⟨B,3,none⟩=some (.slice (some ⟨b2,o2,none⟩) m c2))(hcs:cs.size=5)(hds:ds.size=5)(g1:w.rangeAt b1 (o1+j*5) cs.toList)(g2:w.rangeAt b2 (o2+j*5) ds.toList)(hI:∀w',Below w.heap.size w w'→Calls Tryz.prog 324 #[.agg cs,.agg ds] w' fun e w''=>e= .returned (.bool true)∧Below w'.heap.size w' w'')
 (hQ:∀(y47 y48 y49 y50 y51 y52 y53 y54 y55 y56 y57:Value) (w6:World),Below w.heap.size w w6→Q .normal ⟨(x0::x1::.pointer (some ⟨A,0,none⟩)::.pointer (some ⟨B,0,none⟩)::x4::.int .i64 (j:Nat)::x6::x7::x8::x9::x10::x11::x12::x13::x14::x15::x16::x17::x18::x19::x20::x21::x22::x23::x24::x25::x26::x27::x28::x29::x30::x31::x32::x33::x34::x35::x36::x37::x38::x39::x40::x41::x42::x43::x44::x45::x46::y47::y48::y49::y50::y51::y52::y53::y54::y55::y56::y57::.bool false::x59::[]).toArray,[]⟩ w6):
 Code.wp Tryz.prog (rg Tryz.f324 6) Q ⟨(x0::x1::.pointer (some ⟨A,0,none⟩)::.pointer (some ⟨B,0,none⟩)::x4::.int .i64 (j:Nat)::x6::x7::x8::x9::x10::x11::x12::x13::x14::x15::x16::x17::x18::x19::x20::x21::x22::x23::x24::x25::x26::x27::x28::x29::x30::x31::x32::x33::x34::x35::x36::x37::x38::x39::x40::x41::x42::x43::x44::x45::x46::x47::x48::x49::x50::x51::x52::x53::x54::x55::x56::x57::x58::x59::[]).toArray,[]⟩ w:=by
 have HQ:=hid hQ;clear hQ;have HU0:=hid (below_drew (Below.refl w.heap.size w));have HI:=hid hI;clear hI;have HS:=hid (show ∀w',Below w.heap.size w w'→w'.cell? ⟨A,3,none⟩=some (.slice (some ⟨b1,o1,none⟩) m c1)∧w'.cell? ⟨B,3,none⟩=some (.slice (some ⟨b2,o2,none⟩) m c2)∧w'.rangeAt b1 (o1+j*5) cs.toList∧w'.rangeAt b2 (o2+j*5) ds.toList from fun w' hu=>
  ⟨(upd_of_below (S:=fun _=>False) hu).cell k1 (fun h=>h),(upd_of_below (S:=fun _=>False) hu).cell k2 (fun h=>h),range_keep hu g1 (range_lt g1 (by simp;omega)),range_keep hu g2 (range_lt g2 (by simp;omega))⟩)
 clear k1 k2 g1 g2;have hj0:(j:Int)<(m:Int):=by omega
 conv=>arg 2;whnf
 refine wp_region_T (S:=fun w'=>w'.cell? ⟨A,3,none⟩=some (.slice (some ⟨b1,o1,none⟩) m c1)∧w'.cell? ⟨B,3,none⟩=some (.slice (some ⟨b2,o2,none⟩) m c2)∧w'.rangeAt b1 (o1+j*5) cs.toList∧w'.rangeAt b2 (o2+j*5) ds.toList) (fun _=>false) (by kernel_rfl) (HS.out _ HU0.out) (fun hHeld=>?_);refine t2 0 ?_;refine t2 1 ?_;refine t2 2 ?_;refine t2 3 ?_;refine u2 4 _ rfl (yM 93 50 b1 (o1+j*5) (cs) (fun w h=>h.2.2.1) Tryz.underlying93 (size93 hcs)) ?_;refine t2 5 ?_;refine t2 6 ?_;refine t2 7 ?_;refine t2 8 ?_;refine u2 9 _ rfl (yM 93 55 b2 (o2+j*5) (ds) (fun w h=>h.2.2.2) Tryz.underlying93 (size93 hds)) ?_;refine rd1 10 rfl fun K hK=>?_;go_simp;(with_reducible refine(HI.out _ HU0.out).mono ?_);rintro e w1 ⟨rfl,hb⟩;have HU1:=tR HU0 hb;clear hb;refine kK hK (HS.out _ HU1.out) fun hHeld=>?_;try simp only[Act.put,fr]
 refine t2 11 ?_;exact dN (HQ.out _ _ _ _ _ _ _ _ _ _ _ _ HU1.out)
end
end Go.Proofs.YtlhlmflacdeafaaGreatDoor
