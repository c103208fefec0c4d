/-
  A part of the walk of TopReports.
-/
import Derived.Test.YtlhlmflacdeafaaGreatDoorT13
set_option maxRecDepth 100000
set_option maxHeartbeats 4000000
set_option linter.unusedVariables false
set_option linter.unusedSimpArgs false
namespace Go.Proofs.YtlhlmflacdeafaaGreatDoor
section
open Go.RowKit
variable {x0 x1 x2 x3 x4 x5 x6 x7 x8 x9 x10 x11 x12 x13:Value}
def hpc (l c:Nat):Array Value:=#[.int .i64 l,.int .i64 c]
theorem hpc_one (l c:Nat):(hpc l c).all (·.oneCell')=true:=by simp[hpc,Value.oneCell']
theorem size251 {cs:Array Value}(h:cs.size=2):(Tryz.prog.info? 251).map (·.size)=some cs.size:=by rw[h];kernel_rfl
theorem zero251 (w:World):(zeroValue 251).run Tryz.prog w= .ok (.agg (hpc 0 0)) w:=by kernel_rfl
theorem hpc_cells {w:World}{b l c:Nat}(h:At w b (.cells (hpc l c) 251)):w.cell? ⟨b,0,none⟩=some (.int .i64 l)∧w.cell? ⟨b,1,none⟩=some (.int .i64 c):=by
 refine⟨?_,?_⟩<;>(rw[cell_of_row _ _ _ _ 251 (0,0) h];rfl)
theorem built251 (a b:Nat):Tryz.prog.built 251 [(0,.int .i64 a),(1,.int .i64 b)]=some (hpc a b):=by kernel_rfl
theorem hopsI_wf (c:Nat)(h:c≤1000):wf (hopsI c):=by simp[hopsI,wf,wfs];omega
theorem hopsI_deep (c:Nat):deep (hopsI c)=2:=by simp[hopsI,deep,deeps]
theorem xbuild_any (x:Itm)(cs:Array Value)(w:World)(hi:IsI w cs x)(hw:wf x)(hd:deep x≤8)(hz:(enc x).length≤1000000000):
 Rv 159 #[.agg cs,.bool true] w (.tuple #[.string (st (enc x)),.int .i64 0]):=by
 have HI:=hid hi;have HW:=hid (And.intro hw (And.intro hd hz));obtain⟨k,n,t,a,c,m,o,hq⟩:=hi.form;rw[hq]at HI ⊢;clear hi hq hw hd hz;obtain⟨w1,HE,U0,X'⟩:=mH1 w (ic k n t (.slice a c m) o) 93;go_enter Tryz.func159,Tryz.ntmps159;go_upto_region 1 with(fail);rw[←HE.out];clear HE;go_wp2_with (refine lQ 93 2 X'.out ?_);refine(Build_any x _ _ (IsI.kp HI.out U0.out) HW.out.1 HW.out.2.1 HW.out.2.2).mono ?_;rintro e w_1 ⟨rfl,hb⟩;replace X':=hid (X'.out.kp hb);have U':=tR U0 hb;clear U0;clear hb;go_wp2_with fail;refine bodyPost_ret (v:= .tuple #[.string (st (enc x)),.int .i64 0]) (by simp[results,Tryz.results159,go_sem]) rfl ⟨rfl,U'.out⟩
theorem age_any (n:Nat)(w:World)(hn:n≤1099511627776):
 Rv 108 #[.int .u64 n] w (.tuple #[.string (st (enc (.num n))),.int .i64 0]):=by
 have HN:=hid hn;have hn0:(n:Int)≤1099511627776:=by omega
 clear hn;have U0:=hid (Below.refl w.heap.size w);go_enter Tryz.func108,Tryz.ntmps108;go_wp2_with fail;refine(num_any n w).mono ?_;rintro e w_1 ⟨rfl,hb⟩;have U':=tR U0 hb;clear U0;clear hb;go_wp2_with fail;refine(xbuild_any (.num n) _ w_1 (isI_num n w_1) (show n<18446744073709551616 by have:=HN.out;omega) (show 1≤8 by decide) (Nat.le_trans (num_len n) (by decide))).mono ?_;rintro e w_3 ⟨rfl,hb⟩;replace U':=tR U' hb;clear hb;go_wp2_with fail;refine bodyPost_ret (v:= .tuple #[.string (st (enc (.num n))),.int .i64 0]) (by simp[results,Tryz.results108,go_sem]) rfl ⟨rfl,U'.out⟩
theorem hmay_any (c:Nat)(w:World)(hc:c≤255):
 Rv 162 #[.agg (hpc 30 c)] w (.bool true):=by
 have hc0:(c:Int)≤255:=by omega
 have hc1:(0:Int)≤(c:Int):=by omega
 clear hc;obtain⟨w1,HE,U0,H'⟩:=mH1 w (hpc 30 c) 251;go_enter Tryz.func162,Tryz.ntmps162;go_upto_region 1 with(fail);rw[←HE.out];clear HE;obtain⟨h0,h1⟩:=hpc_cells H'.out;rw[show((30:Nat):Int)=30 from rfl]at h0;go_wp2_with fail;go_ret;exact⟨rfl,U0.out⟩
theorem num_k (n:Nat)(k:Int)(hk:k=(n:Int))(w:World):Rv 160 #[.int .u64 k] w (.agg (ic 0 n [] nS false)):=by
 subst hk;exact num_any n w
theorem hops_any (c:Nat)(w:World)(hc:c≤255):
 Rv 109 #[.int .i64 30,.int .i64 c] w (.tuple #[.string (st (enc (hopsI c))),.int .i64 0]):=by
 have HC:=hid hc;have hw1:IntKind.u64.wrap (c:Int)=(c:Int):=by rw[IntKind.wrap_u64];omega
 have hb9:=built251 30 c;rw[show((30:Nat):Int)=30 from rfl]at hb9;clear hc;have U0:=hid (Below.refl w.heap.size w);go_enter Tryz.func109,Tryz.ntmps109;go_wp2_with fail;refine(num_k 30 30 rfl w).mono ?_;rintro e w_1 ⟨rfl,hb⟩;have U':=tR U0 hb;clear U0;clear hb;go_wp2_with fail;refine(num_k c c rfl w_1).mono ?_;rintro e w_3 ⟨rfl,hb⟩;replace U':=tR U' hb;clear hb;simp only[ic];go_wp2_with fail;obtain⟨w9,he,hb,hG⟩:=mk1 w_3 (#[.int .i64 0,.int .u64 30,.string (st []),nS,.bool false,.int .i64 0,.int .u64 c,.string (st []),nS,.bool false]:Array Value) 93;rw[show w_3.alloc (.cells (#[.int .i64 0,.int .u64 30,.string (st []),nS,.bool false,.int .i64 0,.int .u64 c,.string (st []),nS,.bool false]:Array Value) 93)=w9 from he.symm];clear he;replace U':=tR U' hb;have G':=hid (hG);clear hb hG;refine(list_any (some ⟨w_3.heap.size,0,none⟩) 2 2 w9).mono ?_;rintro e w_7 ⟨rfl,hb⟩;replace G':=hid (G'.out.kp hb);replace U':=tR U' hb;clear hb;go_wp2_with fail;refine(hmay_any c w_7 HC.out).mono ?_;rintro e w_10 ⟨rfl,hb⟩;replace G':=hid (G'.out.kp hb);replace U':=tR U' hb;clear hb;go_wp2_with fail;refine(xbuild_any (hopsI c) (ic 4 0 [] (.slice (some ⟨w_3.heap.size,0,none⟩) 2 2) false) w_10 (isArr G'.out [ic 0 30 [] nS false,ic 0 c [] nS false] [.num 30,.num c] rfl ⟨rfl,rfl,rfl,rfl,trivial⟩ 2 2 rfl (Nat.le_refl 2) false) (hopsI_wf c (by have:=HC.out;omega)) (by rw[hopsI_deep];decide) (Nat.le_trans (hopsI_len c) (by decide))).mono ?_;rintro e w_13 ⟨rfl,hb⟩;replace G':=hid (G'.out.kp hb);replace U':=tR U' hb;clear hb;go_wp2_with fail;refine bodyPost_ret (v:= .tuple #[.string (st (enc (hopsI c))),.int .i64 0]) (by simp[results,Tryz.results109,go_sem]) rfl ⟨rfl,U'.out⟩
theorem prev_any (e:Eid)(h:e.ok)(w:World):
 Rv 140 #[.agg (ec e)] w (.tuple #[.string (st (enc (eitm e))),.int .i64 0]):=by
 have HEO:=hid h;clear h;have hz93:=zero93;obtain⟨w1,HE,U0,E'⟩:=mH1 w (ec e) 34;go_enter Tryz.func140,Tryz.ntmps140;go_upto_region 1 with(fail);rw[←HE.out];clear HE;go_wp2_with (refine lQ 34 1 E'.out ?_);refine(eitem_any e HEO.out w1).mono ?_;rintro e w_1 ⟨hh,rfl,hb,hk⟩;replace E':=hid (E'.out.kp hb);have U':=tR U0 hb;clear U0;have I':=hid (hk.here);clear hb hk;go_upto_region 2 with(refine sV 93 4 9 (ic 4 0 [] (.slice (some ⟨hh,0,none⟩) 2 2) false) (size93 rfl) (ic_one ..) ?_;intro w_5 hb hk);replace E':=hid (E'.out.kp hb);replace I':=hid (I'.out.kp hb);replace U':=tR U' hb;have X':=hid hk;clear hb hk;go_wp2_with (refine lQ 93 4 X'.out ?_);refine(xbuild_any (eitm e) _ w_5 I'.out (eitm_wf HEO.out) (Nat.le_trans (eitm_deep e) (by decide)) (Nat.le_trans (eitm_len e) (by decide))).mono ?_;rintro e w_10 ⟨rfl,hb⟩;replace E':=hid (E'.out.kp hb);replace I':=hid (I'.out.kp hb);replace X':=hid (X'.out.kp hb);replace U':=tR U' hb;clear hb;go_wp2_with fail;refine bodyPost_ret (v:= .tuple #[.string (st (enc (eitm e))),.int .i64 0]) (by simp[results,Tryz.results140,go_sem]) rfl ⟨rfl,U'.out⟩
theorem rprev1_any (e:Eid)(h:e.ok)(cs:Array Value)(w:World)(hi:IsI w cs (eitm e)):
 Rv 257 #[.agg cs] w (.tuple #[.agg (ec e),.bool true]):=by
 have HEO:=hid h;clear h;have HI:=hid hi;obtain⟨k,n,t,a,c,m,o,hq⟩:=hi.form;rw[hq]at HI ⊢;clear hi hq;have hz34:=zero34;obtain⟨w1,HE,U0,X',S'⟩:=mH2 w (ic k n t (.slice a c m) o) 93 (ec eZ) 34;go_enter Tryz.func257,Tryz.ntmps257;go_upto_region 1 with(fail);rw[←HE.out];clear HE;go_wp2_with (refine lQ 93 1 X'.out ?_);refine(eof_any e HEO.out _ w1 (IsI.kp HI.out U0.out)).mono ?_;rintro e w_1 ⟨rfl,hb⟩;replace X':=hid (X'.out.kp hb);replace S':=hid (S'.out.kp hb);have U':=tR U0 hb;clear U0;clear hb;go_upto_region 2 with(refine sV 34 4 9 (ec e) (size34 rfl) (ec_one _) ?_;intro w_5 hb hk);replace X':=hid (X'.out.kp hb);replace S':=hid (S'.out.kp hb);replace U':=tR U' hb;have E':=hid hk;clear hb hk;go_wp2_with (first|refine sR 34 2 11 (w.heap.size+1) (ec e) S'.out (size34 rfl) (ec_one _) ?_|refine lQ 34 4 E'.out ?_);have hu9:=upd_setRow w_5 (w.heap.size+1) (ec e);have hb9:=hu9.below (U'.out).size (fun k e=>by rw[e];first|exact Nat.le_refl _|omega);exact bodyPost_ret (rU ((S'.out).row _)) rfl ⟨rfl,(U'.out).trans (hb9.mono (Nat.le_refl _))⟩
theorem rprev2_any (e:Eid)(h:e.ok)(w:World):
 Rv 256 #[.string (st (enc (eitm e))),.func (.func 257) #[] #[]] w (.tuple #[.agg (ec e),.int .i64 0]):=by
 have HEO:=hid h;clear h;have hz34:=zero34;have hz93:=zero93;obtain⟨w1,HE,U0,S'⟩:=mH1 w (ec eZ) 34;go_enter Tryz.func256,Tryz.ntmps256;go_upto_region 1 with(fail);rw[←HE.out];clear HE;go_upto_region 2 with(fail);show Code.wp _ _ _ _ (World.alloc w1 (.cells (ec eZ) 34));obtain⟨w2,he,hb,hZ⟩:=mk1 w1 (ec eZ) 34;rw[←he];clear he;replace S':=hid (S'.out.kp hb);have U':=tR U0 hb;clear U0;clear hb hZ;go_wp2_with fail;refine(parse_any (eitm e) w2 (Nat.le_trans (eitm_deep e) (by decide)) (eitm_wf HEO.out) (Nat.le_trans (eitm_len e) (by decide))).mono ?_;rintro e w_3 ⟨cs,rfl,hcs,h1,hb,hk⟩;replace S':=hid (S'.out.kp hb);replace U':=tR U' hb;have I':=hid (hk.here);obtain⟨k,n,t,a,c,m,o,hq⟩:=(I'.out).form;subst hq;clear hb hcs h1 hk;go_upto_region 3 with(refine sV 93 7 15 (ic k n t (.slice a c m) o) (size93 rfl) (ic_one ..) ?_;intro w_7 hb hk);replace S':=hid (S'.out.kp hb);replace I':=hid (I'.out.kp hb);replace U':=tR U' hb;have X':=hid hk;clear hb hk;go_wp2_with (refine lQ 93 7 X'.out ?_);refine(rprev1_any e HEO.out _ w_7 I'.out).mono ?_;rintro e w_12 ⟨rfl,hb⟩;replace S':=hid (S'.out.kp hb);replace I':=hid (I'.out.kp hb);replace X':=hid (X'.out.kp hb);replace U':=tR U' hb;clear hb;go_upto_region 6 with(refine sV 34 10 25 (ec e) (size34 rfl) (ec_one _) ?_;intro w_17 hb hk);replace S':=hid (S'.out.kp hb);replace I':=hid (I'.out.kp hb);replace X':=hid (X'.out.kp hb);replace U':=tR U' hb;have R':=hid hk;clear hb hk;go_wp2_with (first|refine sR 34 4 30 (w.heap.size) (ec e) S'.out (size34 rfl) (ec_one _) ?_|refine lQ 34 10 R'.out ?_);have hu9:=upd_setRow w_17 (w.heap.size) (ec e);have hb9:=hu9.below (U'.out).size (fun k e=>by rw[e];first|exact Nat.le_refl _|omega);exact bodyPost_ret (rU ((S'.out).row _)) rfl ⟨rfl,(U'.out).trans (hb9.mono (Nat.le_refl _))⟩
theorem rprev_any (e:Eid)(h:e.ok)(w:World):
 Rv 189 #[.string (st (enc (eitm e)))] w (.tuple #[.agg (ec e),.int .i64 0]):=by
 have HEO:=hid h;clear h;have hz34:=zero34;obtain⟨w1,HE,U0,S'⟩:=mH1 w (ec eZ) 34;go_enter Tryz.func189,Tryz.ntmps189;go_upto_region 1 with(fail);rw[←HE.out];clear HE;go_wp2_with fail;refine(rprev2_any e HEO.out w1).mono ?_;rintro e w_1 ⟨rfl,hb⟩;replace S':=hid (S'.out.kp hb);have U':=tR U0 hb;clear U0;clear hb;go_wp2_with (refine sR 34 2 6 (w.heap.size) (ec e) S'.out (size34 rfl) (ec_one _) ?_);have hu9:=upd_setRow w_1 (w.heap.size) (ec e);have hb9:=hu9.below (U'.out).size (fun k e=>by rw[e];first|exact Nat.le_refl _|omega);exact bodyPost_ret (rU ((S'.out).row _)) rfl ⟨rfl,(U'.out).trans (hb9.mono (Nat.le_refl _))⟩
theorem rage_r (X n:Nat)(w:World)(Q:QT)(hn:n≤1099511627776)(k0:w.cell? ⟨X,0,none⟩=some (.int .i64 0))(k1:w.cell? ⟨X,1,none⟩=some (.int .u64 n))
 (hQ:∀(y4 y5 y6 y7 y8 y9 y10 y11 y12 y13:Value),Q .normal ⟨(x0::.pointer (some ⟨X,0,none⟩)::.int .u64 n::.bool true::y4::y5::y6::y7::y8::y9::y10::y11::y12::y13::[]).toArray,[]⟩ w.drew):
 Code.wp Tryz.prog (rg Tryz.f260 1) Q ⟨(x0::.pointer (some ⟨X,0,none⟩)::x2::x3::x4::x5::x6::x7::x8::x9::x10::x11::x12::x13::[]).toArray,[]⟩ w:=by
 have HQ:=hid hQ;clear hQ;have HU0:=hid (below_drew (Below.refl w.heap.size w));have hn0:(n:Int)≤1099511627776:=by omega
 clear hn;conv=>arg 2;whnf
 refine wp_region_T (S:=fun w'=>w'.cell? ⟨X,0,none⟩=some (.int .i64 0)∧w'.cell? ⟨X,1,none⟩=some (.int .u64 n)) (fun _=>false) (by kernel_rfl) ⟨k0,k1⟩ (fun hHeld=>?_);refine t2 0 ?_;refine t2 1 ?_;refine t2 2 ?_;refine t2 3 ?_;refine t2 4 ?_;refine t2 5 ?_;refine t2 6 ?_;refine t2 7 ?_;refine t2 8 ?_;refine t2 9 ?_;refine t2 10 ?_;refine t2 11 ?_;exact dN (HQ.out _ _ _ _ _ _ _ _ _ _)
theorem rage1_any (n:Nat)(hn:n≤1099511627776)(cs:Array Value)(w:World)(hi:IsI w cs (.num n)):
 Rv 260 #[.agg cs] w (.tuple #[.int .u64 n,.bool true]):=by
 rw[IsI]at hi;subst hi;have HN:=hid hn;clear hn;obtain⟨w1,HE,U0,X'⟩:=mH1 w (ic 0 n [] nS false) 93;go_enter Tryz.func260,Tryz.ntmps260;go_upto_region 1 with(fail);rw[←HE.out];clear HE;obtain⟨x0,x1,-,-,-⟩:=five X'.out;rw[show((0:Nat):Int)=0 from rfl]at x0;refine ent (C:=rg Tryz.f260 1) (by kernel_rfl) ?_;refine rage_r w.heap.size n _ _ HN.out x0 x1 ?_;intro y4 y5 y6 y7 y8 y9 y10 y11 y12 y13;have U9:=hid (below_drew U0.out);clear x0 x1;go_wp2_with fail;refine bodyPost_ret (v:= .tuple #[.int .u64 n,.bool true]) (by simp[results,Tryz.results260,go_sem]) rfl ⟨rfl,U9.out⟩
theorem rage2_any (n0:Nat)(hn:n0≤1099511627776)(w:World):
 Rv 259 #[.string (st (enc (.num n0))),.func (.func 260) #[] #[]] w (.tuple #[.int .u64 n0,.int .i64 0]):=by
 have HN:=hid hn;clear hn;have hz93:=zero93;have U0:=hid (Below.refl w.heap.size w);go_enter Tryz.func259,Tryz.ntmps259;go_wp2_with fail;refine(parse_any (.num n0) w (show 1≤8 by decide) (show n0<18446744073709551616 by have:=HN.out;omega) (Nat.le_trans (num_len n0) (by decide))).mono ?_;rintro e w_1 ⟨cs,rfl,hcs,h1,hb,hk⟩;have U':=tR U0 hb;clear U0;have I':=hid (hk.here);obtain⟨k,n,t,a,c,m,o,hq⟩:=(I'.out).form;subst hq;clear hb hcs h1 hk;go_upto_region 3 with(refine sV 93 7 15 (ic k n t (.slice a c m) o) (size93 rfl) (ic_one ..) ?_;intro w_4 hb hk);replace I':=hid (I'.out.kp hb);replace U':=tR U' hb;have X':=hid hk;clear hb hk;go_wp2_with (refine lQ 93 7 X'.out ?_);refine(rage1_any n0 HN.out _ w_4 I'.out).mono ?_;rintro e w_8 ⟨rfl,hb⟩;replace I':=hid (I'.out.kp hb);replace X':=hid (X'.out.kp hb);replace U':=tR U' hb;clear hb;go_wp2_with fail;refine bodyPost_ret (v:= .tuple #[.int .u64 n0,.int .i64 0]) (by simp[results,Tryz.results259,go_sem]) rfl ⟨rfl,U'.out⟩
theorem rage_any (n0:Nat)(hn:n0≤1099511627776)(w:World):
 Rv 190 #[.string (st (enc (.num n0)))] w (.tuple #[.int .u64 n0,.int .i64 0]):=by
 have HN:=hid hn;clear hn;have U0:=hid (Below.refl w.heap.size w);go_enter Tryz.func190,Tryz.ntmps190;go_wp2_with fail;refine(rage2_any n0 HN.out w).mono ?_;rintro e w_1 ⟨rfl,hb⟩;have U':=tR U0 hb;clear U0;clear hb;go_wp2_with fail;refine bodyPost_ret (v:= .tuple #[.int .u64 n0,.int .i64 0]) (by simp[results,Tryz.results190,go_sem]) rfl ⟨rfl,U'.out⟩
end
section
open Go.RowKit
variable {x0 x1 x2 x3 x4 x5 x6 x7 x8 x9 x10 x11 x12 x13 x14 x15 x16 x17 x18 x19 x20 x21 x22 x23 x24 x25 x26 x27 x28 x29 x30 x31 x32 x33 x34 x35 x36 x37 x38 x39 x40 x41 x42 x43 x44 x45 x46 x47 x48 x49 x50 x51 x52:Value} {r:List Value}
theorem rhops_r3 (X bb off cap c:Nat)(w:World)(Q:QT)(hc:c≤255)(hcap:2≤cap)(k3:w.cell? ⟨X,3,none⟩=some (.slice (some ⟨bb,off,none⟩) 2 cap))(r1:w.cell? ⟨bb,off+1,none⟩=some (.int .u64 30))(r2:w.cell? ⟨bb,off+5+1,none⟩=some (.int .u64 c))
 (hQ:∀(y35 y36 y37 y38 y39 y40 y41 y42 y43 y44 y45 y46 y47 y48 y49:Value) (H:Nat) (w6:World),Below w.heap.size w w6→w.heap.size≤H→At w6 H (.cells (hpc 30 c) 251)→Q .normal ⟨(x0::.pointer (some ⟨X,0,none⟩)::x2::x3::.pointer (some ⟨H,0,none⟩)::x5::x6::x7::x8::x9::x10::x11::x12::x13::x14::x15::x16::x17::x18::x19::x20::x21::x22::x23::x24::x25::x26::x27::x28::x29::x30::x31::x32::x33::x34::y35::y36::y37::y38::y39::y40::y41::y42::y43::y44::y45::y46::y47::y48::y49::r).toArray,[]⟩ w6):
 Code.wp Tryz.prog (rg Tryz.f208 3) Q ⟨(x0::.pointer (some ⟨X,0,none⟩)::x2::x3::x4::x5::x6::x7::x8::x9::x10::x11::x12::x13::x14::x15::x16::x17::x18::x19::x20::x21::x22::x23::x24::x25::x26::x27::x28::x29::x30::x31::x32::x33::x34::x35::x36::x37::x38::x39::x40::x41::x42::x43::x44::x45::x46::x47::x48::x49::r).toArray,[]⟩ w:=by
 have HQ:=hid hQ;clear hQ;conv=>arg 2;whnf
 refine reg (fun w'=>w'.cell? ⟨X,3,none⟩=some (.slice (some ⟨bb,off,none⟩) 2 cap)∧w'.cell? ⟨bb,off+1,none⟩=some (.int .u64 30)∧w'.cell? ⟨bb,off+5+1,none⟩=some (.int .u64 c)) (fun _=>false) (fun w' hu=>have h:=upd_of_below (S:=fun _=>False) hu;⟨h.cell k3 (fun h=>h),h.cell r1 (fun h=>h),h.cell r2 (fun h=>h)⟩) fun HS HU0 hHeld=>?_;have hz:=zero251;have hb9:=built251 30 c;rw[show((30:Nat):Int)=30 from rfl]at hb9;have hm1:min (30:Int) 256=30:=rfl;have hm2:min (c:Int) 256=(c:Int):=by omega
 have hw1:IntKind.i64.wrap 30=30:=rfl;have hw2:IntKind.i64.wrap (c:Int)=(c:Int):=by rw[IntKind.wrap_i64];omega
 have hcap0:(2:Int)≤(cap:Int):=by omega
 clear k3 r1 r2 hc hcap;refine t2 0 ?_;refine t2 1 ?_;refine t2 2 ?_;refine t2 3 ?_;refine t2 4 ?_;refine t2 5 ?_;refine t2 6 ?_;refine t2 7 ?_;refine t2 8 ?_;refine t2 9 ?_;refine t2 10 ?_;refine t2 11 ?_;refine t2 12 ?_;refine t2 13 ?_;refine t2 14 ?_;refine rd1 15 rfl fun K hK=>?_;go_simp;refine aD ?_;intro w1 hb hnew;have HU1:=tR HU0 hb;have H1:=hid hnew;clear hb hnew;refine kK hK (HS.out _ HU1.out) fun hHeld=>?_;try simp only[Act.put,fr]
 refine rd1 16 rfl fun K hK=>?_;refine wp_store_row 251 (.tmp 4) (.tmp 49) rfl (w.heap.size) (hpc 30 c) rfl rfl 251 _ H1.out (size251 rfl) rfl (hpc_one ..) ?_;have HU2:=hid (show Below w.heap.size w ((w1).setRow w.heap.size (hpc 30 c))from HU1.out.trans ((upd_setRow (w1) (w.heap.size) (hpc 30 c)).below HU1.out.size (fun k e=>by rw[e];exact HU0.out.size)));have HB:=hid (show At ((w1).setRow w.heap.size (hpc 30 c)) (w.heap.size) (.cells (hpc 30 c) 251)from At.row H1.out _);refine kK hK (HS.out _ HU2.out) fun hHeld=>?_;try simp only[Act.put,fr]
 exact dN (HQ.out _ _ _ _ _ _ _ _ _ _ _ _ _ _ _ _ _ HU2.out HU0.out.size HB.out)
theorem rhops_r4 (H S c:Nat)(w:World)(Q:QT)(hc:c≤255)(hne:H≠S)(hH:At w H (.cells (hpc 30 c) 251))(hS:At w S (.cells (hpc 0 0) 251))
 (hQ:∀(y50 y51 y52:Value) (w6:World),Below w.heap.size w w6→At w6 S (.cells (hpc 0 0) 251)→Q .normal ⟨(x0::x1::.pointer (some ⟨S,0,none⟩)::.bool true::.pointer (some ⟨H,0,none⟩)::x5::x6::x7::x8::x9::x10::x11::x12::x13::x14::x15::x16::x17::x18::x19::x20::x21::x22::x23::x24::x25::x26::x27::x28::x29::x30::x31::x32::x33::x34::x35::x36::x37::x38::x39::x40::x41::x42::x43::x44::x45::x46::x47::x48::x49::y50::y51::y52::[]).toArray,[]⟩ (w6.setRow S (hpc 30 c))):
 Code.wp Tryz.prog (rg Tryz.f208 4) Q ⟨(x0::x1::.pointer (some ⟨S,0,none⟩)::x3::.pointer (some ⟨H,0,none⟩)::x5::x6::x7::x8::x9::x10::x11::x12::x13::x14::x15::x16::x17::x18::x19::x20::x21::x22::x23::x24::x25::x26::x27::x28::x29::x30::x31::x32::x33::x34::x35::x36::x37::x38::x39::x40::x41::x42::x43::x44::x45::x46::x47::x48::x49::x50::x51::x52::[]).toArray,[]⟩ w:=by
 have HQ:=hid hQ;clear hQ;have HU0:=hid (below_drew (Below.refl w.heap.size w));have HS:=hid (show ∀w',Below w.heap.size w w'→w'.rangeAt H 0 (hpc 30 c).toList from fun w' hu=>at_range (hH.kp hu));have HS2:=hid (show ∀(w':World) cs,Below w.heap.size w w'→(w'.setRow S cs).rangeAt H 0 (hpc 30 c).toList from fun w' cs hu=>at_range ((hH.kp hu).upd (upd_setRow w' S cs) hne));have hSh:=hid hS;have HC:=hid hc;clear hH hS hne hc;conv=>arg 2;whnf
 refine wp_region_T (S:=fun w'=>w'.rangeAt H 0 (hpc 30 c).toList) (fun _=>false) (by kernel_rfl) (HS.out _ HU0.out) (fun hHeld=>?_);refine u2 0 _ rfl (yQ 251 4 H (0) (hpc 30 c) (fun w h=>h)) ?_;refine u2 1 _ rfl (yQ 251 4 H (0) (hpc 30 c) (fun w h=>h)) ?_;refine rd1 2 rfl fun K hK=>?_;go_simp;(with_reducible refine(hmay_any c _ HC.out).mono ?_);rintro e w1 ⟨rfl,hb⟩;have HU1:=tR HU0 hb;clear hb;refine kK hK (HS.out _ HU1.out) fun hHeld=>?_;try simp only[Act.put,fr]
 refine rd1 3 rfl fun K hK=>?_;refine wp_store_row 251 (.tmp 2) (.tmp 50) rfl S (hpc 30 c) rfl rfl 251 _ (At.kp hSh.out HU1.out) (size251 rfl) rfl (hpc_one ..) ?_;refine hK.out _ _ (fun _=>HS2.out _ _ HU1.out) (fun hHeld=>?_);clear hK K;try simp only[Act.put,fr]
 refine t2 4 ?_;exact dN (HQ.out _ _ _ _ HU1.out (At.kp hSh.out HU1.out))
theorem hops_mem {w:World}{cs:Array Value}{c:Nat}(h:IsI w cs (hopsI c)):∃bb off cap,cs=ic 4 0 [] (.slice (some ⟨bb,off,none⟩) 2 cap) false∧2≤cap∧w.rangeAt bb off (ic 0 30 [] nS false).toList∧w.rangeAt bb (off+5) (ic 0 c [] nS false).toList:=by
 unfold hopsI at h;rw[IsI]at h;obtain⟨a,cap,rfl,hc,hl⟩:=h;obtain⟨bb,off,ea,hL⟩:=hl.resolve_left (by simp);subst ea;rw[IsL]at hL;obtain⟨⟨x1,_,q1,e1⟩,hL⟩:=hL;rw[IsL]at hL;obtain⟨⟨x2,_,q2,e2⟩,_⟩:=hL;rw[IsI]at e1 e2;subst e1 e2;exact⟨bb,off,cap,rfl,hc,q1,q2⟩
theorem rhops1_any (c:Nat)(hc:c≤255)(cs:Array Value)(w:World)(hi:IsI w cs (hopsI c)):
 Rv 208 #[.agg cs] w (.tuple #[.agg (hpc 30 c),.bool true]):=by
 have HC:=hid hc;obtain⟨bb,off,cap,rfl,hcap,r1,r2⟩:=hops_mem hi;have HR:=hid (And.intro r1 r2);have HP:=hid hcap;have hcap0:(2:Int)≤(cap:Int):=by omega
 clear hi hcap hc r1 r2;have hz251:=zero251;obtain⟨w1,HE,U0,X',S'⟩:=mH2 w (ic 4 0 [] (.slice (some ⟨bb,off,none⟩) 2 cap) false) 93 (hpc 0 0) 251;go_enter Tryz.func208,Tryz.ntmps208;go_upto_region 1 with(fail);rw[←HE.out];clear HE;have q1:=cells5 (range_keep U0.out HR.out.1 (range_lt HR.out.1 (by simp[ic])));have q2:=cells5 (range_keep U0.out HR.out.2 (range_lt HR.out.2 (by simp[ic])));obtain⟨a0,a1,-,-,-⟩:=q1;obtain⟨b0,b1,-,-,-⟩:=q2;rw[show((0:Nat):Int)=0 from rfl]at a0 b0;rw[show((30:Nat):Int)=30 from rfl]at a1;obtain⟨x0,-,-,x3,x4⟩:=five X'.out;rw[show((4:Nat):Int)=4 from rfl]at x0;go_upto_region 3 with(fail);clear x0 x4 a0 b0;refine ent (C:=rg Tryz.f208 3) (by kernel_rfl) ?_;refine rhops_r3 w.heap.size bb off cap c _ _ HC.out HP.out x3 a1 b1 ?_;intro y35 y36 y37 y38 y39 y40 y41 y42 y43 y44 y45 y46 y47 y48 y49 H w6 hb h1 h2;have HL:=hid (show w.heap.size+1<w1.heap.size from(S'.out).lt);replace X':=hid (X'.out.kp hb);replace S':=hid (S'.out.kp hb);have U':=tR U0 hb;clear U0;have H':=hid (h2);have HL2:=hid (show w.heap.size+1<H from by have:=HL.out;omega);clear hb h1 h2 x3 a1 b1;go_upto_region 4 with(fail);refine ent (C:=rg Tryz.f208 4) (by kernel_rfl) ?_;refine rhops_r4 H (w.heap.size+1) c _ _ HC.out (by have:=HL2.out;omega) H'.out S'.out ?_;intro y50 y51 y52 w7 hb hS;have HS7:=hid hS;have U7:=hid ((U'.out).trans (hb.mono (U'.out).size));have HV:=hid (upd_setRow w7 (w.heap.size+1) (hpc 30 c));clear hb hS;go_wp2_with fail;exact bodyPost_ret (rU (HS7.out.row _)) rfl ⟨rfl,U7.out.trans (HV.out.below U7.out.size (fun k e=>by rw[e];omega))⟩
theorem rhops2_any (n0:Nat)(hn:n0≤255)(w:World):
 Rv 207 #[.string (st (enc (hopsI n0))),.func (.func 208) #[] #[]] w (.tuple #[.agg (hpc 30 n0),.int .i64 0]):=by
 have HN:=hid hn;clear hn;have hz93:=zero93;have hz251:=zero251;obtain⟨w1,HE,U0,S'⟩:=mH1 w (hpc 0 0) 251;go_enter Tryz.func207,Tryz.ntmps207;go_upto_region 1 with(fail);rw[←HE.out];clear HE;go_upto_region 2 with(fail);show Code.wp _ _ _ _ (World.alloc w1 (.cells (hpc 0 0) 251));obtain⟨w2,he,hb,hZ⟩:=mk1 w1 (hpc 0 0) 251;rw[←he];clear he;replace S':=hid (S'.out.kp hb);have U':=tR U0 hb;clear U0;clear hb hZ;go_wp2_with fail;refine(parse_any (hopsI n0) w2 (by rw[hopsI_deep];decide) (hopsI_wf n0 (by have:=HN.out;omega)) (Nat.le_trans (hopsI_len n0) (by decide))).mono ?_;rintro e w_3 ⟨cs,rfl,hcs,h1,hb,hk⟩;replace S':=hid (S'.out.kp hb);replace U':=tR U' hb;have I':=hid (hk.here);obtain⟨k,n,t,a,c,m,o,hq⟩:=(I'.out).form;subst hq;clear hb hcs h1 hk;go_upto_region 3 with(refine sV 93 7 15 (ic k n t (.slice a c m) o) (size93 rfl) (ic_one ..) ?_;intro w_7 hb hk);replace S':=hid (S'.out.kp hb);replace I':=hid (I'.out.kp hb);replace U':=tR U' hb;have X':=hid hk;clear hb hk;go_wp2_with (refine lQ 93 7 X'.out ?_);refine(rhops1_any n0 HN.out _ w_7 I'.out).mono ?_;rintro e w_12 ⟨rfl,hb⟩;replace S':=hid (S'.out.kp hb);replace I':=hid (I'.out.kp hb);replace X':=hid (X'.out.kp hb);replace U':=tR U' hb;clear hb;go_upto_region 6 with(refine sV 251 10 25 (hpc 30 n0) (size251 rfl) (hpc_one ..) ?_;intro w_17 hb hk);replace S':=hid (S'.out.kp hb);replace I':=hid (I'.out.kp hb);replace X':=hid (X'.out.kp hb);replace U':=tR U' hb;have R':=hid hk;clear hb hk;go_wp2_with (first|refine sR 251 4 30 (w.heap.size) (hpc 30 n0) S'.out (size251 rfl) (hpc_one ..) ?_|refine lQ 251 10 R'.out ?_);have hu9:=upd_setRow w_17 (w.heap.size) (hpc 30 n0);have hb9:=hu9.below (U'.out).size (fun k e=>by rw[e];first|exact Nat.le_refl _|omega);exact bodyPost_ret (rU ((S'.out).row _)) rfl ⟨rfl,(U'.out).trans (hb9.mono (Nat.le_refl _))⟩
theorem rhops_any (n0:Nat)(hn:n0≤255)(w:World):
 Rv 150 #[.string (st (enc (hopsI n0)))] w (.tuple #[.agg (hpc 30 n0),.int .i64 0]):=by
 have HN:=hid hn;clear hn;have hz251:=zero251;obtain⟨w1,HE,U0,S'⟩:=mH1 w (hpc 0 0) 251;go_enter Tryz.func150,Tryz.ntmps150;go_upto_region 1 with(fail);rw[←HE.out];clear HE;go_wp2_with fail;refine(rhops2_any n0 HN.out w1).mono ?_;rintro e w_1 ⟨rfl,hb⟩;replace S':=hid (S'.out.kp hb);have U':=tR U0 hb;clear U0;clear hb;go_wp2_with (refine sR 251 2 6 (w.heap.size) (hpc 30 n0) S'.out (size251 rfl) (hpc_one ..) ?_);have hu9:=upd_setRow w_1 (w.heap.size) (hpc 30 n0);have hb9:=hu9.below (U'.out).size (fun k e=>by rw[e];first|exact Nat.le_refl _|omega);exact bodyPost_ret (rU ((S'.out).row _)) rfl ⟨rfl,(U'.out).trans (hb9.mono (Nat.le_refl _))⟩
def XOk (x:Blk5):Prop:=x.typ=1∨(x.typ=6∧∃e:Eid,e.ok∧x.data=enc (eitm e))∨(x.typ=7∧∃n,n≤1099511627776∧x.data=enc (.num n))∨(x.typ=10∧∃c,c≤255∧x.data=enc (hopsI c))
theorem xright1_any (x:Blk5)(h:XOk x)(w:World):
 Rv 125 #[.agg (blc x)] w (.int .i64 0):=by
 have HX:=hid h;clear h;obtain⟨w1,HE,U0,B_0⟩:=mH1 w (blc x) 136;go_enter Tryz.func125,Tryz.ntmps125;go_upto_region 1 with(fail);rw[←HE.out];clear HE;obtain⟨b0,-,-,-,b4⟩:=blc_cells B_0.out;rcases HX.out with ht|⟨ht,e,he,hd⟩|⟨ht,n,hn,hd⟩|⟨ht,c,hc,hd⟩
 · rw[ht]at b0;clear ht;go_wp2_with fail;go_ret;exact⟨rfl,U0.out⟩
 · rw[ht]at b0;rw[hd]at b4;have HEE:=hid he;clear ht hd he HX;go_wp2_with fail;refine(rprev_any e HEE.out w1).mono ?_;rintro e w_1 ⟨rfl,hb⟩;have B_2:=hid (B_0.out.kp hb);have U_3:=tR U0 hb;clear B_0 U0;clear hb b0 b4;go_wp2_with fail;go_ret;exact⟨rfl,U_3.out⟩
 · rw[ht]at b0;rw[hd]at b4;have HEE:=hid hn;clear ht hd hn HX;go_wp2_with fail;refine(rage_any n HEE.out w1).mono ?_;rintro e w_1 ⟨rfl,hb⟩;have B_2:=hid (B_0.out.kp hb);have U_3:=tR U0 hb;clear B_0 U0;clear hb b0 b4;go_wp2_with fail;go_ret;exact⟨rfl,U_3.out⟩
 · rw[ht]at b0;rw[hd]at b4;have HEE:=hid hc;clear ht hd hc HX;go_wp2_with fail;refine(rhops_any c HEE.out w1).mono ?_;rintro e w_1 ⟨rfl,hb⟩;have B_2:=hid (B_0.out.kp hb);have U_3:=tR U0 hb;clear B_0 U0;clear hb b0 b4;go_wp2_with fail;go_ret;exact⟨rfl,U_3.out⟩
theorem xRight_any (b:Bun)(hx:∀x∈b.l,XOk x)(g off cap:Nat)(w:World)(hn:b.l.length≤8)(hc:b.l.length≤cap)(hr:RB w g off b.l):
 Rv 77 #[.agg (bv b g off cap)] w (.int .i64 0):=by
 have HO:=hid hx;have HR:=hid hr;have HC:=hid hc;have hn8:(b.l.length:Int)≤8:=by omega
 have hnc:(b.l.length:Int)≤(cap:Int):=by omega
 have hz136:=zero136;clear hx hr hc hn;obtain⟨w1,HE,U0,B'⟩:=mH1 w (bv b g off cap) 43;go_enter Tryz.func77,Tryz.ntmps77;go_upto_region 1 with(fail);rw[←HE.out];clear HE;obtain⟨-,-,-,-,-,-,-,-,-,-,-,-,-,-,-,-,-,-,-,c19⟩:=bunc_cells B'.out;go_wp2_with fail;go_loopw [9] (fun i wr=>∃j:Nat,j≤b.l.length∧i= .int .i64 j∧Below w.heap.size w wr) (fun i _=>b.l.length-(intOf i).toNat);case atStart=>exact⟨0,Nat.zero_le _,rfl,U0.out⟩
 case round=>
  obtain⟨j,hj,rfl,hu⟩:=hrel;have U9:=hid hu;clear hu;by_cases hjl:j<b.l.length
  · have HJ:=hid hjl;have hj0:(j:Int)<(b.l.length:Int):=by omega
    have rj:=(RB.kp HR.out U9.out).at j hjl;have HXO:=hid (HO.out _ (List.getElem_mem hjl));generalize hx:b.l[j]=x at*;have HX:=hid hx;clear hx hjl hj;go_upto_region 4 with(first|(refine sV 136 4 12 (blc x) (size136 rfl) (blc_one _) ?_;intro w_1 hb hk)|refine wpList_load_mid rfl 136 (.tmp 11) rfl g (off+j*5) (by first|rfl|simp[Act.eval]) (blc x).toList _ rj Tryz.underlying136 rfl i136 ?_);have U':=tR U9 hb;clear U9;have X':=hid hk;clear hb hk;clear rj;go_wp2_with (refine lQ 136 4 X'.out ?_);refine(xright1_any x HXO.out w_1).mono ?_;rintro e w_4 ⟨rfl,hb⟩;replace X':=hid (X'.out.kp hb);replace U':=tR U' hb;clear hb;go_wp2_with fail;go_roundw;case rel=>exact⟨j+1,by have:=HJ.out;omega,by go_num,U'.out⟩
    case measure=>simp[intOf];have:=HJ.out;omega
  · have hj9:¬(j:Int)<(b.l.length:Int):=by omega
    go_wp2_with fail;go_ret;exact⟨rfl,U9.out⟩
theorem lived_any (b:Bun)(g off cap:Nat)(now q:Nat)(x:Blk5)(hf:fnd b.l 7=(x,true))(hd:x.data=enc (.num q))(hq:q≤1099511627776)(w:World)(hn:b.l.length≤8)(hc:b.l.length≤cap)(hr:RB w g off b.l):
 Rv 128 #[.agg (bv b g off cap),.int .u64 now] w (.int .u64 q):=by
 have HF:=hid (And.intro hf (And.intro hd hq));clear hf hd hq;have HR:=hid hr;have HN:=hid (And.intro hn hc);clear hr hn hc;have hz136:=zero136;obtain⟨w1,HE,U0,B'⟩:=mH1 w (bv b g off cap) 43;go_enter Tryz.func128,Tryz.ntmps128;go_upto_region 1 with(fail);rw[←HE.out];clear HE;go_wp2_with (refine lQ 43 2 B'.out ?_);refine(bfind_k b g off cap 7 7 rfl w1 HN.out.1 HN.out.2 (RB.kp HR.out U0.out)).mono ?_;rintro e w_1 ⟨rfl,hb⟩;replace B':=hid (B'.out.kp hb);have U':=tR U0 hb;clear U0;clear hb;rw[HF.out.1];go_upto_region 2 with(refine sV 136 5 12 (blc x) (size136 rfl) (blc_one _) ?_;intro w_4 hb hk);replace B':=hid (B'.out.kp hb);replace U':=tR U' hb;have X':=hid hk;clear hb hk;obtain⟨-,-,-,-,x4⟩:=blc_cells X'.out;rw[HF.out.2.1]at x4;go_wp2_with fail;refine(rage_any q HF.out.2.2 w_4).mono ?_;rintro e w_8 ⟨rfl,hb⟩;replace B':=hid (B'.out.kp hb);replace X':=hid (X'.out.kp hb);replace U':=tR U' hb;clear hb x4;go_wp2_with fail;go_ret;exact⟨rfl,U'.out⟩
theorem expired_r (B g off cap now q:Nat)(b:Bun)(x:Blk5)(w:World)(Q:QT)(hf:fnd b.l 7=(x,true))(hd:x.data=enc (.num q))(hq:q≤1099511627776)(hn:b.l.length≤8)(hc:b.l.length≤cap)(hB:At w B (.cells (bv b g off cap) 43))(hr:RB w g off b.l)
 (hQ:∀(y5 y6 y7 y8 y9 y10 y11:Value) (w6:World),Below w.heap.size w w6→Q .normal ⟨(x0::.int .u64 now::.pointer (some ⟨B,0,none⟩)::x3::.bool (decide (b.p.life<q))::y5::y6::y7::y8::y9::y10::y11::[]).toArray,[]⟩ w6):
 Code.wp Tryz.prog (rg Tryz.f79 1) Q ⟨(x0::.int .u64 now::.pointer (some ⟨B,0,none⟩)::x3::x4::x5::x6::x7::x8::x9::x10::x11::[]).toArray,[]⟩ w:=by
 have HQ:=hid hQ;clear hQ;conv=>arg 2;whnf
 refine reg (fun w'=>w'.rangeAt B 0 (bv b g off cap).toList∧w'.cell? ⟨B,16,none⟩=some (.int .u64 b.p.life)) (fun _=>false) (fun w' hu=>⟨at_range (hB.kp hu),by rw[cell_of_row _ _ _ _ 43 (0,0) (hB.kp hu)];rfl⟩) fun HS HU0 hHeld=>?_;have HF:=hid (And.intro hf (And.intro hd (And.intro hq (And.intro hn (And.intro hc hr)))));clear hB hf hd hq hn hc hr;refine u2 0 _ rfl (yQ 43 2 B (0) (bv b g off cap) (fun w h=>h.1)) ?_;refine t2 1 ?_;refine t2 3 ?_;refine t2 4 ?_;refine t2 5 ?_;refine rd1 2 rfl fun K hK=>?_;go_simp;(with_reducible refine(lived_any b g off cap now q x HF.out.1 HF.out.2.1 HF.out.2.2.1 _ HF.out.2.2.2.1 HF.out.2.2.2.2.1 (RB.kp HF.out.2.2.2.2.2 HU0.out)).mono ?_);rintro e w1 ⟨rfl,hb⟩;have HU1:=tR HU0 hb;clear hb;refine kK hK (HS.out _ HU1.out) fun hHeld=>?_;try simp only[Act.put,fr]
 refine t2 6 ?_;refine t2 7 ?_;exact dN (HQ.out _ _ _ _ _ _ _ _ HU1.out)
theorem expired_any (b:Bun)(g off cap:Nat)(now q:Nat)(x:Blk5)(hf:fnd b.l 7=(x,true))(hd:x.data=enc (.num q))(hq:q≤1099511627776)(w:World)(hn:b.l.length≤8)(hc:b.l.length≤cap)(hr:RB w g off b.l):
 Rv 79 #[.agg (bv b g off cap),.int .u64 now] w (.bool (decide (b.p.life<q))):=by
 have HF:=hid (And.intro hf (And.intro hd hq));clear hf hd hq;have HR:=hid hr;have HN:=hid (And.intro hn hc);clear hr hn hc;obtain⟨w1,HE,U0,B'⟩:=mH1 w (bv b g off cap) 43;go_enter Tryz.func79,Tryz.ntmps79;go_upto_region 1 with(fail);rw[←HE.out];clear HE;refine ent (C:=rg Tryz.f79 1) (by kernel_rfl) ?_;refine expired_r w.heap.size g off cap now q b x _ _ HF.out.1 HF.out.2.1 HF.out.2.2 HN.out.1 HN.out.2 B'.out (RB.kp HR.out U0.out) ?_;intro y5 y6 y7 y8 y9 y10 y11 w6 hb;have U6:=hid ((U0.out).trans (hb.mono (U0.out).size));clear hb;go_wp2_with fail;go_ret;exact⟨rfl,U6.out⟩
end
section
open Go.RowKit
def Fam.by (f:Fam)(i:Nat):Fam:={ f with prev:=some i }
def Fam.aged (f:Fam)(ms:Nat):Fam:={ f with age:=f.age+ms }
def Fam.hop (f:Fam):Fam:={ f with hops:=f.hops.map (·+1) }
def hopsO (crc:Nat):Option Nat→Blk5×Bool
 |none=>(kZ,false)
 |some c=>(hopsB crc c,true)
theorem fam_len (f:Fam):f.l.length≤4:=by
 obtain⟨p,crc,age,hops,prev,data⟩:=f;rcases hops with _|c<;>rcases prev with _|i<;>simp[Fam.l,Fam.pre]
theorem fam_age (f:Fam):fnd f.l 7=(ageB f.crc f.age,true):=by
 obtain⟨p,crc,age,hops,prev,data⟩:=f;simp[Fam.l,Fam.pre,fnd,ageB]
theorem fam_hops (f:Fam):fnd f.l 10=hopsO f.crc f.hops:=by
 obtain⟨p,crc,age,hops,prev,data⟩:=f;rcases hops with _|c<;>rcases prev with _|i<;>simp[Fam.l,Fam.pre,fnd,ageB,hopsB,prevB,payB,hopsO]
theorem fam_prev (f:Fam):fnd f.l 6=match f.prev with|none=>(kZ,false)|some i=>(prevB f.pnum i,true):=by
 obtain⟨p,crc,age,hops,prev,data⟩:=f;rcases hops with _|c<;>rcases prev with _|i<;>simp[Fam.l,Fam.pre,Fam.pnum,fnd,ageB,hopsB,prevB,payB]
theorem fam_at2 (f:Fam):atN f.l 2=((0:Nat):Int):=by
 obtain⟨p,crc,age,hops,prev,data⟩:=f;simp[Fam.l,Fam.pre,atN,Lib.idxBy,Lib.idxByFrom,ageB]
theorem fam_at3 (f:Fam)(c:Nat)(h:f.hops=some c):atN f.l 3=((1:Nat):Int):=by
 obtain⟨p,crc,age,hops,prev,data⟩:=f;subst h;simp[Fam.l,Fam.pre,atN,Lib.idxBy,Lib.idxByFrom,ageB,hopsB]
def Fam.pidx (f:Fam):Nat:=f.pnum-2
theorem fam_atp (f:Fam)(i:Nat)(h:f.prev=some i):atN f.l f.pnum=(f.pidx:Int):=by
 obtain⟨p,crc,age,hops,prev,data⟩:=f;subst h;rcases hops with _|c<;>simp[Fam.l,Fam.pre,Fam.pidx,Fam.pnum,atN,Lib.idxBy,Lib.idxByFrom,ageB,hopsB,prevB]
theorem fam_free (f:Fam)(h:f.prev=none):(∀m,2≤m→m<f.pnum→0≤atN f.l m)∧atN f.l f.pnum<0∧2≤f.pnum∧f.pnum≤100:=by
 obtain⟨p,crc,age,hops,prev,data⟩:=f;subst h;rcases hops with _|c
 · refine⟨fun m h1 h2=>?_,?_,by simp[Fam.pnum],by simp[Fam.pnum]⟩
   · obtain rfl:m=2:=by have:m<3:=h2;omega
     rw[fam_at2];decide
   · simp[Fam.l,Fam.pre,Fam.pnum,atN,Lib.idxBy,Lib.idxByFrom,ageB,hopsB,prevB,payB]
 · refine⟨fun m h1 h2=>?_,?_,by simp[Fam.pnum],by simp[Fam.pnum]⟩
   · have h2:m<4:=h2;rcases(show m=2∨m=3 by omega)with rfl|rfl
     · rw[fam_at2];decide
     · rw[fam_at3 _ c rfl];decide
   · simp[Fam.l,Fam.pre,Fam.pnum,atN,Lib.idxBy,Lib.idxByFrom,ageB,hopsB,prevB,payB]
theorem fam_setAge (f:Fam)(n:Nat):f.l.set 0 (ageB f.crc n)=({ f with age:=n }:Fam).l:=by
 obtain⟨p,crc,age,hops,prev,data⟩:=f;simp[Fam.l,Fam.pre,Fam.pnum]
theorem fam_setHops (f:Fam)(c:Nat)(h:f.hops=some c)(n:Nat):f.l.set 1 (hopsB f.crc n)=({ f with hops:=some n }:Fam).l:=by
 obtain⟨p,crc,age,hops,prev,data⟩:=f;subst h;simp[Fam.l,Fam.pre,Fam.pnum]
theorem fam_setPrev (f:Fam)(i:Nat)(h:f.prev=some i)(n:Nat):f.l.set f.pidx (prevB f.pnum n)=(f.by n).l:=by
 obtain⟨p,crc,age,hops,prev,data⟩:=f;subst h;rcases hops with _|c<;>simp[Fam.l,Fam.pre,Fam.pidx,Fam.pnum,Fam.by]
theorem fam_pidx (f:Fam)(i:Nat)(h:f.prev=some i):f.pidx<f.l.length:=by
 obtain⟨p,crc,age,hops,prev,data⟩:=f;subst h;rcases hops with _|c<;>simp[Fam.l,Fam.pre,Fam.pidx,Fam.pnum]
theorem fam_put (f:Fam)(h:f.prev=none)(n:Nat):f.pre++[prevB f.pnum n,payB f.crc f.data]=(f.by n).l:=by
 obtain⟨p,crc,age,hops,prev,data⟩:=f;subst h;rcases hops with _|c<;>simp[Fam.l,Fam.pre,Fam.pnum,Fam.by]
theorem fam_pre (f:Fam)(h:f.prev=none):(f.hops=none∧f.pre.length=1)∨(f.hops≠none∧f.pre.length=2):=by
 obtain⟨p,crc,age,hops,prev,data⟩:=f;subst h;rcases hops with _|c<;>simp[Fam.pre]
theorem fam_x (f:Fam)(h:f.ok):∀x∈f.l,XOk x:=by
 have h1:=h.age;have h2:=h.hops;have h3:=h.prev;obtain⟨p,crc,age,hops,prev,data⟩:=f;have k1:XOk (ageB crc age):= .inr (.inr (.inl ⟨rfl,age,h1,rfl⟩));have k2:∀c,hops=some c→XOk (hopsB crc c):=fun c e=> .inr (.inr (.inr ⟨rfl,c,h2 c e,rfl⟩));have k3:∀n i,prev=some i→XOk (prevB n i):=fun n i e=> .inr (.inl ⟨rfl,nd i,ipn_ok (nd_ipn i (h3 i e)),rfl⟩);have k4:XOk (payB crc data):= .inl rfl;intro x hx;rcases hops with _|c<;>rcases prev with _|i<;>simp only[Fam.l,Fam.pre,List.nil_append,List.append_nil,List.cons_append,List.mem_cons,List.not_mem_nil,or_false]at hx
 · rcases hx with rfl|rfl<;>assumption
 · rcases hx with rfl|rfl|rfl
   · exact k1
   · exact k3 _ i rfl
   · exact k4
 · rcases hx with rfl|rfl|rfl
   · exact k1
   · exact k2 c rfl
   · exact k4
 · rcases hx with rfl|rfl|rfl|rfl
   · exact k1
   · exact k2 c rfl
   · exact k3 _ i rfl
   · exact k4
structure Fam.can (f:Fam) (ms:Nat):Prop where
 ok:f.ok
 age:f.age+ms≤1099511627776
 hops:∀c,f.hops=some c→c<30
theorem Fam.by_ok {f:Fam}(h:f.ok)(i:Nat)(hi:i≤100):(f.by i).ok:=⟨h.p,h.time,h.crc,h.age,h.hops,fun j e=>by injection e with e;omega,h.data⟩
theorem Fam.aged_ok {f:Fam}(h:f.ok)(ms:Nat)(hm:f.age+ms≤1099511627776):(f.aged ms).ok:=⟨h.p,h.time,h.crc,hm,h.hops,h.prev,h.data⟩
theorem Fam.hop_ok {f:Fam}(h:f.ok)(hh:∀c,f.hops=some c→c<30):f.hop.ok:=⟨h.p,h.time,h.crc,h.age,fun c e=>by
 have e:f.hops.map (·+1)=some c:=e;obtain⟨d,hd,rfl⟩:=Option.map_eq_some_iff.1 e;have:=hh d hd;omega,h.prev,h.data⟩
end
end Go.Proofs.YtlhlmflacdeafaaGreatDoor
