/-
  A part of the walk of TopReports.
-/
import Derived.Test.YtlhlmflacdeafaaGreatDoorT28
set_option maxRecDepth 100000
set_option maxHeartbeats 4000000
set_option linter.unusedVariables false
set_option linter.unusedSimpArgs false
namespace Go.Proofs.YtlhlmflacdeafaaGreatDoor
section
open Go.Conc Go.RowKit
theorem tgiven (n W i:Nat)(L:Nat→Nd)(out:Value)(Φ:Value→World→Prop)(w:World)(hO:WOk n W L out w)(hi:i<n)(hn:n≤4)(hcall:∀u,Below w.heap.size w u→Calls Tryz.prog 31 #[.pointer (some ⟨(L i).A,0,none⟩)] u fun e u'=>∃v,e= .returned v∧Φ v u'):
 Calls Tryz.prog 11 #[.pointer (some ⟨W,0,none⟩),.int .i64 i] w fun e_ w'=>∃v,e_= .returned v∧Φ v w':=by
 have HO:=hid hO;have HI:=hid (And.intro hi hn);have HCL:=hid hcall;have hnil:∀(q:Addr) (W:World),(binOp .eql 86 (.pointer (some q)) (.pointer none)).run Tryz.prog W= .ok (.bool false) W:=fun q W=>rfl;clear hO hi hn hcall;have U0:=hid (Below.refl w.heap.size w);go_enter Tryz.func11,Tryz.ntmps11;go_wp2_with fail;refine(Agent_any n W i L out w (HO.out.kp U0.out) HI.out.1 HI.out.2).mono ?_;rintro e_ w_1 ⟨rfl,hb⟩;have U':=tR U0 hb;clear U0;clear hb;go_wp2_with fail;refine(HCL.out w_1 U'.out).mono ?_;rintro e_ w9 ⟨v,rfl,hps⟩;have HPS:=hid hps;clear hps;go_wp2_with fail;go_ret;exact⟨v,rfl,HPS.out⟩
theorem bun19 {w:World}{b:Nat}{p:Prim}{l:Value}(h:At w b (.cells (bunc p l) 43)):w.cell? ⟨b,19,none⟩=some l:=by rw[cell_of_row _ _ _ _ 43 (0,0) h];rfl
theorem pay40 (p:Prim)(q k:Nat)(d:List UInt8)(w:World)(hq:w.cell? ⟨q,14,none⟩=some (.string (st d)))(hk:3≤k):
 Rv 40 #[.agg (bunc p (.slice (some ⟨q,0,none⟩) 3 k))] w (.string (st d)):=by
 have HQ:=hid hq;have hk0:(3:Int)≤(k:Int):=by omega
 clear hq hk;obtain⟨w1,HE,U0,B'⟩:=mH1 w (bunc p (.slice (some ⟨q,0,none⟩) 3 k)) 43;go_enter Tryz.func40,Tryz.ntmps40;go_upto_region 1 with(fail);rw[←HE.out];clear HE;have x19:=bun19 B'.out;have xq:w1.cell? ⟨q,14,none⟩=some (.string (st d)):=(World.cell?_of_block ((U0.out).block q (cell_lt HQ.out))).trans HQ.out;go_wp2_with fail;go_ret;exact⟨rfl,U0.out⟩
theorem pay17 (p:Prim)(q k:Nat)(d:List UInt8)(w:World)(hq:w.cell? ⟨q,14,none⟩=some (.string (st d)))(hk:3≤k):
 Rv 17 #[.agg (bunc p (.slice (some ⟨q,0,none⟩) 3 k))] w (.string (st d)):=by
 have HQ:=hid hq;have HK:=hid hk;clear hq hk;obtain⟨w1,HE,U0,B'⟩:=mH1 w (bunc p (.slice (some ⟨q,0,none⟩) 3 k)) 43;go_enter Tryz.func17,Tryz.ntmps17;go_upto_region 1 with(fail);rw[←HE.out];clear HE;have xq:w1.cell? ⟨q,14,none⟩=some (.string (st d)):=(World.cell?_of_block ((U0.out).block q (cell_lt HQ.out))).trans HQ.out;have HX:=hid xq;clear xq;go_wp2_with (refine lQ 43 1 B'.out ?_);refine(pay40 p q k d w1 HX.out HK.out).mono ?_;rintro e w_1 ⟨rfl,hb⟩;replace B':=hid (B'.out.kp hb);have U':=tR U0 hb;clear U0;clear hb;go_wp2_with fail;go_ret;exact⟨rfl,U'.out⟩
theorem usr_can (a:Ag)(fl j li:Nat)(s:List UInt8)(hfl:fl=262144∨fl=0)(hi:a.i≤100)(hj:j≤100)(hn:a.now=100)(hq:a.seq=0)(hl:li≤1099511627776)(hs:s.length≤300):(usr a fl (nd j) (nd 0) li s).can 0:=by
 have hok:(usr a fl (nd j) (nd 0) li s).ok:=by
  refine⟨⟨?_,⟨rfl,rfl,by simp[usr,nd];omega,by simp[usr,nd]⟩,⟨rfl,rfl,by simp[usr,nd];omega,by simp[usr,nd]⟩,.inl ⟨rfl,rfl,by simp[usr,nd],by simp[usr,nd]⟩,?_,?_,hl⟩,?_,Nat.le_refl _,Nat.zero_le _,?_,?_,?_⟩
  · rcases hfl with rfl|rfl
    · exact .inl ⟨rfl,rfl⟩
    · exact .inr (.inl ⟨rfl,rfl⟩)
  · show a.now≤_;omega
  · show a.seq≤_;omega
  · show 1≤a.now;omega
  · intro c e;injection e with e;omega
  · intro c e;cases e
  · show s.length≤400;omega
 exact⟨hok,Nat.zero_le _,fun c e=>by injection e with e;omega⟩
def fA:Fam:=⟨⟨0,1,nd 1,nd 0,nd 0,100,0,9⟩,1,0,some 0,none,[104,105]⟩
def Q0 (k:Nat)(w0:World)(WB:Nat)(u:World):Prop:=∃L,(∀t,t<k→Fresh (L t).a t k)∧St w0 k WB L 0 [] nS u
def A1 (w0:World)(WB:Nat)(u:World):Prop:=∃L g2 cap2,(∀t,t<2→Fresh (L t).a t 2)∧
 St w0 2 WB (upa L 0 { (L 0).a with seq:=1,l1:=[.agg (wtc fA.p (.slice (some ⟨g2,0,none⟩) fA.l.length cap2) (nd 1) (L 0).a.now)] }) 0 [] nS u∧RB u g2 0 fA.l∧fA.l.length≤cap2∧∀t,t<2→(L t).hi≤g2
def A2 (w0:World)(WB:Nat)(u:World):Prop:=∃L xs2 v2 g4 c4 q4 k4,(L 1).a.giv= .slice (some ⟨g4,0,none⟩) 1 c4∧St w0 2 WB L 1 xs2 v2 u∧RB u q4 0 (fA.stg 0 0 3).l∧(fA.stg 0 0 3).l.length≤k4∧RG u g4 (bv (fA.stg 0 0 3).bun q4 0 k4).toList∧1≤c4
theorem fA_usr {L:Nat→Nd}(hf:Fresh (L 0).a 0 2):usr (L 0).a 0 (nd 1) (nd 0) 9 [104,105]=fA:=by
 obtain⟨h1,h2,h3,h4,-⟩:=hf;simp only[usr,fA,h1,h3,h4]
instance :Inhabited Nd:=⟨⟨0,0,0,default⟩⟩
theorem fA_can:fA.can 0:=usr_can { (default:Ag)with i:=0,now:=100,seq:=0 } 0 1 9 [104,105] (.inr rfl) (Nat.zero_le _) (by decide) rfl rfl (by decide) (by decide)
theorem aw0 (w:World):Calls Tryz.prog 9 #[.int .i64 2,.bool true,nS,.int .i64 0] w fun e w'=>∃WB,e= .returned (.pointer (some ⟨WB,0,none⟩))∧Q0 2 w WB w':=by
 refine(show Calls Tryz.prog 9 #[.int .i64 2,.bool true,nS,.int .i64 0] w _ from chain_any true 2 w (by decide) (by decide)).mono ?_;rintro e w' ⟨WB,L,rfl,h1,h2,h3⟩;have h:=St.start h1 h2 h3;exact⟨WB,rfl,_,h.2,h.1⟩
theorem aw1 {w0:World}{WB:Nat}(u:World)(h:Q0 2 w0 WB u):
 Calls Tryz.prog 14 #[.pointer (some ⟨WB,0,none⟩),.int .i64 0,.int .i64 1,.string ⟨#[104,105]⟩,.int .u64 0,.int .u64 9] u fun e w'=>e= .returned (.int .i64 0)∧A1 w0 WB w':=by
 obtain⟨L,hf,hS⟩:=h;have h0:=hf 0 (by decide);have hc:=run_send w0 2 WB 0 1 1 0 9 [104,105] L _ 0 [] u hS (by decide) (by decide) (by decide) (by decide) (by decide) h0.2.2.2.2.2.2.1 h0.2.2.2.1 (by decide) (by rw[fA_usr h0];exact fA_can.ok) (by rw[fA_usr h0];exact fA_can);rw[fA_usr h0]at hc;refine(show Calls Tryz.prog 14 #[.pointer (some ⟨WB,0,none⟩),.int .i64 0,.int .i64 1,.string ⟨#[104,105]⟩,.int .u64 0,.int .u64 9] u _ from hc).mono ?_;rintro e w' ⟨rfl,g2,cap2,h1,h2,h3,h4⟩;exact⟨rfl,L,g2,cap2,hf,h1,h2,h3,fun t ht=>Nat.le_trans (hS.hi t ht) h4⟩
theorem aw2 {w0:World}{WB:Nat}(u:World)(h:A1 w0 WB u):
 Calls Tryz.prog 15 #[.pointer (some ⟨WB,0,none⟩),.int .i64 5] u fun e w'=>e= .returned (.int .i64 1)∧A2 w0 WB w':=by
 obtain⟨L,g2,cap2,hf,hS,hr,hcp,hg⟩:=h;have h0:=hf 0 (by decide);have h1:=hf 1 (by decide);generalize hb1:({ (L 0).a with seq:=1,l1:=[.agg (wtc fA.p (.slice (some ⟨g2,0,none⟩) fA.l.length cap2) (nd 1) (L 0).a.now)] }:Ag)=b1 at hS;have E0:upa L 0 b1 0={ L 0 with a:=b1 }:=upa_at _ _ _;have E1:upa L 0 b1 1=L 1:=upa_ne _ _ (by decide);have hi1:b1.i=0:=by rw[←hb1];exact h0.1
 have hn1:b1.n=2:=by rw[←hb1];exact h0.2.1
 have hz1:b1.l0=[]:=by rw[←hb1];exact h0.2.2.2.2.2.1
 have hc:=run_flow w0 2 WB 0 1 0 5 _ _ nS { b1 with l1:=[] } (fA.stg 0 0 3) (fun u=>RB u g2 0 fA.l) u hS hr (fun u u' hb h=>h.kp hb) (.inl rfl) (by decide) (by decide) (by decide) (by decide) (by decide)
  (fun t ht hne=>by
   obtain rfl:t=1:=by omega
   rw[E1];exact⟨h1.2.2.2.2.2.1,h1.2.2.2.2.2.2.1⟩)
  hi1 hn1 ⟨hz1,rfl⟩
  (fun u2 hS2 hr2=>by
   obtain⟨ha,hai,han⟩:=hS2.wo.ag 0 (by decide);have hhi:=hS2.hi 0 (by decide);rw[E0]at ha hhi ⊢;have hpl:=poll_one _ _ _ b1 fA g2 cap2 0 (L 0).a.now (nd 1) u2 hhi ha hz1 (by rw[←hb1]) (by decide) fA_can (by rw[←hb1];rfl) (by decide) (hg 0 (by decide)) hcp hr2;have e:fA.stg b1.i 0 3=fA.stg 0 0 3:=by rw[hi1]
   rw[e]at hpl;exact hpl)
  (by rw[E1];exact h1.2.2.2.2.2.2.2) (by rw[E1];exact h1.2.2.2.2.1) (by decide) (fun v=>wants_c _ rfl rfl v) rfl (stg3_ok _ fA_can 0 (by decide) 0 (by decide))
 refine(show Calls Tryz.prog 15 #[.pointer (some ⟨WB,0,none⟩),.int .i64 5] u _ from hc).mono ?_;rintro e w' ⟨rfl,L2,out2,xs2,v9,g4,c4,q4,k4,r1,r2,r3,r4,r5,r6,r7⟩;exact⟨rfl,L2,xs2,out2,g4,c4,q4,k4,by rw[r2],r1,r4,r5,r6,r7⟩
theorem aw3 {w0:World}{WB:Nat}(u:World)(h:A2 w0 WB u):
 Calls Tryz.prog 11 #[.pointer (some ⟨WB,0,none⟩),.int .i64 1] u fun e w'=>∃g c,e= .returned (.slice (some ⟨g,0,none⟩) 1 c)∧Below w0.heap.size w0 w':=by
 obtain⟨L,xs2,v2,g4,c4,q4,k4,h1,h3,h4,h5,h6,h7⟩:=h;refine(tgiven 2 WB 1 L v2 (fun v u'=>(∃g c,v= .slice (some ⟨g,0,none⟩) 1 c)∧Below u.heap.size u u') u h3.wo (by decide) (by decide) (fun u2 hb=>?_)).mono ?_
 · refine(given_one (L 1).A g4 c4 q4 k4 (L 1).a (fA.stg 0 0 3).bun u2 ((h3.kp hb).wo.ag 1 (by decide)).1.ag h1 h7 ⟨range_of h6.1 (hb.block _ h6.2),Nat.lt_of_lt_of_le h6.2 hb.size⟩ (Nat.le_trans (fam_len _) (by decide)) h5 (h4.kp hb)).mono ?_;rintro e u' ⟨g,c,q3,k3,rfl,r1,-⟩;exact⟨_,rfl,⟨g,c,rfl⟩,hb.trans (r1.mono hb.size)⟩
 · rintro e w' ⟨v,rfl,⟨g,c,rfl⟩,r1⟩;exact⟨g,c,rfl,h3.fr.trans (r1.mono h3.fr.size)⟩
theorem awake_any (w:World):
 Rv 5 #[] w (.bool true):=by
 have hnil:∀(q:Addr) (W:World),(binOp .eql 28 (.pointer (some q)) (.pointer none)).run Tryz.prog W= .ok (.bool false) W:=fun q W=>rfl;have H0:=hid (aw0 w);have H1:=hid (fun WB u h=>aw1 (w0:=w) (WB:=WB) u h);have H2:=hid (fun WB u h=>aw2 (w0:=w) (WB:=WB) u h);have H3:=hid (fun WB u h=>aw3 (w0:=w) (WB:=WB) u h);go_enter Tryz.func5,Tryz.ntmps5;go_wp2_with fail;refine H0.out.mono ?_;rintro e_ v1 ⟨WB,rfl,hq⟩;have HQ0:=hid (H1.out WB v1 hq);clear hq;go_wp2_with fail;refine HQ0.out.mono ?_;rintro e_ v2 ⟨rfl,hq⟩;have HQ1:=hid (H2.out WB v2 hq);clear hq;go_wp2_with fail;refine HQ1.out.mono ?_;rintro e_ v3 ⟨rfl,hq⟩;have HQ2:=hid (H3.out WB v3 hq);clear hq;go_wp2_with fail;refine HQ2.out.mono ?_;rintro e_ v4 ⟨g,c,rfl,hb⟩;have HB:=hid hb;clear hb;go_wp2_with fail;go_ret;exact⟨rfl,HB.out⟩
end
section
open Go.Conc Go.RowKit
variable {x0 x1 x2 x3 x4 x6 x7 x8 x9 x10 x11 x12 x13 x14 x15 x16 x17 x18 x19 x20 x21 x22 x23 x24 x25 x26 x27 x28 x29 x30 x31 x32 x33 x34 x35 x36 x37 x38 x39 x40 x41 x42 x43 x44 x45 x46 x47 x48 x49 x50 x51 x52 x53 x54 x55 x56 x57 x58 x59 x60 x61 x62 x63 x64 x65 x66 x67 x68 x69 x70 x71 x72 x73 x74 x75 x76 x77 x78:Value} {r:List Value}
theorem digits_100 (w:World):Rv 95 #[.int .u64 100,.int .i64 1] w (.string (st [b8 100])):=by
 have hcv:=one_text (w.alloc (.cells #[.int .u8 ((100:Nat):Int)] 5)) 100 (by decide) w.heap.size (heap_new w _);have HU:=hid ((Below.refl w.heap.size w).alloc (Nat.le_refl _) (.cells #[.int .u8 ((100:Nat):Int)] 5));rw[show((100:Nat):Int)=100 from rfl]at hcv HU;go_enter Tryz.func95,Tryz.ntmps95;go_wp2_with fail;refine wp_loop_rounds 2 ?_;rw[rounds_succ];go_wp2_with fail;rw[rounds_succ];go_wp2_with fail;go_ret;exact⟨rfl,HU.out⟩
theorem rhd_small (m n:Nat)(w:World)(hm:m<8)(hn:n<24):
 Rv 58 #[.int .i64 m,.int .u64 n] w (.string (st (hd m n))):=by
 have hm1:(m:Int)<8:=by omega
 have hn0:(n:Int)<24:=by omega
 have HH:=hid (show hd m n=[b8 (32*m+n)]from by unfold hd;rw[if_pos hn]);obtain⟨c,hc⟩:∃c,c=32*m:=⟨_,rfl⟩;have hcm:32*(m:Int)=(c:Int):=by omega
 have hcl:(c:Int)<256:=by omega
 rw[←hc]at HH;have hcn:c+n<256:=by omega
 obtain⟨d,hd⟩:∃d,d=c+n:=⟨_,rfl⟩;have hdc:(c:Int)+(n:Int)=(d:Int):=by omega
 have hdl:(d:Int)<256:=by omega
 rw[←hd]at HH hcn;have hcv:=one_text (w.alloc (.cells #[.int .u8 (d:Nat)] 5)) d hcn w.heap.size (heap_new w _);have HU:=hid ((Below.refl w.heap.size w).alloc (Nat.le_refl _) (.cells #[.int .u8 (d:Nat)] 5));clear hm hn hc hcn hd;go_enter Tryz.func58,Tryz.ntmps58;go_wp2_with fail;go_ret;exact⟨by rw[HH.out];rfl,HU.out⟩
theorem sadd (a b:List UInt8)(h:a.length+b.length≤2000)(w:World):(binOp .add 9 (.string (st a)) (.string (st b))).run Tryz.prog w= .ok (.string (st (a++b))) w:=by
 have happ:=st_app a b;have h1:=st_size a;have h2:=st_size b;have h3:(a.length:Int)+(b.length:Int)≤2000:=by omega
 go_simp;omega
theorem seql (s:ByteArray)(w:World):(binOp .neq 9 (.string s) (.string s)).run Tryz.prog w= .ok (.bool false) w:=by
 go_simp
def gotc (k m n:Nat):Array Value:=#[.int .i64 k,.int .i64 m,.int .u64 n,.bool false]
theorem gotc_one (k m n:Nat):(gotc k m n).all (·.oneCell')=true:=by simp[gotc,Value.oneCell']
theorem size129 {cs:Array Value}(h:cs.size=4):(Tryz.prog.info? 129).map (·.size)=some cs.size:=by rw[h];kernel_rfl
theorem zero129 (w:World):(zeroValue 129).run Tryz.prog w= .ok (.agg (gotc 0 0 0)) w:=by kernel_rfl
theorem below_drewN {B:Nat}{w w':World}(h:Below B w w')(n:Nat):Below B w (w'.drewN n):=⟨h.os,h.tape,h.output,h.size,h.block⟩
theorem rhd_r5 (w:World)(Q:QT)
 (hQ:∀(y19 y20 y21 y22 y23 y24 y25:Value) (w6:World),Below w.heap.size w w6→Q .normal ⟨(x0::.int .u64 100::x2::x3::.string (st ([b8 24]++[b8 100]))::.int .u8 0::x6::x7::x8::x9::x10::x11::x12::x13::x14::x15::x16::x17::x18::y19::y20::y21::y22::y23::y24::y25::r).toArray,[]⟩ w6):
 Code.wp Tryz.prog (rg Tryz.f58 5) Q ⟨(x0::.int .u64 100::x2::x3::x4::.int .u8 0::x6::x7::x8::x9::x10::x11::x12::x13::x14::x15::x16::x17::x18::x19::x20::x21::x22::x23::x24::x25::r).toArray,[]⟩ w:=by
 have HQ:=hid hQ;clear hQ;have HU0:=hid (below_drew (Below.refl w.heap.size w));have HS:=hid (show ∀w':World,Below w.heap.size w w'→True from fun _ _=>trivial);have hwr:IntKind.u8.wrap 24=24:=rfl;conv=>arg 2;whnf
 refine wp_region_T (S:=fun _=>True) (fun _=>false) (by kernel_rfl) trivial (fun hHeld=>?_);refine t2 0 ?_;refine t2 1 ?_;refine t2 4 ?_;refine wpAnyT_ready (rs:=[2,5]) (by kernel_rfl) (by simp) ?_;refine AllReadyT.cons (o:=_) rfl (fun K hK=>?_) (by kernel_rfl) ?_
 · go_simp;refine aD ?_;intro w1 hb hnew;have HU1:=tR HU0 hb;have B1:=hid hnew;clear hb hnew;refine hK.out _ _ (fun _=>trivial) (fun hHeld=>?_);clear hK K;try simp only[Act.put,fr]
   refine wpAnyT_ready (rs:=[3,5]) (by kernel_rfl) (by simp) ?_;refine AllReadyT.cons (o:=_) rfl (fun K hK=>?_) (by kernel_rfl) ?_
   · have hcv:=one_text _ 24 (by decide) _ B1.out;go_simp;refine hK.out _ _ (fun _=>trivial) (fun hHeld=>?_);clear hK K;try simp only[Act.put,fr]
     refine rd1 5 rfl fun K hK=>?_;go_simp;(with_reducible refine(digits_100 _).mono ?_);rintro e w2 ⟨rfl,hb⟩;have HU2:=tR HU1 hb;have B2:=hid (B1.out.keep hb);clear hb;refine hK.out _ _ (fun _=>trivial) (fun hHeld=>?_);clear hK K;try simp only[Act.put,fr]
     refine u2 6 (.string (st ([b8 24]++[b8 100]))) rfl (Or.inl ⟨by rfl,?_⟩) ?_
     · intro w' hSw;go_split_ands;exact run_exec_binOp .add 9 _ _ _ (by rfl) _ _ _ (by rfl) (by rfl) (by rfl) (sadd [b8 24] [b8 100] (by decide) _)
     try simp only[Act.put,fr]
     refine t2 7 ?_;exact dN (HQ.out _ _ _ _ _ _ _ _ HU2.out)
   refine AllReadyT.cons (o:=_) rfl (fun K hK=>?_) (by kernel_rfl) AllReadyT.nil;go_simp;(with_reducible refine(digits_100 _).mono ?_);rintro e w2 ⟨rfl,hb⟩;have HU2:=tR HU1 hb;have B2:=hid (B1.out.keep hb);clear hb;refine hK.out _ _ (fun _=>trivial) (fun hHeld=>?_);clear hK K;try simp only[Act.put,fr]
   refine rd1 3 rfl fun K hK=>?_;have hcv:=one_text _ 24 (by decide) _ B2.out;go_simp;refine hK.out _ _ (fun _=>trivial) (fun hHeld=>?_);clear hK K;try simp only[Act.put,fr]
   refine u2 6 (.string (st ([b8 24]++[b8 100]))) rfl (Or.inl ⟨by rfl,?_⟩) ?_
   · intro w' hSw;go_split_ands;exact run_exec_binOp .add 9 _ _ _ (by rfl) _ _ _ (by rfl) (by rfl) (by rfl) (sadd [b8 24] [b8 100] (by decide) _)
   try simp only[Act.put,fr]
   refine t2 7 ?_;exact dN (HQ.out _ _ _ _ _ _ _ _ HU2.out)
 refine AllReadyT.cons (o:=_) rfl (fun K hK=>?_) (by kernel_rfl) AllReadyT.nil;go_simp;(with_reducible refine(digits_100 _).mono ?_);rintro e w1 ⟨rfl,hb⟩;have HU1:=tR HU0 hb;clear hb;refine hK.out _ _ (fun _=>trivial) (fun hHeld=>?_);clear hK K;try simp only[Act.put,fr]
 refine rd1 2 rfl fun K hK=>?_;go_simp;refine aL ?_;intro w2 hb hnew;have HU2:=tR HU1 hb;have B2:=hid hnew;clear hb hnew;refine hK.out _ _ (fun _=>trivial) (fun hHeld=>?_);clear hK K;try simp only[Act.put,fr]
 refine rd1 3 rfl fun K hK=>?_;have hcv:=one_text _ 24 (by decide) _ B2.out;go_simp;refine hK.out _ _ (fun _=>trivial) (fun hHeld=>?_);clear hK K;try simp only[Act.put,fr]
 refine u2 6 (.string (st ([b8 24]++[b8 100]))) rfl (Or.inl ⟨by rfl,?_⟩) ?_
 · intro w' hSw;go_split_ands;exact run_exec_binOp .add 9 _ _ _ (by rfl) _ _ _ (by rfl) (by rfl) (by rfl) (sadd [b8 24] [b8 100] (by decide) _)
 try simp only[Act.put,fr]
 refine t2 7 ?_;exact dN (HQ.out _ _ _ _ _ _ _ _ HU2.out)
theorem rhd_100 (w:World):
 Rv 58 #[.int .i64 0,.int .u64 100] w (.string (st (hd 0 100))):=by
 have U0:=hid (Below.refl w.heap.size w);go_enter Tryz.func58,Tryz.ntmps58;go_upto_region 5 with fail;refine ent (C:=rg Tryz.f58 5) (by kernel_rfl) ?_;refine rhd_r5 _ _ ?_;intro y19 y20 y21 y22 y23 y24 y25 w6 hb;have HB:=hid hb;clear hb;go_wp2_with fail;go_ret;exact⟨rfl,HB.out⟩
theorem rread_small (m n:Nat)(r:List UInt8)(w:World)(hm:m<8)(hn:n<24)(hl:r.length≤100000):
 Rv 53 #[.string (st (b8 (32*m+n)::r))] w (.agg (gotc 1 m n)):=by
 obtain⟨c,hc⟩:∃c,c=32*m+n:=⟨_,rfl⟩;rw[←hc];have hcl:c<256:=by omega
 have hq:(c:Int).tdiv 32=(m:Int):=by rw[Int.tdiv_eq_ediv_of_nonneg (by omega)];omega
 have hr:(c:Int).tmod 32=(n:Int):=by rw[Int.tmod_eq_emod_of_nonneg (by omega)];omega
 have hne:=st_ne (b8 c) r;have hem:=st_some (b8 c) r;have hne2:¬st (b8 c::r)=(⟨#[]⟩:ByteArray):=fun e=>by have:=congrArg ByteArray.size e;rw[st_size]at this;simp[ByteArray.size]at this
 have hat:=fun h=>st_cons (b8 c) r h;have hb8:=b8_toNat c hcl;have hsz:(st (b8 c::r)).size=r.length+1:=by rw[st_size];rfl
 have hl0:(r.length:Int)≤100000:=by omega
 have hm0:(m:Int)<8:=by omega
 have hn0:(n:Int)<24:=by omega
 have hcl0:(c:Int)<256:=by omega
 have hbu:Tryz.prog.built 129 [(0,.int .i64 1),(1,.int .i64 m),(2,.int .u64 n)]=some (gotc 1 m n):=by kernel_rfl
 clear hm hn hc hcl hl;have hz129:=zero129;obtain⟨w1,HE,U0,R'⟩:=mH1 w (gotc 0 0 0) 129;go_enter Tryz.func53,Tryz.ntmps53;go_upto_region 1 with(fail);rw[←HE.out];clear HE;go_upto_region 3 with fail;go_quiet (fail);have UD:=hid (below_drewN U0.out nq);have RD:=hid (show At (w1.drewN nq) w.heap.size (.cells (gotc 0 0 0) 129)from R'.out);generalize w1.drewN nq=wd at*;go_wp2_with (refine sR 129 2 24 w.heap.size (gotc 1 m n) RD.out (size129 rfl) (gotc_one ..) ?_);have hu9:=upd_setRow wd w.heap.size (gotc 1 m n);exact bodyPost_ret (rQ (RD.out.row _)) rfl ⟨rfl,UD.out.trans (hu9.below UD.out.size (fun k e=>by rw[e];exact Nat.le_refl _))⟩
theorem rread_r24 (s:ByteArray)(w:World)(Q:QT)(hex:s.extract 0 2=st (hd 0 100))(hz:(2:Int)≤(s.size:Int))(hz2:(s.size:Int)≤100002)
 (hQ:∀(y71 y72 y73 y74 y75 y76 y77:Value) (w6:World),Below w.heap.size w w6→Q .normal ⟨(.string s::x1::x2::.int .i64 0::x4::.int .i64 1::.int .u64 100::x7::x8::x9::x10::x11::x12::x13::x14::x15::x16::x17::x18::x19::x20::x21::x22::x23::x24::x25::x26::x27::x28::x29::x30::x31::x32::x33::x34::x35::x36::x37::x38::x39::x40::x41::x42::x43::x44::x45::x46::x47::x48::x49::x50::x51::x52::x53::x54::x55::x56::x57::x58::x59::x60::x61::x62::x63::x64::x65::x66::x67::x68::x69::x70::y71::y72::y73::y74::y75::y76::y77::.bool false::r).toArray,[]⟩ w6):
 Code.wp Tryz.prog (rg Tryz.f53 24) Q ⟨(.string s::x1::x2::.int .i64 0::x4::.int .i64 1::.int .u64 100::x7::x8::x9::x10::x11::x12::x13::x14::x15::x16::x17::x18::x19::x20::x21::x22::x23::x24::x25::x26::x27::x28::x29::x30::x31::x32::x33::x34::x35::x36::x37::x38::x39::x40::x41::x42::x43::x44::x45::x46::x47::x48::x49::x50::x51::x52::x53::x54::x55::x56::x57::x58::x59::x60::x61::x62::x63::x64::x65::x66::x67::x68::x69::x70::x71::x72::x73::x74::x75::x76::x77::x78::r).toArray,[]⟩ w:=by
 have HQ:=hid hQ;clear hQ;have HU0:=hid (below_drew (Below.refl w.heap.size w));have HS:=hid (show ∀w':World,Below w.heap.size w w'→True from fun _ _=>trivial);have hwr:IntKind.i64.wrap 2=2:=rfl;conv=>arg 2;whnf
 refine wp_region_T (S:=fun _=>True) (fun _=>false) (by kernel_rfl) trivial (fun hHeld=>?_);refine t2 0 ?_;refine t2 1 ?_;refine t2 3 ?_;refine t2 4 ?_;refine t2 5 ?_;refine u2 6 (.string (st (hd 0 100))) rfl (Or.inl ⟨by rfl,?_⟩) ?_
 · intro w' hSw;go_split_ands;go_simp;try rfl
 try simp only[Act.put,fr]
 refine rd1 2 rfl fun K hK=>?_;go_simp;(with_reducible refine(rhd_100 _).mono ?_);rintro e w1 ⟨rfl,hb⟩;have HU1:=tR HU0 hb;clear hb;refine hK.out _ _ (fun _=>trivial) (fun hHeld=>?_);clear hK K;try simp only[Act.put,fr]
 refine u2 7 (.bool false) rfl (Or.inl ⟨by rfl,?_⟩) ?_
 · intro w' hSw;go_split_ands;exact run_exec_binOp .neq 9 _ _ _ (by rfl) _ _ _ (by rfl) (by rfl) (by rfl) (seql _ _)
 try simp only[Act.put,fr]
 exact dN (HQ.out _ _ _ _ _ _ _ _ HU1.out)
theorem rread_100 (r:List UInt8)(w:World)(hl:r.length≤100000):
 Rv 53 #[.string (st (b8 24::b8 100::r))] w (.agg (gotc 2 0 100)):=by
 have hne:=st_ne (b8 24) (b8 100::r);have hem:=st_some (b8 24) (b8 100::r);have hne2:¬st (b8 24::b8 100::r)=(⟨#[]⟩:ByteArray):=fun e=>by have:=congrArg ByteArray.size e;rw[st_size]at this;simp[ByteArray.size]at this
 have hat:=fun h=>st_cons (b8 24) (b8 100::r) h;have hat1:∀h,(st (b8 24::b8 100::r))[1]'h=b8 100:=fun h=>rfl;have hb8:=b8_toNat 24 (by decide);have hb100:=b8_toNat 100 (by decide);have hsz:(st (b8 24::b8 100::r)).size=r.length+2:=by rw[st_size];rfl
 have HEX:=hid (show(st (b8 24::b8 100::r)).extract 0 2=st (hd 0 100)from st_mid3 [] [b8 24,b8 100] r 0 2 rfl rfl);have hl0:(r.length:Int)≤100000:=by omega
 have hbu:Tryz.prog.built 129 [(0,.int .i64 2),(1,.int .i64 0),(2,.int .u64 100)]=some (gotc 2 0 100):=by kernel_rfl
 clear hl;have hz129:=zero129;obtain⟨w1,HE,U0,R'⟩:=mH1 w (gotc 0 0 0) 129;go_enter Tryz.func53,Tryz.ntmps53;go_upto_region 1 with(fail);rw[←HE.out];clear HE;go_upto_region 3 with fail;go_quiet (fail);have UD:=hid (below_drewN U0.out nq);have RD:=hid (show At (w1.drewN nq) w.heap.size (.cells (gotc 0 0 0) 129)from R'.out);generalize w1.drewN nq=wd at*;go_wp2_with fail;refine wp_loop_rounds 2 ?_;rw[rounds_succ];go_wp2_with fail;rw[rounds_succ];go_upto_region 24 with fail;refine ent (C:=rg Tryz.f53 24) (by kernel_rfl) ?_;refine rread_r24 _ _ _ HEX.out (by rw[hsz];omega) (by rw[hsz];omega) ?_;intro y71 y72 y73 y74 y75 y76 y77 w6 hb;have U6:=tR UD hb;have R6:=hid (RD.out.kp hb);clear hb;go_wp2_with (refine sR 129 2 84 w.heap.size (gotc 2 0 100) R6.out (size129 rfl) (gotc_one ..) ?_);have hu9:=upd_setRow w6 w.heap.size (gotc 2 0 100);exact bodyPost_ret (rQ (R6.out.row _)) rfl ⟨rfl,U6.out.trans (hu9.below U6.out.size (fun k e=>by rw[e];exact Nat.le_refl _))⟩
end
section
open Go.Conc Go.RowKit
def Sn (n:Nat):Prop:=n<24∨n=100
mutual
/--Items of such numbers,in arrays of few. -/
def Sm:Itm→Prop
 | .num n=>Sn n
 | .str _=>False
 | .txt _=>False
 | .arr o l=>o=false∧l.length<24∧Sms l
def Sms:List Itm→Prop
 | []=>True
 |x::r=>Sm x∧Sms r
end
theorem sm_at:∀(l:List Itm) (i:Nat) (h:i<l.length),Sms l→Sm l[i]
 | [],_,h,_=>absurd h (by simp)
 |x::r,0,_,hw=>by rw[Sms]at hw;exact hw.1
 |x::r,i+1,h,hw=>by rw[Sms]at hw;exact sm_at r i (by simpa using h) hw.2
theorem got_cells {w:World}{G k m n:Nat}(h:At w G (.cells (gotc k m n) 129)):w.cell? ⟨G,0,none⟩=some (.int .i64 k)∧w.cell? ⟨G,1,none⟩=some (.int .i64 m)∧w.cell? ⟨G,2,none⟩=some (.int .u64 n)∧w.cell? ⟨G,3,none⟩=some (.bool false):=by
 refine⟨?_,?_,?_,?_⟩<;>(rw[cell_of_row _ _ _ _ 129 (0,0) h];rfl)
theorem hd_pos (m n:Nat):1≤(hd m n).length:=by
 unfold hd;repeat' split
 all_goals simp
theorem rread_any (m n:Nat)(r:List UInt8)(w:World)(h:(m<8∧n<24)∨(m=0∧n=100))(hl:r.length≤1000):
 Rv 53 #[.string (st (hd m n++r))] w (.agg (gotc (hd m n).length m n)):=by
 rcases h with⟨h1,h2⟩|⟨rfl,rfl⟩
 · have e:hd m n=[b8 (32*m+n)]:=by unfold hd;rw[if_pos h2]
   rw[e];exact rread_small m n r w h1 h2 (by omega)
 · exact rread_100 r w (by omega)
theorem rhd_any (m n:Nat)(w:World)(h:(m<8∧n<24)∨(m=0∧n=100)):
 Rv 58 #[.int .i64 m,.int .u64 n] w (.string (st (hd m n))):=by
 rcases h with⟨h1,h2⟩|⟨rfl,rfl⟩
 · exact rhd_small m n w h1 h2
 · exact rhd_100 w
theorem fault_num (s r:List UInt8)(a n d:Nat)(w:World)(hn:Sn n)(hdr:s.drop a=hd 0 n++r)(ha:a≤s.length)(hl:s.length≤1000)(hd1:1≤d)(hd8:d≤8):
 Rv 34 #[.string (st s),.int .i64 a,.int .i64 d] w (.tuple #[.int .i64 ((a:Int)+((hd 0 n).length:Int)),.int .i64 0]):=by
 generalize hr:r=r' at*;clear hr;have hr9:r'.length≤1000:=by have:=congrArg List.length hdr;simp at this;omega
 have hsz:=st_size s;have hex:=st_drop s a s.length rfl ha;rw[hdr]at hex;have HRD:=hid (fun w=>rread_any 0 n r' w (hn.imp (fun h=>⟨by decide,h⟩) (fun h=>⟨rfl,h⟩)) hr9);have hk1:=hd_pos 0 n;have hk2:=hd_len 0 n;generalize (hd 0 n).length=k at*;generalize hd 0 n++r'=q at*;have ha0:(a:Int)≤(s.length:Int):=by omega
 have hl0:(s.length:Int)≤1000:=by omega
 have hk0:¬(k:Int)=0:=by omega
 have hkb:((k:Int)==0)=false:=by simpa using hk0
 have hk9:(k:Int)≤9:=by omega
 have hk8:1≤(k:Int):=by omega
 have hd0:¬(d:Int)=0:=by omega
 have hdb:((d:Int)==0)=false:=by simpa using hd0
 have hd9:(d:Int)≤8:=by omega
 have hd2:1≤(d:Int):=by omega
 have hn9:(n:Int)≤100:=by rcases hn with h|h<;>omega
 clear hn hdr ha hl hd1 hd8 hr9 hk1 hk2;have hz129:=zero129;have U0:=hid (Below.refl w.heap.size w);go_enter Tryz.func34,Tryz.ntmps34;go_wp2_with fail;refine(HRD.out w).mono ?_;rintro e w_1 ⟨rfl,hb⟩;have U':=tR U0 hb;clear U0;clear hb;go_upto_region 2 with(refine sV 129 8 16 (gotc k 0 n) (size129 rfl) (gotc_one ..) ?_;intro w_3 hb hk);replace U':=tR U' hb;have G':=hid hk;clear hb hk;obtain⟨c0,c1,c2,c3⟩:=got_cells G'.out;rw[show((0:Nat):Int)=0 from rfl]at c1;clear hex hsz;go_wp2_with fail;go_ret2;exact⟨rfl,U'.out⟩
theorem fault_arr (s r:List UInt8)(l:List Itm)(a m d:Nat)(w:World)(hml:m=l.length)(hm:m<24)(hdr:s.drop a=(hd 4 m++encs l)++r)(ha:a≤s.length)(hl:s.length≤1000)(hd1:1≤d)(hd8:d≤8)(ih:∀(i:Nat) (h:i<l.length) (a:Nat) (r:List UInt8),s.drop a=enc l[i]++r→a≤s.length→∀w,Rv 34 #[.string (st s),.int .i64 a,.int .i64 ((d:Int)-1)] w (.tuple #[.int .i64 ((a:Int)+((enc l[i]).length:Int)),.int .i64 0])):
 Rv 34 #[.string (st s),.int .i64 a,.int .i64 d] w (.tuple #[.int .i64 ((a+(hd 4 m).length+(encs l).length:Nat):Int),.int .i64 0]):=by
 have HD:=hid (And.intro hdr (And.intro ha hl));have HI:=hid ih;have HDB:=hid (show s.drop (a+(hd 4 m).length)=encs l++r from drop_at (by rw[hdr,List.append_assoc]));have HLE:=hid (show a+(hd 4 m).length≤s.length from drop_le (u:=encs l++r) (by rw[hdr,List.append_assoc]) ha);rw[List.append_assoc]at hdr;generalize hr:encs l++r=r' at hdr;have HK:=hid (show(hd 4 m).length=(hd 4 m).length from rfl);obtain⟨k0,hk00⟩:∃k0,k0=(hd 4 m).length:=⟨_,rfl⟩;have HK0:=hid hk00;rw[←hk00]at HDB HLE;have hr9:r'.length≤1000:=by have:=congrArg List.length hdr;simp at this;omega
 have hsz:=st_size s;have hex:=st_drop s a s.length rfl ha;rw[hdr]at hex;have HRD:=hid (fun w=>rread_any 4 m r' w (.inl ⟨by decide,hm⟩) hr9);have hk1:=hd_pos 4 m;have hk2:=hd_len 4 m;generalize (hd 4 m).length=k at*;generalize hd 4 m++r'=q at*;have ha0:(a:Int)≤(s.length:Int):=by omega
 have hl0:(s.length:Int)≤1000:=by omega
 have hk0:¬(k:Int)=0:=by omega
 have hkb:((k:Int)==0)=false:=by simpa using hk0
 have hk9:(k:Int)≤9:=by omega
 have hk8:1≤(k:Int):=by omega
 have hd0:¬(d:Int)=0:=by omega
 have hdb:((d:Int)==0)=false:=by simpa using hd0
 have hd9:(d:Int)≤8:=by omega
 have hd2:1≤(d:Int):=by omega
 have HKK:=hid hk00;subst hk00;have hm9:(m:Int)<24:=by omega
 have HM:=hid (And.intro hml hm);clear hr hdr ha hl hd1 hd8 hr9 hk1 hk2 ih hm hml HK HK0 HKK;have hz129:=zero129;have U0:=hid (Below.refl w.heap.size w);go_enter Tryz.func34,Tryz.ntmps34;go_wp2_with fail;refine(HRD.out w).mono ?_;rintro e w_1 ⟨rfl,hb⟩;have U':=tR U0 hb;clear U0;clear hb;go_upto_region 2 with(refine sV 129 8 16 (gotc k0 4 m) (size129 rfl) (gotc_one ..) ?_;intro w_3 hb hk);replace U':=tR U' hb;have G':=hid hk;clear hb hk;obtain⟨c0,c1,c2,c3⟩:=got_cells G'.out;rw[show((4:Nat):Int)=4 from rfl]at c1;clear hex hsz;go_wp2_with fail;clear c0 c1 c2 c3;go_loopw [9,10] (fun ee kk wr=>∃j:Nat,j≤m∧kk= .int .i64 j∧ee= .int .i64 ((a+k0+(encs (l.take j)).length:Nat):Int)∧At wr (w_1.heap.size) (.cells (gotc k0 4 m) 129)∧Below w.heap.size w wr) (fun _ kk _=>m-(intOf kk).toNat);case atStart=>exact⟨0,Nat.zero_le _,rfl,by simp[encs],G'.out,U'.out⟩
 case round=>
  obtain⟨j,hj,rfl,rfl,hG,hu⟩:=hrel;obtain⟨c0,c1,c2,c3⟩:=got_cells hG;have U9:=hid hu;have G9:=hid hG;clear hu hG;by_cases hjm:j<m
  · have HJ:=hid hjm;have hj0:(j:Int)<(m:Int):=by omega
    have hj1:¬(j:Int)=1000:=by omega
    have hjl:j<l.length:=by have:=HM.out.1;omega
    have HJL:=hid hjl;have HC:=hid (HI.out j hjl (a+k0+(encs (l.take j)).length) _ (drop_item HDB.out j hjl) (drop_le_item HDB.out HLE.out j));have HEN:=hid (show(encs (l.take (j+1))).length=(encs (l.take j)).length+(enc l[j]).length by have h9:=congrArg List.length (enc_take l j hjl);rw[List.length_append]at h9;exact h9);generalize hy:l[j]=y at*;generalize hp:a+k0+(encs (l.take j)).length=p at*;have HPP:=hid hp;clear hj hjm hjl hy hp;go_wp2_with fail;clear c0 c1 c2 c3;refine(HC.out wr).mono ?_;rintro e w_501 ⟨rfl,hb⟩;replace G':=hid (G9.out.kp hb);replace U':=tR U9 hb;clear G9 U9;clear hb;go_wp2_with fail;go_roundw;case rel=>exact⟨j+1,by have:=HJ.out;omega,by go_num,by rw[HEN.out, ←Nat.add_assoc,HPP.out];go_num,G'.out,U'.out⟩
    case measure=>simp[intOf];have:=HJ.out;omega
  · have hj9:j=m:=by omega
    subst hj9;have hjb:¬(j:Int)<(j:Int):=by omega
    go_wp2_with fail;go_ret2;exact⟨by rw[show l.take j=l from by rw[HM.out.1,List.take_length]];rfl,U9.out⟩
theorem fault_any:∀(d:Nat) (x:Itm) (s r:List UInt8) (a:Nat) (w:World),Sm x→deep x≤d→d≤8→s.drop a=enc x++r→a≤s.length→s.length≤1000→
 Calls Tryz.prog 34 #[.string (st s),.int .i64 a,.int .i64 d] w fun e w'=>e= .returned (.tuple #[.int .i64 ((a:Int)+((enc x).length:Int)),.int .i64 0])∧Below w.heap.size w w'
 |d,.num n,s,r,a,w,hx,hd,h8,hdr,ha,hl=>by
  rw[enc]at hdr ⊢;exact fault_num s r a n d w hx hdr ha hl (by simpa[deep]using hd) h8
 |_,.str _,_,_,_,_,hx,_,_,_,_,_=>by rw[Sm]at hx;exact hx.elim
 |_,.txt _,_,_,_,_,hx,_,_,_,_,_=>by rw[Sm]at hx;exact hx.elim
 |0,.arr o l,_,_,_,_,_,hd,_,_,_,_=>absurd hd (by simp[deep])
 |d+1,.arr o l,s,r,a,w,hx,hdp,h8,hdr,ha,hl=>by
  rw[Sm]at hx;obtain⟨rfl,hm,hx⟩:=hx;rw[deep]at hdp;have he:enc (.arr false l)=hd 4 l.length++encs l:=by simp[enc]
  rw[he]at hdr ⊢;have h:=fault_arr s r l a l.length (d+1) w rfl hm hdr ha hl (by omega) h8 (fun i h a r h1 h2 w=>by
   have:=fault_any d l[i] s r a w (sm_at l i h hx) (Nat.le_trans (deep_at l i h) (by omega)) (by omega) h1 h2 hl;rw[show((d+1:Nat):Int)-1=(d:Int) by omega];exact this)
  have e2:((a+(hd 4 l.length).length+(encs l).length:Nat):Int)=(a:Int)+((hd 4 l.length++encs l).length:Int):=by rw[List.length_append];omega
  rw[e2]at h;exact h
end
section
open Go.Conc Go.RowKit
variable {x0 x1 x2 x3 x4 x6 x8 x9 x10 x11 x12 x13 x14 x15 x16 x17 x18 x19 x20 x21 x22 x23 x24 x25 x26 x27 x28 x29 x30 x31 x32 x33 x34 x35 x36 x37 x38 x39 x40 x41 x42 x43 x44 x45 x46 x47 x48 x49 x50 x51 x52 x53 x54 x55 x56 x57 x58 x59 x60 x61 x62 x63 x64 x65 x66 x67 x68 x69:Value} {r:List Value}
theorem ritem_num (n:Nat)(w:World)(hn:Sn n):
 Rv 35 #[.string (st (hd 0 n))] w (.agg (ic 0 n [] nS false)):=by
 have HRD:=hid (fun w=>rread_any 0 n [] w (hn.imp (fun h=>⟨by decide,h⟩) (fun h=>⟨rfl,h⟩)) (by decide));rw[List.append_nil]at HRD;generalize (hd 0 n).length=k at*;generalize hd 0 n=q at*;have hb:=built93n (n:Int);clear hn;have hz93:=zero93;have hz129:=zero129;obtain⟨w1,HE,U0,R'⟩:=mH1 w (ic 0 0 [] nS false) 93;go_enter Tryz.func35,Tryz.ntmps35;go_upto_region 1 with(fail);rw[←HE.out];clear HE;go_wp2_with fail;refine(HRD.out w1).mono ?_;rintro e w_1 ⟨rfl,hb⟩;replace R':=hid (R'.out.kp hb);have U':=tR U0 hb;clear U0;clear hb;go_upto_region 2 with(refine sV 129 3 10 (gotc k 0 n) (size129 rfl) (gotc_one ..) ?_;intro w_4 hb hk);replace R':=hid (R'.out.kp hb);replace U':=tR U' hb;have G':=hid hk;clear hb hk;obtain⟨c0,c1,c2,c3⟩:=got_cells G'.out;rw[show((0:Nat):Int)=0 from rfl]at c1;go_wp2_with (refine sR 93 2 16 (w.heap.size) (ic 0 n [] nS false) R'.out (size93 rfl) (ic_one ..) ?_);have hu9:=upd_setRow w_4 (w.heap.size) (ic 0 n [] nS false);have hb9:=hu9.below (U'.out).size (fun k e=>by rw[e];first|exact Nat.le_refl _|omega);exact bodyPost_ret (rQ ((R'.out).row _)) rfl ⟨rfl,(U'.out).trans (hb9.mono (Nat.le_refl _))⟩
theorem ritem_r (X p q k c B:Nat)(s y:List UInt8)(av:Option Addr)(xs:List Value)(F:Array Value→World→Prop)(w:World)(Q:QT)(hpq:p≤q)(hq:q≤s.length)(hs:s.length≤1000)(hk:k≤1000)(hX:∀q,av=some q→q.block≠X)
 (c0:w.cell? ⟨X,3,none⟩=some (.slice av k c))(hex:(st s).extract p q=st y)
 (hC:Calls Tryz.prog 35 #[.string (st y)] w.drew fun e w2=>∃cs:Array Value,e= .returned (.agg cs)∧cs.size=5∧cs.all (·.oneCell')=true∧w2.ownsRow B 93 5 (.slice av k c) k xs∧w2.cell? ⟨X,3,none⟩=some (.slice av k c)∧w2.frozen? ⟨X,3,none⟩=false∧B≤w2.heap.size∧F cs w2)
 (hQ:∀(y60 y61 y62 y63 y64 y65 y66 y67 y68 y69:Value) (cs:Array Value) (w2 w6:World) (g2 c2:Nat),F cs w2→cs.size=5→cs.all (·.oneCell')=true→w6.ownsRow B 93 5 (.slice (some ⟨g2,0,none⟩) (k+1) c2) (k+1) (xs++cs.toList)→(w2.alloc (.cells cs 93)).grownBy w6 (Value.slice av k c).ownBlock→((Value.slice av k c).ownBlock=some g2∨g2=w2.heap.size+1)→Q .normal ⟨(.string (st s)::x1::x2::x3::.pointer (some ⟨X,0,none⟩)::.int .i64 p::x6::.int .i64 q::x8::x9::x10::x11::x12::x13::x14::x15::x16::x17::x18::x19::x20::x21::x22::x23::x24::x25::x26::x27::x28::x29::x30::x31::x32::x33::x34::x35::x36::x37::x38::x39::x40::x41::x42::x43::x44::x45::x46::x47::x48::x49::x50::x51::x52::x53::x54::x55::x56::x57::x58::x59::y60::y61::y62::y63::y64::y65::y66::y67::y68::y69::r).toArray,[]⟩ (w6.setCell ⟨X,3,none⟩ (.slice (some ⟨g2,0,none⟩) (k+1) c2))):
 Code.wp Tryz.prog (rg Tryz.f35 12) Q ⟨(.string (st s)::x1::x2::x3::.pointer (some ⟨X,0,none⟩)::.int .i64 p::x6::.int .i64 q::x8::x9::x10::x11::x12::x13::x14::x15::x16::x17::x18::x19::x20::x21::x22::x23::x24::x25::x26::x27::x28::x29::x30::x31::x32::x33::x34::x35::x36::x37::x38::x39::x40::x41::x42::x43::x44::x45::x46::x47::x48::x49::x50::x51::x52::x53::x54::x55::x56::x57::x58::x59::x60::x61::x62::x63::x64::x65::x66::x67::x68::x69::r).toArray,[]⟩ w:=by
 have HQ:=hid hQ;clear hQ;have HU0:=hid (below_drew (Below.refl w.heap.size w));obtain⟨i0,hi,hz0,hz1,hz2⟩:=info_parts info93;have HI:=hid (And.intro hi (And.intro hz0 (And.intro hz1 hz2)));clear hi hz0 hz1 hz2;have HX:=hid hX;clear hX;have HC:=hid hC;clear hC;have hsz:=st_size s;have hp0:(p:Int)≤(q:Int):=by omega
 have hq0:(q:Int)≤(s.length:Int):=by omega
 have hs0:(s.length:Int)≤1000:=by omega
 conv=>arg 2;whnf
 refine wp_region_T (S:=fun w'=>w'.cell? ⟨X,3,none⟩=some (.slice av k c)) (fun j=>j==8||j==9||j==10) (by kernel_rfl) c0 (fun hHeld=>?_);refine t3 0 ?_;refine t3 1 ?_;refine t3 2 ?_;refine t3 3 ?_;refine t3 4 ?_;refine t3 5 ?_;refine rd1 6 rfl fun K hK=>?_;go_simp;(with_reducible refine HC.out.mono ?_);rintro e w2 ⟨cs,rfl,hcs,hone,hown,hcell,hfz,hB,hPhi⟩;have HH:=hid (And.intro hcs (And.intro hone (And.intro hown (And.intro hcell (And.intro hfz (And.intro hB hPhi))))));clear hcs hone hown hfz hB hPhi;refine hK.out _ _ (fun _=>hcell) (fun hHeld=>?_);clear hcell;clear hK K;try simp only[Act.put,fr]
 refine rd1 7 rfl fun K hK=>?_;obtain⟨v0,v1,v2,v3,v4,hv⟩:=five_of HH.out.1;rw[hv];go_simp;rw[←hv];refine hK.out _ _ (fun _=>(upd_alloc (fun _=>False) w2 (.cells cs 93)).cell HH.out.2.2.2.1 (fun h=>h)) (fun hHeld=>?_);clear hK K;try simp only[Act.put,fr]
 refine wpAnyT_ready (rs:=[8]) (by kernel_rfl) (by simp) ?_;refine AllReadyT.last (o:=_) rfl (fun K hK=>?_) (by kernel_rfl);refine step_append_lies _ (by rfl) (.tmp 61) (.tmp 67) 91 (by rfl) B 93 i0 (.agg (ic 0 0 [] nS false)) 5 64 Tryz.underlying91 HI.out.1 HI.out.2.1 HI.out.2.2.1 HI.out.2.2.2 ic_zero (by decide) (.slice av k c) k xs (by rfl) (HH.out.2.2.1.alloc (.cells cs 93)) ⟨w2.heap.size,0,none⟩ 1 1 cs.toList (by rfl) (by simp[HH.out.1]) (World.news_of_block (heap_new w2 (.cells cs 93))) (all_one HH.out.2.1) (by decide) (by unfold maxLen;omega) (by omega) (Nat.le_trans HH.out.2.2.2.2.2.1 (by rw[World.size_alloc];omega)) (w2.heap.size+1) (World.size_alloc _ _) ?_;intro g2 c2 w6 hown' hgrow hat hlt2;have hcx:(w2.alloc (.cells cs 93)).cell? ⟨X,3,none⟩=some (.slice av k c):=(upd_alloc (fun _=>False) w2 (.cells cs 93)).cell HH.out.2.2.2.1 (fun h=>h);have hXl:X<(w2.alloc (.cells cs 93)).heap.size:=cell_lt hcx;have hXg:some X≠(Value.slice av k c).ownBlock:=fun e=>by
  cases av with
  |none=>cases e
  |some q=>exact HX.out q rfl (by simpa[Value.ownBlock]using e.symm)
 have c6:w6.cell? ⟨X,3,none⟩=some (.slice av k c):=(hgrow.cell_far ⟨X,3,none⟩ hXl hXg).trans hcx;have f6:w6.frozen? ⟨X,3,none⟩=false:=(hgrow.frozen_far ⟨X,3,none⟩ hXl hXg).trans ((World.frozen?_of_block (heap_alloc_old w2 (.cells cs 93) (cell_lt HH.out.2.2.2.1))).trans HH.out.2.2.2.2.1);have HP:=hid (And.intro hown' (And.intro hgrow hat));refine hK.out _ _ ?_;clear hown' hgrow hat hlt2 hcx hXl hXg;clear hK K;try simp only[Act.put,fr]
 refine wpAnyT_take4 (i:=9) (oi:=_) (v:=?_) rfl (by kernel_rfl) (by kernel_rfl) (by kernel_rfl) (by rfl) (fun _ _ _ h=>h) (Or.inl ⟨by rfl,?_⟩) ?_;rotate_left
 · intro w' hSw;go_simp;try rfl
 try simp only[Act.put,fr]
 refine wpAnyT_ready (rs:=[10]) (by kernel_rfl) (by simp) ?_;refine AllReadyT.last (o:=_) rfl (fun K hK=>?_) (by kernel_rfl);go_simp;refine hK.out _ _ ?_;clear hK K;try simp only[Act.put,fr]
 exact dN (HQ.out _ _ _ _ _ _ _ _ _ _ cs w2 w6 g2 c2 HH.out.2.2.2.2.2.2 HH.out.1 HH.out.2.1 HP.out.1 HP.out.2.1 HP.out.2.2)
theorem ritem_arr (l:List Itm)(m:Nat)(w:World)(hml:m=l.length)(hm:m<24)(hl:(encs l).length≤900)(hsm:Sms l)(hdp:deeps l≤8)(ih:∀(i:Nat) (h:i<l.length) (w:World),Calls Tryz.prog 35 #[.string (st (enc l[i]))] w fun e w'=>∃cs:Array Value,e= .returned (.agg cs)∧cs.size=5∧cs.all (·.oneCell')=true∧Below w.heap.size w w'∧Keeps w.heap.size w'.heap.size w' fun w2=>IsI w2 cs l[i]):
 Calls Tryz.prog 35 #[.string (st (hd 4 m++encs l))] w fun e w'=>∃cs:Array Value,e= .returned (.agg cs)∧cs.size=5∧cs.all (·.oneCell')=true∧Below w.heap.size w w'∧Keeps w.heap.size w'.heap.size w' fun w2=>IsI w2 cs (.arr false l):=by
 have HI:=hid ih;have HRD:=hid (fun w=>rread_any 4 m (encs l) w (.inl ⟨by decide,hm⟩) (by omega));have HLEN:=hid (show(hd 4 m++encs l).length≤1000 by have:=hd_len 4 m;simp;omega);obtain⟨k0,hk00⟩:∃k0,k0=(hd 4 m).length:=⟨_,rfl⟩;obtain⟨s,hs⟩:∃s,s=hd 4 m++encs l:=⟨_,rfl⟩;have HDB:=hid (show s.drop k0=encs l++[]from by rw[hs,hk00,List.drop_left,List.append_nil]);have HLE:=hid (show k0≤s.length from by rw[hs,hk00,List.length_append];omega);rw[←hs]at HRD HLEN ⊢;rw[←hk00]at HRD;have hm9:(m:Int)<24:=by omega
 have HM:=hid (And.intro hml (And.intro hm (And.intro hsm hdp)));have hbo:=built93o false;clear hk00 hs hl hm hml ih hsm hdp;have hz93:=zero93;have hz129:=zero129;obtain⟨w1,HE,U0,R'⟩:=mH1 w (ic 0 0 [] nS false) 93;go_enter Tryz.func35,Tryz.ntmps35;go_upto_region 1 with(fail);rw[←HE.out];clear HE;go_wp2_with fail;refine(HRD.out w1).mono ?_;rintro e w_1 ⟨rfl,hb⟩;replace R':=hid (R'.out.kp hb);have U':=tR U0 hb;clear U0;clear hb;have HRL:=hid (R'.out).lt;go_upto_region 2 with(refine sV 129 3 10 (gotc k0 4 m) (size129 rfl) (gotc_one ..) ?_;intro w_4 hb hk);replace R':=hid (R'.out.kp hb);replace U':=tR U' hb;have G':=hid hk;clear hb hk;have HGP:=hid (G'.out).lt;obtain⟨c0,c1,c2,c3⟩:=got_cells G'.out;go_upto_region 7 with(refine sV 93 4 29 (ic 4 0 [] nS false) (size93 rfl) (ic_one ..) ?_;intro w_8 hb hk);replace R':=hid (R'.out.kp hb);replace G':=hid (G'.out.kp hb);replace U':=tR U' hb;have X':=hid hk;clear hb hk;clear hbo c0 c1 c2 c3;obtain⟨c0,c1,c2,c3⟩:=got_cells G'.out;generalize hgb:w_1.heap.size=GB at*;generalize hxb:w_4.heap.size=XB at*;have HPOS:=hid (show w.heap.size<GB∧GB<XB∧XB<w_8.heap.size from⟨HRL.out,HGP.out,(X'.out).lt⟩);go_wp2_with fail;clear c0 c1 c2 c3;go_loopw [5,6] (fun aa kk wr=>∃(j:Nat) (av:Option Addr) (c:Nat) (cs:List (Array Value)),j≤m∧kk= .int .u64 j∧aa= .int .i64 ((k0+(encs (l.take j)).length:Nat):Int)∧At wr XB (.cells (ic 4 0 [] (.slice av j c) false) 93)∧At wr GB (.cells (gotc k0 4 m) 129)∧At wr w.heap.size (.cells (ic 0 0 [] nS false) 93)∧Below w.heap.size w wr∧XB+1≤wr.heap.size∧wr.ownsRow (XB+1) 93 5 (.slice av j c) j (cs.flatMap (·.toList))∧Kids (XB+1) wr.heap.size (gOf av) wr cs (l.take j)) (fun _ kk _=>m-(intOf kk).toNat);case atStart=>exact⟨0,none,0,[],Nat.zero_le _,rfl,by simp[encs],X'.out,G'.out,R'.out,U'.out,HPOS.out.2.2,World.ownsRow_nil _ _ _ _,trivial⟩
 case round=>
  obtain⟨j,av,c,cs,hj,rfl,rfl,hX,hG,hT,hu,hsz,hrow,hkids⟩:=hrel;obtain⟨c0,c1,c2,c3⟩:=got_cells hG;obtain⟨x0,x1,x2,x3,x4⟩:=five hX;have HR:=hid (And.intro hX (And.intro hG (And.intro hT (And.intro hu (And.intro hsz (And.intro hrow hkids))))));clear hX hG hT hu hsz hrow hkids;by_cases hjm:j<m
  · have hj0:(j:Int)<(m:Int):=by omega
    have hjl:j<l.length:=by have:=HM.out.1;omega
    have HJ:=hid hjm;have HFC:=hid (fun(u:World)=>fault_any 8 l[j] s _ (k0+(encs (l.take j)).length) u (sm_at l j hjl HM.out.2.2.1) (Nat.le_trans (deep_at l j hjl) HM.out.2.2.2) (by decide) (drop_item HDB.out j hjl) (drop_le_item HDB.out HLE.out j) HLEN.out);have HEN:=hid (show(encs (l.take (j+1))).length=(encs (l.take j)).length+(enc l[j]).length by have h9:=congrArg List.length (enc_take l j hjl);rw[List.length_append]at h9;exact h9);have HEX:=hid (show(st s).extract (k0+(encs (l.take j)).length) (k0+(encs (l.take j)).length+(enc l[j]).length)=st (enc l[j])∧k0+(encs (l.take j)).length+(enc l[j]).length≤s.length from by
     have h1:=drop_item HDB.out j hjl;have h2:=drop_le_item HDB.out HLE.out j;have h3:s=s.take (k0+(encs (l.take j)).length)++(enc l[j]++(encs (l.drop (j+1))++[])):=by rw[←h1,List.take_append_drop]
     have h4:(s.take (k0+(encs (l.take j)).length)).length=k0+(encs (l.take j)).length:=by rw[List.length_take];omega
     refine⟨?_,?_⟩
     · have h5:=st_mid3 (s.take (k0+(encs (l.take j)).length)) (enc l[j]) (encs (l.drop (j+1))++[]) (k0+(encs (l.take j)).length) (k0+(encs (l.take j)).length+(enc l[j]).length) h4.symm (by rw[h4]);rw[←h3]at h5;exact h5
     · exact drop_le h1 h2)
    rw[show((8:Nat):Int)=8 from rfl]at HFC;have HTK:=hid (show l.take (j+1)=l.take j++[l[j]] by simp);have HIJ:=hid (HI.out j hjl);generalize hy:l[j]=y at*;generalize hp:k0+(encs (l.take j)).length=p at*;have HPP:=hid hp;clear hp hj hjm hy hjl;go_wp2_with fail;refine(HFC.out wr).mono ?_;rintro e wq ⟨rfl,hbq⟩;have HR0:=HR;clear HR;have HR:=hid (show At wq XB (.cells (ic 4 0 [] (.slice av j c) false) 93)∧At wq GB (.cells (gotc k0 4 m) 129)∧At wq w.heap.size (.cells (ic 0 0 [] nS false) 93)∧Below w.heap.size w wq∧XB+1≤wq.heap.size∧wq.ownsRow (XB+1) 93 5 (.slice av j c) j (cs.flatMap (·.toList))∧Kids (XB+1) wq.heap.size (gOf av) wq cs (l.take j)from
     ⟨HR0.out.1.kp hbq,HR0.out.2.1.kp hbq,HR0.out.2.2.1.kp hbq,HR0.out.2.2.2.1.trans (hbq.mono HR0.out.2.2.2.1.size),Nat.le_trans HR0.out.2.2.2.2.1 hbq.size,row_keep HR0.out.2.2.2.2.2.1 hbq,Kids.move (H:=wr.heap.size) (g:=gOf av) (S:=fun _=>False) (w:=wr) (Nat.le_refl _) (upd_of_below hbq) (fun k e=>e.elim) hbq.size (.inl rfl) HR0.out.2.2.2.2.2.2⟩)
    clear c0 c1 c2 c3 x0 x1 x2 x3 x4 hbq;obtain⟨x0,x1,x2,x3,x4⟩:=five HR.out.1;go_upto_region 12 with fail;refine ent (C:=rg Tryz.f35 12) (by kernel_rfl) ?_;have hXne:∀q,av=some q→q.block≠XB:=fun q hq e=>by
     have:=(HR.out.2.2.2.2.2.1.lt q.block (by rw[hq];rfl)).1;omega
    have hown2:∀k,(Value.slice av j c).ownBlock=some k→XB+1≤k∧k<wq.heap.size:=HR.out.2.2.2.2.2.1.lt;obtain⟨kk,hkk⟩:∃kk,kk=cs:=⟨_,rfl⟩;rw[←hkk]at HR;have hC:Calls Tryz.prog 35 #[.string (st (enc y))] wq.drew fun e w2=>∃cs:Array Value,e= .returned (.agg cs)∧cs.size=5∧cs.all (·.oneCell')=true∧w2.ownsRow (XB+1) 93 5 (.slice av j c) j (kk.flatMap (·.toList))∧w2.cell? ⟨XB,3,none⟩=some (.slice av j c)∧w2.frozen? ⟨XB,3,none⟩=false∧XB+1≤w2.heap.size∧(Below wq.drew.heap.size wq.drew w2∧Keeps wq.drew.heap.size w2.heap.size w2 fun w3=>IsI w3 cs y):=by
     refine(HIJ.out wq.drew).mono ?_;rintro e w5 ⟨ds,rfl,h1,h2,h4,h5⟩;have hXs:XB<wq.heap.size:=HR.out.1.lt;refine⟨ds,rfl,h1,h2,row_keep (w:=wq.drew) HR.out.2.2.2.2.2.1 h4,(upd_of_below (S:=fun _=>False) h4).cell (w:=wq.drew) (show wq.drew.cell? _=_ from x3) (fun h=>h),(World.frozen?_of_block (h4.block _ hXs)).trans (frozen_of_row wq.drew _ 3 _ 93 HR.out.1),Nat.le_trans HR.out.2.2.2.2.1 h4.size,h4,h5⟩
    refine ritem_r XB p (p+(enc y).length) j c (XB+1) s (enc y) av _ _ wq _ (Nat.le_add_right _ _) HEX.out.2 HLEN.out (by have:=HJ.out;have:=HM.out.2.1;omega) hXne x3 HEX.out.1 hC ?_;intro y60 y61 y62 y63 y64 y65 y66 y67 y68 y69 ds w5 w6 g2 c2 hF hds hone hown hgrow hg2;have HF:=hid (And.intro hF (And.intro hds (And.intro hone (And.intro hown (And.intro hgrow (And.intro hg2 hown2))))));clear hF hds hone hown hgrow hg2 hown2 x0 x1 x2 x3 x4 hC hXne;go_wp2_with fail;go_roundw;case rel=>
     obtain⟨⟨hu5,hk5⟩,hds,hone,hown,hgrow,hg2,hown2⟩:=HF.out;have hpos:=HPOS.out;have hs5:wq.heap.size≤w5.heap.size:=hu5.size;have hu6:Below wq.heap.size wq w5:=(below_drew (Below.refl wq.heap.size wq)).trans hu5;have hua:=upd_alloc (fun k=>some k=(Value.slice av j c).ownBlock) w5 (.cells ds 93);have hug:=upd_grown hgrow;have huc:=upd_setCell w6 ⟨XB,3,none⟩ (.slice (some ⟨g2,0,none⟩) (j+1) c2);have hall:Upd (fun k=>some k=(Value.slice av j c).ownBlock∨k=XB) w5 (w6.setCell ⟨XB,3,none⟩ (.slice (some ⟨g2,0,none⟩) (j+1) c2)):=
      ((hua.trans hug).mono (fun k _ h=> .inl h)).trans (huc.mono (fun k _ h=> .inr h))
     have hX6:At w6 XB (.cells (ic 4 0 [] (.slice av j c) false) 93):=(HR.out.1.kp hu6).upd (hua.trans hug) (fun e=>by have:=hown2 _ e.symm;omega);have hS:∀k,(some k=(Value.slice av j c).ownBlock∨k=XB)→XB≤k∧(k<XB+1∨k=gOf av)∧k<wq.heap.size:=fun k hk=>by
      rcases hk with hk|hk
      · have h1:=hown2 k hk.symm;refine⟨by omega,.inr ?_,h1.2⟩;cases av with
        |none=>cases hk
        |some q=>simpa[Value.ownBlock,gOf]using hk
      · have:=HR.out.2.2.2.2.1;exact⟨by omega,.inl (by omega),by omega⟩
     have hg3:g2=gOf av∨w5.heap.size≤g2:=by
      rcases hg2 with h|h
      · left;cases av with
        |none=>cases h
        |some q=>simpa[Value.ownBlock,gOf]using h.symm
      · right;omega
     have hg4:¬(wq.heap.size≤g2∧g2<w5.heap.size):=fun h=>by
      rcases hg2 with h2|h2
      · have:=(hown2 _ h2).2;omega
      · omega
     have htk:=HTK.out;have hdw:wq.drew.heap.size=wq.heap.size:=rfl;refine⟨j+1,some ⟨g2,0,none⟩,c2,kk++[ds],by have:=HJ.out;omega,by go_num,?_,heap_setCell_same w6 XB 3 _ 93 (.slice (some ⟨g2,0,none⟩) (j+1) c2) hX6,?_,?_,?_,?_,?_,?_⟩
     · rw[HEN.out, ←Nat.add_assoc,HPP.out];first|done|go_num|rfl
     · exact(HR.out.2.1.kp hu6).upd hall (fun e=>by have:=hS _ e;omega)
     · exact(HR.out.2.2.1.kp hu6).upd hall (fun e=>by have:=hS _ e;omega)
     · exact(HR.out.2.2.2.1.trans (hu6.mono HR.out.2.2.2.1.size)).trans (hall.below (by have:=HR.out.2.2.2.1.size;omega) (fun k e=>by have:=hS _ e;omega))
     · have:=HR.out.2.2.2.2.1;have:=hall.size;omega
     · rw[List.flatMap_append];simp only[List.flatMap_cons,List.flatMap_nil,List.append_nil];refine row_upd hown huc (fun k hk e=>?_);have e2:g2=k:=by simpa[Value.ownBlock]using hk
       have e3:k=XB:=e;rcases hg2 with h|h
       · have:=(hown2 _ h).1;omega
       · have:=HR.out.2.2.2.2.1;omega
     · rw[htk];refine Kids.snoc ?_ hds hone ⟨wq.heap.size,w5.heap.size,HR.out.2.2.2.2.1,hall.size,hg4,hk5.upd hall (Nat.le_refl _) (fun k h1 _ e=>by have:=hS _ e;omega)⟩;refine Kids.move (H:=w5.heap.size) (g:=gOf av) (S:=fun k=>some k=(Value.slice av j c).ownBlock∨k=XB) (w:=w5) (Nat.le_refl _) hall (fun k e=>(hS k e).2.1) hall.size hg3 ?_;exact Kids.move (H:=wq.heap.size) (g:=gOf av) (S:=fun _=>False) (w:=wq) (Nat.le_refl _) (upd_of_below hu6) (fun k e=>e.elim) hs5 (.inl rfl) HR.out.2.2.2.2.2.2
    case measure=>simp[intOf];have:=HJ.out;omega
  · have hj9:j=m:=by omega
    subst hj9;have hjb:¬(j:Int)<(j:Int):=by omega
    have htk:l.take j=l:=by rw[HM.out.1,List.take_length]
    rw[htk]at HR;clear hj hjm;go_wp2_with (first
     |(refine lQ 93 4 HR.out.1 ?_)
     |(refine sR 93 2 71 w.heap.size (ic 4 0 [] (.slice av j c) false) HR.out.2.2.1 (size93 rfl) (ic_one ..) ?_))
    have hua:=upd_setRow wr w.heap.size (ic 4 0 [] (.slice av j c) false);refine bodyPost_ret (rQ (HR.out.2.2.1.row _)) rfl ⟨_,rfl,rfl,by have:=ic_one 4 0 [] av j c false;simpa using this,HR.out.2.2.2.1.trans (hua.below HR.out.2.2.2.1.size (fun k e=>by rw[e];exact Nat.le_refl _)),?_⟩;intro w3 hw3;have hpos:=HPOS.out;have hag:∀k,XB+1≤k→k<wr.heap.size→w3.heap[k]? =wr.heap[k]? :=fun k h1 h2=>(hw3 k (by omega) (by have:=hua.size;omega)).trans (hua.block k h2 (by show ¬k=w.heap.size;omega));obtain⟨_,_,_,_,_,hrow,hkids⟩:=HR.out;rw[IsI];refine⟨av,c,by rw[HM.out.1],?_,?_⟩
    · rcases hrow.2 with⟨hv,h0⟩|⟨g,cap,cur,hv,_,_,hn,_⟩
      · have:=HM.out.1;omega
      · injection hv with e1 e2 e3
        rw[←HM.out.1,e3];exact hn
    · rcases hrow.2 with⟨hv,h0⟩|⟨g,cap,cur,hv,hb,hg,hn,_⟩
      · left;exact List.eq_nil_of_length_eq_zero (by have:=HM.out.1;omega)
      · right;injection hv with e1 e2 e3
        subst e1;refine⟨g,0,rfl,Kids.isL hag 0 hkids (range_of (row_range hrow) (hag g hb (heap_lt hg)))⟩
theorem encs_at:∀(l:List Itm) (i:Nat) (h:i<l.length),(enc l[i]).length≤(encs l).length
 | [],_,h=>absurd h (by simp)
 |x::r,0,_=>by rw[encs,List.length_append];exact Nat.le_add_right _ _
 |x::r,i+1,h=>by
  have:=encs_at r i (by simpa using h);rw[encs,List.length_append];exact Nat.le_trans this (Nat.le_add_left _ _)
theorem ritem_any:∀(d:Nat) (x:Itm) (w:World),Sm x→deep x≤d→d≤8→(enc x).length≤900→
 Calls Tryz.prog 35 #[.string (st (enc x))] w fun e w'=>∃cs:Array Value,e= .returned (.agg cs)∧cs.size=5∧cs.all (·.oneCell')=true∧Below w.heap.size w w'∧Keeps w.heap.size w'.heap.size w' fun w2=>IsI w2 cs x
 |_,.num n,w,hx,_,_,_=>by
  rw[enc];refine(ritem_num n w hx).mono ?_;rintro e w' ⟨rfl,hb⟩;exact⟨_,rfl,rfl,ic_one ..,hb,fun w2 _=>by simp only[IsI]⟩
 |_,.str _,_,hx,_,_,_=>by rw[Sm]at hx;exact hx.elim
 |_,.txt _,_,hx,_,_,_=>by rw[Sm]at hx;exact hx.elim
 |0,.arr o l,_,_,hdp,_,_=>absurd hdp (by simp[deep])
 |d+1,.arr o l,w,hx,hdp,h8,hl=>by
  rw[Sm]at hx;obtain⟨rfl,hm,hx⟩:=hx;rw[deep]at hdp;have he:enc (.arr false l)=hd 4 l.length++encs l:=by simp[enc]
  rw[he]at hl ⊢;rw[List.length_append]at hl;exact ritem_arr l l.length w rfl hm (by omega) hx (by omega) (fun i h w=>ritem_any d l[i] w (sm_at l i h hx) (Nat.le_trans (deep_at l i h) (by omega)) (by omega) (Nat.le_trans (encs_at l i h) (by omega)))
end
end Go.Proofs.YtlhlmflacdeafaaGreatDoor
