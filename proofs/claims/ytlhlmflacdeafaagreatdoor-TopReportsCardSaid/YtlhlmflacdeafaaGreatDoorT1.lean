/-
  A part of the walk of TopReports.
-/
import Derived.Test.YtlhlmflacdeafaaGreatDoorT0
import Derived.Deep.QuietTactic
import Derived.BigQuiet
set_option maxRecDepth 100000
set_option maxHeartbeats 4000000
set_option linter.unusedVariables false
set_option linter.unusedSimpArgs false
namespace Go.Proofs.YtlhlmflacdeafaaGreatDoor
section
open Go.RowKit
variable {x0 x2 x3 x4 x6 x7 x8 x9 x10 x11 x12 x13 x14 x15 x16 x17 x18 x19 x20 x21 x22 x23 x24 x25 x26 x27 x28 x29 x30 x31 x32 x33 x34 x35 x36 x37 x38 x39 x40 x41 x42 x43 x44 x45 x46 x47 x48 x49 x50 x51 x52 x53 x54 x55 x56 x57 x58 x59 x60 x61 x62 x63:Value} {r:List Value}
theorem head_rone (n c d:Nat)(w:World)(Q:QT)(hn:n<256)(hc:c<256)(hd:d<256)(hor:bits .or .u8 (c:Int) 24=(d:Int))
 (hQ:∀(y27 y28 y29 y30 y31 y32 y33 y34:Value) (w6:World),Below w.heap.size w w6→Q .normal ⟨(x0::.int .u64 (n:Nat)::x2::x3::.string (st ([b8 d]++beL n 1))::.int .u8 (c:Nat)::x6::x7::x8::x9::x10::x11::x12::x13::x14::x15::x16::x17::x18::x19::x20::x21::x22::x23::x24::x25::x26::y27::y28::y29::y30::y31::y32::y33::y34::r).toArray,[]⟩ w6):
 Code.wp Tryz.prog (rg Tryz.f332 7) Q ⟨(x0::.int .u64 (n:Nat)::x2::x3::x4::.int .u8 (c:Nat)::x6::x7::x8::x9::x10::x11::x12::x13::x14::x15::x16::x17::x18::x19::x20::x21::x22::x23::x24::x25::x26::x27::x28::x29::x30::x31::x32::x33::x34::r).toArray,[]⟩ w:=by
 have HQ:=hid hQ;clear hQ;have HU0:=hid (below_drew (Below.refl w.heap.size w));have HS:=hid (fun(w1:World)=>spread_u8 n w1 hn);have hn0:(n:Int)<256:=by omega
 have hc0:(c:Int)<256:=by omega
 have hwn:IntKind.u8.wrap (n:Int)=(n:Int):=by simp only[IntKind.wrap_u8,IntKind.wrap_u16,IntKind.wrap_u32,IntKind.wrap_u64];omega
 have HD:=hid hd;clear hd;conv=>arg 2;whnf
 refine wp_region_T (S:=fun _=>True) (fun _=>false) (by kernel_rfl) trivial (fun hHeld=>?_);refine t2 0 ?_;refine t2 1 ?_;refine t2 4 ?_;refine t2 5 ?_;refine wpAnyT_ready (rs:=[2,6]) (by kernel_rfl) (by simp) ?_;refine AllReadyT.cons (o:=_) rfl (fun K hK=>?_) (by kernel_rfl) ?_
 · go_simp;have hb:Below (w.drew).heap.size (w.drew) ((w.alloc (.cells #[.int .u8 (d:Nat)] 5)).drew):=(Below.refl (w.drew).heap.size (w.drew)).alloc (Nat.le_refl _) (.cells #[.int .u8 (d:Nat)] 5);have HU1:=tR HU0 hb;have B1:=hid (show At ((w.alloc (.cells #[.int .u8 (d:Nat)] 5)).drew) (w).heap.size (.cells #[.int .u8 (d:Nat)] 5)from heap_new (w.drew) (.cells #[.int .u8 (d:Nat)] 5));clear hb;refine hK.out _ _ (fun _=>trivial) (fun hHeld=>?_);clear hK K;try simp only[Act.put,fr]
   refine wpAnyT_ready (rs:=[3,6]) (by kernel_rfl) (by simp) ?_;refine AllReadyT.cons (o:=_) rfl (fun K hK=>?_) (by kernel_rfl) ?_
   · have hcv:=one_text _ d HD.out _ B1.out;go_simp;refine hK.out _ _ (fun _=>trivial) (fun hHeld=>?_);clear hK K;try simp only[Act.put,fr]
     refine rd1 6 rfl fun K hK=>?_;go_simp;(with_reducible refine(HS.out _).mono ?_);rintro e w2 ⟨rfl,hb⟩;have HU2:=tR HU1 hb;have B2:=hid (B1.out.keep hb);clear hb;refine hK.out _ _ (fun _=>trivial) (fun hHeld=>?_);clear hK K;try simp only[Act.put,fr]
     refine u2 7 ?_ rfl (Or.inl ⟨by rfl,?_⟩) ?_;rotate_left
     · intro w' hSw;go_split_ands;have happ:=st_app [b8 d] (beL n 1);go_simp;try rfl
     try simp only[Act.put,fr]
     refine t2 8 ?_;refine wpAnyT_done (by kernel_rfl) ?_ _;refine NoPanic.normal ?_;have happ:=st_app [b8 d] (beL n 1);exact HQ.out _ _ _ _ _ _ _ _ _ HU2.out
   refine AllReadyT.cons (o:=_) rfl (fun K hK=>?_) (by kernel_rfl) AllReadyT.nil;go_simp;(with_reducible refine(HS.out _).mono ?_);rintro e w2 ⟨rfl,hb⟩;have HU2:=tR HU1 hb;have B2:=hid (B1.out.keep hb);clear hb;refine hK.out _ _ (fun _=>trivial) (fun hHeld=>?_);clear hK K;try simp only[Act.put,fr]
   refine rd1 3 rfl fun K hK=>?_;have hcv:=one_text _ d HD.out _ B2.out;go_simp;refine hK.out _ _ (fun _=>trivial) (fun hHeld=>?_);clear hK K;try simp only[Act.put,fr]
   refine u2 7 ?_ rfl (Or.inl ⟨by rfl,?_⟩) ?_;rotate_left
   · intro w' hSw;go_split_ands;have happ:=st_app [b8 d] (beL n 1);go_simp;try rfl
   try simp only[Act.put,fr]
   refine t2 8 ?_;refine wpAnyT_done (by kernel_rfl) ?_ _;refine NoPanic.normal ?_;have happ:=st_app [b8 d] (beL n 1);exact HQ.out _ _ _ _ _ _ _ _ _ HU2.out
 refine AllReadyT.cons (o:=_) rfl (fun K hK=>?_) (by kernel_rfl) AllReadyT.nil;go_simp;(with_reducible refine(HS.out _).mono ?_);rintro e w1 ⟨rfl,hb⟩;have HU1:=tR HU0 hb;clear hb;refine hK.out _ _ (fun _=>trivial) (fun hHeld=>?_);clear hK K;try simp only[Act.put,fr]
 refine rd1 2 rfl fun K hK=>?_;go_simp;have hb:Below (w1).heap.size (w1) ((w1).alloc (.cells #[.int .u8 (d:Nat)] 5)):=(Below.refl (w1).heap.size (w1)).alloc (Nat.le_refl _) (.cells #[.int .u8 (d:Nat)] 5);have HU2:=tR HU1 hb;have B2:=hid (show At ((w1).alloc (.cells #[.int .u8 (d:Nat)] 5)) (w1).heap.size (.cells #[.int .u8 (d:Nat)] 5)from heap_new (w1) (.cells #[.int .u8 (d:Nat)] 5));clear hb;refine hK.out _ _ (fun _=>trivial) (fun hHeld=>?_);clear hK K;try simp only[Act.put,fr]
 refine rd1 3 rfl fun K hK=>?_;have hcv:=one_text _ d HD.out _ B2.out;go_simp;refine hK.out _ _ (fun _=>trivial) (fun hHeld=>?_);clear hK K;try simp only[Act.put,fr]
 refine u2 7 ?_ rfl (Or.inl ⟨by rfl,?_⟩) ?_;rotate_left
 · intro w' hSw;go_split_ands;have happ:=st_app [b8 d] (beL n 1);go_simp;try rfl
 try simp only[Act.put,fr]
 refine t2 8 ?_;refine wpAnyT_done (by kernel_rfl) ?_ _;refine NoPanic.normal ?_;have happ:=st_app [b8 d] (beL n 1);exact HQ.out _ _ _ _ _ _ _ _ _ HU2.out
theorem head_rtwo (n c d:Nat)(w:World)(Q:QT)(hn:n<65536)(hc:c<256)(hd:d<256)(hor:bits .or .u8 (c:Int) 25=(d:Int))
 (hQ:∀(y38 y39 y40 y41 y42 y43 y44 y45:Value) (w6:World),Below w.heap.size w w6→Q .normal ⟨(x0::.int .u64 (n:Nat)::x2::x3::.string (st ([b8 d]++beL n 2))::.int .u8 (c:Nat)::x6::x7::x8::x9::x10::x11::x12::x13::x14::x15::x16::x17::x18::x19::x20::x21::x22::x23::x24::x25::x26::x27::x28::x29::x30::x31::x32::x33::x34::x35::x36::x37::y38::y39::y40::y41::y42::y43::y44::y45::r).toArray,[]⟩ w6):
 Code.wp Tryz.prog (rg Tryz.f332 9) Q ⟨(x0::.int .u64 (n:Nat)::x2::x3::x4::.int .u8 (c:Nat)::x6::x7::x8::x9::x10::x11::x12::x13::x14::x15::x16::x17::x18::x19::x20::x21::x22::x23::x24::x25::x26::x27::x28::x29::x30::x31::x32::x33::x34::x35::x36::x37::x38::x39::x40::x41::x42::x43::x44::x45::r).toArray,[]⟩ w:=by
 have HQ:=hid hQ;clear hQ;have HU0:=hid (below_drew (Below.refl w.heap.size w));have HS:=hid (fun(w1:World)=>spread_u16 n w1 hn);have hn0:(n:Int)<65536:=by omega
 have hc0:(c:Int)<256:=by omega
 have hwn:IntKind.u16.wrap (n:Int)=(n:Int):=by simp only[IntKind.wrap_u8,IntKind.wrap_u16,IntKind.wrap_u32,IntKind.wrap_u64];omega
 have HD:=hid hd;clear hd;conv=>arg 2;whnf
 refine wp_region_T (S:=fun _=>True) (fun _=>false) (by kernel_rfl) trivial (fun hHeld=>?_);refine t2 0 ?_;refine t2 1 ?_;refine t2 4 ?_;refine t2 5 ?_;refine wpAnyT_ready (rs:=[2,6]) (by kernel_rfl) (by simp) ?_;refine AllReadyT.cons (o:=_) rfl (fun K hK=>?_) (by kernel_rfl) ?_
 · go_simp;have hb:Below (w.drew).heap.size (w.drew) ((w.alloc (.cells #[.int .u8 (d:Nat)] 5)).drew):=(Below.refl (w.drew).heap.size (w.drew)).alloc (Nat.le_refl _) (.cells #[.int .u8 (d:Nat)] 5);have HU1:=tR HU0 hb;have B1:=hid (show At ((w.alloc (.cells #[.int .u8 (d:Nat)] 5)).drew) (w).heap.size (.cells #[.int .u8 (d:Nat)] 5)from heap_new (w.drew) (.cells #[.int .u8 (d:Nat)] 5));clear hb;refine hK.out _ _ (fun _=>trivial) (fun hHeld=>?_);clear hK K;try simp only[Act.put,fr]
   refine wpAnyT_ready (rs:=[3,6]) (by kernel_rfl) (by simp) ?_;refine AllReadyT.cons (o:=_) rfl (fun K hK=>?_) (by kernel_rfl) ?_
   · have hcv:=one_text _ d HD.out _ B1.out;go_simp;refine hK.out _ _ (fun _=>trivial) (fun hHeld=>?_);clear hK K;try simp only[Act.put,fr]
     refine rd1 6 rfl fun K hK=>?_;go_simp;(with_reducible refine(HS.out _).mono ?_);rintro e w2 ⟨rfl,hb⟩;have HU2:=tR HU1 hb;have B2:=hid (B1.out.keep hb);clear hb;refine hK.out _ _ (fun _=>trivial) (fun hHeld=>?_);clear hK K;try simp only[Act.put,fr]
     refine u2 7 ?_ rfl (Or.inl ⟨by rfl,?_⟩) ?_;rotate_left
     · intro w' hSw;go_split_ands;have happ:=st_app [b8 d] (beL n 2);go_simp;try rfl
     try simp only[Act.put,fr]
     refine t2 8 ?_;refine wpAnyT_done (by kernel_rfl) ?_ _;refine NoPanic.normal ?_;have happ:=st_app [b8 d] (beL n 2);exact HQ.out _ _ _ _ _ _ _ _ _ HU2.out
   refine AllReadyT.cons (o:=_) rfl (fun K hK=>?_) (by kernel_rfl) AllReadyT.nil;go_simp;(with_reducible refine(HS.out _).mono ?_);rintro e w2 ⟨rfl,hb⟩;have HU2:=tR HU1 hb;have B2:=hid (B1.out.keep hb);clear hb;refine hK.out _ _ (fun _=>trivial) (fun hHeld=>?_);clear hK K;try simp only[Act.put,fr]
   refine rd1 3 rfl fun K hK=>?_;have hcv:=one_text _ d HD.out _ B2.out;go_simp;refine hK.out _ _ (fun _=>trivial) (fun hHeld=>?_);clear hK K;try simp only[Act.put,fr]
   refine u2 7 ?_ rfl (Or.inl ⟨by rfl,?_⟩) ?_;rotate_left
   · intro w' hSw;go_split_ands;have happ:=st_app [b8 d] (beL n 2);go_simp;try rfl
   try simp only[Act.put,fr]
   refine t2 8 ?_;refine wpAnyT_done (by kernel_rfl) ?_ _;refine NoPanic.normal ?_;have happ:=st_app [b8 d] (beL n 2);exact HQ.out _ _ _ _ _ _ _ _ _ HU2.out
 refine AllReadyT.cons (o:=_) rfl (fun K hK=>?_) (by kernel_rfl) AllReadyT.nil;go_simp;(with_reducible refine(HS.out _).mono ?_);rintro e w1 ⟨rfl,hb⟩;have HU1:=tR HU0 hb;clear hb;refine hK.out _ _ (fun _=>trivial) (fun hHeld=>?_);clear hK K;try simp only[Act.put,fr]
 refine rd1 2 rfl fun K hK=>?_;go_simp;have hb:Below (w1).heap.size (w1) ((w1).alloc (.cells #[.int .u8 (d:Nat)] 5)):=(Below.refl (w1).heap.size (w1)).alloc (Nat.le_refl _) (.cells #[.int .u8 (d:Nat)] 5);have HU2:=tR HU1 hb;have B2:=hid (show At ((w1).alloc (.cells #[.int .u8 (d:Nat)] 5)) (w1).heap.size (.cells #[.int .u8 (d:Nat)] 5)from heap_new (w1) (.cells #[.int .u8 (d:Nat)] 5));clear hb;refine hK.out _ _ (fun _=>trivial) (fun hHeld=>?_);clear hK K;try simp only[Act.put,fr]
 refine rd1 3 rfl fun K hK=>?_;have hcv:=one_text _ d HD.out _ B2.out;go_simp;refine hK.out _ _ (fun _=>trivial) (fun hHeld=>?_);clear hK K;try simp only[Act.put,fr]
 refine u2 7 ?_ rfl (Or.inl ⟨by rfl,?_⟩) ?_;rotate_left
 · intro w' hSw;go_split_ands;have happ:=st_app [b8 d] (beL n 2);go_simp;try rfl
 try simp only[Act.put,fr]
 refine t2 8 ?_;refine wpAnyT_done (by kernel_rfl) ?_ _;refine NoPanic.normal ?_;have happ:=st_app [b8 d] (beL n 2);exact HQ.out _ _ _ _ _ _ _ _ _ HU2.out
theorem head_rfour (n c d:Nat)(w:World)(Q:QT)(hn:n<4294967296)(hc:c<256)(hd:d<256)(hor:bits .or .u8 (c:Int) 26=(d:Int))
 (hQ:∀(y49 y50 y51 y52 y53 y54 y55 y56:Value) (w6:World),Below w.heap.size w w6→Q .normal ⟨(x0::.int .u64 (n:Nat)::x2::x3::.string (st ([b8 d]++beL n 4))::.int .u8 (c:Nat)::x6::x7::x8::x9::x10::x11::x12::x13::x14::x15::x16::x17::x18::x19::x20::x21::x22::x23::x24::x25::x26::x27::x28::x29::x30::x31::x32::x33::x34::x35::x36::x37::x38::x39::x40::x41::x42::x43::x44::x45::x46::x47::x48::y49::y50::y51::y52::y53::y54::y55::y56::r).toArray,[]⟩ w6):
 Code.wp Tryz.prog (rg Tryz.f332 11) Q ⟨(x0::.int .u64 (n:Nat)::x2::x3::x4::.int .u8 (c:Nat)::x6::x7::x8::x9::x10::x11::x12::x13::x14::x15::x16::x17::x18::x19::x20::x21::x22::x23::x24::x25::x26::x27::x28::x29::x30::x31::x32::x33::x34::x35::x36::x37::x38::x39::x40::x41::x42::x43::x44::x45::x46::x47::x48::x49::x50::x51::x52::x53::x54::x55::x56::r).toArray,[]⟩ w:=by
 have HQ:=hid hQ;clear hQ;have HU0:=hid (below_drew (Below.refl w.heap.size w));have HS:=hid (fun(w1:World)=>spread_u32 n w1 hn);have hn0:(n:Int)<4294967296:=by omega
 have hc0:(c:Int)<256:=by omega
 have hwn:IntKind.u32.wrap (n:Int)=(n:Int):=by simp only[IntKind.wrap_u8,IntKind.wrap_u16,IntKind.wrap_u32,IntKind.wrap_u64];omega
 have HD:=hid hd;clear hd;conv=>arg 2;whnf
 refine wp_region_T (S:=fun _=>True) (fun _=>false) (by kernel_rfl) trivial (fun hHeld=>?_);refine t2 0 ?_;refine t2 1 ?_;refine t2 4 ?_;refine t2 5 ?_;refine wpAnyT_ready (rs:=[2,6]) (by kernel_rfl) (by simp) ?_;refine AllReadyT.cons (o:=_) rfl (fun K hK=>?_) (by kernel_rfl) ?_
 · go_simp;have hb:Below (w.drew).heap.size (w.drew) ((w.alloc (.cells #[.int .u8 (d:Nat)] 5)).drew):=(Below.refl (w.drew).heap.size (w.drew)).alloc (Nat.le_refl _) (.cells #[.int .u8 (d:Nat)] 5);have HU1:=tR HU0 hb;have B1:=hid (show At ((w.alloc (.cells #[.int .u8 (d:Nat)] 5)).drew) (w).heap.size (.cells #[.int .u8 (d:Nat)] 5)from heap_new (w.drew) (.cells #[.int .u8 (d:Nat)] 5));clear hb;refine hK.out _ _ (fun _=>trivial) (fun hHeld=>?_);clear hK K;try simp only[Act.put,fr]
   refine wpAnyT_ready (rs:=[3,6]) (by kernel_rfl) (by simp) ?_;refine AllReadyT.cons (o:=_) rfl (fun K hK=>?_) (by kernel_rfl) ?_
   · have hcv:=one_text _ d HD.out _ B1.out;go_simp;refine hK.out _ _ (fun _=>trivial) (fun hHeld=>?_);clear hK K;try simp only[Act.put,fr]
     refine rd1 6 rfl fun K hK=>?_;go_simp;(with_reducible refine(HS.out _).mono ?_);rintro e w2 ⟨rfl,hb⟩;have HU2:=tR HU1 hb;have B2:=hid (B1.out.keep hb);clear hb;refine hK.out _ _ (fun _=>trivial) (fun hHeld=>?_);clear hK K;try simp only[Act.put,fr]
     refine u2 7 ?_ rfl (Or.inl ⟨by rfl,?_⟩) ?_;rotate_left
     · intro w' hSw;go_split_ands;have happ:=st_app [b8 d] (beL n 4);go_simp;try rfl
     try simp only[Act.put,fr]
     refine t2 8 ?_;refine wpAnyT_done (by kernel_rfl) ?_ _;refine NoPanic.normal ?_;have happ:=st_app [b8 d] (beL n 4);exact HQ.out _ _ _ _ _ _ _ _ _ HU2.out
   refine AllReadyT.cons (o:=_) rfl (fun K hK=>?_) (by kernel_rfl) AllReadyT.nil;go_simp;(with_reducible refine(HS.out _).mono ?_);rintro e w2 ⟨rfl,hb⟩;have HU2:=tR HU1 hb;have B2:=hid (B1.out.keep hb);clear hb;refine hK.out _ _ (fun _=>trivial) (fun hHeld=>?_);clear hK K;try simp only[Act.put,fr]
   refine rd1 3 rfl fun K hK=>?_;have hcv:=one_text _ d HD.out _ B2.out;go_simp;refine hK.out _ _ (fun _=>trivial) (fun hHeld=>?_);clear hK K;try simp only[Act.put,fr]
   refine u2 7 ?_ rfl (Or.inl ⟨by rfl,?_⟩) ?_;rotate_left
   · intro w' hSw;go_split_ands;have happ:=st_app [b8 d] (beL n 4);go_simp;try rfl
   try simp only[Act.put,fr]
   refine t2 8 ?_;refine wpAnyT_done (by kernel_rfl) ?_ _;refine NoPanic.normal ?_;have happ:=st_app [b8 d] (beL n 4);exact HQ.out _ _ _ _ _ _ _ _ _ HU2.out
 refine AllReadyT.cons (o:=_) rfl (fun K hK=>?_) (by kernel_rfl) AllReadyT.nil;go_simp;(with_reducible refine(HS.out _).mono ?_);rintro e w1 ⟨rfl,hb⟩;have HU1:=tR HU0 hb;clear hb;refine hK.out _ _ (fun _=>trivial) (fun hHeld=>?_);clear hK K;try simp only[Act.put,fr]
 refine rd1 2 rfl fun K hK=>?_;go_simp;have hb:Below (w1).heap.size (w1) ((w1).alloc (.cells #[.int .u8 (d:Nat)] 5)):=(Below.refl (w1).heap.size (w1)).alloc (Nat.le_refl _) (.cells #[.int .u8 (d:Nat)] 5);have HU2:=tR HU1 hb;have B2:=hid (show At ((w1).alloc (.cells #[.int .u8 (d:Nat)] 5)) (w1).heap.size (.cells #[.int .u8 (d:Nat)] 5)from heap_new (w1) (.cells #[.int .u8 (d:Nat)] 5));clear hb;refine hK.out _ _ (fun _=>trivial) (fun hHeld=>?_);clear hK K;try simp only[Act.put,fr]
 refine rd1 3 rfl fun K hK=>?_;have hcv:=one_text _ d HD.out _ B2.out;go_simp;refine hK.out _ _ (fun _=>trivial) (fun hHeld=>?_);clear hK K;try simp only[Act.put,fr]
 refine u2 7 ?_ rfl (Or.inl ⟨by rfl,?_⟩) ?_;rotate_left
 · intro w' hSw;go_split_ands;have happ:=st_app [b8 d] (beL n 4);go_simp;try rfl
 try simp only[Act.put,fr]
 refine t2 8 ?_;refine wpAnyT_done (by kernel_rfl) ?_ _;refine NoPanic.normal ?_;have happ:=st_app [b8 d] (beL n 4);exact HQ.out _ _ _ _ _ _ _ _ _ HU2.out
theorem head_reight (n c d:Nat)(w:World)(Q:QT)(hn:n<18446744073709551616)(hc:c<256)(hd:d<256)(hor:bits .or .u8 (c:Int) 27=(d:Int))
 (hQ:∀(y57 y58 y59 y60 y61 y62 y63:Value) (w6:World),Below w.heap.size w w6→Q .normal ⟨(x0::.int .u64 (n:Nat)::x2::x3::.string (st ([b8 d]++beL n 8))::.int .u8 (c:Nat)::x6::x7::x8::x9::x10::x11::x12::x13::x14::x15::x16::x17::x18::x19::x20::x21::x22::x23::x24::x25::x26::x27::x28::x29::x30::x31::x32::x33::x34::x35::x36::x37::x38::x39::x40::x41::x42::x43::x44::x45::x46::x47::x48::x49::x50::x51::x52::x53::x54::x55::x56::y57::y58::y59::y60::y61::y62::y63::[]).toArray,[]⟩ w6):
 Code.wp Tryz.prog (rg Tryz.f332 12) Q ⟨(x0::.int .u64 (n:Nat)::x2::x3::x4::.int .u8 (c:Nat)::x6::x7::x8::x9::x10::x11::x12::x13::x14::x15::x16::x17::x18::x19::x20::x21::x22::x23::x24::x25::x26::x27::x28::x29::x30::x31::x32::x33::x34::x35::x36::x37::x38::x39::x40::x41::x42::x43::x44::x45::x46::x47::x48::x49::x50::x51::x52::x53::x54::x55::x56::x57::x58::x59::x60::x61::x62::x63::[]).toArray,[]⟩ w:=by
 have HQ:=hid hQ;clear hQ;have HU0:=hid (below_drew (Below.refl w.heap.size w));have HS:=hid (fun(w1:World)=>spread_u64 n w1 hn);have hn0:(n:Int)<18446744073709551616:=by omega
 have hc0:(c:Int)<256:=by omega
 have hwn:IntKind.u64.wrap (n:Int)=(n:Int):=by simp only[IntKind.wrap_u8,IntKind.wrap_u16,IntKind.wrap_u32,IntKind.wrap_u64];omega
 have HD:=hid hd;clear hd;conv=>arg 2;whnf
 refine wp_region_T (S:=fun _=>True) (fun _=>false) (by kernel_rfl) trivial (fun hHeld=>?_);refine t2 0 ?_;refine t2 1 ?_;refine t2 4 ?_;refine wpAnyT_ready (rs:=[2,5]) (by kernel_rfl) (by simp) ?_;refine AllReadyT.cons (o:=_) rfl (fun K hK=>?_) (by kernel_rfl) ?_
 · go_simp;have hb:Below (w.drew).heap.size (w.drew) ((w.alloc (.cells #[.int .u8 (d:Nat)] 5)).drew):=(Below.refl (w.drew).heap.size (w.drew)).alloc (Nat.le_refl _) (.cells #[.int .u8 (d:Nat)] 5);have HU1:=tR HU0 hb;have B1:=hid (show At ((w.alloc (.cells #[.int .u8 (d:Nat)] 5)).drew) (w).heap.size (.cells #[.int .u8 (d:Nat)] 5)from heap_new (w.drew) (.cells #[.int .u8 (d:Nat)] 5));clear hb;refine hK.out _ _ (fun _=>trivial) (fun hHeld=>?_);clear hK K;try simp only[Act.put,fr]
   refine wpAnyT_ready (rs:=[3,5]) (by kernel_rfl) (by simp) ?_;refine AllReadyT.cons (o:=_) rfl (fun K hK=>?_) (by kernel_rfl) ?_
   · have hcv:=one_text _ d HD.out _ B1.out;go_simp;refine hK.out _ _ (fun _=>trivial) (fun hHeld=>?_);clear hK K;try simp only[Act.put,fr]
     refine rd1 5 rfl fun K hK=>?_;go_simp;(with_reducible refine(HS.out _).mono ?_);rintro e w2 ⟨rfl,hb⟩;have HU2:=tR HU1 hb;have B2:=hid (B1.out.keep hb);clear hb;refine hK.out _ _ (fun _=>trivial) (fun hHeld=>?_);clear hK K;try simp only[Act.put,fr]
     refine u2 6 ?_ rfl (Or.inl ⟨by rfl,?_⟩) ?_;rotate_left
     · intro w' hSw;go_split_ands;have happ:=st_app [b8 d] (beL n 8);go_simp;try rfl
     try simp only[Act.put,fr]
     refine t2 7 ?_;refine wpAnyT_done (by kernel_rfl) ?_ _;refine NoPanic.normal ?_;have happ:=st_app [b8 d] (beL n 8);exact HQ.out _ _ _ _ _ _ _ _ HU2.out
   refine AllReadyT.cons (o:=_) rfl (fun K hK=>?_) (by kernel_rfl) AllReadyT.nil;go_simp;(with_reducible refine(HS.out _).mono ?_);rintro e w2 ⟨rfl,hb⟩;have HU2:=tR HU1 hb;have B2:=hid (B1.out.keep hb);clear hb;refine hK.out _ _ (fun _=>trivial) (fun hHeld=>?_);clear hK K;try simp only[Act.put,fr]
   refine rd1 3 rfl fun K hK=>?_;have hcv:=one_text _ d HD.out _ B2.out;go_simp;refine hK.out _ _ (fun _=>trivial) (fun hHeld=>?_);clear hK K;try simp only[Act.put,fr]
   refine u2 6 ?_ rfl (Or.inl ⟨by rfl,?_⟩) ?_;rotate_left
   · intro w' hSw;go_split_ands;have happ:=st_app [b8 d] (beL n 8);go_simp;try rfl
   try simp only[Act.put,fr]
   refine t2 7 ?_;refine wpAnyT_done (by kernel_rfl) ?_ _;refine NoPanic.normal ?_;have happ:=st_app [b8 d] (beL n 8);exact HQ.out _ _ _ _ _ _ _ _ HU2.out
 refine AllReadyT.cons (o:=_) rfl (fun K hK=>?_) (by kernel_rfl) AllReadyT.nil;go_simp;(with_reducible refine(HS.out _).mono ?_);rintro e w1 ⟨rfl,hb⟩;have HU1:=tR HU0 hb;clear hb;refine hK.out _ _ (fun _=>trivial) (fun hHeld=>?_);clear hK K;try simp only[Act.put,fr]
 refine rd1 2 rfl fun K hK=>?_;go_simp;have hb:Below (w1).heap.size (w1) ((w1).alloc (.cells #[.int .u8 (d:Nat)] 5)):=(Below.refl (w1).heap.size (w1)).alloc (Nat.le_refl _) (.cells #[.int .u8 (d:Nat)] 5);have HU2:=tR HU1 hb;have B2:=hid (show At ((w1).alloc (.cells #[.int .u8 (d:Nat)] 5)) (w1).heap.size (.cells #[.int .u8 (d:Nat)] 5)from heap_new (w1) (.cells #[.int .u8 (d:Nat)] 5));clear hb;refine hK.out _ _ (fun _=>trivial) (fun hHeld=>?_);clear hK K;try simp only[Act.put,fr]
 refine rd1 3 rfl fun K hK=>?_;have hcv:=one_text _ d HD.out _ B2.out;go_simp;refine hK.out _ _ (fun _=>trivial) (fun hHeld=>?_);clear hK K;try simp only[Act.put,fr]
 refine u2 6 ?_ rfl (Or.inl ⟨by rfl,?_⟩) ?_;rotate_left
 · intro w' hSw;go_split_ands;have happ:=st_app [b8 d] (beL n 8);go_simp;try rfl
 try simp only[Act.put,fr]
 refine t2 7 ?_;refine wpAnyT_done (by kernel_rfl) ?_ _;refine NoPanic.normal ?_;have happ:=st_app [b8 d] (beL n 8);exact HQ.out _ _ _ _ _ _ _ _ HU2.out
end
section
open Go.RowKit
theorem head_one (m n:Nat)(w:World)(hm:m<8)(hl:24≤n)(hn:n<256):
 Rv 332 #[.int .i64 m,.int .u64 n] w (.string (st (hd m n))):=by
 have hm0:¬(7:Int)<(m:Int):=by omega
 have hm1:(m:Int)≤7:=by omega
 have hn0:(n:Int)<256:=by omega
 have q24:¬(n:Int)<24:=by omega
 obtain⟨c,hc⟩:∃c,c=32*m:=⟨_,rfl⟩;have hcm:(m:Int)*32=(c:Int):=by omega
 have hcl:(c:Int)<256:=by omega
 obtain⟨d,hd0⟩:∃d,d=c+24:=⟨_,rfl⟩;have hor:bits .or .u8 (c:Int) 24=(d:Int):=by have h:=or5 m hm 24 (by omega);rw[←hc, ←hd0]at h;exact h
 have HO:=hid (And.intro hor (show d<256 by omega));clear hor;have HH:=hid (show hd m n=[b8 d]++beL n 1 from by unfold hd;rw[if_neg (by omega),if_pos hn,hd0,hc];rfl);have HN:=hid hn;have HL:=hid hl;clear hm hc hd0 hn hl;go_enter Tryz.func332,Tryz.ntmps332;go_upto_region 7 with(fail);refine ent (C:=rg Tryz.f332 7) (by kernel_rfl) ?_;refine head_rone n c d w _ (by have:=HN.out;omega) (by omega) HO.out.2 HO.out.1 ?_;intro y27 y28 y29 y30 y31 y32 y33 y34 w6 hb;have HB:=hid hb;clear hb;go_wp2_with fail;go_ret;exact⟨by rw[HH.out];rfl,HB.out⟩
theorem head_two (m n:Nat)(w:World)(hm:m<8)(hl:256≤n)(hn:n<65536):
 Rv 332 #[.int .i64 m,.int .u64 n] w (.string (st (hd m n))):=by
 have hm0:¬(7:Int)<(m:Int):=by omega
 have hm1:(m:Int)≤7:=by omega
 have q24:¬(n:Int)<24:=by omega
 obtain⟨c,hc⟩:∃c,c=32*m:=⟨_,rfl⟩;have hcm:(m:Int)*32=(c:Int):=by omega
 have hcl:(c:Int)<256:=by omega
 obtain⟨d,hd0⟩:∃d,d=c+25:=⟨_,rfl⟩;have hor:bits .or .u8 (c:Int) 25=(d:Int):=by have h:=or5 m hm 25 (by omega);rw[←hc, ←hd0]at h;exact h
 have HO:=hid (And.intro hor (show d<256 by omega));clear hor;have HH:=hid (show hd m n=[b8 d]++beL n 2 from by unfold hd;rw[if_neg (by omega),if_neg (by omega),if_pos hn,hd0,hc];rfl);have HN:=hid hn;have HL:=hid hl;clear hm hc hd0 hn hl;go_enter Tryz.func332,Tryz.ntmps332;go_upto_region 6 with(fail);clear q24;have q256:¬(n:Int)<256:=by have:=HL.out;omega
 go_upto_region 8 with(fail);clear q256;have hn0:(n:Int)<65536:=by have:=HN.out;omega
 go_upto_region 9 with(fail);refine ent (C:=rg Tryz.f332 9) (by kernel_rfl) ?_;refine head_rtwo n c d w _ (by have:=HN.out;omega) (by omega) HO.out.2 HO.out.1 ?_;intro y38 y39 y40 y41 y42 y43 y44 y45 w6 hb;have HB:=hid hb;clear hb;go_wp2_with fail;go_ret;exact⟨by rw[HH.out];rfl,HB.out⟩
theorem head_four (m n:Nat)(w:World)(hm:m<8)(hl:65536≤n)(hn:n<4294967296):
 Rv 332 #[.int .i64 m,.int .u64 n] w (.string (st (hd m n))):=by
 have hm0:¬(7:Int)<(m:Int):=by omega
 have hm1:(m:Int)≤7:=by omega
 have q24:¬(n:Int)<24:=by omega
 obtain⟨c,hc⟩:∃c,c=32*m:=⟨_,rfl⟩;have hcm:(m:Int)*32=(c:Int):=by omega
 have hcl:(c:Int)<256:=by omega
 obtain⟨d,hd0⟩:∃d,d=c+26:=⟨_,rfl⟩;have hor:bits .or .u8 (c:Int) 26=(d:Int):=by have h:=or5 m hm 26 (by omega);rw[←hc, ←hd0]at h;exact h
 have HO:=hid (And.intro hor (show d<256 by omega));clear hor;have HH:=hid (show hd m n=[b8 d]++beL n 4 from by unfold hd;rw[if_neg (by omega),if_neg (by omega),if_neg (by omega),if_pos hn,hd0,hc];rfl);have HN:=hid hn;have HL:=hid hl;clear hm hc hd0 hn hl;go_enter Tryz.func332,Tryz.ntmps332;go_upto_region 6 with(fail);clear q24;have q256:¬(n:Int)<256:=by have:=HL.out;omega
 go_upto_region 8 with(fail);clear q256;have q65536:¬(n:Int)<65536:=by have:=HL.out;omega
 go_upto_region 10 with(fail);clear q65536;have hn0:(n:Int)<4294967296:=by have:=HN.out;omega
 go_upto_region 11 with(fail);refine ent (C:=rg Tryz.f332 11) (by kernel_rfl) ?_;refine head_rfour n c d w _ (by have:=HN.out;omega) (by omega) HO.out.2 HO.out.1 ?_;intro y49 y50 y51 y52 y53 y54 y55 y56 w6 hb;have HB:=hid hb;clear hb;go_wp2_with fail;go_ret;exact⟨by rw[HH.out];rfl,HB.out⟩
theorem head_eight (m n:Nat)(w:World)(hm:m<8)(hl:4294967296≤n)(hn:n<18446744073709551616):
 Rv 332 #[.int .i64 m,.int .u64 n] w (.string (st (hd m n))):=by
 have hm0:¬(7:Int)<(m:Int):=by omega
 have hm1:(m:Int)≤7:=by omega
 have q24:¬(n:Int)<24:=by omega
 obtain⟨c,hc⟩:∃c,c=32*m:=⟨_,rfl⟩;have hcm:(m:Int)*32=(c:Int):=by omega
 have hcl:(c:Int)<256:=by omega
 obtain⟨d,hd0⟩:∃d,d=c+27:=⟨_,rfl⟩;have hor:bits .or .u8 (c:Int) 27=(d:Int):=by have h:=or5 m hm 27 (by omega);rw[←hc, ←hd0]at h;exact h
 have HO:=hid (And.intro hor (show d<256 by omega));clear hor;have HH:=hid (show hd m n=[b8 d]++beL n 8 from by unfold hd;rw[if_neg (by omega),if_neg (by omega),if_neg (by omega),if_neg (by omega),hd0,hc];rfl);have HN:=hid hn;have HL:=hid hl;clear hm hc hd0 hn hl;go_enter Tryz.func332,Tryz.ntmps332;go_upto_region 6 with(fail);clear q24;have q256:¬(n:Int)<256:=by have:=HL.out;omega
 go_upto_region 8 with(fail);clear q256;have q65536:¬(n:Int)<65536:=by have:=HL.out;omega
 go_upto_region 10 with(fail);clear q65536;have q4294967296:¬(n:Int)<4294967296:=by have:=HL.out;omega
 go_upto_region 12 with(fail);refine ent (C:=rg Tryz.f332 12) (by kernel_rfl) ?_;refine head_reight n c d w _ (by have:=HN.out;omega) (by omega) HO.out.2 HO.out.1 ?_;intro y57 y58 y59 y60 y61 y62 y63 w6 hb;have HB:=hid hb;clear hb;go_wp2_with fail;go_ret;exact⟨by rw[HH.out];rfl,HB.out⟩
theorem head_any (m n:Nat)(w:World)(hm:m<8)(hn:n<18446744073709551616):
 Rv 332 #[.int .i64 m,.int .u64 n] w (.string (st (hd m n))):=by
 by_cases h1:n<24
 · exact head_small m n w hm h1
 · by_cases h2:n<256
   · exact head_one m n w hm (by omega) h2
   · by_cases h3:n<65536
     · exact head_two m n w hm (by omega) h3
     · by_cases h4:n<4294967296
       · exact head_four m n w hm (by omega) h4
       · exact head_eight m n w hm (by omega) hn
theorem hd_len (m n:Nat):(hd m n).length≤9:=by
 unfold hd;split
 · simp
 · split
   · simp[beL_len]
   · split
     · simp[beL_len]
     · split<;>simp[beL_len]
def bs (s:List UInt8):List UInt8:=hd 2 s.length++s
def tx (s:List UInt8):List UInt8:=hd 3 s.length++s
theorem bytes_any (s:List UInt8)(w:World)(hs:s.length≤100000):
 Rv 333 #[.string (st s)] w (.string (st (bs s))):=by
 have hz:=st_size s;have hn:(s.length:Int)≤100000:=by omega
 have HH:=hid (fun w=>head_any 2 s.length w (by omega) (by omega));have HB:=hid (st_app (hd 2 s.length) s);obtain⟨k,hk,hk9⟩:∃k,(st (hd 2 s.length)).size=k∧k≤9:=⟨_,rfl,by rw[st_size];exact hd_len _ _⟩;clear hs;go_enter Tryz.func333,Tryz.ntmps333;go_wp2_with fail;refine(HH.out _).mono ?_;rintro e w2 ⟨rfl,hb⟩;have HU:=hid hb;clear hb;have hap:=HB.out;go_wp2_with fail;go_ret;exact⟨rfl,HU.out⟩
theorem text_any (s:List UInt8)(w:World)(hs:s.length≤100000):
 Rv 334 #[.string (st s)] w (.string (st (tx s))):=by
 have hz:=st_size s;have hn:(s.length:Int)≤100000:=by omega
 have HH:=hid (fun w=>head_any 3 s.length w (by omega) (by omega));have HB:=hid (st_app (hd 3 s.length) s);obtain⟨k,hk,hk9⟩:∃k,(st (hd 3 s.length)).size=k∧k≤9:=⟨_,rfl,by rw[st_size];exact hd_len _ _⟩;clear hs;go_enter Tryz.func334,Tryz.ntmps334;go_wp2_with fail;refine(HH.out _).mono ?_;rintro e w2 ⟨rfl,hb⟩;have HU:=hid hb;clear hb;have hap:=HB.out;go_wp2_with fail;go_ret;exact⟨rfl,HU.out⟩
theorem opens_yes (m:Int)(w:World)(hm:m=4∨m=7):Calls Tryz.prog 353 #[.int .i64 m] w fun e w'=>e= .returned (.bool true)∧w=w':=by
 rcases hm with rfl|rfl
 all_goals
  go_enter Tryz.func353,Tryz.ntmps353
  go_wp2_with fail
  go_ret
  exact⟨rfl,rfl⟩
theorem open_array (w:World):Rv 285 #[.int .i64 4] w (.string (st [0x9f])):=by
 have hor:bits .or .i64 128 31=159:=by decide+kernel
 have hcv:=one_text (w.alloc (.cells #[.int .u8 ((159:Nat):Int)] 5)) 159 (by decide) w.heap.size (heap_new w _);have HU:=hid ((Below.refl w.heap.size w).alloc (Nat.le_refl _) (.cells #[.int .u8 159] 5));rw[show((159:Nat):Int)=159 from rfl]at hcv;go_enter Tryz.func285,Tryz.ntmps285;go_wp2_with fail;refine(opens_yes 4 _ (Or.inl rfl)).mono ?_;rintro e w2 ⟨rfl,rfl⟩;go_wp2_with fail;exact bodyPost_ret (results_tmp rfl _ _ _) rfl ⟨rfl,HU.out⟩
theorem open_break (w:World):Rv 285 #[.int .i64 7] w (.string (st [0xff])):=by
 have hor:bits .or .i64 224 31=255:=by decide+kernel
 have hcv:=one_text (w.alloc (.cells #[.int .u8 ((255:Nat):Int)] 5)) 255 (by decide) w.heap.size (heap_new w _);have HU:=hid ((Below.refl w.heap.size w).alloc (Nat.le_refl _) (.cells #[.int .u8 255] 5));rw[show((255:Nat):Int)=255 from rfl]at hcv;go_enter Tryz.func285,Tryz.ntmps285;go_wp2_with fail;refine(opens_yes 7 _ (Or.inr rfl)).mono ?_;rintro e w2 ⟨rfl,rfl⟩;go_wp2_with fail;exact bodyPost_ret (results_tmp rfl _ _ _) rfl ⟨rfl,HU.out⟩
theorem size_any (k:Nat)(w:World)(hk:k≤2):Calls Tryz.prog 329 #[.int .i64 k] w fun e w'=>e= .returned (.int .i64 (2*k:Nat))∧w=w':=by
 have h1:¬(2:Int)<(k:Int):=by omega
 have h2:(k:Int)≤2:=by omega
 clear hk;go_enter Tryz.func329,Tryz.ntmps329;go_wp2_with fail;go_ret;exact⟨by simp[Int.natCast_mul],rfl⟩
end
section
open Go.RowKit
def stp (by_ s:Nat):Nat:=if s%2=1 then(s/2)^^^by_ else s/2
def rnd (by_:Nat):Nat→Nat→Nat
 |0,s=>s
 |k+1,s=>stp by_ (rnd by_ k s)
def crcByte (by_ s:Nat)(c:UInt8):Nat:=rnd by_ 8 (s^^^c.toNat)
def dvd (by_ s:Nat)(l:List UInt8):Nat:=l.foldl (crcByte by_) s
theorem stp_lt {by_ s j:Nat}(hb:by_<2^j)(hs:s<2^j):stp by_ s<2^j:=by
 unfold stp;split
 · exact Nat.xor_lt_two_pow (by omega) hb
 · omega
theorem rnd_lt {by_ j:Nat}(hb:by_<2^j):∀(k s:Nat),s<2^j→rnd by_ k s<2^j
 |0,_,h=>h
 |k+1,s,h=>stp_lt hb (rnd_lt hb k s h)
theorem crcByte_lt {by_ j:Nat}(hb:by_<2^j)(h8:8≤j)(s:Nat)(c:UInt8)(hs:s<2^j):crcByte by_ s c<2^j:=by
 refine rnd_lt hb 8 _ (Nat.xor_lt_two_pow hs ?_);have h1:=c.toNat_lt;have h2:(2:Nat)^8≤2^j:=Nat.pow_le_pow_right (by omega) h8;omega
theorem dvd_lt {by_ j:Nat}(hb:by_<2^j)(h8:8≤j):∀(l:List UInt8) (s:Nat),s<2^j→dvd by_ s l<2^j
 | [],_,h=>h
 |c::l,s,h=>dvd_lt hb h8 l _ (crcByte_lt hb h8 s c h)
theorem dvd_take (by_ s:Nat)(b:ByteArray)(k:Nat)(h:k<b.size):dvd by_ s (b.data.toList.take (k+1))=crcByte by_ (dvd by_ s (b.data.toList.take k)) b[k]:=by
 rw[List.take_succ_eq_append_getElem (by simpa using h)];unfold dvd;rw[List.foldl_append];rfl
def xcrc (l:List UInt8):Nat:=65535-dvd 33800 65535 l
theorem xcrc_lt (l:List UInt8):xcrc l<65536:=by unfold xcrc;omega
theorem d16_lt (l:List UInt8):dvd 33800 65535 l<65536:=dvd_lt (by_:=33800) (j:=16) (by decide) (by decide) l 65535 (by decide)
theorem ones_xor (w n:Nat)(h:n<2^w):(2^w-1)^^^n=2^w-1-n:=by
 have h1:(BitVec.ofNat w n^^^BitVec.allOnes w).toNat=(~~~ BitVec.ofNat w n).toNat:=by rw[BitVec.xor_allOnes]
 rw[BitVec.toNat_xor,BitVec.toNat_not,BitVec.toNat_allOnes,BitVec.toNat_ofNat,Nat.mod_eq_of_lt h,Nat.xor_comm]at h1;exact h1
theorem conv_bytes (w:World)(s:ByteArray):∃(W1:World) (cap:Nat),(convert 9 113 (.string s)).run Tryz.prog w= .ok (.slice (some ⟨w.heap.size,0,none⟩) s.size cap) W1∧
 (∀i (h:i<s.size),W1.cell? ⟨w.heap.size,i,none⟩=some (.int .u8 (s[i].toNat:Int)))∧(∀i,i<s.size→W1.frozen? ⟨w.heap.size,i,none⟩=false)∧Below w.heap.size w W1∧w.heap.size<W1.heap.size:=by
 refine⟨_,_,run_bytes_of_string w 9 113 5 s Tryz.underlying9 Tryz.underlying113 Tryz.underlying5,?_,?_,?_,?_⟩
 · intro i h;have:=World.cell?_alloc_mark w.drew (bytesRow s (grownCap w s.size 0 5)) 5 ((bytesRow s (grownCap w s.size 0 5)).size,(bytesRow s (grownCap w s.size 0 5)).size+1) i;rw[show w.drew.heap.size=w.heap.size from rfl]at this;rw[this,bytesRow_at s _ i h];rfl
 · intro i h;have:=World.frozen?_alloc_mark w.drew (bytesRow s (grownCap w s.size 0 5)) 5 (bytesRow s (grownCap w s.size 0 5)).size ((bytesRow s (grownCap w s.size 0 5)).size+1) i;rw[show w.drew.heap.size=w.heap.size from rfl]at this;rw[this];have hz:s.size≤(bytesRow s (grownCap w s.size 0 5)).size:=by
    rw[bytesRow,Array.size_append,Array.size_map];show s.data.size≤_;omega
   simp;omega
 · exact(Below.refl _ _).drew.alloc (Nat.le_refl _) _
 · show w.heap.size<(w.heap.push _).size;simp
theorem and16 (s:Nat)(h:s<65536):bits .and .u16 (s:Int) 1=((s%2:Nat):Int):=by
 have:=u16_and_nat s 1 h (by decide);rw[Nat.and_one_is_mod]at this;exact this
theorem half16 (s:Nat)(h:s<65536):bits .xor .u16 ((s:Int)/2) 33800=((s/2^^^33800:Nat):Int):=
 u16_xor_nat (s/2) 33800 (by omega) (by decide)
theorem divide16 (n:Nat)(b:ByteArray)(w:World)(hn:n<65536)(hb:b.size≤maxLen):
 Rv 425 #[.int .u16 n,.int .u16 33800,.string b] w (.int .u16 (dvd 33800 n b.data.toList:Nat)):=by
 unfold maxLen at hb;obtain⟨W1,cap,hconv,hcell,hfr,hbel,hsz⟩:=conv_bytes w b;clear hfr hsz;have HB:=hid hbel;clear hbel;have HC:=hid hcell;clear hcell;go_enter Tryz.func425,Tryz.ntmps425;go_wp2;clear hconv;go_loop [0,8,12,20] (fun s _ i _=>∃k:Nat,k≤b.size∧i= .int .i64 k∧s= .int .u16 (dvd 33800 n (b.data.toList.take k):Nat)) (fun _ _ i _=>b.size-(intOf i).toNat);case atStart=>exact⟨0,Nat.zero_le _,rfl,rfl⟩
 case round=>
  obtain⟨k,hk,rfl,rfl⟩:=hrel;have hlt0:=dvd_lt (by_:=33800) (j:=16) (by decide) (by decide) (b.data.toList.take k) n hn;by_cases hlt:k<b.size
  · have hc:=HC.out k hlt;have hts:=hid (dvd_take 33800 n b k hlt);generalize dvd 33800 n (b.data.toList.take k)=S at*;have hc8:=b[k].toNat_lt;have hx:bits .xor .u16 (S:Int) (b[k].toNat:Int)=((S^^^b[k].toNat:Nat):Int):=u16_xor_nat _ _ hlt0 (by omega);have hxl:S^^^b[k].toNat<65536:=Nat.xor_lt_two_pow (n:=16) hlt0 (by omega);go_wp2;generalize hsx:S^^^b[k].toNat=s0 at*;have HS:=hid hsx;clear hsx hx;go_loop [0,20] (fun s i=>∃j:Nat,j≤8∧i= .int .i64 j∧s= .int .u16 (rnd 33800 j s0:Nat)) (fun _ i=>8-(intOf i).toNat);case atStart=>exact⟨0,Nat.zero_le _,rfl,rfl⟩
    case round=>
     obtain⟨j,hj,rfl,rfl⟩:=hrel;have hlt1:=rnd_lt (by_:=33800) (j:=16) (by decide) j s0 hxl;by_cases hj8:j<8
     · have hst:=hid (show rnd 33800 (j+1) s0=stp 33800 (rnd 33800 j s0)from rfl);generalize rnd 33800 j s0=S1 at*;have ha:=and16 S1 hlt1;have hh:=half16 S1 hlt1;by_cases hp:S1%2=1
       · have HP:=hid hp;have ha1:(bits .and .u16 (S1:Int) 1==1)=true:=by rw[ha,hp];rfl
         clear ha hp;go_wp2;all_goals
          go_round
          case rel=>exact⟨j+1,by omega,by go_num,by rw[hst.out,stp,if_pos HP.out]⟩
          case measure=>simp[intOf];omega
       · have HP:=hid hp;have ha1:(bits .and .u16 (S1:Int) 1==1)=false:=by
          rw[ha,beq_eq_false_iff_ne];omega
         clear ha hp;go_wp2;all_goals
          go_round
          case rel=>exact⟨j+1,by omega,by go_num,by rw[hst.out,stp,if_neg HP.out];rfl⟩
          case measure=>simp[intOf];omega
     · have hj9:j=8:=by omega
       subst hj9;go_wp2;all_goals
        go_round
        case rel=>exact⟨k+1,by omega,by go_num,by rw[hts.out,crcByte,HS.out]⟩
        case measure=>simp[intOf];omega
  · have hk9:b.data.toList.take k=b.data.toList:=List.take_of_length_le (by simp;show b.size≤k;omega);have HK:=hid hk9;clear hk9;go_wp2;go_ret;exact⟨by rw[HK.out];rfl,HB.out⟩
theorem not16 (l:List UInt8):bits .xor .u16 IntKind.u16.max (dvd 33800 65535 l:Nat)=(xcrc l:Nat):=by
 have h:=d16_lt l;have h1:=u16_xor_nat 65535 (dvd 33800 65535 l) (by decide) h;have h2:=ones_xor 16 (dvd 33800 65535 l) h;rw[show 65535^^^dvd 33800 65535 l=65535-dvd 33800 65535 l from h2]at h1;exact h1
theorem X25_any (b:ByteArray)(w:World)(hb:b.size≤maxLen):
 Rv 380 #[.string b] w (.int .u16 (xcrc b.data.toList:Nat)):=by
 have HL:=hid (not16 b.data.toList);have hs:¬IntKind.u16.signed=true:=by decide
 go_enter Tryz.func380,Tryz.ntmps380;go_wp2_with (go_at_call 425;refine(divide16 65535 _ _ (by omega) hb).mono ?_;rintro e w' ⟨rfl,hbel⟩);go_ret;exact⟨by rw[HL.out];rfl,hbel⟩
end
section
open Go.RowKit
def sumL (l:List UInt8):List UInt8:=[b8 (xcrc l/256),b8 (xcrc l%256)]
theorem sumL_len (l:List UInt8):(sumL l).length=2:=rfl
theorem two_text (W1:World)(x y:Nat)(hx:x<256)(hy:y<256)(b:Nat)(hc:At W1 b (.cells #[.int .u8 x,.int .u8 y] 5)):(convert 113 9 (.slice (some ⟨b,0,none⟩) 2 2)).run Tryz.prog W1= .ok (.string (st [b8 x,b8 y])) W1:=
 conv_back 2 W1 ⟨b,0,none⟩ 2 (fun j=>[x,y].getD j 0) (fun j=>by
  rcases j with _|_|j
  · exact hx
  · exact hy
  · simp) (cells_add (f:=fun j=>[x,y].getD j 0) hc)
theorem sum1_any (l:List UInt8)(w:World)(hl:l.length≤100000):
 Rv 325 #[.int .i64 1,.string (st l)] w (.string (st (sumL l))):=by
 have hx:=xcrc_lt l;have hb:(st l).size≤maxLen:=by rw[st_size];unfold maxLen;omega
 have HX:=hid (fun w=>X25_any (st l) w hb);have HD:=hid (show(st l).data.toList=l from by simp[st]);have HS:=hid (show sumL l=[b8 (xcrc l/256),b8 (xcrc l%256)]from rfl);clear hb;generalize hn:xcrc l=n at*;obtain⟨p,hp⟩:∃p,p=n/256:=⟨_,rfl⟩;obtain⟨q,hq⟩:∃q,q=n%256:=⟨_,rfl⟩;have hp1:(n:Int)/256=(p:Int):=by omega
 have hq1:(n:Int)%256=(q:Int):=by omega
 have hpl:(p:Int)<256:=by omega
 have hcv:=fun w1:World=>two_text (w1.alloc (.cells #[.int .u8 (p:Nat),.int .u8 (q:Nat)] 5)) p q (by omega) (by omega) w1.heap.size (heap_new w1 _);have HN:=hid hn;clear hn;have HPQ:=hid (And.intro hp hq);clear hp hq;go_enter Tryz.func325,Tryz.ntmps325;go_wp2_with fail;refine(HX.out _).mono ?_;rintro e w1 ⟨rfl,hb1⟩;rw[HD.out,HN.out];have HU:=hid (hb1.alloc hb1.size (.cells #[.int .u8 (p:Nat),.int .u8 (q:Nat)] 5));clear hb1;go_wp2_with fail;go_ret;exact⟨by rw[HS.out, ←HPQ.out.1, ←HPQ.out.2];rfl,HU.out⟩
end
section
open Go.RowKit
def jn (l:List UInt8):Nat:=l.foldl (fun a c=>a*256+c.toNat) 0
theorem jn_snoc (l:List UInt8)(c:UInt8):jn (l++[c])=jn l*256+c.toNat:=by simp[jn]
theorem jn_lt:∀(n:Nat) (l:List UInt8),l.length=n→jn l<256^n
 |0,l,h=>by
  rw[List.length_eq_zero_iff]at h;subst h;decide
 |n+1,l,h=>by
  obtain⟨r,c,rfl⟩:∃r c,l=r++[c]:=⟨l.dropLast,l.getLast (by intro e;subst e;simp at h),(List.dropLast_concat_getLast _).symm⟩;rw[jn_snoc];have h1:=jn_lt n r (by simpa using h);have h2:=c.toNat_lt;rw[Nat.pow_succ];omega
theorem or64 (a c:Nat)(ha:a<72057594037927936)(hc:c<256):bits .or .u64 ((a:Int)*256) (c:Int)=((a*256+c:Nat):Int):=by
 have h1:=u64_or_nat (a*256) c (by omega) (by omega);rw[show((a*256:Nat):Int)=(a:Int)*256 by omega]at h1;rw[h1];congr 1;have:=Nat.shiftLeft_add_eq_or_of_lt (i:=8) (b:=c) (by simpa using hc) a;rw[Nat.shiftLeft_eq]at this;exact this.symm
theorem jn_take (l:List UInt8)(k:Nat)(h:k<l.length):jn (l.take (k+1))=jn (l.take k)*256+l[k].toNat:=by
 rw[List.take_succ_eq_append_getElem h,jn_snoc]
theorem join_any (l:List UInt8)(w:World)(hl:l.length≤8):
 Rv 374 #[.string (st l)] w (.int .u64 (jn l:Nat)):=by
 obtain⟨W1,cap,hconv,hcell,hfr,hbel,hsz⟩:=conv_bytes w (st l);clear hfr hsz;have HB:=hid hbel;clear hbel;have HC:=hid hcell;clear hcell;have hz:=st_size l;rw[hz]at hconv;have HL:=hid hl;have hl0:(l.length:Int)≤8:=by omega
 clear hl;go_enter Tryz.func374,Tryz.ntmps374;go_wp2_with fail;clear hconv;go_loopw [3,9] (fun n i wr=>∃k:Nat,k≤l.length∧i= .int .i64 k∧n= .int .u64 (jn (l.take k):Nat)∧Below w.heap.size w wr∧wr=W1) (fun _ i _=>l.length-(intOf i).toNat);case atStart=>exact⟨0,Nat.zero_le _,rfl,by simp[jn],HB.out,rfl⟩
 case round=>
  obtain⟨k,hk,rfl,rfl,hu,rfl⟩:=hrel;by_cases hkl:k<l.length
  · have hk0:(k:Int)<(l.length:Int):=by omega
    have hc:=HC.out k (by rw[hz];exact hkl);rw[st_at]at hc;have hts:=hid (jn_take l k hkl);have hlt:jn (l.take k)<72057594037927936:=by
     have h1:=jn_lt k (l.take k) (by simp;omega);have h2:256^k≤256^7:=Nat.pow_le_pow_right (by omega) (by have:=HL.out;omega);have h3:(256:Nat)^7=72057594037927936:=by decide
     omega
    generalize jn (l.take k)=a at*;have hc8:=l[k].toNat_lt;generalize l[k].toNat=c at*;have hor:=or64 a c hlt hc8;have hw:IntKind.u64.wrap ((a:Int)*256)=(a:Int)*256:=by rw[IntKind.wrap_u64];omega
    have HU:=hid hu;clear hu hlt;go_wp2_with fail;go_roundw;case rel=>exact⟨k+1,by omega,by go_num,by rw[hts.out,Int.natCast_add,Int.natCast_mul];rfl,HU.out,by trivial⟩
    case measure=>simp[intOf];omega
  · have hk9:k=l.length:=by omega
    have HU:=hid hu;clear hu;have HT:=hid (show l.take k=l from by rw[hk9,List.take_length]);go_wp2_with fail;go_ret;exact⟨by rw[HT.out];rfl,HU.out⟩
theorem be_jn:∀(size n:Nat),jn (beL n size)=n%2^(8*size)
 |0,n=>by simp[beL,jn,Nat.mod_one]
 |s+1,n=>by
  have h1:beL n (s+1)=beL (n/256) s++[b8 (n%256)]:=by
   unfold beL;rw[List.range_succ,List.map_append];congr 1
   · refine List.map_congr_left fun i hi=>?_;have hi:i<s:=by simpa using hi
     congr 1;unfold be;rw[show 8*(s+1-1-i)=8+8*(s-1-i) by omega,Nat.pow_add, ←Nat.div_div_eq_div_mul]
   · simp[be]
  rw[h1,jn_snoc,be_jn s (n/256),b8_toNat _ (Nat.mod_lt _ (by decide))];rw[show 8*(s+1)=8+8*s by omega,Nat.pow_add,Nat.mod_mul];rw[show(2:Nat)^8=256 from rfl];omega
end
section
open Go.RowKit
def rc (s:List UInt8)(a:Nat):Array Value:=#[.string (st s),.int .i64 a,.int .i64 (-1),.int .i64 0,.int .i64 0]
theorem built423 (s:ByteArray):Tryz.prog.built 423 [(0,.string s),(2,.int .i64 (-1))]=some #[.string s,.int .i64 0,.int .i64 (-1),.int .i64 0,.int .i64 0]:=by kernel_rfl
theorem rfive {w:World}{R a:Nat}{s:List UInt8}(h:At w R (.cells (rc s a) 423)):
 w.cell? ⟨R,0,none⟩=some (.string (st s))∧w.cell? ⟨R,1,none⟩=some (.int .i64 a)∧w.cell? ⟨R,2,none⟩=some (.int .i64 (-1))∧w.cell? ⟨R,3,none⟩=some (.int .i64 0)∧w.cell? ⟨R,4,none⟩=some (.int .i64 0):=by
 refine⟨?_,?_,?_,?_,?_⟩<;>(rw[cell_of_row _ _ _ _ 423 (0,0) h];rfl)
theorem rfree {w:World}{R a:Nat}{s:List UInt8}(h:At w R (.cells (rc s a) 423))(j:Nat):w.frozen? ⟨R,j,none⟩=false:=frozen_of_row w R j _ 423 h
theorem rset {w:World}{R a b:Nat}{s:List UInt8}(h:At w R (.cells (rc s a) 423)):At (w.setCell ⟨R,1,none⟩ (.int .i64 b)) R (.cells (rc s b) 423):=heap_setCell_same w R 1 _ 423 _ h
theorem rset' {w w':World}{R a b:Nat}{s:List UInt8}(h:At w R (.cells (rc s a) 423))(he:w'.heap=w.heap):At (w'.setCell ⟨R,1,none⟩ (.int .i64 b)) R (.cells (rc s b) 423):=
 rset (w:=w') (show w'.heap[R]? =_ by rw[he];exact h)
theorem rset4 {w:World}{R a:Nat}{s:List UInt8}(h:At w R (.cells (rc s a) 423)):At (w.setCell ⟨R,4,none⟩ (.int .i64 0)) R (.cells (rc s a) 423):=heap_setCell_same w R 4 _ 423 _ h
theorem newReader_any (s:List UInt8)(w:World):Calls Tryz.prog 307 #[.string (st s)] w fun e w'=>e= .returned (.pointer (some ⟨w.heap.size,0,none⟩))∧At w' w.heap.size (.cells (rc s 0) 423)∧Below w.heap.size w w':=by
 have hb:=built423 (st s);have hnew:=heap_new w (.cells (rc s 0) 423);have HU:=hid (And.intro hnew ((Below.refl w.heap.size w).alloc (Nat.le_refl _) (.cells (rc s 0) 423)));clear hnew;go_enter Tryz.func307,Tryz.ntmps307;go_wp2_with fail;go_ret;exact⟨rfl,HU.out⟩
theorem at_any (s:List UInt8)(R a:Nat)(w:World)(h:At w R (.cells (rc s a) 423)):Calls Tryz.prog 236 #[.pointer (some ⟨R,0,none⟩)] w fun e w'=>e= .returned (.int .i64 a)∧w=w':=by
 obtain⟨c0,c1,c2,c3,c4⟩:=rfive h;go_enter Tryz.func236,Tryz.ntmps236;go_wp2_with fail;go_ret;exact⟨rfl,rfl⟩
theorem bad_any (s:List UInt8)(R a:Nat)(w:World)(h:At w R (.cells (rc s a) 423)):Rv 235 #[.pointer (some ⟨R,0,none⟩)] w (.tuple #[.int .i64 (-1),.int .i64 0]):=by
 obtain⟨c0,c1,c2,c3,c4⟩:=rfive h;clear h;go_enter Tryz.func235,Tryz.ntmps235;go_upto_region 1 with(fail);go_quiet (fail);go_wp2_with fail;go_ret2;exact⟨rfl,⟨rfl,rfl,rfl,Nat.le_refl _,fun _ _=>rfl⟩⟩
theorem and31:∀c:Nat,c<256→bits .and .u8 (c:Int) 31=((c%32:Nat):Int):=by decide+kernel
theorem st_whole (s:List UInt8):(st s).extract 0 (st s).size=st s:=by
 apply ByteArray.ext;simp
theorem st_cons (c:UInt8)(r:List UInt8)(h:0<(st (c::r)).size):(st (c::r))[0]=c:=rfl
theorem st_ne (c:UInt8)(r:List UInt8):((st (c::r))==(⟨#[]⟩:ByteArray))=false:=by
 show((st (c::r)).data== #[])=false;simp[st]
theorem st_some (c:UInt8)(r:List UInt8):(st (c::r)).toList.isEmpty=false:=by
 rw[ByteArray.toList_eq];rfl
theorem rhead_small (m n R:Nat)(r:List UInt8)(w:World)(hm:m<8)(hn:n<24)(h:At w R (.cells (rc (b8 (32*m+n)::r) 0) 423))(hl:r.length≤100000):
 Calls Tryz.prog 308 #[.pointer (some ⟨R,0,none⟩)] w fun e w'=>e= .returned (.tuple #[.int .i64 m,.int .u64 n,.bool false])∧At w' R (.cells (rc (b8 (32*m+n)::r) 1) 423)∧Upd (·=R) w w':=by
 obtain⟨c,hc⟩:∃c,c=32*m+n:=⟨_,rfl⟩;rw[←hc]at h ⊢;obtain⟨c0,c1,c2,c3,c4⟩:=rfive h;have hf:=rfree h 1;have HA:=hid h;clear h;have hcl:c<256:=by omega
 have hsh:(c:Int)/32=(m:Int):=by omega
 have han:=and31 c hcl;rw[show c%32=n by omega]at han;have hne:=st_ne (b8 c) r;have hem:=st_some (b8 c) r;have hne2:¬st (b8 c::r)=(⟨#[]⟩:ByteArray):=fun e=>by have:=congrArg ByteArray.size e;rw[st_size]at this;simp[ByteArray.size]at this
 have hwh:(st (b8 c::r)).extract 0 (r.length+1)=st (b8 c::r):=by have h:=st_whole (b8 c::r);rw[st_size]at h;exact h
 have hat:=fun h=>st_cons (b8 c) r h;have hb8:=b8_toNat c hcl;have hsz:(st (b8 c::r)).size=r.length+1:=by rw[st_size];rfl
 have hl0:(r.length:Int)≤100000:=by omega
 have hm0:(m:Int)<8:=by omega
 have hn0:(n:Int)<24:=by omega
 clear hm hn hc hcl hl;go_enter Tryz.func308,Tryz.ntmps308;go_upto_region 3 with(fail);go_quiet (fail);go_upto_region 7 with(fail);go_quiet (fail);go_wp2_with fail;refine bodyPost_ret (v:= .tuple #[.int .i64 m,.int .u64 n,.bool false]) (by simp[results,Tryz.results308,go_sem]) rfl ⟨rfl,?_,?_⟩
 · exact rset' HA.out rfl
 · exact⟨rfl,rfl,rfl,by simp[World.setCell],fun k _ hk=>Below.heap_setCell _ _ _ _ hk⟩
theorem rhead_open (m R:Nat)(r:List UInt8)(w:World)(hm:m=4∨m=7)(h:At w R (.cells (rc (b8 (32*m+31)::r) 0) 423))(hl:r.length≤100000):
 Calls Tryz.prog 308 #[.pointer (some ⟨R,0,none⟩)] w fun e w'=>e= .returned (.tuple #[.int .i64 m,.int .u64 0,.bool true])∧At w' R (.cells (rc (b8 (32*m+31)::r) 1) 423)∧Upd (·=R) w w':=by
 obtain⟨c,hc⟩:∃c,c=32*m+31:=⟨_,rfl⟩;rw[←hc]at h ⊢;obtain⟨c0,c1,c2,c3,c4⟩:=rfive h;have hf:=rfree h 1;have HA:=hid h;clear h;have hcl:c<256:=by omega
 have hsh:(c:Int)/32=(m:Int):=by omega
 have han:=and31 c hcl;rw[show c%32=31 by omega]at han;have hem:=st_some (b8 c) r;have hwh:(st (b8 c::r)).extract 0 (r.length+1)=st (b8 c::r):=by have h:=st_whole (b8 c::r);rw[st_size]at h;exact h
 have hat:=fun h=>st_cons (b8 c) r h;have hb8:=b8_toNat c hcl;have hsz:(st (b8 c::r)).size=r.length+1:=by rw[st_size];rfl
 have hl0:(r.length:Int)≤100000:=by omega
 have hm0:(m:Int)<8:=by omega
 have HO:=hid (fun w=>opens_yes m w (by omega));rw[show((31:Nat):Int)=31 from rfl]at han;clear hm hc hcl hl;go_enter Tryz.func308,Tryz.ntmps308;go_upto_region 3 with(fail);go_quiet (fail);go_upto_region 7 with(fail);go_quiet (fail);go_wp2_with fail;refine(HO.out _).mono ?_;rintro e w2 ⟨rfl,rfl⟩;go_wp2_with fail;refine bodyPost_ret (v:= .tuple #[.int .i64 m,.int .u64 0,.bool true]) (by simp[results,Tryz.results308,go_sem]) rfl ⟨rfl,?_,?_⟩
 · exact rset' HA.out rfl
 · exact⟨rfl,rfl,rfl,by simp[World.setCell],fun k _ hk=>Below.heap_setCell _ _ _ _ hk⟩
end
end Go.Proofs.YtlhlmflacdeafaaGreatDoor
