/-
  The region of the reference's Do that mixes.
-/
import Derived.Test.YtlhakobfjokabaaRdo
namespace Go.Proofs.Ytlhakobfjokabaa
open Go.RowKit

noncomputable def rdo21C : Code := ((Try.f17.body.bind (regionAt 21)).getD .skip)
set_option maxRecDepth 100000 in
set_option maxHeartbeats 2000000 in
theorem rdo21 {x0 x1 x2 x3 x4 x5 x6 x7 x8 x9 x10 x12 x17 x18 x19 x20 x21 x22 x23 x24 x25 x26 x27 x28 x29 x30 x31 x32 x33 x34 x35 x36 x37 x38 x39 x40 x41 x42 x43 x44 x45 x46 x47 x48 x49 x50 x51 x52 x53 x54 x55 x56 x57 x58 x59 x60 x61 x62 x63 x64 x65 x66 x67 x68 x69 x70 x71 x72 x73 x74 x75 x76 x77 x78 x79 x80 x81 x82 x83 x84 x85 x86 x87 x88 x89 x90 x91 x92 x93 x94 x95 x96 x97 x98 x99 x100 x101 x102 x103 x104 x105 x106 x107 x108 x109 x110 x111 x112 x113 x114 x115 x116 x117 x118 x119 x120 x121 x122 x123 x124 x125 x126 x127 : Value} (X m q c s1 s2 s3 p1 p2 p3 : Nat) (F : Nat → Nat) (w : World) (Q : Exit → Act → World → Prop)
    (hm : m < 16) (hF : ∀ j, F j < 256) (hx : Bli w X 63 16 F)
    (b1 : ((q : Int) + 1).tmod 4 = (s1 : Int)) (b2 : ((q : Int) + 2).tmod 4 = (s2 : Int)) (b3 : ((q : Int) + 3).tmod 4 = (s3 : Int))
    (b4 : ((q : Int) + 1) % 4 = (s1 : Int)) (b5 : ((q : Int) + 2) % 4 = (s2 : Int)) (b6 : ((q : Int) + 3) % 4 = (s3 : Int))
    (e1 : (c : Int) + (s1 : Int) = (p1 : Int)) (e2 : (c : Int) + (s2 : Int) = (p2 : Int)) (e3 : (c : Int) + (s3 : Int) = (p3 : Int))
    (l4 : (p1 : Int) < 16) (l5 : (p2 : Int) < 16) (l6 : (p3 : Int) < 16)
    (w1 : IntKind.i64.wrap ((q : Int) + 1) = (q : Int) + 1) (w2 : IntKind.i64.wrap ((q : Int) + 2) = (q : Int) + 2) (w3 : IntKind.i64.wrap ((q : Int) + 3) = (q : Int) + 3)
    (w4 : IntKind.i64.wrap (s1 : Int) = (s1 : Int)) (w5 : IntKind.i64.wrap (s2 : Int) = (s2 : Int)) (w6 : IntKind.i64.wrap (s3 : Int) = (s3 : Int))
    (w7 : IntKind.i64.wrap (p1 : Int) = (p1 : Int)) (w8 : IntKind.i64.wrap (p2 : Int) = (p2 : Int)) (w9 : IntKind.i64.wrap (p3 : Int) = (p3 : Int))
    (hQ : ∀ (y74 y75 y76 y77 y78 y79 y80 y81 y82 y83 y84 y85 y86 y87 y88 y89 y90 y91 y92 y93 y94 y95 y96 y97 y98 y99 y100 y101 y102 : Value), Q .normal ⟨(x0 :: x1 :: x2 :: x3 :: x4 :: x5 :: x6 :: x7 :: x8 :: x9 :: x10 :: .pointer (some ⟨X, 0, none⟩) :: x12 :: .int .i64 (m : Nat) :: .int .i64 (mul (F m) 2 ^^^ mul (F p1) 3 ^^^ F p2 ^^^ F p3 : Nat) :: .int .i64 (c : Nat) :: .int .i64 (q : Nat) :: x17 :: x18 :: x19 :: x20 :: x21 :: x22 :: x23 :: x24 :: x25 :: x26 :: x27 :: x28 :: x29 :: x30 :: x31 :: x32 :: x33 :: x34 :: x35 :: x36 :: x37 :: x38 :: x39 :: x40 :: x41 :: x42 :: x43 :: x44 :: x45 :: x46 :: x47 :: x48 :: x49 :: x50 :: x51 :: x52 :: x53 :: x54 :: x55 :: x56 :: x57 :: x58 :: x59 :: x60 :: x61 :: x62 :: x63 :: x64 :: x65 :: x66 :: x67 :: x68 :: x69 :: x70 :: x71 :: x72 :: x73 :: y74 :: y75 :: y76 :: y77 :: y78 :: y79 :: y80 :: y81 :: y82 :: y83 :: y84 :: y85 :: y86 :: y87 :: y88 :: y89 :: y90 :: y91 :: y92 :: y93 :: y94 :: y95 :: y96 :: y97 :: y98 :: y99 :: y100 :: y101 :: y102 :: x103 :: x104 :: x105 :: x106 :: x107 :: x108 :: x109 :: x110 :: x111 :: x112 :: x113 :: x114 :: x115 :: x116 :: x117 :: x118 :: x119 :: x120 :: x121 :: x122 :: x123 :: x124 :: x125 :: x126 :: x127 :: []).toArray, []⟩ w.drew) :
    Code.wp Try.prog rdo21C Q ⟨(x0 :: x1 :: x2 :: x3 :: x4 :: x5 :: x6 :: x7 :: x8 :: x9 :: x10 :: .pointer (some ⟨X, 0, none⟩) :: x12 :: .int .i64 (m : Nat) :: .int .i64 (F m : Nat) :: .int .i64 (c : Nat) :: .int .i64 (q : Nat) :: x17 :: x18 :: x19 :: x20 :: x21 :: x22 :: x23 :: x24 :: x25 :: x26 :: x27 :: x28 :: x29 :: x30 :: x31 :: x32 :: x33 :: x34 :: x35 :: x36 :: x37 :: x38 :: x39 :: x40 :: x41 :: x42 :: x43 :: x44 :: x45 :: x46 :: x47 :: x48 :: x49 :: x50 :: x51 :: x52 :: x53 :: x54 :: x55 :: x56 :: x57 :: x58 :: x59 :: x60 :: x61 :: x62 :: x63 :: x64 :: x65 :: x66 :: x67 :: x68 :: x69 :: x70 :: x71 :: x72 :: x73 :: x74 :: x75 :: x76 :: x77 :: x78 :: x79 :: x80 :: x81 :: x82 :: x83 :: x84 :: x85 :: x86 :: x87 :: x88 :: x89 :: x90 :: x91 :: x92 :: x93 :: x94 :: x95 :: x96 :: x97 :: x98 :: x99 :: x100 :: x101 :: x102 :: x103 :: x104 :: x105 :: x106 :: x107 :: x108 :: x109 :: x110 :: x111 :: x112 :: x113 :: x114 :: x115 :: x116 :: x117 :: x118 :: x119 :: x120 :: x121 :: x122 :: x123 :: x124 :: x125 :: x126 :: x127 :: []).toArray, []⟩ w := by
  have HQ := Lib.hid hQ; clear hQ
  have hm0 : (m : Int) < 16 := by omega
  have c0 := hx.cell (j := m) hm
  have c1 := hx.cell (j := p1) (Int.ofNat_lt.1 l4)
  have c2 := hx.cell (j := p2) (Int.ofNat_lt.1 l5)
  have c3 := hx.cell (j := p3) (Int.ofNat_lt.1 l6)
  have HM := Lib.hid (And.intro (hF m) (hF p1))
  obtain ⟨x1, x2, x3, _⟩ := join5 (mul (F m) 2) (mul (F p1) 3) (F p2) (F p3) 0 (mul_lt _ _ HM.out.1) (mul_lt _ _ HM.out.2) (hF p2) (hF p3) (by decide)
  clear hF hx hm
  conv => arg 2; whnf
  go_still_tail 29, (by kernel_rfl)
  still_call ((refTimes_any (F m) 2 _ HM.out.1 (by decide)).mono fun _ _ ⟨h1, h2⟩ => ⟨h1, h2.symm⟩)
  repeat still_step
  still_call ((refTimes_any (F p1) 3 _ HM.out.2 (by decide)).mono fun _ _ ⟨h1, h2⟩ => ⟨h1, h2.symm⟩)
  repeat still_step
  refine wpStill_nil ?_
  go_wp2_with fail
  exact HQ.out _ _ _ _ _ _ _ _ _ _ _ _ _ _ _ _ _ _ _ _ _ _ _ _ _ _ _ _ _
end Go.Proofs.Ytlhakobfjokabaa
