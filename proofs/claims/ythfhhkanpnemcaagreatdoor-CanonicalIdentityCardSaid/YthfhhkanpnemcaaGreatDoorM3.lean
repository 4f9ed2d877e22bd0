/- What all texts of this law share. SHA-256 in plain words: what package sha256 computes, and the contracts of its functions without state. SHA-256: the words of a block, and the work on a block. SHA-256: the state that grows, and the digest of a text. SHA-256: Sum. -/
import Derived.Test.YthfhhkanpnemcaaGreatDoorM2
import Derived.Test.YthfhhkanpnemcaaGreatDoorProg
namespace Go.Proofs.YthfhhkanpnemcaaGreatDoor
open Go.SL Go.RowKit
theorem mixed : Tryz.prog.follows .mixedOrders = true := by kernel_rfl
end Go.Proofs.YthfhhkanpnemcaaGreatDoor
namespace Go.Proofs.YthfhhkanpnemcaaGreatDoor
open Go.SL Go.RowKit
set_option linter.unusedVariables false
set_option maxRecDepth 100000
set_option linter.unusedSimpArgs false


/-- the words of the state -/
structure WS where
 a : UInt32
 b : UInt32
 c : UInt32
 d : UInt32
 e : UInt32
 f : UInt32
 g : UInt32
 h : UInt32
abbrev wseg (s : WS) : List Seg := [Seg.one (.int .u32 s.a.toNat) rfl, Seg.one (.int .u32 s.b.toNat) rfl, Seg.one (.int .u32 s.c.toNat) rfl, Seg.one (.int .u32 s.d.toNat) rfl, Seg.one (.int .u32 s.e.toNat) rfl, Seg.one (.int .u32 s.f.toNat) rfl, Seg.one (.int .u32 s.g.toNat) rfl, Seg.one (.int .u32 s.h.toNat) rfl]

def rr (x : UInt32) (n : Nat) : UInt32 := x <<< UInt32.ofNat (32 - n) ||| x >>> UInt32.ofNat n
def rnd (s : WS) (k w : UInt32) : WS :=
 let t := s.h + (rr s.e 6 ^^^ rr s.e 11 ^^^ rr s.e 25) + ((s.e &&& s.f) ^^^ (~~~ s.e &&& s.g)) + k + w
 let u := (rr s.a 2 ^^^ rr s.a 13 ^^^ rr s.a 22) + ((s.a &&& s.b) ^^^ (s.a &&& s.c) ^^^ (s.b &&& s.c))
 ⟨t + u, s.a, s.b, s.c, s.d + t, s.e, s.f, s.g⟩
def plus (s o : WS) : WS := ⟨s.a + o.a, s.b + o.b, s.c + o.c, s.d + o.d, s.e + o.e, s.f + o.f, s.g + o.g, s.h + o.h⟩
def KT : Wd 64 := ⟨[1116352408, 1899447441, 3049323471, 3921009573, 961987163, 1508970993, 2453635748, 2870763221, 3624381080, 310598401, 607225278, 1426881987, 1925078388, 2162078206, 2614888103, 3248222580, 3835390401, 4022224774, 264347078, 604807628, 770255983, 1249150122, 1555081692, 1996064986, 2554220882, 2821834349, 2952996808, 3210313671, 3336571891, 3584528711, 113926993, 338241895, 666307205, 773529912, 1294757372, 1396182291, 1695183700, 1986661051, 2177026350, 2456956037, 2730485921, 2820302411, 3259730800, 3345764771, 3516065817, 3600352804, 4094571909, 275423344, 430227734, 506948616, 659060556, 883997877, 958139571, 1322822218, 1537002063, 1747873779, 1955562222, 2024104815, 2227730452, 2361852424, 2428436474, 2756734187, 3204031479, 3329325298], rfl⟩
def WS0 : WS := ⟨1779033703, 3144134277, 1013904242, 2773480762, 1359893119, 2600822924, 528734635, 1541459225⟩
/-- the further word of a round -/
def more (w : Wd 16) (t : Nat) : UInt32 :=
 w.get (t % 16) + ((rr (w.get ((t - 2) % 16)) 17 ^^^ rr (w.get ((t - 2) % 16)) 19 ^^^ w.get ((t - 2) % 16) >>> 10) + w.get ((t - 7) % 16) + (rr (w.get ((t - 15) % 16)) 7 ^^^ rr (w.get ((t - 15) % 16)) 18 ^^^ w.get ((t - 15) % 16) >>> 3))
def sched (w : Wd 16) (t : Nat) : Wd 16 := if 16 ≤ t then w.set (t % 16) (more w t) else w
def stp (s : WS) (w : Wd 16) : Nat → WS × Wd 16
 | 0 => (s, w)
 | t + 1 => (rnd (stp s w t).1 (KT.get t) ((sched (stp s w t).2 t).get (t % 16)), sched (stp s w t).2 t)
def proc (s : WS) (w : Wd 16) : WS := plus (stp s w 64).1 s
/-- a word of four bytes -/
def be (x : List UInt8) (i : Nat) : UInt32 :=
 (x.getD (4 * i) 0).toUInt32 <<< 24 ||| (x.getD (4 * i + 1) 0).toUInt32 <<< 16 ||| (x.getD (4 * i + 2) 0).toUInt32 <<< 8 ||| (x.getD (4 * i + 3) 0).toUInt32
def ldp (x : List UInt8) : Nat → Wd 16
 | 0 => Wd.zero 16
 | i + 1 => (ldp x i).set i (be x i)

theorem rotate_c (x : UInt32) (n : Nat) (h0 : 0 < n) (h1 : n < 32) (w : World) :
  Calls Tryz.prog 134 [.int .u32 x.toNat, .int .i64 (-(n : Int))].toArray w fun e w' => e = .returned (.int .u32 (rr x n).toNat) ∧ Keeps none1 w w' := by
 have e7 : IntKind.u64.wrap (-(n : Int)) = 18446744073709551616 - (n : Int) := by
  rw [IntKind.wrap_u64]; omega
 have e8 : IntKind.u64.wrap (BitVec.ofInt IntKind.u64.bits (18446744073709551616 - (n : Int)) &&& BitVec.ofInt IntKind.u64.bits 31).toNat = ((32 - n : Nat) : Int) := by
  have h2 : (18446744073709551616 - (n : Int)) = ((18446744073709551616 - n : Nat) : Int) := by omega
  have h3 : (BitVec.ofInt 64 ((18446744073709551616 - n : Nat) : Int) &&& BitVec.ofInt 64 31).toNat = (18446744073709551616 - n) % 32 := by
   have h4 : BitVec.ofInt 64 (31 : Int) = 31#64 := by decide
   rw [h4, BitVec.toNat_and, BitVec.toNat_ofInt]
   have h5 : (31#64).toNat = 2 ^ 5 - 1 := by decide
   rw [h5, Nat.and_two_pow_sub_one_eq_mod]
   omega
  rw [h2]
  show IntKind.u64.wrap ((BitVec.ofInt 64 _ &&& BitVec.ofInt 64 31).toNat : Int) = _
  rw [h3, IntKind.wrap_u64]
  omega
 have e14 : IntKind.u64.wrap (32 - ((32 - n : Nat) : Int)) = (n : Int) := by rw [IntKind.wrap_u64]; omega
 have hm : 32 - n < 32 := by omega
 refine aJ (n := 17) (W := SL.none1) (m := []) Tryz.func134 O Tryz.ntmps134 O (aO _ _ _) ?_
 simp only [SL.enum, Nat.reduceAdd]
 refine ah fun K1 hK1 => aj (aa O O O (ak O O) ?_)
 refine ai (ae ?_)
 refine hK1 _ _ (ah fun K2 hK2 => ?_)
 refine aj (aa O O O (af O O) ?_)
 refine aa O O O (bT O O (by kernel_rfl) Tryz.underlying111 e7) ?_
 refine aa O O O (cr O O O e8) (aa O O O (ak O O) ?_)
 refine ai (ae ?_)
 refine hK2 _ _ (ah fun K3 hK3 => ?_)
 refine aj (aa O O O (af O O) ?_)
 refine aa O O O (af O O) (aa O O O (SL.Pure.shlU32 (32 - n) O O O hm) ?_)
 refine aa O O O (af O O) (aa O O O (af O O) ?_)
 refine aa O O O (SL.Pure.subW O O O e14) (aa O O O (SL.Pure.shrU32 n O O O h1) ?_)
 refine aa O O O (SL.Pure.orU32 O O O) (aa O O O (ak O O) ?_)
 refine ai (ae ?_)
 refine hK3 _ _ (aw av (ar O (.cons (.tmp O) .nil) O) (fun w' hM' hK' => ?_))
 exact ⟨rfl, hK'⟩

theorem right_c (x : UInt32) (n : Nat) (h0 : 0 < n) (h1 : n < 32) (w : World) :
  Calls Tryz.prog 102 [.int .u32 x.toNat, .int .i64 n].toArray w fun e w' => e = .returned (.int .u32 (rr x n).toNat) ∧ Keeps none1 w w' := by
 have e7 : IntKind.i64.wrap (0 - (n : Int)) = -(n : Int) := by rw [IntKind.wrap_i64]; omega
 refine aJ (n := 9) (W := SL.none1) (m := []) Tryz.func102 O Tryz.ntmps102 O (aO _ _ _) ?_
 simp only [SL.enum, Nat.reduceAdd]
 refine ah fun K1 hK1 => aj (aa O O O (ak O O) ?_)
 refine ai (ae ?_)
 refine hK1 _ _ (ah fun K2 hK2 => ?_)
 refine aj (aa O O O (af O O) ?_)
 refine aa O O O (af O O) (aa O O O (SL.Pure.neg O O e7) ?_)
 refine am O (aN O O (by kernel_rfl) O O (fun w hM hK => rotate_c x n h0 h1 w)) ?_
 intro _ _
 try simp only [setN, putD, selM, nth, cw, cx]
 refine aa O O O (ak O O) (ai ?_)
 refine ae (hK2 _ _ ?_)
 refine aw av (ar O (.cons (.tmp O) .nil) O) (fun w' hM' hK' => ?_)
 exact ⟨rfl, hK'⟩

theorem initial_c (w : World) : Calls Tryz.prog 58 [].toArray w fun e w' => e = .returned (.agg (flat (wseg WS0))) ∧ Keeps none1 w w' := by
 refine aJ (n := 2) (W := SL.none1) (m := []) Tryz.func58 O Tryz.ntmps58 O (aO _ _ _) ?_
 simp only [SL.enum, Nat.reduceAdd]
 refine ah fun K1 hK1 => aj (am O (aX [Seg.one (.int .u32 0) rfl, Seg.one (.int .u32 0) rfl, Seg.one (.int .u32 0) rfl, Seg.one (.int .u32 0) rfl, Seg.one (.int .u32 0) rfl, Seg.one (.int .u32 0) rfl, Seg.one (.int .u32 0) rfl, Seg.one (.int .u32 0) rfl] O O O (by kernel_rfl)) ?_)
 intro b0 _
 try simp only [setN, putD, selM, nth, cw, cx]
 refine ai (ae ?_)
 refine hK1 _ _ (ah fun K2 hK2 => ?_)
 refine aj (aa O O O (bg [(0, 1), (1, 1), (2, 1), (3, 1), (4, 1), (5, 1), (6, 1), (7, 1)] [Seg.one (.int .u32 0) rfl, Seg.one (.int .u32 0) rfl, Seg.one (.int .u32 0) rfl, Seg.one (.int .u32 0) rfl, Seg.one (.int .u32 0) rfl, Seg.one (.int .u32 0) rfl, Seg.one (.int .u32 0) rfl, Seg.one (.int .u32 0) rfl] O O (.cons (.one O) (.cons (.one O) (.cons (.one O) (.cons (.one O) (.cons (.one O) (.cons (.one O) (.cons (.one O) (.cons (.one O) .nil)))))))) (by kernel_rfl) (by kernel_rfl) O) ?_)
 refine am O (by first | exact ap (k := 8) 0 _ O O O O O O (by kernel_rfl) O O) ?_
 intro _ _
 try simp only [setN, putD, selM, nth, cw, cx]
 refine ai (ae ?_)
 refine hK2 _ _ (aw av (ar O (.cons (by first | exact SL.RV.cellA 0 (k := 8) O O (by kernel_rfl) O (by kernel_rfl)) .nil) O) (fun w' hM' hK' => ?_))
 exact ⟨rfl, hK'⟩

theorem constants_c (w : World) : Calls Tryz.prog 101 [].toArray w fun e w' => e = .returned (.agg (flat [KT.seg])) ∧ Keeps none1 w w' := by
 refine aJ (n := 2) (W := SL.none1) (m := []) Tryz.func101 O Tryz.ntmps101 O (aO _ _ _) ?_
 simp only [SL.enum, Nat.reduceAdd]
 refine ah fun K1 hK1 => aj (am O (aX [(Wd.zero 64).seg] O O O (by kernel_rfl)) ?_)
 intro b0 _
 try simp only [setN, putD, selM, nth, cw, cx]
 refine ai (ae ?_)
 refine hK1 _ _ (ah fun K2 hK2 => ?_)
 refine aj (aa O O O (SL.Pure.buildK (q := [KT.seg]) O O (by kernel_rfl)) ?_)
 refine am O (by first | exact ap (k := 64) 0 _ O O O O O O (by kernel_rfl) O O) ?_
 intro _ _
 try simp only [setN, putD, selM, nth, cw, cx]
 refine ai (ae ?_)
 refine hK2 _ _ (aw av (ar O (.cons (by first | exact SL.RV.cellA 0 (k := 64) O O (by kernel_rfl) O (by kernel_rfl)) .nil) O) (fun w' hM' hK' => ?_))
 exact ⟨rfl, hK'⟩

theorem round_c (s : WS) (k u : UInt32) (w : World) : Calls Tryz.prog 103 [.agg (flat (wseg s)), .int .u32 k.toNat, .int .u32 u.toNat].toArray w fun e w' => e = .returned (.agg (flat (wseg (rnd s k u)))) ∧ Keeps none1 w w' := by
 refine aJ (n := 89) (W := SL.none1) (m := []) Tryz.func103 O Tryz.ntmps103 O (aO _ _ _) ?_
 simp only [SL.enum, Nat.reduceAdd]
 refine ah fun K1 hK1 => aj (am O (bh _ O O O O O) ?_)
 intro b3 _
 try simp only [setN, putD, selM, nth, cw, cx]
 refine am O (aX [Seg.one (.int .u32 0) rfl, Seg.one (.int .u32 0) rfl, Seg.one (.int .u32 0) rfl, Seg.one (.int .u32 0) rfl, Seg.one (.int .u32 0) rfl, Seg.one (.int .u32 0) rfl, Seg.one (.int .u32 0) rfl, Seg.one (.int .u32 0) rfl] O O O (by kernel_rfl)) ?_
 intro b6 _
 try simp only [setN, putD, selM, nth, cw, cx]
 refine ai (ae ?_)
 refine hK1 _ _ (ah fun K2 hK2 => ?_)
 refine SL.Ok.quiet mixed (by kernel_rfl) ?_
 refine aA O O O (az (au (k := 7) O O (by kernel_rfl) O)) ?_
 refine aA O O O (az (by first | exact al 0 O O O O (by kernel_rfl) | exact al 1 O O O O (by kernel_rfl))) ?_
 refine aA O O O (az (au (k := 4) O O (by kernel_rfl) O)) ?_
 refine aA O O O (az (by first | exact al 0 O O O O (by kernel_rfl) | exact al 1 O O O O (by kernel_rfl))) ?_
 refine aA O O O (bL O O (by kernel_rfl) O (fun w hM hK => right_c _ _ (by decide) (by decide) w)) ?_
 refine aA O O O (az (au (k := 4) O O (by kernel_rfl) O)) ?_
 refine aA O O O (az (by first | exact al 0 O O O O (by kernel_rfl) | exact al 1 O O O O (by kernel_rfl))) ?_
 refine aA O O O (bL O O (by kernel_rfl) O (fun w hM hK => right_c _ _ (by decide) (by decide) w)) ?_
 refine aA O O O (az (SL.Pure.xorU32 O O O)) (aA O O O (az (au (k := 4) O O (by kernel_rfl) O)) ?_)
 refine aA O O O (az (by first | exact al 0 O O O O (by kernel_rfl) | exact al 1 O O O O (by kernel_rfl))) ?_
 refine aA O O O (bL O O (by kernel_rfl) O (fun w hM hK => right_c _ _ (by decide) (by decide) w)) ?_
 refine aA O O O (az (SL.Pure.xorU32 O O O)) (aA O O O (az (ch O O O)) ?_)
 refine aA O O O (az (au (k := 4) O O (by kernel_rfl) O)) ?_
 refine aA O O O (az (by first | exact al 0 O O O O (by kernel_rfl) | exact al 1 O O O O (by kernel_rfl))) ?_
 refine aA O O O (az (au (k := 5) O O (by kernel_rfl) O)) ?_
 refine aA O O O (az (by first | exact al 0 O O O O (by kernel_rfl) | exact al 1 O O O O (by kernel_rfl))) ?_
 refine aA O O O (az (SL.Pure.andU32 O O O)) (aA O O O (az (au (k := 4) O O (by kernel_rfl) O)) ?_)
 refine aA O O O (az (by first | exact al 0 O O O O (by kernel_rfl) | exact al 1 O O O O (by kernel_rfl))) ?_
 refine aA O O O (az (SL.Pure.complU32 O O)) (aA O O O (az (au (k := 6) O O (by kernel_rfl) O)) ?_)
 refine aA O O O (az (by first | exact al 0 O O O O (by kernel_rfl) | exact al 1 O O O O (by kernel_rfl))) ?_
 refine aA O O O (az (SL.Pure.andU32 O O O)) (aA O O O (az (SL.Pure.xorU32 O O O)) ?_)
 refine aA O O O (az (ch O O O)) (aA O O O (az (af O O)) ?_)
 refine aA O O O (az (ch O O O)) (aA O O O (az (af O O)) ?_)
 refine aA O O O (az (ch O O O)) (aA O O O (az (ak O O)) ?_)
 refine SL.OkQ.done (ae ?_)
 refine hK2 _ _ (ah fun K3 hK3 => ?_)
 refine SL.Ok.quiet mixed (by kernel_rfl) ?_
 refine aA O O O (az (au (k := 0) O O (by kernel_rfl) O)) ?_
 refine aA O O O (az (by first | exact al 0 O O O O (by kernel_rfl) | exact al 1 O O O O (by kernel_rfl))) ?_
 refine aA O O O (bL O O (by kernel_rfl) O (fun w hM hK => right_c _ _ (by decide) (by decide) w)) ?_
 refine aA O O O (az (au (k := 0) O O (by kernel_rfl) O)) ?_
 refine aA O O O (az (by first | exact al 0 O O O O (by kernel_rfl) | exact al 1 O O O O (by kernel_rfl))) ?_
 refine aA O O O (bL O O (by kernel_rfl) O (fun w hM hK => right_c _ _ (by decide) (by decide) w)) ?_
 refine aA O O O (az (SL.Pure.xorU32 O O O)) (aA O O O (az (au (k := 0) O O (by kernel_rfl) O)) ?_)
 refine aA O O O (az (by first | exact al 0 O O O O (by kernel_rfl) | exact al 1 O O O O (by kernel_rfl))) ?_
 refine aA O O O (bL O O (by kernel_rfl) O (fun w hM hK => right_c _ _ (by decide) (by decide) w)) ?_
 refine aA O O O (az (SL.Pure.xorU32 O O O)) (aA O O O (az (au (k := 0) O O (by kernel_rfl) O)) ?_)
 refine aA O O O (az (by first | exact al 0 O O O O (by kernel_rfl) | exact al 1 O O O O (by kernel_rfl))) ?_
 refine aA O O O (az (au (k := 1) O O (by kernel_rfl) O)) ?_
 refine aA O O O (az (by first | exact al 0 O O O O (by kernel_rfl) | exact al 1 O O O O (by kernel_rfl))) ?_
 refine aA O O O (az (SL.Pure.andU32 O O O)) (aA O O O (az (au (k := 0) O O (by kernel_rfl) O)) ?_)
 refine aA O O O (az (by first | exact al 0 O O O O (by kernel_rfl) | exact al 1 O O O O (by kernel_rfl))) ?_
 refine aA O O O (az (au (k := 2) O O (by kernel_rfl) O)) ?_
 refine aA O O O (az (by first | exact al 0 O O O O (by kernel_rfl) | exact al 1 O O O O (by kernel_rfl))) ?_
 refine aA O O O (az (SL.Pure.andU32 O O O)) (aA O O O (az (SL.Pure.xorU32 O O O)) ?_)
 refine aA O O O (az (au (k := 1) O O (by kernel_rfl) O)) ?_
 refine aA O O O (az (by first | exact al 0 O O O O (by kernel_rfl) | exact al 1 O O O O (by kernel_rfl))) ?_
 refine aA O O O (az (au (k := 2) O O (by kernel_rfl) O)) ?_
 refine aA O O O (az (by first | exact al 0 O O O O (by kernel_rfl) | exact al 1 O O O O (by kernel_rfl))) ?_
 refine aA O O O (az (SL.Pure.andU32 O O O)) (aA O O O (az (SL.Pure.xorU32 O O O)) ?_)
 refine aA O O O (az (ch O O O)) (aA O O O (az (ak O O)) ?_)
 refine SL.OkQ.done (ae ?_)
 refine hK3 _ _ (ah fun K4 hK4 => ?_)
 refine aj (aa O O O (af O O) ?_)
 refine aa O O O (af O O) (aa O O O (ch O O O) ?_)
 refine aa O O O (au (k := 0) O O (by kernel_rfl) O) ?_
 refine aa O O O (by first | exact al 0 O O O O (by kernel_rfl) | exact al 1 O O O O (by kernel_rfl)) ?_
 refine aa O O O (au (k := 1) O O (by kernel_rfl) O) ?_
 refine aa O O O (by first | exact al 0 O O O O (by kernel_rfl) | exact al 1 O O O O (by kernel_rfl)) ?_
 refine aa O O O (au (k := 2) O O (by kernel_rfl) O) ?_
 refine aa O O O (by first | exact al 0 O O O O (by kernel_rfl) | exact al 1 O O O O (by kernel_rfl)) ?_
 refine aa O O O (au (k := 3) O O (by kernel_rfl) O) ?_
 refine aa O O O (by first | exact al 0 O O O O (by kernel_rfl) | exact al 1 O O O O (by kernel_rfl)) ?_
 refine aa O O O (af O O) (aa O O O (ch O O O) ?_)
 refine aa O O O (au (k := 4) O O (by kernel_rfl) O) ?_
 refine aa O O O (by first | exact al 0 O O O O (by kernel_rfl) | exact al 1 O O O O (by kernel_rfl)) ?_
 refine aa O O O (au (k := 5) O O (by kernel_rfl) O) ?_
 refine aa O O O (by first | exact al 0 O O O O (by kernel_rfl) | exact al 1 O O O O (by kernel_rfl)) ?_
 refine aa O O O (au (k := 6) O O (by kernel_rfl) O) ?_
 refine aa O O O (by first | exact al 0 O O O O (by kernel_rfl) | exact al 1 O O O O (by kernel_rfl)) ?_
 refine aa O O O (bg [(0, 1), (1, 1), (2, 1), (3, 1), (4, 1), (5, 1), (6, 1), (7, 1)] [Seg.one (.int .u32 0) rfl, Seg.one (.int .u32 0) rfl, Seg.one (.int .u32 0) rfl, Seg.one (.int .u32 0) rfl, Seg.one (.int .u32 0) rfl, Seg.one (.int .u32 0) rfl, Seg.one (.int .u32 0) rfl, Seg.one (.int .u32 0) rfl] O O (.cons (.one O) (.cons (.one O) (.cons (.one O) (.cons (.one O) (.cons (.one O) (.cons (.one O) (.cons (.one O) (.cons (.one O) .nil)))))))) (by kernel_rfl) (by kernel_rfl) O) ?_
 refine am O (by first | exact ap (k := 8) 0 _ O O O O O O (by kernel_rfl) O O | exact ap (k := 8) 1 _ O O O O O O (by kernel_rfl) O O) ?_
 intro _ _
 try simp only [setN, putD, selM, nth, cw, cx]
 refine ai (ae ?_)
 refine hK4 _ _ (aw av (ar O (.cons (by first | exact SL.RV.cellA 0 (k := 8) O O (by kernel_rfl) O (by kernel_rfl) | exact SL.RV.cellA 1 (k := 8) O O (by kernel_rfl) O (by kernel_rfl)) .nil) O) (fun w' hM' hK' => ?_))
 exact ⟨rfl, hK'⟩

theorem plus_c (s o : WS) (w : World) : Calls Tryz.prog 104 [.agg (flat (wseg s)), .agg (flat (wseg o))].toArray w fun e w' => e = .returned (.agg (flat (wseg (plus s o)))) ∧ Keeps none1 w w' := by
 refine aJ (n := 46) (W := SL.none1) (m := []) Tryz.func104 O Tryz.ntmps104 O (aO _ _ _) ?_
 simp only [SL.enum, Nat.reduceAdd]
 refine ah fun K1 hK1 => aj (am O (bh _ O O O O O) ?_)
 intro b2 _
 try simp only [setN, putD, selM, nth, cw, cx]
 refine am O (bh _ O O O O O) ?_
 intro b3 _
 try simp only [setN, putD, selM, nth, cw, cx]
 refine am O (aX [Seg.one (.int .u32 0) rfl, Seg.one (.int .u32 0) rfl, Seg.one (.int .u32 0) rfl, Seg.one (.int .u32 0) rfl, Seg.one (.int .u32 0) rfl, Seg.one (.int .u32 0) rfl, Seg.one (.int .u32 0) rfl, Seg.one (.int .u32 0) rfl] O O O (by kernel_rfl)) ?_
 intro b4 _
 try simp only [setN, putD, selM, nth, cw, cx]
 refine ai (ae ?_)
 refine hK1 _ _ (ah fun K2 hK2 => ?_)
 refine aj (aa O O O (au (k := 0) O O (by kernel_rfl) O) ?_)
 refine aa O O O (by first | exact al 0 O O O O (by kernel_rfl) | exact al 1 O O O O (by kernel_rfl) | exact al 2 O O O O (by kernel_rfl)) ?_
 refine aa O O O (au (k := 0) O O (by kernel_rfl) O) ?_
 refine aa O O O (by first | exact al 0 O O O O (by kernel_rfl) | exact al 1 O O O O (by kernel_rfl) | exact al 2 O O O O (by kernel_rfl)) ?_
 refine aa O O O (ch O O O) (aa O O O (au (k := 1) O O (by kernel_rfl) O) ?_)
 refine aa O O O (by first | exact al 0 O O O O (by kernel_rfl) | exact al 1 O O O O (by kernel_rfl) | exact al 2 O O O O (by kernel_rfl)) ?_
 refine aa O O O (au (k := 1) O O (by kernel_rfl) O) ?_
 refine aa O O O (by first | exact al 0 O O O O (by kernel_rfl) | exact al 1 O O O O (by kernel_rfl) | exact al 2 O O O O (by kernel_rfl)) ?_
 refine aa O O O (ch O O O) (aa O O O (au (k := 2) O O (by kernel_rfl) O) ?_)
 refine aa O O O (by first | exact al 0 O O O O (by kernel_rfl) | exact al 1 O O O O (by kernel_rfl) | exact al 2 O O O O (by kernel_rfl)) ?_
 refine aa O O O (au (k := 2) O O (by kernel_rfl) O) ?_
 refine aa O O O (by first | exact al 0 O O O O (by kernel_rfl) | exact al 1 O O O O (by kernel_rfl) | exact al 2 O O O O (by kernel_rfl)) ?_
 refine aa O O O (ch O O O) (aa O O O (au (k := 3) O O (by kernel_rfl) O) ?_)
 refine aa O O O (by first | exact al 0 O O O O (by kernel_rfl) | exact al 1 O O O O (by kernel_rfl) | exact al 2 O O O O (by kernel_rfl)) ?_
 refine aa O O O (au (k := 3) O O (by kernel_rfl) O) ?_
 refine aa O O O (by first | exact al 0 O O O O (by kernel_rfl) | exact al 1 O O O O (by kernel_rfl) | exact al 2 O O O O (by kernel_rfl)) ?_
 refine aa O O O (ch O O O) (aa O O O (au (k := 4) O O (by kernel_rfl) O) ?_)
 refine aa O O O (by first | exact al 0 O O O O (by kernel_rfl) | exact al 1 O O O O (by kernel_rfl) | exact al 2 O O O O (by kernel_rfl)) ?_
 refine aa O O O (au (k := 4) O O (by kernel_rfl) O) ?_
 refine aa O O O (by first | exact al 0 O O O O (by kernel_rfl) | exact al 1 O O O O (by kernel_rfl) | exact al 2 O O O O (by kernel_rfl)) ?_
 refine aa O O O (ch O O O) (aa O O O (au (k := 5) O O (by kernel_rfl) O) ?_)
 refine aa O O O (by first | exact al 0 O O O O (by kernel_rfl) | exact al 1 O O O O (by kernel_rfl) | exact al 2 O O O O (by kernel_rfl)) ?_
 refine aa O O O (au (k := 5) O O (by kernel_rfl) O) ?_
 refine aa O O O (by first | exact al 0 O O O O (by kernel_rfl) | exact al 1 O O O O (by kernel_rfl) | exact al 2 O O O O (by kernel_rfl)) ?_
 refine aa O O O (ch O O O) (aa O O O (au (k := 6) O O (by kernel_rfl) O) ?_)
 refine aa O O O (by first | exact al 0 O O O O (by kernel_rfl) | exact al 1 O O O O (by kernel_rfl) | exact al 2 O O O O (by kernel_rfl)) ?_
 refine aa O O O (au (k := 6) O O (by kernel_rfl) O) ?_
 refine aa O O O (by first | exact al 0 O O O O (by kernel_rfl) | exact al 1 O O O O (by kernel_rfl) | exact al 2 O O O O (by kernel_rfl)) ?_
 refine aa O O O (ch O O O) (aa O O O (au (k := 7) O O (by kernel_rfl) O) ?_)
 refine aa O O O (by first | exact al 0 O O O O (by kernel_rfl) | exact al 1 O O O O (by kernel_rfl) | exact al 2 O O O O (by kernel_rfl)) ?_
 refine aa O O O (au (k := 7) O O (by kernel_rfl) O) ?_
 refine aa O O O (by first | exact al 0 O O O O (by kernel_rfl) | exact al 1 O O O O (by kernel_rfl) | exact al 2 O O O O (by kernel_rfl)) ?_
 refine aa O O O (ch O O O) (aa O O O (bg [(0, 1), (1, 1), (2, 1), (3, 1), (4, 1), (5, 1), (6, 1), (7, 1)] [Seg.one (.int .u32 0) rfl, Seg.one (.int .u32 0) rfl, Seg.one (.int .u32 0) rfl, Seg.one (.int .u32 0) rfl, Seg.one (.int .u32 0) rfl, Seg.one (.int .u32 0) rfl, Seg.one (.int .u32 0) rfl, Seg.one (.int .u32 0) rfl] O O (.cons (.one O) (.cons (.one O) (.cons (.one O) (.cons (.one O) (.cons (.one O) (.cons (.one O) (.cons (.one O) (.cons (.one O) .nil)))))))) (by kernel_rfl) (by kernel_rfl) O) ?_)
 refine am O (by first | exact ap (k := 8) 0 _ O O O O O O (by kernel_rfl) O O | exact ap (k := 8) 1 _ O O O O O O (by kernel_rfl) O O | exact ap (k := 8) 2 _ O O O O O O (by kernel_rfl) O O) ?_
 intro _ _
 try simp only [setN, putD, selM, nth, cw, cx]
 refine ai (ae ?_)
 refine hK2 _ _ (aw av (ar O (.cons (by first | exact SL.RV.cellA 0 (k := 8) O O (by kernel_rfl) O (by kernel_rfl) | exact SL.RV.cellA 1 (k := 8) O O (by kernel_rfl) O (by kernel_rfl) | exact SL.RV.cellA 2 (k := 8) O O (by kernel_rfl) O (by kernel_rfl)) .nil) O) (fun w' hM' hK' => ?_))
 exact ⟨rfl, hK'⟩
end Go.Proofs.YthfhhkanpnemcaaGreatDoor
namespace Go.Proofs.YthfhhkanpnemcaaGreatDoor
open Go.SL Go.RowKit
set_option linter.unusedVariables false
set_option maxRecDepth 100000
set_option linter.unusedSimpArgs false
set_option maxHeartbeats 1000000

theorem load_c (x : List UInt8) (a : Option Addr) (len cap : Nat) (h64 : 64 ≤ x.length) (w : World) (hR : RC 1 w a len (bytesV x)) :
  Calls Tryz.prog 80 [.slice a len cap].toArray w fun e w' => e = .returned (.agg (flat [(ldp x 16).seg])) ∧ Keeps none1 w w' := by
 obtain ⟨h1, h2, h3⟩ := hR
 rw [bytesV_length] at h1
 have hx : ∀ j, j < x.length → (bytesV x)[j]? = some (.int .u8 (x.getD j 0).toNat) := fun j hj => by simp [bytesV, hj]
 rcases h3 with h3 | ⟨b, off, rfl, hb, hc⟩
 ·
  omega
 have hn : ∀ i j : Nat, i < 16 → j < 4 → w.cell? ⟨b, off + (4 * (i : Int) + j).toNat * 1, none⟩ = some (.int .u8 (x.getD (4 * i + j) 0).toNat) := fun i j hi hj => by
  have e : (4 * (i : Int) + j).toNat * 1 = 4 * i + j := by omega
  rw [e]; exact hc _ _ (hx _ (by omega))
 have hn0 : ∀ i : Nat, i < 16 → w.cell? ⟨b, off + (4 * (i : Int)).toNat * 1, none⟩ = some (.int .u8 (x.getD (4 * i) 0).toNat) := fun i hi => by
  have := hn i 0 hi (by omega); simpa using this
 refine aJ (n := 45) (W := SL.none1) (m := []) Tryz.func80 O Tryz.ntmps80 O (aO _ _ _) ?_
 simp only [SL.enum, Nat.reduceAdd]
 refine ah fun K1 hK1 => aj (am O (aX [(Wd.zero 16).seg] O O O (by kernel_rfl)) ?_)
 intro b2 _
 try simp only [setN, putD, selM, nth, cw, cx]
 refine ai (ae ?_)
 refine hK1 _ _ (ah fun K2 hK2 => ?_)
 refine aj (am O (aX [(Wd.zero 16).seg] O O O (by kernel_rfl)) ?_)
 intro b3 _
 try simp only [setN, putD, selM, nth, cw, cx]
 refine ai (ae ?_)
 refine hK2 _ _ (ah fun K3 hK3 => ?_)
 refine ah fun K4 hK4 => aj (aa O O O (af O O) ?_)
 refine ai (ae ?_)
 refine hK4 _ _ (aK ?_)
 refine bu (X := Nat) (φ := fun i => i ≤ 16) (L := fun i => [(0, .slice (some ⟨b, off, none⟩) len cap), (2, .pointer (some ⟨b2, 0, none⟩)), (3, .pointer (some ⟨b3, 0, none⟩)), (5, .int .i64 i)]) (M := fun i => [.blk b3 (.cells (flat [(ldp x i).seg]) 133 (0, 0)), .blk b2 (.cells (flat [(Wd.zero 16).seg]) 133 (0, 0))]) (μ := fun i => 16 - i) ?_ ?_
 ·
  exact fun _ _ st => ⟨0, Nat.zero_le _, st.to [0, 1] ⟨rfl, rfl, rfl, rfl, trivial⟩ O rfl⟩
 ·
  intro i hi
  try dsimp only
  refine ah fun K5 hK5 => aj (aa O O O (aT O O O) ?_)
  refine ai (ae ?_)
  refine hK5 _ _ (ah fun K6 hK6 => ?_)
  refine aH O (fun hc6 => ?_) (fun hc6 => ?_)
  ·
   have hlt : i < 16 := by simp at hc6; omega
   refine aC (ae ?_)
   refine hK6 _ _ (ah fun K7 hK7 => ?_)
   refine aK (ah fun K8 hK8 => ?_)
   refine aj (aa O O O (af O O) ?_)
   refine aa O O O (ak O O) (ai ?_)
   refine ae (hK8 _ _ ?_)
   refine ck [1] mixed O O ?_
   simp only [List.replicate, List.length_cons, List.length_nil, Nat.reduceAdd, SL.selM, SL.nth]
   refine aG 0 O O O O (by kernel_rfl) (by kernel_rfl) (by kernel_rfl) O (fun _ _ _ h => h) [1] O O (af O O) ?_
   refine aG 1 O O O O (by kernel_rfl) (by kernel_rfl) (by kernel_rfl) O (fun _ _ _ h => h) [1] O O (af O O) ?_
   refine aG 2 O O O O (by kernel_rfl) (by kernel_rfl) (by kernel_rfl) O (fun _ _ _ h => h) [1] O O (af O O) ?_
   refine aG 3 O O O O (by kernel_rfl) (by kernel_rfl) (by kernel_rfl) O (fun _ _ _ h => h) [1] O O (ct O O O O (by omega) (by omega)) ?_
   refine aG 4 O O O O (by kernel_rfl) (by kernel_rfl) (by kernel_rfl) O (fun _ _ _ h => h) [1] O O (bx (sz := 1) O O O Tryz.underlying52 (by kernel_rfl) (by omega) (by omega) O) ?_
   refine aG 5 O O O O (by kernel_rfl) (by kernel_rfl) (by kernel_rfl) O (fun _ _ _ h => h) [1] O O (cj hb (fun h => h) (hn0 i hlt) O O (by kernel_rfl)) ?_
   refine aG 6 O O O O (by kernel_rfl) (by kernel_rfl) (by kernel_rfl) O (fun _ _ _ h => h) [1] O O (SL.Pure.conv832 O O (by kernel_rfl) Tryz.underlying103) ?_
   refine aG 7 O O O O (by kernel_rfl) (by kernel_rfl) (by kernel_rfl) O (fun _ _ _ h => h) [1] O O (SL.Pure.shlU32 24 O O O (by decide)) ?_
   refine aG 8 O O O O (by kernel_rfl) (by kernel_rfl) (by kernel_rfl) O (fun _ _ _ h => h) [1] O O (af O O) ?_
   refine aG 9 O O O O (by kernel_rfl) (by kernel_rfl) (by kernel_rfl) O (fun _ _ _ h => h) [1] O O (af O O) ?_
   refine aG 10 O O O O (by kernel_rfl) (by kernel_rfl) (by kernel_rfl) O (fun _ _ _ h => h) [1] O O (ct O O O O (by omega) (by omega)) ?_
   refine aG 11 O O O O (by kernel_rfl) (by kernel_rfl) (by kernel_rfl) O (fun _ _ _ h => h) [1] O O (aL O O O O (by omega) (by omega)) ?_
   refine aG 12 O O O O (by kernel_rfl) (by kernel_rfl) (by kernel_rfl) O (fun _ _ _ h => h) [1] O O (bx (sz := 1) O O O Tryz.underlying52 (by kernel_rfl) (by omega) (by omega) O) ?_
   refine aG 13 O O O O (by kernel_rfl) (by kernel_rfl) (by kernel_rfl) O (fun _ _ _ h => h) [1] O O (cj hb (fun h => h) (hn i 1 hlt (by omega)) O O (by kernel_rfl)) ?_
   refine aG 14 O O O O (by kernel_rfl) (by kernel_rfl) (by kernel_rfl) O (fun _ _ _ h => h) [1] O O (SL.Pure.conv832 O O (by kernel_rfl) Tryz.underlying103) ?_
   refine aG 15 O O O O (by kernel_rfl) (by kernel_rfl) (by kernel_rfl) O (fun _ _ _ h => h) [1] O O (SL.Pure.shlU32 16 O O O (by decide)) ?_
   refine aG 16 O O O O (by kernel_rfl) (by kernel_rfl) (by kernel_rfl) O (fun _ _ _ h => h) [1] O O (SL.Pure.orU32 O O O) ?_
   refine aG 17 O O O O (by kernel_rfl) (by kernel_rfl) (by kernel_rfl) O (fun _ _ _ h => h) [1] O O (af O O) ?_
   refine aG 18 O O O O (by kernel_rfl) (by kernel_rfl) (by kernel_rfl) O (fun _ _ _ h => h) [1] O O (af O O) ?_
   refine aG 19 O O O O (by kernel_rfl) (by kernel_rfl) (by kernel_rfl) O (fun _ _ _ h => h) [1] O O (ct O O O O (by omega) (by omega)) ?_
   refine aG 20 O O O O (by kernel_rfl) (by kernel_rfl) (by kernel_rfl) O (fun _ _ _ h => h) [1] O O (aL O O O O (by omega) (by omega)) ?_
   refine aG 21 O O O O (by kernel_rfl) (by kernel_rfl) (by kernel_rfl) O (fun _ _ _ h => h) [1] O O (bx (sz := 1) O O O Tryz.underlying52 (by kernel_rfl) (by omega) (by omega) O) ?_
   refine aG 22 O O O O (by kernel_rfl) (by kernel_rfl) (by kernel_rfl) O (fun _ _ _ h => h) [1] O O (cj hb (fun h => h) (hn i 2 hlt (by omega)) O O (by kernel_rfl)) ?_
   refine aG 23 O O O O (by kernel_rfl) (by kernel_rfl) (by kernel_rfl) O (fun _ _ _ h => h) [1] O O (SL.Pure.conv832 O O (by kernel_rfl) Tryz.underlying103) ?_
   refine aG 24 O O O O (by kernel_rfl) (by kernel_rfl) (by kernel_rfl) O (fun _ _ _ h => h) [1] O O (SL.Pure.shlU32 8 O O O (by decide)) ?_
   refine aG 25 O O O O (by kernel_rfl) (by kernel_rfl) (by kernel_rfl) O (fun _ _ _ h => h) [1] O O (SL.Pure.orU32 O O O) ?_
   refine aG 26 O O O O (by kernel_rfl) (by kernel_rfl) (by kernel_rfl) O (fun _ _ _ h => h) [1] O O (af O O) ?_
   refine aG 27 O O O O (by kernel_rfl) (by kernel_rfl) (by kernel_rfl) O (fun _ _ _ h => h) [1] O O (af O O) ?_
   refine aG 28 O O O O (by kernel_rfl) (by kernel_rfl) (by kernel_rfl) O (fun _ _ _ h => h) [1] O O (ct O O O O (by omega) (by omega)) ?_
   refine aG 29 O O O O (by kernel_rfl) (by kernel_rfl) (by kernel_rfl) O (fun _ _ _ h => h) [1] O O (aL O O O O (by omega) (by omega)) ?_
   refine aG 30 O O O O (by kernel_rfl) (by kernel_rfl) (by kernel_rfl) O (fun _ _ _ h => h) [1] O O (bx (sz := 1) O O O Tryz.underlying52 (by kernel_rfl) (by omega) (by omega) O) ?_
   refine aG 31 O O O O (by kernel_rfl) (by kernel_rfl) (by kernel_rfl) O (fun _ _ _ h => h) [1] O O (cj hb (fun h => h) (hn i 3 hlt (by omega)) O O (by kernel_rfl)) ?_
   refine aG 32 O O O O (by kernel_rfl) (by kernel_rfl) (by kernel_rfl) O (fun _ _ _ h => h) [1] O O (SL.Pure.conv832 O O (by kernel_rfl) Tryz.underlying103) ?_
   refine aG 33 O O O O (by kernel_rfl) (by kernel_rfl) (by kernel_rfl) O (fun _ _ _ h => h) [1] O O (SL.Pure.orU32 O O O) ?_
   refine aG 34 O O O O (by kernel_rfl) (by kernel_rfl) (by kernel_rfl) O (fun _ _ _ h => h) [1] O O (bR (off' := i) (sz := 1) O O O Tryz.underlying133 (by kernel_rfl) (by omega) (by omega) (by omega)) ?_
   refine aY 35 O O (by kernel_rfl) O [1] (fun _ => rfl) O (by exact SL.Eff.storeW 0 O O O O O (by kernel_rfl) hlt) ?_
   intro _ _
   try simp only [setN, putD, selM, nth, cw, cx]
   refine bN (by kernel_rfl) ?_
   refine aQ (ae ?_)
   refine hK7 _ _ (aj ?_)
   refine aa O O O (aL O O O O (by omega) (by omega)) ?_
   refine aa O O O (af O O) (ai ?_)
   refine ae ?_
   exact bd (i + 1) [0, 1] (show i + 1 ≤ 16 by omega) (show 16 - (i + 1) < 16 - i by omega) ⟨rfl, rfl, rfl, rfl, trivial⟩ O rfl
  ·
   have he : i = 16 := by simp at hc6; omega
   subst he
   refine aU (aI ?_)
   refine aI (aV ?_)
   refine ae (hK3 _ _ ?_)
   refine ah fun K9 hK9 => aj (aa O O O (by first | exact ay 0 (k := 16) O O O (by kernel_rfl) O (by kernel_rfl) | exact ay 1 (k := 16) O O O (by kernel_rfl) O (by kernel_rfl)) ?_)
   refine am O (by first | exact ap (k := 16) 0 _ O O O O O O (by kernel_rfl) O O | exact ap (k := 16) 1 _ O O O O O O (by kernel_rfl) O O) ?_
   intro _ _
   try simp only [setN, putD, selM, nth, cw, cx]
   refine ai (ae ?_)
   refine hK9 _ _ (aw av (ar O (.cons (by first | exact SL.RV.cellA 1 (k := 16) O O (by kernel_rfl) O (by kernel_rfl)) .nil) O) (fun w' hM' hK' => ?_))
   exact ⟨rfl, hK'⟩

theorem stp_hi (s : WS) (x : Wd 16) {t : Nat} (h : 16 ≤ t) : stp s x (t + 1) = (rnd (stp s x t).1 (KT.get t) (((stp s x t).2.set (t % 16) (more (stp s x t).2 t)).get (t % 16)), (stp s x t).2.set (t % 16) (more (stp s x t).2 t)) := by simp [stp, sched, h]
theorem stp_lo (s : WS) (x : Wd 16) {t : Nat} (h : ¬ 16 ≤ t) : stp s x (t + 1) = (rnd (stp s x t).1 (KT.get t) ((stp s x t).2.get (t % 16)), (stp s x t).2) := by simp [stp, sched, h]

abbrev pmem (b5 b4 b3 b2 : Nat) (s : WS) (p : WS × Wd 16) : List Res := [.blk b5 (.cells (flat (wseg p.1)) 105 (0, 0)), .blk b4 (.cells (flat [Seg.one (.int .u32 0) rfl, Seg.one (.int .u32 0) rfl, Seg.one (.int .u32 0) rfl, Seg.one (.int .u32 0) rfl, Seg.one (.int .u32 0) rfl, Seg.one (.int .u32 0) rfl, Seg.one (.int .u32 0) rfl, Seg.one (.int .u32 0) rfl]) 105 (0, 0)), .blk b3 (.cells (flat [p.2.seg]) 133 (0, 0)), .blk b2 (.cells (flat (wseg s)) 105 (0, 0))]
theorem process_c (s : WS) (x : Wd 16) (w : World) : Calls Tryz.prog 79 [.agg (flat (wseg s)), .agg (flat [x.seg])].toArray w fun e w' => e = .returned (.agg (flat (wseg (proc s x)))) ∧ Keeps none1 w w' := by
 refine aJ (n := 69) (W := SL.none1) (m := []) Tryz.func79 O Tryz.ntmps79 O (aO _ _ _) ?_
 simp only [SL.enum, Nat.reduceAdd]
 refine ah fun K1 hK1 => aj (am O (bh _ O O O O O) ?_)
 intro b2 _
 try simp only [setN, putD, selM, nth, cw, cx]
 refine am O (bh _ O O O O O) ?_
 intro b3 _
 try simp only [setN, putD, selM, nth, cw, cx]
 refine am O (aX [Seg.one (.int .u32 0) rfl, Seg.one (.int .u32 0) rfl, Seg.one (.int .u32 0) rfl, Seg.one (.int .u32 0) rfl, Seg.one (.int .u32 0) rfl, Seg.one (.int .u32 0) rfl, Seg.one (.int .u32 0) rfl, Seg.one (.int .u32 0) rfl] O O O (by kernel_rfl)) ?_
 intro b4 _
 try simp only [setN, putD, selM, nth, cw, cx]
 refine ai (ae ?_)
 refine hK1 _ _ (ah fun K2 hK2 => ?_)
 refine aj (aa O O O (by first | exact ay 0 (k := 8) O O O (by kernel_rfl) O (by kernel_rfl) | exact ay 1 (k := 8) O O O (by kernel_rfl) O (by kernel_rfl) | exact ay 2 (k := 8) O O O (by kernel_rfl) O (by kernel_rfl)) ?_)
 refine am O (aX [Seg.one (.int .u32 0) rfl, Seg.one (.int .u32 0) rfl, Seg.one (.int .u32 0) rfl, Seg.one (.int .u32 0) rfl, Seg.one (.int .u32 0) rfl, Seg.one (.int .u32 0) rfl, Seg.one (.int .u32 0) rfl, Seg.one (.int .u32 0) rfl] O O O (by kernel_rfl)) ?_
 intro b5 _
 try simp only [setN, putD, selM, nth, cw, cx]
 refine am O (by first | exact ap (k := 8) 0 _ O O O O O O (by kernel_rfl) O O | exact ap (k := 8) 1 _ O O O O O O (by kernel_rfl) O O | exact ap (k := 8) 2 _ O O O O O O (by kernel_rfl) O O | exact ap (k := 8) 3 _ O O O O O O (by kernel_rfl) O O) ?_
 intro _ _
 try simp only [setN, putD, selM, nth, cw, cx]
 refine ai (ae ?_)
 refine hK2 _ _ (ah fun K3 hK3 => ?_)
 refine ah fun K4 hK4 => aj (am O (aN O O (by kernel_rfl) O O (fun w hM hK => constants_c w)) ?_)
 intro _ _
 try simp only [setN, putD, selM, nth, cw, cx]
 refine aa O O O (af O O) (ai ?_)
 refine ae (hK4 _ _ ?_)
 refine aK (bu (X := Nat) (φ := fun t => t ≤ 64) (L := fun t => [(2, .pointer (some ⟨b2, 0, none⟩)), (3, .pointer (some ⟨b3, 0, none⟩)), (4, .pointer (some ⟨b4, 0, none⟩)), (5, .pointer (some ⟨b5, 0, none⟩)), (12, .agg (flat [KT.seg])), (13, .int .i64 t)]) (M := fun t => pmem b5 b4 b3 b2 s (stp s x t)) (μ := fun t => 64 - t) ?_ ?_)
 ·
  exact fun _ _ st => ⟨0, Nat.zero_le _, st.to [0, 1, 2, 3] ⟨rfl, rfl, rfl, rfl, rfl, rfl, trivial⟩ O rfl⟩
 ·
  intro t ht
  try dsimp only
  refine ah fun K5 hK5 => aj (aa O O O (aT O O O) ?_)
  refine ai (ae ?_)
  refine hK5 _ _ (ah fun K6 hK6 => ?_)
  refine aH O (fun hc14 => ?_) (fun hc14 => ?_)
  ·
   have hlt : t < 64 := by simp at hc14; omega
   have hm1 : t % 16 < 16 := by omega
   have hm2 : (t - 2) % 16 < 16 := by omega
   have hm7 : (t - 7) % 16 < 16 := by omega
   have hm15 : (t - 15) % 16 < 16 := by omega
   refine aC (ae ?_)
   refine hK6 _ _ (ah fun K7 hK7 => ?_)
   refine aK (ah fun K8 hK8 => ?_)
   refine aj (aa O O O (af O O) ?_)
   refine aa O O O (SL.Pure.indexA1 (i := (t : Int)) O O O Tryz.underlying155 (by kernel_rfl) (by kernel_rfl) (by omega) (by omega) (by simpa using SL.Wd.at KT hlt)) ?_
   refine aa O O O (ak O O) (aa O O O (ak O O) ?_)
   refine ai (ae ?_)
   refine hK8 _ _ (ah fun K9 hK9 => ?_)
   refine aj (aa O O O (af O O) ?_)
   refine aa O O O (SL.Pure.remI O O O (by omega) (by omega) (by omega)) ?_
   refine aa O O O (ak O O) (ai ?_)
   refine ae (hK9 _ _ ?_)
   refine ah fun K10 hK10 => ah fun K11 hK11 => aj (aa O O O (af O O) ?_)
   refine aa O O O (bB O O O) (ai ?_)
   refine ae (hK11 _ _ ?_)
   refine aH O (fun hc20 => ?_) (fun hc20 => ?_)
   ·
    have h16 : 16 ≤ t := by simp at hc20; omega
    refine ah fun K12 hK12 => bX 11 mixed (by kernel_rfl) O O (fun wd7 => ?_)
    refine aD O O O (af O O) (aD O O O (bU O O O O (by omega) (by omega)) ?_)
    refine aD O O O (SL.Pure.remI O O O (by omega) (by omega) (by omega)) ?_
    refine aD O O O (bR (off' := (t - 15) % 16) (sz := 1) O O O Tryz.underlying133 (by kernel_rfl) (by omega) (by omega) (by omega)) ?_
    refine aD O O O (ce 2 O O O (SL.Wd.at _ hm15) (by kernel_rfl)) ?_
    refine aD O O O (af O O) (aD O O O (bU O O O O (by omega) (by omega)) ?_)
    refine aD O O O (SL.Pure.remI O O O (by omega) (by omega) (by omega)) ?_
    refine aD O O O (bR (off' := (t - 2) % 16) (sz := 1) O O O Tryz.underlying133 (by kernel_rfl) (by omega) (by omega) (by omega)) ?_
    refine aD O O O (ce 2 O O O (SL.Wd.at _ hm2) (by kernel_rfl)) ?_
    refine aD O O O (ak O O) (bV ?_)
    refine aa O O O (ak O O) (ai ?_)
    refine ae (hK12 _ _ ?_)
    refine SL.Ok.quietLast 28 O O mixed (by kernel_rfl) (by kernel_rfl) O ?_
    refine aA O O O (az (af O O)) (aA O O O (az (bR (off' := t % 16) (sz := 1) O O O Tryz.underlying133 (by kernel_rfl) (by omega) (by omega) (by omega))) ?_)
    refine aA O O O (az (ce 2 O O O (SL.Wd.at _ hm1) (by kernel_rfl))) ?_
    refine aA O O O (az (af O O)) (aA O O O (bL O O (by kernel_rfl) O (fun w hM hK => right_c _ _ (by decide) (by decide) w)) ?_)
    refine aA O O O (az (af O O)) (aA O O O (bL O O (by kernel_rfl) O (fun w hM hK => right_c _ _ (by decide) (by decide) w)) ?_)
    refine aA O O O (az (SL.Pure.xorU32 O O O)) (aA O O O (az (af O O)) ?_)
    refine aA O O O (az (SL.Pure.shrU32 10 O O O (by decide))) ?_
    refine aA O O O (az (SL.Pure.xorU32 O O O)) (aA O O O (az (af O O)) ?_)
    refine aA O O O (az (bU O O O O (by omega) (by omega))) ?_
    refine aA O O O (az (SL.Pure.remI O O O (by omega) (by omega) (by omega))) ?_
    refine aA O O O (az (bR (off' := (t - 7) % 16) (sz := 1) O O O Tryz.underlying133 (by kernel_rfl) (by omega) (by omega) (by omega))) ?_
    refine aA O O O (az (ce 2 O O O (SL.Wd.at _ hm7) (by kernel_rfl))) ?_
    refine aA O O O (az (ch O O O)) (aA O O O (az (af O O)) ?_)
    refine aA O O O (bL O O (by kernel_rfl) O (fun w hM hK => right_c _ _ (by decide) (by decide) w)) ?_
    refine aA O O O (az (af O O)) (aA O O O (bL O O (by kernel_rfl) O (fun w hM hK => right_c _ _ (by decide) (by decide) w)) ?_)
    refine aA O O O (az (SL.Pure.xorU32 O O O)) (aA O O O (az (af O O)) ?_)
    refine aA O O O (az (SL.Pure.shrU32 3 O O O (by decide))) ?_
    refine aA O O O (az (SL.Pure.xorU32 O O O)) (aA O O O (az (ch O O O)) ?_)
    refine aA O O O (az (ch O O O)) (aA O O O (az (bR (off' := t % 16) (sz := 1) O O O Tryz.underlying133 (by kernel_rfl) (by omega) (by omega) (by omega))) ?_)
    refine SL.OkQ.last (by exact SL.Eff.storeW 2 O O O O O (by kernel_rfl) hm1) ?_
    intro _ _
    try simp only [setN, putD, selM, nth, cw, cx]
    refine ae (hK10 _ _ ?_)
    refine bX 5 mixed (by kernel_rfl) O O (fun wd9 => ?_)
    refine aD O O O (by first | exact ay 0 (k := 8) O O O (by kernel_rfl) O (by kernel_rfl) | exact ay 1 (k := 8) O O O (by kernel_rfl) O (by kernel_rfl) | exact ay 2 (k := 8) O O O (by kernel_rfl) O (by kernel_rfl) | exact ay 3 (k := 8) O O O (by kernel_rfl) O (by kernel_rfl)) ?_
    refine aD O O O (af O O) (aD O O O (af O O) ?_)
    refine aD O O O (bR (off' := t % 16) (sz := 1) O O O Tryz.underlying133 (by kernel_rfl) (by omega) (by omega) (by omega)) ?_
    refine aD O O O (ce 2 O O O (SL.Wd.at _ hm1) (by kernel_rfl)) ?_
    refine bV (am O (aN O O (by kernel_rfl) O O (fun w hM hK => round_c _ _ _ w)) ?_)
    intro _ _
    try simp only [setN, putD, selM, nth, cw, cx]
    refine am O (by first | exact ap (k := 8) 0 _ O O O O O O (by kernel_rfl) O O | exact ap (k := 8) 1 _ O O O O O O (by kernel_rfl) O O | exact ap (k := 8) 2 _ O O O O O O (by kernel_rfl) O O | exact ap (k := 8) 3 _ O O O O O O (by kernel_rfl) O O) ?_
    intro _ _
    try simp only [setN, putD, selM, nth, cw, cx]
    refine ai (aQ ?_)
    refine ae (hK7 _ _ ?_)
    refine aj (aa O O O (aL O O O O (by omega) (by omega)) ?_)
    refine aa O O O (af O O) (ai ?_)
    refine ae ?_
    exact bd (t + 1) [0, 1, 2, 3] (show t + 1 ≤ 64 by omega) (show 64 - (t + 1) < 64 - t by omega) ⟨rfl, rfl, rfl, rfl, rfl, rfl, trivial⟩ (congrArg (fun p : WS × Wd 16 => pmem b5 b4 b3 b2 s p) (stp_hi s x h16)).symm rfl
   ·
    have h16 : ¬ 16 ≤ t := by simp at hc20; omega
    refine aC (ae ?_)
    refine hK10 _ _ (bX 5 mixed (by kernel_rfl) O O (fun wd9 => ?_))
    refine aD O O O (by first | exact ay 0 (k := 8) O O O (by kernel_rfl) O (by kernel_rfl) | exact ay 1 (k := 8) O O O (by kernel_rfl) O (by kernel_rfl) | exact ay 2 (k := 8) O O O (by kernel_rfl) O (by kernel_rfl) | exact ay 3 (k := 8) O O O (by kernel_rfl) O (by kernel_rfl)) ?_
    refine aD O O O (af O O) (aD O O O (af O O) ?_)
    refine aD O O O (bR (off' := t % 16) (sz := 1) O O O Tryz.underlying133 (by kernel_rfl) (by omega) (by omega) (by omega)) ?_
    refine aD O O O (ce 2 O O O (SL.Wd.at _ hm1) (by kernel_rfl)) ?_
    refine bV (am O (aN O O (by kernel_rfl) O O (fun w hM hK => round_c _ _ _ w)) ?_)
    intro _ _
    try simp only [setN, putD, selM, nth, cw, cx]
    refine am O (by first | exact ap (k := 8) 0 _ O O O O O O (by kernel_rfl) O O | exact ap (k := 8) 1 _ O O O O O O (by kernel_rfl) O O | exact ap (k := 8) 2 _ O O O O O O (by kernel_rfl) O O | exact ap (k := 8) 3 _ O O O O O O (by kernel_rfl) O O) ?_
    intro _ _
    try simp only [setN, putD, selM, nth, cw, cx]
    refine ai (aQ ?_)
    refine ae (hK7 _ _ ?_)
    refine aj (aa O O O (aL O O O O (by omega) (by omega)) ?_)
    refine aa O O O (af O O) (ai ?_)
    refine ae ?_
    exact bd (t + 1) [0, 1, 2, 3] (show t + 1 ≤ 64 by omega) (show 64 - (t + 1) < 64 - t by omega) ⟨rfl, rfl, rfl, rfl, rfl, rfl, trivial⟩ (congrArg (fun p : WS × Wd 16 => pmem b5 b4 b3 b2 s p) (stp_lo s x h16)).symm rfl
  ·
   have he : t = 64 := by simp at hc14; omega
   subst he
   refine aU (aI ?_)
   refine aI (aV ?_)
   refine ae (hK3 _ _ ?_)
   refine ah fun K13 hK13 => aj (aa O O O (by first | exact ay 0 (k := 8) O O O (by kernel_rfl) O (by kernel_rfl) | exact ay 1 (k := 8) O O O (by kernel_rfl) O (by kernel_rfl) | exact ay 2 (k := 8) O O O (by kernel_rfl) O (by kernel_rfl) | exact ay 3 (k := 8) O O O (by kernel_rfl) O (by kernel_rfl)) ?_)
   refine aa O O O (by first | exact ay 0 (k := 8) O O O (by kernel_rfl) O (by kernel_rfl) | exact ay 1 (k := 8) O O O (by kernel_rfl) O (by kernel_rfl) | exact ay 2 (k := 8) O O O (by kernel_rfl) O (by kernel_rfl) | exact ay 3 (k := 8) O O O (by kernel_rfl) O (by kernel_rfl)) ?_
   refine am O (aN O O (by kernel_rfl) O O (fun w hM hK => plus_c _ _ w)) ?_
   intro _ _
   try simp only [setN, putD, selM, nth, cw, cx]
   refine am O (by first | exact ap (k := 8) 0 _ O O O O O O (by kernel_rfl) O O | exact ap (k := 8) 1 _ O O O O O O (by kernel_rfl) O O | exact ap (k := 8) 2 _ O O O O O O (by kernel_rfl) O O | exact ap (k := 8) 3 _ O O O O O O (by kernel_rfl) O O) ?_
   intro _ _
   try simp only [setN, putD, selM, nth, cw, cx]
   refine ai (ae ?_)
   refine hK13 _ _ (aw av (ar O (.cons (by first | exact SL.RV.cellA 1 (k := 8) O O (by kernel_rfl) O (by kernel_rfl)) .nil) O) (fun w' hM' hK' => ?_))
   exact ⟨rfl, hK'⟩
end Go.Proofs.YthfhhkanpnemcaaGreatDoor
namespace Go.Proofs.YthfhhkanpnemcaaGreatDoor
open Go.SL Go.RowKit
set_option linter.unusedVariables false
set_option maxRecDepth 100000
set_option linter.unusedSimpArgs false
set_option maxHeartbeats 1000000

/-- the state behind j blocks -/
def bst (s : WS) (all : List UInt8) : Nat → WS
 | 0 => s
 | j + 1 => proc (bst s all j) (ldp (all.drop (64 * j)) 16)
/-- the cells of a Hash -/
abbrev hseg (s : WS) (a : Option Addr) (len cap : Nat) (n : Int) : List Seg := wseg s ++ [Seg.one (.slice a len cap) rfl, Seg.one (.int .i64 n) rfl, Seg.one (.bool true) rfl]
abbrev hblk (b : Nat) (s : WS) (a : Option Addr) (len cap : Nat) (n : Int) : Res := .blk b (.cells (flat (hseg s a len cap n)) 108 (0, 0))

theorem new_c (w : World) : Calls Tryz.prog 32 [].toArray w fun e w' => ∃ b : Nat, True ∧ e = .returned (.pointer (some ⟨b, 0, none⟩)) ∧ Post w (blocksOf []) [hblk b WS0 none 0 0 0] w' := by
 refine aJ (n := 4) (W := (blocksOf [])) (m := []) Tryz.func32 O Tryz.ntmps32 O (aO _ _ _) ?_
 simp only [SL.enum, Nat.reduceAdd]
 refine ah fun K1 hK1 => aj (aa O O O (ak O O) ?_)
 refine ai (ae ?_)
 refine hK1 _ _ (ah fun K2 hK2 => ?_)
 refine aj (am O (aN O O (by kernel_rfl) O O (fun w hM hK => initial_c w)) ?_)
 intro _ _
 try simp only [setN, putD, selM, nth, cw, cx]
 refine aa O O O (bg [(0, 8), (8, 1), (9, 1), (10, 1)] [Seg.one (.int .u32 0) rfl, Seg.one (.int .u32 0) rfl, Seg.one (.int .u32 0) rfl, Seg.one (.int .u32 0) rfl, Seg.one (.int .u32 0) rfl, Seg.one (.int .u32 0) rfl, Seg.one (.int .u32 0) rfl, Seg.one (.int .u32 0) rfl, Seg.one (.slice none 0 0) rfl, Seg.one (.int .i64 0) rfl, Seg.one (.bool false) rfl] O O (.cons .agg (.cons (.one O) .nil)) (by kernel_rfl) (by kernel_rfl) O) ?_
 refine am O (bh _ O O O O O) ?_
 intro b3 _
 try simp only [setN, putD, selM, nth, cw, cx]
 refine aa O O O (ak O O) (ai ?_)
 refine ae (hK2 _ _ ?_)
 refine aw av (ar O (.cons (.tmp O) .nil) O) (fun w' hM' hK' => ?_)
 exact ⟨b3, trivial, rfl, hK', hM'⟩

structure TX where
 g : Nat
 o : Nat
 c : Nat
 c0 : Nat
/-- the rest that is left is part of the row -/
def tok (all : List UInt8) (k : Nat) (y : TX) : Prop := 64 * k ≤ all.length ∧ (all.length - 64 * k = 0 ∨ y.o = 64 * k) ∧ all.length - 64 * k ≤ y.c ∧ all.length ≤ y.c0
abbrev trow (all : List UInt8) (y : TX) : Res := .row (.slice (some ⟨y.g, 0, none⟩) all.length y.c0) 5 1 all.length (bytesV all)

theorem tok_rc {all : List UInt8} {k : Nat} {y : TX} (h : tok all k y) {w : World} (hr : RC 1 w (some ⟨y.g, 0, none⟩) all.length (bytesV all)) : RC 1 w (some ⟨y.g, y.o, none⟩) (all.length - 64 * k) (bytesV (all.drop (64 * k))) := by
 obtain ⟨h1, h2, h3, h4⟩ := h
 by_cases h0 : all.length - 64 * k = 0
 ·
  have : all.drop (64 * k) = [] := by apply List.eq_nil_of_length_eq_zero; simp; omega
  rw [h0, this]
  exact RC.nil _ _ _
 ·
  rcases h2 with h2 | h2
  ·
   omega
  ·
   have := hr.part (i := 64 * k) (j := all.length) h1 (Nat.le_refl _)
   rw [h2]
   simp only [Nat.mul_one, Nat.zero_add] at this
   rw [bytesV_take, bytesV_drop, List.take_length] at this
   exact this

theorem take_c (b : Nat) (s : WS) (ra : Option Addr) (rl rc : Nat) (n : Int) (r x : List UInt8) (xa : Option Addr) (xl xc : Nat) (hlen : r.length + x.length ≤ 1000000) (hrb : ∀ b' off, ra = some ⟨b', off, none⟩ → 0 < rl → b' ≠ b) (hxb : ∀ b' off, xa = some ⟨b', off, none⟩ → 0 < xl → b' ≠ b)
  (w : World) (hr : RC 1 w ra rl (bytesV r)) (hx : RC 1 w xa xl (bytesV x)) (hm : Mem (blocksOf [hblk b s ra rl rc n]) w [hblk b s ra rl rc n] w) :
  Calls Tryz.prog 59 [.pointer (some ⟨b, 0, none⟩), .slice xa xl xc].toArray w fun e w' => ∃ y : TX, tok (r ++ x) ((r ++ x).length / 64) y ∧ e = .returned (.tuple #[]) ∧ Post w (blocksOf [hblk b s ra rl rc n]) [hblk b (bst s (r ++ x) ((r ++ x).length / 64)) (some ⟨y.g, y.o, none⟩) ((r ++ x).length - 64 * ((r ++ x).length / 64)) y.c n, trow (r ++ x) y] w' := by
 have hrl : r.length = rl := by have := hr.1; rw [bytesV_length] at this; omega
 have hxl : x.length = xl := by have := hx.1; rw [bytesV_length] at this; omega
 have hSb : ∀ b' off, ra = some ⟨b', off, none⟩ → 0 < rl → ¬ blocksOf [hblk b s ra rl rc n] b' := by
  rintro b' off h h0 ⟨res, hres, hb⟩
  simp at hres; subst hres
  simp [Res.block] at hb
  exact hrb b' off h h0 hb.symm
 have hSx : ∀ b' off, xa = some ⟨b', off, none⟩ → 0 < xl → ¬ blocksOf [hblk b s ra rl rc n] b' := by
  rintro b' off h h0 ⟨res, hres, hb⟩
  simp at hres; subst hres
  simp [Res.block] at hb
  exact hxb b' off h h0 hb.symm
 refine aJ (n := 44) (W := (blocksOf [hblk b s ra rl rc n])) (m := [hblk b s ra rl rc n]) Tryz.func59 O Tryz.ntmps59 O hm ?_
 simp only [SL.enum, Nat.reduceAdd]
 refine ah fun K1 hK1 => ah fun K2 hK2 => aj (aa O O O (af O O) ?_)
 refine aa O O O (aZ O O) (aa O O O (au (k := 10) O O (by kernel_rfl) O) ?_)
 refine aa O O O (by first | exact al 0 O O O O (by kernel_rfl)) ?_
 refine aa O O O (bM O O) (ai ?_)
 refine ae (hK2 _ _ ?_)
 refine cf O (O) (aC ?_)
 refine ae (hK1 _ _ ?_)
 refine ah fun K3 hK3 => aj (am O (by exact bW #[] [] O O Tryz.underlying52 (by kernel_rfl) (by kernel_rfl) O (by decide) O O) ?_)
 intro g17 _
 try simp only [setN, putD, selM, nth, cw, cx]
 refine aa O O O (af O O) (aa O O O (aZ O O) ?_)
 refine aa O O O (au (k := 8) O O (by kernel_rfl) O) ?_
 refine aa O O O (by first | exact al 0 O O O O (by kernel_rfl) | exact al 1 O O O O (by kernel_rfl)) ?_
 refine am O (by exact bF (by' := 1) 0 [1] O O O O Tryz.underlying52 Tryz.underlying52 (by kernel_rfl) (fun w' _ hK => hr.keepS hK hSb) (SL.bytesV_one r) O O O O (by omega) (by omega)) ?_
 intro v22 hv22
 try simp only [setN, putD, selM, nth, cw, cx]
 refine aa O O O (af O O) (am O (by exact bF (by' := 1) 0 [1] O O O O Tryz.underlying52 Tryz.underlying52 (by kernel_rfl) (fun w' _ hK => hx.keepS hK hSx) (SL.bytesV_one x) O O O O (by omega) (by omega)) ?_)
 intro v24 hv24
 try simp only [setN, putD, selM, nth, cw, cx]
 have hlx : 0 + rl + xl = (r ++ x).length := by simp; omega
 simp only [List.nil_append, ← bytesV_append, hlx]
 refine SL.Ok.rowAddr 0 O ?_
 intro hv
 have hv' : ∃ g c, v24 = .slice (some ⟨g, 0, none⟩) (r ++ x).length c ∧ (r ++ x).length ≤ c ∧ c ≤ maxLen := by
  rcases hv with ⟨h1, _⟩ | h
  ·
   have h2 := (hv24.1.1 h1).1
   have h3 := (hv22.1.1 h2).1
   cases h3
  ·
   exact h
 obtain ⟨g, c0, rfl, hc0, hcm⟩ := hv'
 generalize hall : r ++ x = all at *
 refine aa O O O (ak O O) (ai ?_)
 refine ae (hK3 _ _ ?_)
 refine ah fun K4 hK4 => aK (bu (X := (Nat × TX)) (φ := fun X => tok all X.1 X.2 ∧ X.2.g = g ∧ X.2.c0 = c0) (L := fun X => [(0, .pointer (some ⟨b, 0, none⟩)), (4, .slice (some ⟨g, X.2.o, none⟩) (all.length - 64 * X.1) X.2.c)]) (M := fun X => [.row (.slice (some ⟨g, 0, none⟩) all.length c0) 5 1 all.length (bytesV all), hblk b (bst s all X.1) ra rl rc n]) (μ := fun X => all.length - 64 * X.1) ?_ ?_)
 ·
  exact fun _ _ st => ⟨(0, ⟨g, 0, c0, c0⟩), ⟨⟨by omega, .inr rfl, by simp only; omega, hc0⟩, rfl, rfl⟩, st.to [0, 1] ⟨rfl, rfl, trivial⟩ O rfl⟩
 ·
  intro ⟨j, y⟩ ⟨hy, hyg, hyc⟩
  try dsimp only
  obtain ⟨yg, yo, yc, yc0⟩ := y
  dsimp only at hyg hyc hy
  subst hyg
  subst hyc
  obtain ⟨hy1, hy2, hy3, hy4⟩ := id hy
  dsimp only at hy2 hy3 hy4
  refine ah fun K5 hK5 => ah fun K6 hK6 => aj (aa O O O (af O O) ?_)
  refine aa O O O (bw O O O Tryz.underlying52) (aa O O O (bB O O O) ?_)
  refine ai (ae ?_)
  refine hK6 _ _ (aH O (fun hc27 => ?_) (fun hc27 => ?_))
  ·
   have hlt : 64 ≤ all.length - 64 * j := by simp at hc27; omega
   refine aC (ae ?_)
   refine hK5 _ _ (aK ?_)
   refine ah fun K7 hK7 => SL.Ok.quietLast 10 O O mixed (by kernel_rfl) (by kernel_rfl) O ?_
   refine aA O O O (az (af O O)) (aA O O O (az (af O O)) ?_)
   refine aA O O O (az (aZ O O)) (aA O O O (az (au (k := 0) O O (by kernel_rfl) O)) ?_)
   refine aA O O O (az (by first | exact ay 0 (k := 8) O O O (by kernel_rfl) O (by kernel_rfl) | exact ay 1 (k := 8) O O O (by kernel_rfl) O (by kernel_rfl))) ?_
   refine aA O O O (az (af O O)) (aA O O O (bL O O (by kernel_rfl) O (fun w hM hK => load_c (all.drop (64 * j)) _ _ _ (by simp; omega) w (tok_rc hy (bK (i := 0) O hM)))) ?_)
   refine aA O O O (bL O O (by kernel_rfl) O (fun w hM hK => process_c _ _ w)) ?_
   refine aA O O O (az (aZ O O)) (aA O O O (az (au (k := 0) O O (by kernel_rfl) O)) ?_)
   refine SL.OkQ.last (by first | exact ap (k := 8) 0 _ O O O O O O (by kernel_rfl) O O | exact ap (k := 8) 1 _ O O O O O O (by kernel_rfl) O O) ?_
   intro _ _
   try simp only [setN, putD, selM, nth, cw, cx]
   refine ae (hK7 _ _ ?_)
   refine aj (aa O O O (af O O) ?_)
   refine aa O O O (SL.Pure.sliceTo (sz := 1) (o' := if yc = 64 then yo else yo + 64) (len' := all.length - 64 * (j + 1)) (cap' := yc - 64) O O Tryz.underlying52 (by kernel_rfl) O O (by omega) (by omega) (by omega) (by omega) O (by omega) (by omega)) ?_
   refine aa O O O (ak O O) (ai ?_)
   refine aQ (ae ?_)
   exact bd (j + 1, ⟨yg, (if yc = 64 then yo else yo + 64), yc - 64, yc0⟩) [0, 1] ⟨⟨by omega, by dsimp only; split <;> omega, by dsimp only; omega, hy4⟩, rfl, rfl⟩ (show all.length - 64 * (j + 1) < all.length - 64 * j by omega) ⟨rfl, rfl, trivial⟩ O rfl
  ·
   have hge : j = all.length / 64 := by simp at hc27; omega
   subst hge
   refine aU (aI ?_)
   refine aI (aV ?_)
   refine ae (hK4 _ _ ?_)
   refine aj (aa O O O (af O O) ?_)
   refine aa O O O (af O O) (aa O O O (aZ O O) ?_)
   refine aa O O O (au (k := 8) O O (by kernel_rfl) O) ?_
   refine am O (by first | exact ap (k := 1) 0 [SL.Seg.one _ rfl] O O O O O O (by kernel_rfl) O O | exact ap (k := 1) 1 [SL.Seg.one _ rfl] O O O O O O (by kernel_rfl) O O) ?_
   intro _ _
   try simp only [setN, putD, selM, nth, cw, cx]
   refine ai (ci (fun _ _ h => h) (ar O .nil O) (fun w' hM' hK' => ?_))
   exact ⟨⟨yg, yo, yc, yc0⟩, hy, rfl, hK', hM'.sel [1, 0] rfl⟩

theorem write_c (b : Nat) (s : WS) (ra : Option Addr) (rl rc : Nat) (n : Nat) (r x : List UInt8) (xa : Option Addr) (xl xc : Nat) (hlen : r.length + x.length ≤ 1000000) (hn : n ≤ 1000000) (hrb : ∀ b' off, ra = some ⟨b', off, none⟩ → 0 < rl → b' ≠ b) (hxb : ∀ b' off, xa = some ⟨b', off, none⟩ → 0 < xl → b' ≠ b)
  (w : World) (hr : RC 1 w ra rl (bytesV r)) (hx : RC 1 w xa xl (bytesV x)) (hm : Mem (blocksOf [hblk b s ra rl rc n]) w [hblk b s ra rl rc n] w) :
  Calls Tryz.prog 33 [.pointer (some ⟨b, 0, none⟩), .slice xa xl xc].toArray w fun e w' => ∃ y : TX, tok (r ++ x) ((r ++ x).length / 64) y ∧ e = .returned (.int .i64 0) ∧ Post w (blocksOf [hblk b s ra rl rc n]) [hblk b (bst s (r ++ x) ((r ++ x).length / 64)) (some ⟨y.g, y.o, none⟩) ((r ++ x).length - 64 * ((r ++ x).length / 64)) y.c ((n : Int) + xl), trow (r ++ x) y] w' := by
 have hxl : x.length = xl := by have := hx.1; rw [bytesV_length] at this; omega
 have hSb : ∀ b' off, ra = some ⟨b', off, none⟩ → 0 < rl → ¬ blocksOf [hblk b s ra rl rc n] b' := by
  rintro b' off h h0 ⟨res, hres, hb⟩
  simp at hres; subst hres
  simp [Res.block] at hb
  exact hrb b' off h h0 hb.symm
 have hSx : ∀ b' off, xa = some ⟨b', off, none⟩ → 0 < xl → ¬ blocksOf [hblk b s ra rl rc n] b' := by
  rintro b' off h h0 ⟨res, hres, hb⟩
  simp at hres; subst hres
  simp [Res.block] at hb
  exact hxb b' off h h0 hb.symm
 refine aJ (n := 19) (W := (blocksOf [hblk b s ra rl rc n])) (m := [hblk b s ra rl rc n]) Tryz.func33 O Tryz.ntmps33 O hm ?_
 simp only [SL.enum, Nat.reduceAdd]
 refine ah fun K1 hK1 => aj (aa O O O (ak O O) ?_)
 refine ai (ae ?_)
 refine hK1 _ _ (ah fun K2 hK2 => ?_)
 refine ah fun K3 hK3 => aj (aa O O O (af O O) ?_)
 refine aa O O O (SL.Pure.eqNil O O O Tryz.underlying67) (ai ?_)
 refine ae (hK3 _ _ ?_)
 refine cf O (O) (aC ?_)
 refine ae (hK2 _ _ ?_)
 refine ah fun K4 hK4 => aj (aa O O O (af O O) ?_)
 refine aa O O O (af O O) (am O (aM [0] [] O O (by kernel_rfl) O O O O (fun w hM hK => take_c b s ra rl rc n r x xa xl xc hlen hrb hxb w (hr.keepS hK hSb) (hx.keepS hK hSx) (hM.sel [0] O).own)) ?_)
 intro y hy
 try simp only [setN, putD, selM, nth, cw, cx]
 refine ai (ae ?_)
 refine hK4 _ _ (ah fun K5 hK5 => ?_)
 refine aj (aa O O O (af O O) ?_)
 refine aa O O O (aZ O O) (aa O O O (au (k := 9) O O (by kernel_rfl) O) ?_)
 refine aa O O O (by first | exact al 0 O O O O (by kernel_rfl) | exact al 1 O O O O (by kernel_rfl)) ?_
 refine aa O O O (af O O) (aa O O O (bw O O O Tryz.underlying52) ?_)
 refine aa O O O (aL O O O O (by omega) (by omega)) ?_
 refine aa O O O (aZ O O) (aa O O O (au (k := 9) O O (by kernel_rfl) O) ?_)
 refine am O (by first | exact ap (k := 1) 0 [SL.Seg.one _ rfl] O O O O O O (by kernel_rfl) O O | exact ap (k := 1) 1 [SL.Seg.one _ rfl] O O O O O O (by kernel_rfl) O O) ?_
 intro _ _
 try simp only [setN, putD, selM, nth, cw, cx]
 refine ai (ae ?_)
 refine hK5 _ _ (ah fun K6 hK6 => ?_)
 refine aj (aa O O O (ak O O) ?_)
 refine ai (ae ?_)
 refine hK6 _ _ (aw av (ar O (.cons (.tmp O) .nil) O) (fun w' hM' hK' => ?_))
 exact ⟨y, hy, rfl, hK', hM'⟩

theorem hclone_c (b : Nat) (s : WS) (ra : Option Addr) (rl rc : Nat) (n : Int) (r : List UInt8) (hlen : r.length ≤ 1000000) (w : World) (hr : RC 1 w ra rl (bytesV r)) (hb : w.heap[b]? = some (.cells (flat (hseg s ra rl rc n)) 108 (0, 0))) :
  Calls Tryz.prog 60 [.pointer (some ⟨b, 0, none⟩)].toArray w fun e w' => ∃ y : Nat × Nat × Nat, True ∧ e = .returned (.pointer (some ⟨y.1, 0, none⟩)) ∧ Post w (blocksOf []) [hblk y.1 s (some ⟨y.2.1, 0, none⟩) r.length y.2.2 n, .row (.slice (some ⟨y.2.1, 0, none⟩) r.length y.2.2) 5 1 r.length (bytesV r)] w' := by
 have hrl : r.length = rl := by have := hr.1; rw [bytesV_length] at this; omega
 have hno : ¬ blocksOf [] b := by rintro ⟨res, h, _⟩; cases h
 have hS : ∀ b' off, ra = some ⟨b', off, none⟩ → 0 < rl → ¬ blocksOf [] b' := by rintro b' off _ _ ⟨res, h, _⟩; cases h
 refine aJ (n := 16) (W := (blocksOf [])) (m := []) Tryz.func60 O Tryz.ntmps60 O (aO _ _ _) ?_
 simp only [SL.enum, Nat.reduceAdd]
 refine ah fun K1 hK1 => aj (aa O O O (ak O O) ?_)
 refine ai (ae ?_)
 refine hK1 _ _ (ah fun K2 hK2 => ?_)
 refine ah fun K3 hK3 => aj (aa O O O (af O O) ?_)
 refine aa O O O (SL.Pure.eqNil O O O Tryz.underlying67) (ai ?_)
 refine ae (hK3 _ _ ?_)
 refine cf O (O) (aC ?_)
 refine ae (hK2 _ _ ?_)
 refine ah fun K4 hK4 => aj (aa O O O (af O O) ?_)
 refine aa O O O (aZ O O) (aa O O O (by exact SL.Pure.loadOA hb hno O O (k := 11) (by kernel_rfl) O (by kernel_rfl)) ?_)
 refine am O (aX [Seg.one (.int .u32 0) rfl, Seg.one (.int .u32 0) rfl, Seg.one (.int .u32 0) rfl, Seg.one (.int .u32 0) rfl, Seg.one (.int .u32 0) rfl, Seg.one (.int .u32 0) rfl, Seg.one (.int .u32 0) rfl, Seg.one (.int .u32 0) rfl, Seg.one (.slice none 0 0) rfl, Seg.one (.int .i64 0) rfl, Seg.one (.bool false) rfl] O O O (by kernel_rfl)) ?_
 intro b3 _
 try simp only [setN, putD, selM, nth, cw, cx]
 refine am O (by first | exact ap (k := 11) 0 _ O O O O O O (by kernel_rfl) O O) ?_
 intro _ _
 try simp only [setN, putD, selM, nth, cw, cx]
 refine ai (ae ?_)
 refine hK4 _ _ (ah fun K5 hK5 => ?_)
 refine aj (am O (by exact bW #[] [] O O Tryz.underlying52 (by kernel_rfl) (by kernel_rfl) O (by decide) O O) ?_)
 intro g9 _
 try simp only [setN, putD, selM, nth, cw, cx]
 refine aa O O O (af O O) (aa O O O (aZ O O) ?_)
 refine aa O O O (au (k := 8) O O (by kernel_rfl) O) ?_
 refine aa O O O (by exact SL.Pure.loadO1 hb hno O O O (by kernel_rfl)) ?_
 refine am O (by exact bF (by' := 1) 0 [1] O O O O Tryz.underlying52 Tryz.underlying52 (by kernel_rfl) (fun w' _ hK => hr.keepS hK hS) (SL.bytesV_one r) O O O O (by omega) (by omega)) ?_
 intro v14 hv14
 try simp only [setN, putD, selM, nth, cw, cx]
 have hlx : 0 + rl = r.length := by omega
 simp only [List.nil_append, hlx]
 refine SL.Ok.rowAddr 0 O ?_
 intro hv
 have hv' : ∃ g c, v14 = .slice (some ⟨g, 0, none⟩) r.length c ∧ r.length ≤ c ∧ c ≤ maxLen := by
  rcases hv with ⟨h1, _⟩ | h
  ·
   have h3 := (hv14.1.1 h1).1
   cases h3
  ·
   exact h
 obtain ⟨g, c0, rfl, hc0, hcm⟩ := hv'
 refine aa O O O (au (k := 8) O O (by kernel_rfl) O) ?_
 refine am O (by first | exact ap (k := 1) 0 [SL.Seg.one _ rfl] O O O O O O (by kernel_rfl) O O | exact ap (k := 1) 1 [SL.Seg.one _ rfl] O O O O O O (by kernel_rfl) O O) ?_
 intro _ _
 try simp only [setN, putD, selM, nth, cw, cx]
 refine ai (ae ?_)
 refine hK5 _ _ (ah fun K6 hK6 => ?_)
 refine aj (aa O O O (ak O O) ?_)
 refine ai (ae ?_)
 refine hK6 _ _ (aw av (ar O (.cons (.tmp O) .nil) O) (fun w' hM' hK' => ?_))
 exact ⟨(b3, g, c0), trivial, rfl, hK', hM'.sel [1, 0] rfl⟩
end Go.Proofs.YthfhhkanpnemcaaGreatDoor
namespace Go.Proofs.YthfhhkanpnemcaaGreatDoor
open Go.SL Go.RowKit IntWalk
set_option linter.unusedVariables false
set_option maxRecDepth 100000
set_option linter.unusedSimpArgs false
set_option maxHeartbeats 400000

/-- how many zeros the padding has -/
def padn (n : Nat) : Nat := (119 - n % 64) % 64
def pad0 (j : Nat) : List UInt8 := 128 :: List.replicate j 0
/-- a byte of the length in bits -/
def lenb (n k : Nat) : UInt8 := UInt8.ofNat (n * 8 / 2 ^ (8 * (7 - k)))
def pad1 (n : Nat) : Nat → List UInt8
 | 0 => pad0 (padn n)
 | k + 1 => pad1 n k ++ [lenb n k]
theorem pad0_len (j : Nat) : (pad0 j).length = 1 + j := by simp [pad0]; omega
theorem pad0_succ (j : Nat) : pad0 j ++ [0] = pad0 (j + 1) := by simp [pad0, List.replicate_succ']
theorem pad1_len (n : Nat) : ∀ k, (pad1 n k).length = 1 + padn n + k
 | 0 => by simp [pad1, pad0_len]
 | k + 1 => by simp [pad1, pad1_len n k]; omega
theorem padn_lt (n : Nat) : padn n < 64 := by unfold padn; omega

def wsg (s : WS) : Nat → UInt32
 | 0 => s.a
 | 1 => s.b
 | 2 => s.c
 | 3 => s.d
 | 4 => s.e
 | 5 => s.f
 | 6 => s.g
 | _ => s.h
def dgp (s : WS) : Nat → B 32
 | 0 => B.zero 32
 | i + 1 => ((((dgp s i).set (4 * i) (wsg s i >>> UInt32.ofNat 24).toUInt8).set (4 * i + 1) (wsg s i >>> UInt32.ofNat 16).toUInt8).set (4 * i + 2) (wsg s i >>> UInt32.ofNat 8).toUInt8).set (4 * i + 3) (wsg s i).toUInt8
theorem wsg_at (s : WS) : ∀ i, i < 8 → (flat (wseg s))[i]? = some (.int .u32 (wsg s i).toNat)
 | 0, _ => by rw [← at1_eq]; rfl
 | 1, _ => by rw [← at1_eq]; rfl
 | 2, _ => by rw [← at1_eq]; rfl
 | 3, _ => by rw [← at1_eq]; rfl
 | 4, _ => by rw [← at1_eq]; rfl
 | 5, _ => by rw [← at1_eq]; rfl
 | 6, _ => by rw [← at1_eq]; rfl
 | 7, _ => by rw [← at1_eq]; rfl
 | n + 8, h => by omega
def shaS (n : Nat) (s : WS) (r : List UInt8) : WS := bst s (r ++ pad1 n 8) ((r ++ pad1 n 8).length / 64)
def dig (s : WS) : B 32 := dgp s 8

theorem Mem.ne {W : Nat → Prop} {w0 w : World} {m : List Res} (h : Mem W w0 m w) {i j : Nat} (hij : i ≠ j) {g k c b : Nat} {e : TypeId} {sz : Nat} {xs : List Value} {ob : Obj} (hi : nth m i = some (.row (.slice (some ⟨g, 0, none⟩) k c) e sz k xs)) (hj : nth m j = some (.blk b ob)) : g ≠ b := by
 intro hgb
 have := h.apart_idx hi hj hij (k := g) rfl
 exact this (by simp [Res.block, hgb])

theorem bytes_pad {v : List UInt8} : bytesV v ++ bytesV [0] = bytesV (v ++ [0]) := (bytesV_append _ _).symm

theorem hsum_c (b : Nat) (s : WS) (ra : Option Addr) (rl rc : Nat) (n : Nat) (r : List UInt8) (hlen : r.length ≤ 1000) (hn : n ≤ 1000000) (w : World) (hr : RC 1 w ra rl (bytesV r)) (hb : w.heap[b]? = some (.cells (flat (hseg s ra rl rc n)) 108 (0, 0))) :
  Calls Tryz.prog 34 [.pointer (some ⟨b, 0, none⟩)].toArray w fun e w' => e = .returned (.agg (flat [(dig (shaS n s r)).seg])) ∧ Keeps none1 w w' := by
 have hpn := padn_lt n
 refine aJ (n := 101) (W := SL.none1) (m := []) Tryz.func34 O Tryz.ntmps34 O (aO _ _ _) ?_
 simp only [SL.enum, Nat.reduceAdd]
 refine ah fun K1 hK1 => aj (am O (aX [(B.zero 32).seg] O O O (by kernel_rfl)) ?_)
 intro b2 _
 try simp only [setN, putD, selM, nth, cw, cx]
 refine ai (ae ?_)
 refine hK1 _ _ (ah fun K2 hK2 => ?_)
 refine ah fun K3 hK3 => aj (aa O O O (af O O) ?_)
 refine aa O O O (SL.Pure.eqNil O O O Tryz.underlying67) (ai ?_)
 refine ae (hK3 _ _ ?_)
 refine cf O (O) (aC ?_)
 refine ae (hK2 _ _ ?_)
 refine ah fun K4 hK4 => aj (aa O O O (af O O) ?_)
 refine am O (aM [] [0] O O (by kernel_rfl) O O O O (fun w hM hK => hclone_c b s ra rl rc n r (by omega) w (hr.keep hK) ((hK.block b (Array.getElem?_eq_some_iff.1 hb).1 (fun h => h)).trans hb))) ?_
 intro ⟨cb, cg, cc⟩ _
 try simp only [setN, putD, selM, nth, cw, cx]
 try dsimp only
 refine aa O O O (ak O O) (ai ?_)
 refine ae (hK4 _ _ ?_)
 refine ah fun K5 hK5 => aj (am O (by exact bW #[.int .u8 0] [.int .u8 ((128 : UInt8).toNat)] O O Tryz.underlying52 (by kernel_rfl) (by kernel_rfl) O (by decide) O O) ?_)
 intro g15 _
 try simp only [setN, putD, selM, nth, cw, cx]
 refine aa O O O (ak O O) (ai ?_)
 refine ae (hK5 _ _ ?_)
 refine ah fun K6 hK6 => aK (bu (X := (Nat × Nat × Nat)) (φ := fun X => X.1 ≤ padn n ∧ 1 + X.1 ≤ X.2.2) (L := fun X => [(2, .pointer (some ⟨b2, 0, none⟩)), (3, .pointer (some ⟨cb, 0, none⟩)), (4, .slice (some ⟨X.2.1, 0, none⟩) (1 + X.1) X.2.2)]) (M := fun X => [.row (.slice (some ⟨X.2.1, 0, none⟩) (1 + X.1) X.2.2) 5 1 (1 + X.1) (bytesV (pad0 X.1)), hblk cb s (some ⟨cg, 0, none⟩) r.length cc n, .row (.slice (some ⟨cg, 0, none⟩) r.length cc) 5 1 r.length (bytesV r), .blk b2 (.cells (flat [(B.zero 32).seg]) 50 (0, 0))]) (μ := fun X => 64 - X.1) ?_ ?_)
 ·
  exact fun _ _ st => ⟨(0, g15, 1), ⟨Nat.zero_le _, Nat.le_refl _⟩, st.to [0, 1, 2, 3] ⟨rfl, rfl, rfl, trivial⟩ O rfl⟩
 ·
  intro ⟨j, g, c⟩ ⟨hj, hjc⟩
  try dsimp only
  dsimp only at hj hjc
  refine ah fun K7 hK7 => ah fun K8 hK8 => aj (aa O O O (af O O) ?_)
  refine aa O O O (aZ O O) (aa O O O (au (k := 9) O O (by kernel_rfl) O) ?_)
  refine aa O O O (by first | exact al 0 O O O O (by kernel_rfl) | exact al 1 O O O O (by kernel_rfl) | exact al 2 O O O O (by kernel_rfl) | exact al 3 O O O O (by kernel_rfl)) ?_
  refine aa O O O (af O O) (aa O O O (bw O O O Tryz.underlying52) ?_)
  refine aa O O O (aL O O O O (by omega) (by omega)) ?_
  refine aa O O O (SL.Pure.remI O O O (by omega) (by omega) (by omega)) ?_
  refine aa O O O (bl O O O) (ai ?_)
  refine ae (hK8 _ _ ?_)
  refine aH O (fun hc24 => ?_) (fun hc24 => ?_)
  ·
   have hlt : j < padn n := by simp at hc24; unfold padn at *; omega
   refine aC (ae ?_)
   refine hK7 _ _ (aK ?_)
   refine aj (aa O O O (af O O) ?_)
   refine am O (by exact bW #[.int .u8 0] [.int .u8 ((0 : UInt8).toNat)] O O Tryz.underlying52 (by kernel_rfl) (by kernel_rfl) O (by decide) O O) ?_
   intro g26 _
   try simp only [setN, putD, selM, nth, cw, cx]
   refine am O (by exact bF (by' := 1) 1 [2, 3, 4] O O O O Tryz.underlying52 Tryz.underlying52 (by kernel_rfl) (fun w' hM _ => bK (i := 0) O hM) (SL.bytesV_one [0]) O O O O (by omega) (by omega)) ?_
   intro v27 hv27
   try simp only [setN, putD, selM, nth, cw, cx]
   have hlx : 1 + j + 1 = 1 + (j + 1) := by omega
   have hpx : bytesV (pad0 j) ++ bytesV [0] = bytesV (pad0 (j + 1)) := by rw [← bytesV_append, pad0_succ]
   simp only [hlx, hpx]
   refine SL.Ok.rowAddr 0 O ?_
   intro hv
   have hv' : ∃ g c, v27 = .slice (some ⟨g, 0, none⟩) (1 + (j + 1)) c ∧ 1 + (j + 1) ≤ c ∧ c ≤ maxLen := by
    rcases hv with ⟨h1, _⟩ | h
    ·
     have h3 := (hv27.1.1 h1).1
     cases h3
    ·
     exact h
   obtain ⟨g', c', rfl, hc', hcm⟩ := hv'
   refine aa O O O (ak O O) (ai ?_)
   refine aQ (ae ?_)
   exact bd (j + 1, g', c') [0, 1, 2, 3] ⟨show j + 1 ≤ padn n by omega, hc'⟩ (show 64 - (j + 1) < 64 - j by omega) ⟨rfl, rfl, rfl, trivial⟩ O rfl
  ·
   have hje : j = padn n := by simp at hc24; unfold padn at *; omega
   subst hje
   refine aU (aI ?_)
   refine aI (aV ?_)
   refine ae (hK6 _ _ ?_)
   refine ah fun K9 hK9 => ah fun K10 hK10 => aj (aa O O O (ak O O) ?_)
   refine ai (ae ?_)
   refine hK10 _ _ (aK ?_)
   refine bu (X := (Nat × Nat × Nat)) (φ := fun X => X.1 ≤ 8 ∧ 1 + padn n + X.1 ≤ X.2.2) (L := fun X => [(2, .pointer (some ⟨b2, 0, none⟩)), (3, .pointer (some ⟨cb, 0, none⟩)), (4, .slice (some ⟨X.2.1, 0, none⟩) (1 + padn n + X.1) X.2.2), (5, .int .i64 (7 - (X.1 : Int)))]) (M := fun X => [.row (.slice (some ⟨X.2.1, 0, none⟩) (1 + padn n + X.1) X.2.2) 5 1 (1 + padn n + X.1) (bytesV (pad1 n X.1)), hblk cb s (some ⟨cg, 0, none⟩) r.length cc n, .row (.slice (some ⟨cg, 0, none⟩) r.length cc) 5 1 r.length (bytesV r), .blk b2 (.cells (flat [(B.zero 32).seg]) 50 (0, 0))]) (μ := fun X => 8 - X.1) ?_ ?_
   ·
    exact fun _ _ st => ⟨(0, g, c), ⟨Nat.zero_le _, hjc⟩, st.to [0, 1, 2, 3] ⟨rfl, rfl, rfl, rfl, trivial⟩ O rfl⟩
   ·
    intro ⟨k, g2, c2⟩ ⟨hk, hkc⟩
    try dsimp only
    dsimp only at hk hkc
    refine ah fun K11 hK11 => ah fun K12 hK12 => aj (aa O O O (af O O) ?_)
    refine aa O O O (bB O O O) (ai ?_)
    refine ae (hK12 _ _ ?_)
    refine aH O (fun hc29 => ?_) (fun hc29 => ?_)
    ·
     have hlt : k < 8 := by simp at hc29; omega
     refine aC (ae ?_)
     refine hK11 _ _ (ah fun K13 hK13 => ?_)
     refine aK (aj ?_)
     refine aa O O O (af O O) (aa O O O (af O O) ?_)
     refine aa O O O (aZ O O) (aa O O O (au (k := 9) O O (by kernel_rfl) O) ?_)
     refine aa O O O (by first | exact al 0 O O O O (by kernel_rfl) | exact al 1 O O O O (by kernel_rfl) | exact al 2 O O O O (by kernel_rfl) | exact al 3 O O O O (by kernel_rfl)) ?_
     refine aa O O O (bT (r := (n : Int)) O O (by kernel_rfl) Tryz.underlying75 (by rw [IntKind.wrap_u64]; omega)) ?_
     refine aa O O O (SL.Pure.mulW (r := ((n * 8 : Nat) : Int)) O O O (by rw [IntKind.wrap_u64]; omega)) ?_
     refine aa O O O (af O O) (aa O O O (ct O O O O (by omega) (by omega)) ?_)
     refine aa O O O (cu (r := ((n * 8 / 2 ^ (8 * (7 - k)) : Nat) : Int)) O O O (by omega) (by
      have e1 : min (Int.toNat (8 * (7 - (k : Int)))) IntKind.u64.bits = 8 * (7 - k) := by simp [IntKind.bits]; omega
      have e3 : (2 : Int) ^ (8 * (7 - k)) = ((2 ^ (8 * (7 - k)) : Nat) : Int) := by simp
      rw [e1, e3, Int.fdiv_eq_ediv_of_nonneg _ (Int.natCast_nonneg _)]
      rfl)) ?_
     refine aa O O O (bT (r := ((lenb n k).toNat : Int)) O O (by kernel_rfl) Tryz.underlying5 (by rw [IntKind.wrap_u8]; simp only [lenb, UInt8.toNat_ofNat']; omega)) ?_
     refine am O (by exact bW #[.int .u8 0] [.int .u8 (lenb n k).toNat] O O Tryz.underlying52 (by kernel_rfl) (by kernel_rfl) O (by decide) O O) ?_
     intro g43 _
     try simp only [setN, putD, selM, nth, cw, cx]
     refine am O (by exact bF (by' := 1) 1 [2, 3, 4] O O O O Tryz.underlying52 Tryz.underlying52 (by kernel_rfl) (fun w' hM _ => bK (i := 0) O hM) (SL.bytesV_one [lenb n k]) O O O O (by omega) (by omega)) ?_
     intro v44 hv44
     try simp only [setN, putD, selM, nth, cw, cx]
     have hlx : 1 + padn n + k + 1 = 1 + padn n + (k + 1) := by omega
     have hpx : bytesV (pad1 n k) ++ bytesV [lenb n k] = bytesV (pad1 n (k + 1)) := by rw [← bytesV_append]; rfl
     simp only [hlx, hpx]
     refine SL.Ok.rowAddr 0 O ?_
     intro hv
     have hv' : ∃ g c, v44 = .slice (some ⟨g, 0, none⟩) (1 + padn n + (k + 1)) c ∧ 1 + padn n + (k + 1) ≤ c ∧ c ≤ maxLen := by
      rcases hv with ⟨h1, _⟩ | h
      ·
       have h3 := (hv44.1.1 h1).1
       cases h3
      ·
       exact h
     obtain ⟨g', c', rfl, hc', hcm⟩ := hv'
     refine aa O O O (ak O O) (ai ?_)
     refine aQ (ae ?_)
     refine hK13 _ _ (aj ?_)
     refine aa O O O (af O O) (aa O O O (bU (r := 7 - ((k + 1 : Nat) : Int)) O O O (by omega) (by omega) (by omega)) ?_)
     refine aa O O O (ak O O) (ai ?_)
     refine ae ?_
     exact bd (k + 1, g', c') [0, 1, 2, 3] ⟨show k + 1 ≤ 8 by omega, hc'⟩ (show 8 - (k + 1) < 8 - k by omega) ⟨rfl, rfl, rfl, rfl, trivial⟩ O rfl
    ·
     have hke : k = 8 := by simp at hc29; omega
     subst hke
     refine aU (aI ?_)
     refine aI (aV ?_)
     refine ae (hK9 _ _ ?_)
     refine ah fun K14 hK14 => aj (aa O O O (af O O) ?_)
     refine aa O O O (af O O) (am O (aM [1] [3] O O (by kernel_rfl) O O O O (fun w hM hK => take_c cb s (some ⟨cg, 0, none⟩) r.length cc n r (pad1 n 8) (some ⟨g2, 0, none⟩) _ c2 (by rw [pad1_len]; omega) (fun b' off h _ => by cases h; exact Mem.ne hM (i := 2) (j := 1) (by decide) O O) (fun b' off h _ => by cases h; exact Mem.ne hM (i := 0) (j := 1) (by decide) O O) w (bK (i := 2) O hM) (bK (i := 0) O hM) (hM.sel [1] O).own)) ?_)
     intro y hy
     try simp only [setN, putD, selM, nth, cw, cx]
     refine ai (ae ?_)
     refine hK14 _ _ (ah fun K15 hK15 => ?_)
     refine aj (am O (by exact aX [(B.zero 32).seg] O O O (by kernel_rfl)) ?_)
     intro b6 _
     try simp only [setN, putD, selM, nth, cw, cx]
     refine ai (ae ?_)
     refine hK15 _ _ (ah fun K16 hK16 => ?_)
     refine aj (aa O O O (af O O) ?_)
     refine aa O O O (aZ O O) (aa O O O (au (k := 0) O O (by kernel_rfl) O) ?_)
     refine aa O O O (by first | exact ay 0 (k := 8) O O O (by kernel_rfl) O (by kernel_rfl) | exact ay 1 (k := 8) O O O (by kernel_rfl) O (by kernel_rfl) | exact ay 2 (k := 8) O O O (by kernel_rfl) O (by kernel_rfl) | exact ay 3 (k := 8) O O O (by kernel_rfl) O (by kernel_rfl)) ?_
     refine am O (aX [Seg.one (.int .u32 0) rfl, Seg.one (.int .u32 0) rfl, Seg.one (.int .u32 0) rfl, Seg.one (.int .u32 0) rfl, Seg.one (.int .u32 0) rfl, Seg.one (.int .u32 0) rfl, Seg.one (.int .u32 0) rfl, Seg.one (.int .u32 0) rfl] O O O (by kernel_rfl)) ?_
     intro b7 _
     try simp only [setN, putD, selM, nth, cw, cx]
     refine am O (by first | exact ap (k := 8) 0 _ O O O O O O (by kernel_rfl) O O | exact ap (k := 8) 1 _ O O O O O O (by kernel_rfl) O O | exact ap (k := 8) 2 _ O O O O O O (by kernel_rfl) O O | exact ap (k := 8) 3 _ O O O O O O (by kernel_rfl) O O | exact ap (k := 8) 4 _ O O O O O O (by kernel_rfl) O O) ?_
     intro _ _
     try simp only [setN, putD, selM, nth, cw, cx]
     refine ai (ae ?_)
     refine hK16 _ _ (ah fun K17 hK17 => ?_)
     refine ah fun K18 hK18 => aj (aa O O O (au (k := 0) O O (by kernel_rfl) O) ?_)
     refine aa O O O (by first | exact al 0 O O O O (by kernel_rfl) | exact al 1 O O O O (by kernel_rfl) | exact al 2 O O O O (by kernel_rfl) | exact al 3 O O O O (by kernel_rfl) | exact al 4 O O O O (by kernel_rfl)) ?_
     refine aa O O O (au (k := 1) O O (by kernel_rfl) O) ?_
     refine aa O O O (by first | exact al 0 O O O O (by kernel_rfl) | exact al 1 O O O O (by kernel_rfl) | exact al 2 O O O O (by kernel_rfl) | exact al 3 O O O O (by kernel_rfl) | exact al 4 O O O O (by kernel_rfl)) ?_
     refine aa O O O (au (k := 2) O O (by kernel_rfl) O) ?_
     refine aa O O O (by first | exact al 0 O O O O (by kernel_rfl) | exact al 1 O O O O (by kernel_rfl) | exact al 2 O O O O (by kernel_rfl) | exact al 3 O O O O (by kernel_rfl) | exact al 4 O O O O (by kernel_rfl)) ?_
     refine aa O O O (au (k := 3) O O (by kernel_rfl) O) ?_
     refine aa O O O (by first | exact al 0 O O O O (by kernel_rfl) | exact al 1 O O O O (by kernel_rfl) | exact al 2 O O O O (by kernel_rfl) | exact al 3 O O O O (by kernel_rfl) | exact al 4 O O O O (by kernel_rfl)) ?_
     refine aa O O O (au (k := 4) O O (by kernel_rfl) O) ?_
     refine aa O O O (by first | exact al 0 O O O O (by kernel_rfl) | exact al 1 O O O O (by kernel_rfl) | exact al 2 O O O O (by kernel_rfl) | exact al 3 O O O O (by kernel_rfl) | exact al 4 O O O O (by kernel_rfl)) ?_
     refine aa O O O (au (k := 5) O O (by kernel_rfl) O) ?_
     refine aa O O O (by first | exact al 0 O O O O (by kernel_rfl) | exact al 1 O O O O (by kernel_rfl) | exact al 2 O O O O (by kernel_rfl) | exact al 3 O O O O (by kernel_rfl) | exact al 4 O O O O (by kernel_rfl)) ?_
     refine aa O O O (au (k := 6) O O (by kernel_rfl) O) ?_
     refine aa O O O (by first | exact al 0 O O O O (by kernel_rfl) | exact al 1 O O O O (by kernel_rfl) | exact al 2 O O O O (by kernel_rfl) | exact al 3 O O O O (by kernel_rfl) | exact al 4 O O O O (by kernel_rfl)) ?_
     refine aa O O O (au (k := 7) O O (by kernel_rfl) O) ?_
     refine aa O O O (by first | exact al 0 O O O O (by kernel_rfl) | exact al 1 O O O O (by kernel_rfl) | exact al 2 O O O O (by kernel_rfl) | exact al 3 O O O O (by kernel_rfl) | exact al 4 O O O O (by kernel_rfl)) ?_
     refine aa O O O (by exact bg [(0, 1), (1, 1), (2, 1), (3, 1), (4, 1), (5, 1), (6, 1), (7, 1)] [Seg.one (.int .u32 0) rfl, Seg.one (.int .u32 0) rfl, Seg.one (.int .u32 0) rfl, Seg.one (.int .u32 0) rfl, Seg.one (.int .u32 0) rfl, Seg.one (.int .u32 0) rfl, Seg.one (.int .u32 0) rfl, Seg.one (.int .u32 0) rfl] (z' := wseg (shaS n s r)) O O (.cons (.one O) (.cons (.one O) (.cons (.one O) (.cons (.one O) (.cons (.one O) (.cons (.one O) (.cons (.one O) (.cons (.one O) .nil)))))))) (by kernel_rfl) (by kernel_rfl) O) ?_
     refine aa O O O (af O O) (ai ?_)
     refine ae (hK18 _ _ ?_)
     refine aK (bu (X := Nat) (φ := fun i => i ≤ 8) (L := fun i => [(2, .pointer (some ⟨b2, 0, none⟩)), (6, .pointer (some ⟨b6, 0, none⟩)), (68, .agg (flat (wseg (shaS n s r)))), (69, .int .i64 i)]) (M := fun i => [.blk b6 (.cells (flat [(dgp (shaS n s r) i).seg]) 50 (0, 0)), .blk b2 (.cells (flat [(B.zero 32).seg]) 50 (0, 0))]) (μ := fun i => 8 - i) ?_ ?_)
     ·
      exact fun _ _ st => ⟨0, Nat.zero_le _, st.to [1, 4] ⟨rfl, rfl, rfl, rfl, trivial⟩ O rfl⟩
     ·
      intro i hi
      try dsimp only
      refine ah fun K19 hK19 => aj (aa O O O (aT O O O) ?_)
      refine ai (ae ?_)
      refine hK19 _ _ (ah fun K20 hK20 => ?_)
      refine aH O (fun hc70 => ?_) (fun hc70 => ?_)
      ·
       have hlt : i < 8 := by simp at hc70; omega
       refine aC (ae ?_)
       refine hK20 _ _ (ah fun K21 hK21 => ?_)
       refine aK (ah fun K22 hK22 => ?_)
       refine aj (aa O O O (af O O) ?_)
       refine aa O O O (SL.Pure.indexA1 (i := (i : Int)) O O O Tryz.underlying110 (by kernel_rfl) (by kernel_rfl) (by omega) (by omega) (by simpa using wsg_at (shaS n s r) i hlt)) ?_
       refine aa O O O (ak O O) (aa O O O (ak O O) ?_)
       refine ai (ae ?_)
       refine hK22 _ _ (aj ?_)
       refine aa O O O (af O O) (aa O O O (ct O O O O (by omega) (by omega)) ?_)
       refine aa O O O (af O O) (aa O O O (ct O O O O (by omega) (by omega)) ?_)
       refine aa O O O (aL O O O O (by omega) (by omega)) ?_
       refine aa O O O (af O O) (aa O O O (ct O O O O (by omega) (by omega)) ?_)
       refine aa O O O (aL O O O O (by omega) (by omega)) ?_
       refine aa O O O (af O O) (aa O O O (ct O O O O (by omega) (by omega)) ?_)
       refine aa O O O (aL O O O O (by omega) (by omega)) ?_
       refine aa O O O (af O O) (aa O O O (SL.Pure.shrU32 24 O O O (by decide)) ?_)
       refine aa O O O (SL.Pure.conv328 O O (by kernel_rfl) Tryz.underlying5) ?_
       refine aa O O O (af O O) (aa O O O (SL.Pure.shrU32 16 O O O (by decide)) ?_)
       refine aa O O O (SL.Pure.conv328 O O (by kernel_rfl) Tryz.underlying5) ?_
       refine aa O O O (af O O) (aa O O O (SL.Pure.shrU32 8 O O O (by decide)) ?_)
       refine aa O O O (SL.Pure.conv328 O O (by kernel_rfl) Tryz.underlying5) ?_
       refine aa O O O (af O O) (aa O O O (SL.Pure.conv328 O O (by kernel_rfl) Tryz.underlying5) ?_)
       refine aa O O O (bR (off' := 4 * i) (sz := 1) O O O Tryz.underlying50 (by kernel_rfl) (by omega) (by omega) (by omega)) ?_
       refine am O (by exact cl 0 O O O O O (by kernel_rfl) (by omega)) ?_
       intro _ _
       try simp only [setN, putD, selM, nth, cw, cx]
       refine aa O O O (bR (off' := 4 * i + 1) (sz := 1) O O O Tryz.underlying50 (by kernel_rfl) (by omega) (by omega) (by omega)) ?_
       refine am O (by exact cl 0 O O O O O (by kernel_rfl) (by omega)) ?_
       intro _ _
       try simp only [setN, putD, selM, nth, cw, cx]
       refine aa O O O (bR (off' := 4 * i + 2) (sz := 1) O O O Tryz.underlying50 (by kernel_rfl) (by omega) (by omega) (by omega)) ?_
       refine am O (by exact cl 0 O O O O O (by kernel_rfl) (by omega)) ?_
       intro _ _
       try simp only [setN, putD, selM, nth, cw, cx]
       refine aa O O O (bR (off' := 4 * i + 3) (sz := 1) O O O Tryz.underlying50 (by kernel_rfl) (by omega) (by omega) (by omega)) ?_
       refine am O (by exact cl 0 O O O O O (by kernel_rfl) (by omega)) ?_
       intro _ _
       try simp only [setN, putD, selM, nth, cw, cx]
       refine ai (aQ ?_)
       refine ae (hK21 _ _ ?_)
       refine aj (aa O O O (aL O O O O (by omega) (by omega)) ?_)
       refine aa O O O (af O O) (ai ?_)
       refine ae ?_
       exact bd (i + 1) [0, 1] (show i + 1 ≤ 8 by omega) (show 8 - (i + 1) < 8 - i by omega) ⟨rfl, rfl, rfl, rfl, trivial⟩ O rfl
      ·
       have hie : i = 8 := by simp at hc70; omega
       subst hie
       refine aU (aI ?_)
       refine aI (aV ?_)
       refine ae (hK17 _ _ ?_)
       refine ah fun K23 hK23 => aj (aa O O O (by first | exact ay 0 (k := 32) O O O (by kernel_rfl) O (by kernel_rfl) | exact ay 1 (k := 32) O O O (by kernel_rfl) O (by kernel_rfl)) ?_)
       refine am O (by first | exact ap (k := 32) 0 _ O O O O O O (by kernel_rfl) O O | exact ap (k := 32) 1 _ O O O O O O (by kernel_rfl) O O) ?_
       intro _ _
       try simp only [setN, putD, selM, nth, cw, cx]
       refine ai (ae ?_)
       refine hK23 _ _ (aw av (ar O (.cons (by first | exact SL.RV.cellA 1 (k := 32) O O (by kernel_rfl) O (by kernel_rfl)) .nil) O) (fun w' hM' hK' => ?_))
       exact ⟨rfl, hK'⟩

/-- SHA-256 -/
def sha (b : List UInt8) : B 32 := dig (shaS b.length (bst WS0 b (b.length / 64)) (b.drop (64 * (b.length / 64))))

theorem sha_c (x : List UInt8) (xa : Option Addr) (xl xc : Nat) (hlen : x.length ≤ 900000) (w : World) (hx : RC 1 w xa xl (bytesV x)) :
  Calls Tryz.prog 16 [.slice xa xl xc].toArray w fun e w' => e = .returned (.agg (flat [(sha x).seg])) ∧ Keeps none1 w w' := by
 have hxl : x.length = xl := by have := hx.1; rw [bytesV_length] at this; omega
 have hold : ∀ b' off, xa = some ⟨b', off, none⟩ → 0 < xl → b' < w.heap.size := by
  intro b' off h h0
  rcases hx.2.2 with h1 | ⟨b, o, he, hb, _⟩
  ·
   omega
  ·
   rw [h] at he; cases he; exact hb
 subst hxl
 refine aJ (n := 10) (W := SL.none1) (m := []) Tryz.func16 O Tryz.ntmps16 O (aO _ _ _) ?_
 simp only [SL.enum, Nat.reduceAdd]
 refine ah fun K1 hK1 => aj (am O (aX [(B.zero 32).seg] O O O (by kernel_rfl)) ?_)
 intro b2 _
 try simp only [setN, putD, selM, nth, cw, cx]
 refine ai (ae ?_)
 refine hK1 _ _ (ah fun K2 hK2 => ?_)
 refine aj (am O (aM [] [0] O O (by kernel_rfl) O O O O (fun w hM hK => new_c w)) ?_)
 intro hb _
 try simp only [setN, putD, selM, nth, cw, cx]
 refine aa O O O (ak O O) (ai ?_)
 refine ae (hK2 _ _ ?_)
 refine ah fun K3 hK3 => aj (aa O O O (af O O) ?_)
 refine aa O O O (af O O) (am O (aM [0] [1] O O (by kernel_rfl) O O O O (fun w hM hK => write_c hb WS0 none 0 0 0 [] x xa x.length xc (by simp; omega) (by omega) (fun b' off h => by cases h) (fun b' off h h0 => by have h1 := hold b' off h h0; have h2 := hM.may _ (List.mem_cons_self) hb rfl; rcases h2 with h2 | h2; omega; exact h2.elim) w (RC.nil 1 w none) (hx.keep hK) (hM.sel [0] O).own)) ?_)
 intro y hy
 try simp only [setN, putD, selM, nth, cw, cx]
 simp only [List.nil_append] at hy
 refine ai (ae ?_)
 refine hK3 _ _ (ah fun K4 hK4 => ?_)
 refine aj (aa O O O (af O O) ?_)
 refine am O (aN O O (by kernel_rfl) O O (fun w hM hK => hsum_c hb _ _ _ _ x.length (x.drop (64 * (x.length / 64))) (by simp; omega) (by omega) w (tok_rc hy (bK (i := 1) O hM)) (by simpa using hM.blk (i := 0) O))) ?_
 intro _ _
 try simp only [setN, putD, selM, nth, cw, cx]
 refine am O (by first | exact ap (k := 32) 0 _ O O O O O O (by kernel_rfl) O O | exact ap (k := 32) 1 _ O O O O O O (by kernel_rfl) O O | exact ap (k := 32) 2 _ O O O O O O (by kernel_rfl) O O) ?_
 intro _ _
 try simp only [setN, putD, selM, nth, cw, cx]
 refine ai (ae ?_)
 refine hK4 _ _ (aw av (ar O (.cons (by first | exact SL.RV.cellA 0 (k := 32) O O (by kernel_rfl) O (by kernel_rfl) | exact SL.RV.cellA 1 (k := 32) O O (by kernel_rfl) O (by kernel_rfl) | exact SL.RV.cellA 2 (k := 32) O O (by kernel_rfl) O (by kernel_rfl)) .nil) O) (fun w' hM' hK' => ?_))
 exact ⟨rfl, hK'⟩
end Go.Proofs.YthfhhkanpnemcaaGreatDoor
