/-
  PARTS OF ONE PROOF: W10 W11 W12 W13 W14 W15 W16 W17 W19 W33. CONDITIONS: none of their own; each line names its own.
-/
import Derived.Test.YtfaenhhiogcacaaZSessTells2
import Derived.Test.YtfaenhhiogcacaaProg
import Derived.KernelRfl
import Derived.Test.YtfaenhhiogcacaaZSessTells1
set_option linter.unusedSimpArgs false
set_option linter.unusedVariables false
set_option maxRecDepth 4000
set_option maxHeartbeats 1000000
namespace Go.Proofs.Ytfaenhhiogcacaa.Px
open Go Go.RowKit
section
attribute [local irreducible] Kn.V PtrV
def vector_find_1 (x0 : Dot) (x1 : Str) : Int := (strings_Compare x0.who x1)
theorem vector_find_1.ok {s0 : St} {v0 : Value} {x0 : Dot} {v1 : Value} {x1 : Str} (k0 : kDot.V s0 v0 x0) (k1 : kS.V s0 v1 x1) : Cl Try.prog 152 #[v0, v1] s0 (Okf s0 (Fact.v (kI .i64) (vector_find_1 x0 x1))) := by
 obtain ⟨r, h⟩ : ∃ r, some (vector_find_1 x0 x1) = some r := ⟨_, rfl⟩
 rw [Option.some.inj h]
 have h : (some (strings_Compare x0.who x1)) = some r := by rw [← h]; unfold vector_find_1; first | rfl | simp only [apply_ite some] | (repeat' (first | rfl | split))
 refine cl_of_wp Try.func152 rfl en_152 fun a hz hd hp => ?_; have hz : a.tmps.size = 9 := hz; have E := Chg.refl (fun _ => False) s0; have h0 := V_at k0 E (hp 0 v0 rfl); have h1 := V_at k1 E (hp 1 v1 rfl); refine wp_sr ?_; refine sq_set hz rfl rfl rfl (op_boxn rfl rfl h0 (fun s2 e4 he BB3 r5 => fun a1 h2 hf hz hd1 => ?_)); obtain ⟨b10, hb10⟩ : ∃ b, b = s0.w.heap.size := ⟨_, rfl⟩; rw [← hb10] at BB3 h2; have B10 := BB3; have l10 : s0.w.heap.size ≤ b10 := by have := E.size; omega
 have ⟨hd, E⟩ := hdE hd1 hd E he; have h1 := V_at h1 he (hf 1 rfl); obtain ⟨u6, u7, rfl, c8, c9⟩ := kDot_open r5; refine sq_blk [⟨4, _, []⟩] [] hz rfl ⟨(fun a s he hf hz => av rfl rfl i0), trivial⟩ ?_; intro a11 s12 he hf hz hd1; have ⟨hd, E⟩ := hdE hd1 hd E he; have h1 := V_at h1 he (hf 1 rfl); have h2 := (hf 2 rfl).trans h2; have B10 := B10.ext he; have c8 := vm he c8; refine wp_sr ?_; refine sq_blk [⟨5, _, []⟩, ⟨6, _, [0]⟩, ⟨7, _, []⟩, ⟨8, _, [1, 2]⟩, ⟨4, _, [3]⟩] [4] hz rfl ⟨(fun a s he hf hz => fb rfl rfl fa_70_0 ((hf 2 rfl).trans h2)), (fun a s he hf hz q0 => lo rfl rfl ty_9 q0 (B10.ext he) rfl (vm he c8)), mvs rfl rfl h1 rfl, (fun a s he hf hz q1 q2 => opw rfl (op_call rfl rfl (strings_Compare.ok q1 q2))), avq rfl rfl, trivial⟩ ?_; intro a13 s14 he hf hz hd1 h4; have ⟨hd, E⟩ := hdE hd1 hd E he; refine wp_ret ?_; cases h
 exact ⟨hd, _, results_tmp rfl _ _ _, E, h4⟩
def slices_BinarySearchFunc_api_Dot_api_Dot_string.l0 : Nat → (List Dot) → Str → (Dot → Str → Int) → Int → Int → Option (Int × Bool)
 | 0, _, _, _, _, _ => none
 | m11 + 1, x0, x1, φ2, y9, y10 => (if decide (y9 < y10) = true then (if (0 ≤ (IntKind.wrap .i64 (sShr .u64 (IntKind.wrap .u64 (IntKind.wrap .i64 (y9 + y10))) 1)) ∧ (IntKind.wrap .i64 (sShr .u64 (IntKind.wrap .u64 (IntKind.wrap .i64 (y9 + y10))) 1)) < (x0.length : Int)) then (if decide ((φ2 (List.getD x0 (IntKind.wrap .i64 (sShr .u64 (IntKind.wrap .u64 (IntKind.wrap .i64 (y9 + y10))) 1)).toNat default) x1) < 0) = true then (slices_BinarySearchFunc_api_Dot_api_Dot_string.l0 m11 x0 x1 φ2 (IntKind.wrap .i64 ((IntKind.wrap .i64 (sShr .u64 (IntKind.wrap .u64 (IntKind.wrap .i64 (y9 + y10))) 1)) + 1)) y10) else (slices_BinarySearchFunc_api_Dot_api_Dot_string.l0 m11 x0 x1 φ2 y9 (IntKind.wrap .i64 (sShr .u64 (IntKind.wrap .u64 (IntKind.wrap .i64 (y9 + y10))) 1)))) else none) else (if ((decide (y9 < (x0.length : Int))) = true → (0 ≤ y9 ∧ y9 < (x0.length : Int))) then (some (y9, ((decide (y9 < (x0.length : Int))) && (decide ((φ2 (List.getD x0 (y9).toNat default) x1) = 0))))) else none))
def slices_BinarySearchFunc_api_Dot_api_Dot_string.f (k : Nat) (x0 : (List Dot)) (x1 : Str) (φ2 : Dot → Str → Int) : Option (Int × Bool) := (slices_BinarySearchFunc_api_Dot_api_Dot_string.l0 k x0 x1 φ2 0 (x0.length : Int))
theorem slices_BinarySearchFunc_api_Dot_api_Dot_string.ok {s0 : St} {v0 : Value} {x0 : (List Dot)} {v1 : Value} {x1 : Str} {v2 : Value} {g2 : FuncId} {caps2 : List Value} {φ2 : Dot → Str → Int} {k : Nat} {r : Int × Bool} (k0 : (kSl kDot).V s0 v0 x0) (k1 : kS.V s0 v1 x1) (e2 : v2 = .func (.func g2) #[] caps2.toArray) (F2 : ∀ {s : St} {w0 : Value} {y0 : Dot} {w1 : Value} {y1 : Str}, Ext s0 s → kDot.V s w0 y0 → kS.V s w1 y1 → Cl Try.prog g2 ([w0, w1] ++ caps2).toArray s (Okf s (Fact.v (kI .i64) (φ2 y0 y1)))) (h : slices_BinarySearchFunc_api_Dot_api_Dot_string.f k x0 x1 φ2 = some r) : Cl Try.prog 151 #[v0, v1, v2] s0 (Okf s0 (Fact.tup [Fact.v (kI .i64) r.1, Fact.v kB r.2])) := by
 unfold slices_BinarySearchFunc_api_Dot_api_Dot_string.f at h
 refine cl_of_wp Try.func151 rfl en_151 fun a hz hd hp => ?_; have hz : a.tmps.size = 49 := hz; have E := Chg.refl (fun _ => False) s0; have h0 := V_at k0 E (hp 0 v0 rfl); have h1 := V_at k1 E (hp 1 v1 rfl); have h2 := (hp 2 v2 rfl).trans e2; refine wp_sr ?_; refine sq_blk [⟨6, _, []⟩, ⟨7, _, []⟩] [] hz rfl ⟨(fun a s he hf hz => av rfl rfl i0), (fun a s he hf hz => av rfl rfl b_f), trivial⟩ ?_; intro a1 s2 he hf hz hd1; have ⟨hd, E⟩ := hdE hd1 hd E he; obtain ⟨h0, h1⟩ := va2 he hf h0 h1 rfl; have h2 := (hf 2 rfl).trans h2; refine wp_sr ?_; refine sq_blk [⟨12, _, []⟩, ⟨13, _, [0]⟩, ⟨8, _, [1]⟩] [2] hz rfl ⟨mvs rfl rfl h0 rfl, (fun a s he hf hz q0 => le_ rfl rfl u_32 q0), avq rfl rfl, trivial⟩ ?_; intro a3 s4 he hf hz hd1 h8; have ⟨hd, E⟩ := hdE hd1 hd E he; obtain ⟨h0, h1⟩ := va2 he hf h0 h1 rfl; have h2 := (hf 2 rfl).trans h2; refine wp_sr ?_; refine sq_blk [⟨14, _, []⟩, ⟨9, _, []⟩, ⟨10, _, [0]⟩] [1, 2] hz rfl ⟨mvs rfl rfl h8 rfl, (fun a s he hf hz => av rfl rfl i0), avq rfl rfl, trivial⟩ ?_
 intro a5 s6 he hf hz hd1 h9 h10; have ⟨hd, E⟩ := hdE hd1 hd E he; obtain ⟨h0, h1, h8⟩ := va3 he hf h0 h1 h8 rfl; have h2 := (hf 2 rfl).trans h2; refine wp_seq ?_; refine wp_block ?_; refine wp_loop (k := k) (fun m11 a s => ∃ (y9 : Int) (y10 : Int), slices_BinarySearchFunc_api_Dot_api_Dot_string.l0 m11 x0 x1 φ2 y9 y10 = some r ∧ m11 ≤ k ∧ Ext s0 s ∧ a.tmps.size = 49 ∧ a.defers = [] ∧ (kSl kDot).V s (a.get 0) x0 ∧ kS.V s (a.get 1) x1 ∧ a.get 2 = .func (.func g2) #[] caps2.toArray ∧ (kI .i64).V s (a.get 8) (x0.length : Int) ∧ (kI .i64).V s (a.get 9) y9 ∧ (kI .i64).V s (a.get 10) y10) ⟨_, _, h, Nat.le_refl _, E, hz, hd, h0, h1, h2, h8, h9, h10⟩ ?_; rintro m11 a8 s7 ⟨y9, y10, h, hkm11, E, hz, hd, h0, h1, h2, h8, h9, h10⟩; obtain _ | m11 := m11
 ·cases h
 refine wp_seq ?_; refine wp_sr ?_; refine sq_blk [⟨15, _, []⟩, ⟨16, _, []⟩, ⟨17, _, [0, 1]⟩] [2] hz rfl ⟨mvs rfl rfl h9 rfl, mvs rfl rfl h10 rfl, (fun a s he hf hz q0 q1 => ls rfl rfl q0 q1), trivial⟩ ?_; intro a12 s13 he hf hz hd1 h17; have ⟨hd, E⟩ := hdE hd1 hd E he; obtain ⟨h0, h1, h8, h9, h10⟩ := va5 he hf h0 h1 h8 h9 h10 rfl; have h2 := (hf 2 rfl).trans h2; refine wp_condV h17 (fun hb => ?_) (fun hb => ?_)
 ·have h := ite_t hb h; refine wp_skip ?_; refine wp_block ?_; refine wp_sr ?_; refine sq_blk [⟨18, _, []⟩, ⟨19, _, []⟩, ⟨20, _, [0, 1]⟩, ⟨21, _, [2]⟩, ⟨22, _, [3]⟩, ⟨23, _, [4]⟩, ⟨11, _, [5]⟩] [6] hz rfl ⟨mvs rfl rfl h9 rfl, mvs rfl rfl h10 rfl, (fun a s he hf hz q0 q1 => ad rfl rfl q0 q1), (fun a s he hf hz q2 => cv rfl rfl u_3 u_143 q2), (fun a s he hf hz q3 => opw rfl (op_shr rfl q3 (lit_i (k := .u64) (n := 1) (by decide)) (by decide))), (fun a s he hf hz q4 => cv rfl rfl u_143 u_3 q4), avq rfl rfl, trivial⟩ ?_; intro a14 s15 he hf hz hd1 h11; have ⟨hd, E⟩ := hdE hd1 hd E he; obtain ⟨h0, h1, h8, h9, h10⟩ := va5 he hf h0 h1 h8 h9 h10 rfl; have h2 := (hf 2 rfl).trans h2; refine wp_sr ?_; obtain ⟨D16, h⟩ := need h; refine sq_blk [⟨24, _, []⟩, ⟨25, _, []⟩, ⟨26, _, []⟩, ⟨27, _, [1, 2]⟩, ⟨28, _, [3]⟩, ⟨29, _, []⟩, ⟨30, _, [0, 4, 5]⟩, ⟨31, _, [6]⟩] [7] hz rfl ⟨mes rfl rfl h2 rfl, mvs rfl rfl h0 rfl, mvs rfl rfl h11 rfl, (fun a s he hf hz q1 q2 => ia rfl rfl sl_32 q1 q2 D16.1 D16.2), (fun a s he hf hz q3 => lp rfl rfl ty_70 (by decide) q3), mvs rfl rfl h1 rfl, (fun a s he hf hz q0 q4 q5 => opw rfl (op_callv rfl q0 rfl (F2 (E.trans he) q4 q5))), (fun a s he hf hz q6 => ls rfl rfl q6 i0), trivial⟩ ?_
  intro a17 s18 he hf hz hd1 h31; have ⟨hd, E⟩ := hdE hd1 hd E he; obtain ⟨h0, h1, h8, h9, h10, h11⟩ := va6 he hf h0 h1 h8 h9 h10 h11 rfl; have h2 := (hf 2 rfl).trans h2; refine wp_condV h31 (fun hb => ?_) (fun hb => ?_)
  ·have h := ite_t hb h; refine wp_region ?_; refine sq_blk [⟨32, _, []⟩, ⟨33, _, [0]⟩, ⟨9, _, [1]⟩] [2] hz rfl ⟨mvs rfl rfl h11 rfl, (fun a s he hf hz q0 => ad rfl rfl q0 i1), avq rfl rfl, trivial⟩ ?_; intro a19 s20 he hf hz hd1 h9; have ⟨hd, E⟩ := hdE hd1 hd E he; obtain ⟨h0, h1, h8, h10⟩ := va4 he hf h0 h1 h8 h10 rfl; have h2 := (hf 2 rfl).trans h2; exact ⟨_, (by omega : m11 < m11 + 1), _, _, h, by omega, E, hz, hd, h0, h1, h2, h8, h9, h10⟩
  ·have h := ite_f hb h; refine wp_region ?_; refine sq_blk [⟨34, _, []⟩, ⟨10, _, [0]⟩] [1] hz rfl ⟨mvs rfl rfl h11 rfl, avq rfl rfl, trivial⟩ ?_; intro a21 s22 he hf hz hd1 h10; have ⟨hd, E⟩ := hdE hd1 hd E he; obtain ⟨h0, h1, h8, h9⟩ := va4 he hf h0 h1 h8 h9 rfl; have h2 := (hf 2 rfl).trans h2; exact ⟨_, (by omega : m11 < m11 + 1), _, _, h, by omega, E, hz, hd, h0, h1, h2, h8, h9, h10⟩
 ·have h := ite_f hb h; refine wp_exit ?_; refine then_exit ?_; refine then_exit ?_; refine inBlock_hit ?_; refine wp_sr ?_; obtain ⟨D23, h⟩ := need h; have hz0 := hz; refine sq_blk [⟨35, _, []⟩, ⟨36, _, []⟩, ⟨37, _, []⟩, ⟨38, _, [1, 2]⟩, ⟨39, _, [3]⟩, ⟨40, _, [4]⟩, ⟨41, _, [4]⟩, ⟨42, _, [4]⟩, ⟨43, _, [4, 6, 7]⟩, ⟨44, _, [4, 8]⟩, ⟨45, _, [4]⟩, ⟨46, _, [4, 5, 9, 10]⟩, ⟨47, _, [4, 11]⟩, ⟨48, _, [4, 12]⟩, ⟨6, _, [0]⟩, ⟨7, _, [13]⟩] [14, 15] hz rfl ⟨mvs rfl rfl h9 rfl, mvs rfl rfl h9 rfl, mvs rfl rfl h8 rfl, (fun a s he hf hz q1 q2 => ls rfl rfl q1 q2), mvq rfl rfl, (fun a s he hf hz q4 => og rfl rfl rfl hz hz0 rfl q4 (fun g => op_move_e rfl ((hf 2 rfl).trans h2))), (fun a s he hf hz q4 => og rfl rfl rfl hz hz0 rfl q4 (fun g => op_move_v rfl (V_at h0 he (hf 0 rfl)))), (fun a s he hf hz q4 => og rfl rfl rfl hz hz0 rfl q4 (fun g => op_move_v rfl (V_at h9 he (hf 9 rfl)))), (fun a s he hf hz q4 q6 q7 => og rfl rfl rfl hz hz0 rfl q4 (fun g => op_iaddr rfl sl_32 (q6.1 g) (q7.1 g) (D23 g).1 (D23 g).2)), (fun a s he hf hz q4 q8 => og rfl rfl rfl hz hz0 rfl q4 (fun g => op_load_p rfl ty_70 (by decide) (q8.1 g))), (fun a s he hf hz q4 => og rfl rfl rfl hz hz0 rfl q4 (fun g => op_move_v rfl (V_at h1 he (hf 1 rfl)))), (fun a s he hf hz q4 q5 q9 q10 => og rfl rfl rfl hz hz0 rfl q4 (fun g => op_callv rfl (q5.1 g) rfl (F2 (E.trans he) (q9.1 g) (q10.1 g)))), (fun a s he hf hz q4 q11 => og rfl rfl rfl hz hz0 rfl q4 (fun g => op_eql rfl (q11.1 g) i0)), (fun a s he hf hz q4 q12 => an rfl rfl q4 (q12.1)), avq rfl rfl, avq rfl rfl, trivial⟩ ?_
  intro a24 s25 he hf hz hd1 h6 h7; have ⟨hd, E⟩ := hdE hd1 hd E he; refine wp_ret ?_; cases h
  exact ⟨hd, _, results_tmp2 rfl _ _ _, E, tup2 h6 h7⟩
def bsGo (c : Dot → Int) (x : List Dot) : Nat → Nat → Nat → Nat
 | 0, lo, _ => lo
 | f + 1, lo, hi => if lo < hi then if c (x.getD ((lo + hi) / 2) default) < 0 then bsGo c x f ((lo + hi) / 2 + 1) hi else bsGo c x f lo ((lo + hi) / 2) else lo
def bsD (x : List Dot) (w : Str) (φ : Dot → Str → Int) : Int × Bool :=
 (((bsGo (fun d => φ d w) x x.length 0 x.length : Nat) : Int), decide (((bsGo (fun d => φ d w) x x.length 0 x.length : Nat) : Int) < (x.length : Int)) && decide (φ (x.getD (bsGo (fun d => φ d w) x x.length 0 x.length) default) w = 0))
theorem half_eq {a b : Nat} (ha : a < 9223372036854775808) (hb : b < 9223372036854775808) : IntKind.wrap .i64 (sShr .u64 (IntKind.wrap .u64 (IntKind.wrap .i64 ((a : Int) + (b : Int)))) 1) = (((a + b) / 2 : Nat) : Int) := by
 have e1 : IntKind.wrap .u64 (IntKind.wrap .i64 ((a : Int) + (b : Int))) = ((a + b : Nat) : Int) := by
  simp [IntKind.wrap, IntKind.signed, IntKind.bits]; omega
 have e2 : sShr .u64 ((a + b : Nat) : Int) 1 = (((a + b) / 2 : Nat) : Int) := s64 1 (by omega)
 rw [e1, e2, w64 (by omega) (by omega)]
theorem slices_BinarySearchFunc_api_Dot_api_Dot_string.nice (x0 : List Dot) (x1 : Str) (φ2 : Dot → Str → Int) (b0 : (kSl kDot).bd x0) (b1 : kS.bd x1) : ∃ k, slices_BinarySearchFunc_api_Dot_api_Dot_string.f k x0 x1 φ2 = some (bsD x0 x1 φ2) := by
 have hb : x0.length ≤ maxLen := b0.1
 have hm := maxLen_lt
 have go : ∀ f lo hi : Nat, hi - lo ≤ f → lo ≤ hi → hi ≤ x0.length → ∃ k, slices_BinarySearchFunc_api_Dot_api_Dot_string.l0 k x0 x1 φ2 (lo : Int) (hi : Int) =
   some (((bsGo (fun d => φ2 d x1) x0 f lo hi : Nat) : Int), decide (((bsGo (fun d => φ2 d x1) x0 f lo hi : Nat) : Int) < (x0.length : Int)) && decide (φ2 (x0.getD (bsGo (fun d => φ2 d x1) x0 f lo hi) default) x1 = 0)) := by
  intro f
  induction f with
  | zero =>
   intro lo hi h1 h2 h3
   have : lo = hi := by omega
   subst this
   refine ⟨1, ?_⟩
   simp only [slices_BinarySearchFunc_api_Dot_api_Dot_string.l0, Int.lt_irrefl, decide_false, Bool.false_eq_true, if_false, bsGo, Int.toNat_natCast]
   exact if_pos (fun h => ⟨by omega, by simpa using h⟩)
  | succ f ih =>
   intro lo hi h1 h2 h3
   by_cases hlt : lo < hi
   ·have hlt' : (lo : Int) < (hi : Int) := by omega
    have hr : (0 : Int) ≤ (((lo + hi) / 2 : Nat) : Int) ∧ (((lo + hi) / 2 : Nat) : Int) < (x0.length : Int) := ⟨by omega, by omega⟩
    have e1 : IntKind.wrap .i64 ((((lo + hi) / 2 : Nat) : Int) + 1) = (((lo + hi) / 2 + 1 : Nat) : Int) := by rw [w64 (by omega) (by omega)]; omega
    by_cases hc : φ2 (x0.getD ((lo + hi) / 2) default) x1 < 0
    ·obtain ⟨k, hk⟩ := ih ((lo + hi) / 2 + 1) hi (by omega) (by omega) h3
     refine ⟨k + 1, ?_⟩
     simp only [slices_BinarySearchFunc_api_Dot_api_Dot_string.l0, hlt', decide_true, if_true, half_eq (show lo < 9223372036854775808 by omega) (show hi < 9223372036854775808 by omega), hr, and_self, Int.toNat_natCast, hc, e1, bsGo, hlt]
     exact hk
    ·obtain ⟨k, hk⟩ := ih lo ((lo + hi) / 2) (by omega) (by omega) (by omega)
     refine ⟨k + 1, ?_⟩
     simp only [slices_BinarySearchFunc_api_Dot_api_Dot_string.l0, hlt', decide_true, if_true, half_eq (show lo < 9223372036854775808 by omega) (show hi < 9223372036854775808 by omega), hr, and_self, Int.toNat_natCast, hc, decide_false, Bool.false_eq_true, if_false, bsGo, hlt]
     exact hk
   ·have : lo = hi := by omega
    subst this
    refine ⟨1, ?_⟩
    simp only [slices_BinarySearchFunc_api_Dot_api_Dot_string.l0, Int.lt_irrefl, decide_false, Bool.false_eq_true, if_false, bsGo, Nat.lt_irrefl, Int.toNat_natCast]
    rw [if_pos (fun h => ⟨by omega, by simpa using h⟩)]
 obtain ⟨k, hk⟩ := go x0.length 0 x0.length (by omega) (by omega) (Nat.le_refl _)
 exact ⟨k, by unfold slices_BinarySearchFunc_api_Dot_api_Dot_string.f; exact hk⟩
theorem slices_BinarySearchFunc_api_Dot_api_Dot_string.ct {s0 : St} {v0 : Value} {x0 : (List Dot)} {v1 : Value} {x1 : Str} {v2 : Value} {g2 : FuncId} {caps2 : List Value} {φ2 : Dot → Str → Int} (k0 : (kSl kDot).V s0 v0 x0) (k1 : kS.V s0 v1 x1) (e2 : v2 = .func (.func g2) #[] caps2.toArray) (F2 : ∀ {s : St} {w0 : Value} {y0 : Dot} {w1 : Value} {y1 : Str}, Ext s0 s → kDot.V s w0 y0 → kS.V s w1 y1 → Cl Try.prog g2 ([w0, w1] ++ caps2).toArray s (Okf s (Fact.v (kI .i64) (φ2 y0 y1)))) : Cl Try.prog 151 #[v0, v1, v2] s0 (Okf s0 (Fact.tup [Fact.v (kI .i64) ((bsD x0 x1 φ2).1), Fact.v kB ((bsD x0 x1 φ2).2)])) := by
 obtain ⟨k, h⟩ := slices_BinarySearchFunc_api_Dot_api_Dot_string.nice x0 x1 φ2 (Kn.V_bd k0) (Kn.V_bd k1)
 exact slices_BinarySearchFunc_api_Dot_api_Dot_string.ok k0 k1 e2 F2 h
def vector_find (x0 : (List Dot)) (x1 : Str) : Int × Bool := ((bsD x0 x1 (fun y0 y1 => (vector_find_1 y0 y1))).1, (bsD x0 x1 (fun y0 y1 => (vector_find_1 y0 y1))).2)
theorem vector_find.ok {s0 : St} {v0 : Value} {x0 : (List Dot)} {v1 : Value} {x1 : Str} (k0 : (kSl kDot).V s0 v0 x0) (k1 : kS.V s0 v1 x1) : Cl Try.prog 145 #[v0, v1] s0 (Okf s0 (Fact.tup [Fact.v (kI .i64) ((vector_find x0 x1).1), Fact.v kB ((vector_find x0 x1).2)])) := by
 obtain ⟨r, h⟩ : ∃ r, some (vector_find x0 x1) = some r := ⟨_, rfl⟩
 rw [Option.some.inj h]
 have h : (some ((bsD x0 x1 (fun y0 y1 => (vector_find_1 y0 y1))).1, (bsD x0 x1 (fun y0 y1 => (vector_find_1 y0 y1))).2)) = some r := by rw [← h]; unfold vector_find; first | rfl | simp only [apply_ite some] | (repeat' (first | rfl | split))
 refine cl_of_wp Try.func145 rfl en_145 fun a hz hd hp => ?_; have hz : a.tmps.size = 11 := hz; have E := Chg.refl (fun _ => False) s0; have h0 := V_at k0 E (hp 0 v0 rfl); have h1 := V_at k1 E (hp 1 v1 rfl); refine wp_sr ?_; refine sq_blk [⟨4, _, []⟩, ⟨5, _, []⟩] [] hz rfl ⟨(fun a s he hf hz => av rfl rfl i0), (fun a s he hf hz => av rfl rfl b_f), trivial⟩ ?_; intro a1 s2 he hf hz hd1; have ⟨hd, E⟩ := hdE hd1 hd E he; obtain ⟨h0, h1⟩ := va2 he hf h0 h1 rfl; refine wp_sr ?_; refine sq_blk [⟨6, _, []⟩, ⟨7, _, []⟩, ⟨8, _, [0, 1]⟩, ⟨9, _, [2]⟩, ⟨10, _, [2]⟩, ⟨4, _, [3]⟩, ⟨5, _, [4]⟩] [5, 6] hz rfl ⟨mvs rfl rfl h0 rfl, mvs rfl rfl h1 rfl, (fun a s he hf hz q0 q1 => opw rfl (op_call rfl (argc rfl (argc rfl (argc rfl rfl))) (slices_BinarySearchFunc_api_Dot_api_Dot_string.ct q0 q1 rfl (φ2 := (fun y0 y1 => (vector_find_1 y0 y1))) (fun he' hv0 hv1 => vector_find_1.ok hv0 hv1)))), (fun a s he hf hz q2 => opw rfl (op_extract (f := Fact.v _ _) rfl q2 rfl)), (fun a s he hf hz q2 => opw rfl (op_extract (f := Fact.v _ _) rfl q2 rfl)), avq rfl rfl, avq rfl rfl, trivial⟩ ?_
 intro a3 s4 he hf hz hd1 h4 h5; have ⟨hd, E⟩ := hdE hd1 hd E he; refine wp_ret ?_; cases h
 exact ⟨hd, _, results_tmp2 rfl _ _ _, E, tup2 h4 h5⟩
def vector_at.f (k : Nat) (x0 : (List Dot)) (x1 : Str) : Option (Int) := (if (vector_find x0 x1).2 = true then (if (0 ≤ ((vector_find x0 x1).1) ∧ ((vector_find x0 x1).1) < (x0.length : Int)) then (some ((List.getD x0 ((vector_find x0 x1).1).toNat default).n)) else none) else (some 0))
theorem vector_at.ok {s0 : St} {v0 : Value} {x0 : (List Dot)} {v1 : Value} {x1 : Str} {k : Nat} {r : Int} (k0 : (kSl kDot).V s0 v0 x0) (k1 : kS.V s0 v1 x1) (h : vector_at.f k x0 x1 = some r) : Cl Try.prog 128 #[v0, v1] s0 (Okf s0 (Fact.v (kI .i64) r)) := by
 unfold vector_at.f at h
 refine cl_of_wp Try.func128 rfl en_128 fun a hz hd hp => ?_; have hz : a.tmps.size = 19 := hz; have E := Chg.refl (fun _ => False) s0; have h0 := V_at k0 E (hp 0 v0 rfl); have h1 := V_at k1 E (hp 1 v1 rfl); refine wp_sr ?_; refine sq_blk [⟨4, _, []⟩] [] hz rfl ⟨(fun a s he hf hz => av rfl rfl i0), trivial⟩ ?_; intro a1 s2 he hf hz hd1; have ⟨hd, E⟩ := hdE hd1 hd E he; obtain ⟨h0, h1⟩ := va2 he hf h0 h1 rfl; refine wp_seq ?_; refine wp_sr ?_; refine sq_blk [⟨8, _, []⟩, ⟨9, _, []⟩, ⟨10, _, [0, 1]⟩, ⟨7, _, [2]⟩, ⟨11, _, [3]⟩, ⟨12, _, [3]⟩, ⟨5, _, [4]⟩, ⟨6, _, [5]⟩] [6, 7] hz rfl ⟨mvs rfl rfl h0 rfl, mvs rfl rfl h1 rfl, (fun a s he hf hz q0 q1 => opw rfl (op_call rfl rfl (vector_find.ok q0 q1))), (fun a s he hf hz q2 => opw rfl (op_move rfl (f := Fact.tup _) q2)), (fun a s he hf hz q3 => opw rfl (op_extract (f := Fact.v _ _) rfl q3 rfl)), (fun a s he hf hz q3 => opw rfl (op_extract (f := Fact.v _ _) rfl q3 rfl)), avq rfl rfl, avq rfl rfl, trivial⟩ ?_; intro a3 s4 he hf hz hd1 h5 h6; have ⟨hd, E⟩ := hdE hd1 hd E he; have h0 := V_at h0 he (hf 0 rfl)
 refine wp_sr ?_; refine sq_blk [⟨13, _, []⟩] [0] hz rfl ⟨mvs rfl rfl h6 rfl, trivial⟩ ?_; intro a5 s6 he hf hz hd1 h13; have ⟨hd, E⟩ := hdE hd1 hd E he; obtain ⟨h0, h5⟩ := va2 he hf h0 h5 rfl; refine wp_condV h13 (fun hb => ?_) (fun hb => ?_)
 ·have h := ite_t hb h; refine wp_sr ?_; obtain ⟨D7, h⟩ := need h; refine sq_blk [⟨14, _, []⟩, ⟨15, _, []⟩, ⟨16, _, [0, 1]⟩, ⟨17, _, [2]⟩, ⟨18, _, [3]⟩, ⟨4, _, [4]⟩] [5] hz rfl ⟨mvs rfl rfl h0 rfl, mvs rfl rfl h5 rfl, (fun a s he hf hz q0 q1 => ia rfl rfl sl_32 q0 q1 D7.1 D7.2), (fun a s he hf hz q2 => opw rfl (op_faddr_p rfl fa_70_1 kDot_s1 q2)), (fun a s he hf hz q3 => lp rfl rfl ty_2 (by decide) q3), avq rfl rfl, trivial⟩ ?_; intro a8 s9 he hf hz hd1 h4; have ⟨hd, E⟩ := hdE hd1 hd E he; refine wp_ret ?_; cases h
  exact ⟨hd, _, results_tmp rfl _ _ _, E, h4⟩
 ·have h := ite_f hb h; refine wp_skip ?_; refine wp_sr ?_; refine sq_blk [⟨4, _, []⟩] [0] hz rfl ⟨(fun a s he hf hz => av rfl rfl i0), trivial⟩ ?_; intro a10 s11 he hf hz hd1 h4; have ⟨hd, E⟩ := hdE hd1 hd E he; refine wp_ret ?_; cases h
  exact ⟨hd, _, results_tmp rfl _ _ _, E, h4⟩
def atB (x : List Dot) (w : Str) : Int := if (vector_find x w).2 = true then (x.getD (vector_find x w).1.toNat default).n else 0
theorem vector_at.nice (x0 : List Dot) (x1 : Str) (b0 : (kSl kDot).bd x0) (b1 : kS.bd x1) : ∃ k, vector_at.f k x0 x1 = some (atB x0 x1) := by
 refine ⟨0, ?_⟩
 unfold vector_at.f atB
 cases h : (vector_find x0 x1).2
 ·rfl
 ·have h' := h
  simp only [vector_find, bsD, Bool.and_eq_true, decide_eq_true_eq] at h'
  rw [if_pos rfl, if_pos rfl, if_pos]
  exact ⟨by simp only [vector_find, bsD]; omega, by simp only [vector_find, bsD]; exact h'.1⟩
theorem vector_at.ct {s0 : St} {v0 : Value} {x0 : (List Dot)} {v1 : Value} {x1 : Str} (k0 : (kSl kDot).V s0 v0 x0) (k1 : kS.V s0 v1 x1) : Cl Try.prog 128 #[v0, v1] s0 (Okf s0 (Fact.v (kI .i64) (atB x0 x1))) := by
 obtain ⟨k, h⟩ := vector_at.nice x0 x1 (Kn.V_bd k0) (Kn.V_bd k1)
 exact vector_at.ok k0 k1 h
def vector_Has (x0 : (List Dot)) (x1 : Dot) : Bool := (((rightV x0) && (vector_isDot x1)) && (decide (x1.n ≤ (atB x0 x1.who))))
theorem vector_Has.ok {s0 : St} {v0 : Value} {x0 : (List Dot)} {v1 : Value} {x1 : Dot} (k0 : (kSl kDot).V s0 v0 x0) (k1 : kDot.V s0 v1 x1) : Cl Try.prog 95 #[v0, v1] s0 (Okf s0 (Fact.v kB (vector_Has x0 x1))) := by
 obtain ⟨r, h⟩ : ∃ r, some (vector_Has x0 x1) = some r := ⟨_, rfl⟩
 rw [Option.some.inj h]
 have h : (some (((rightV x0) && (vector_isDot x1)) && (decide (x1.n ≤ (atB x0 x1.who))))) = some r := by rw [← h]; unfold vector_Has; first | rfl | simp only [apply_ite some] | (repeat' (first | rfl | split))
 refine cl_of_wp Try.func95 rfl en_95 fun a hz hd hp => ?_; have hz : a.tmps.size = 20 := hz; have E := Chg.refl (fun _ => False) s0; have h0 := V_at k0 E (hp 0 v0 rfl); have h1 := V_at k1 E (hp 1 v1 rfl); refine wp_sr ?_; refine sq_set hz rfl rfl rfl (op_boxn rfl rfl h1 (fun s2 e4 he BB3 r5 => fun a1 h3 hf hz hd1 => ?_)); obtain ⟨b10, hb10⟩ : ∃ b, b = s0.w.heap.size := ⟨_, rfl⟩; rw [← hb10] at BB3 h3; have B10 := BB3; have l10 : s0.w.heap.size ≤ b10 := by have := E.size; omega
 have ⟨hd, E⟩ := hdE hd1 hd E he; have h0 := V_at h0 he (hf 0 rfl); obtain ⟨u6, u7, rfl, c8, c9⟩ := kDot_open r5; refine sq_blk [⟨4, _, []⟩] [] hz rfl ⟨(fun a s he hf hz => av rfl rfl b_f), trivial⟩ ?_; intro a11 s12 he hf hz hd1; have ⟨hd, E⟩ := hdE hd1 hd E he; have h0 := V_at h0 he (hf 0 rfl); have h3 := (hf 3 rfl).trans h3; have B10 := B10.ext he; obtain ⟨c8, c9⟩ := vm2 he c8 c9; refine wp_seq ?_; have hz0 := hz; refine wp_draw [⟨5, _, []⟩, ⟨6, _, [0]⟩, ⟨7, _, [1]⟩, ⟨8, _, [2]⟩, ⟨9, _, [2, 3]⟩, ⟨10, _, [2, 4]⟩, ⟨11, _, [5]⟩, ⟨12, _, [6]⟩, ⟨13, _, [6, 7]⟩, ⟨14, _, [6]⟩, ⟨15, _, [6]⟩, ⟨16, _, [6, 10]⟩, ⟨17, _, [6, 9, 11]⟩, ⟨18, _, [6, 8, 12]⟩, ⟨19, _, [6, 13]⟩, ⟨4, _, [14]⟩] [15] mo hz (by kernel_rfl) ⟨mvs rfl rfl h0 rfl, (fun a s he hf hz q0 => opw rfl (op_call rfl rfl (vector_Right.ct q0))), mvq rfl rfl, (fun a s he hf hz q2 => og rfl rfl rfl hz hz0 rfl q2 (fun g => op_loadn rfl ty_70 rfl ((hf 3 rfl).trans h3) (B10.ext he) rfl (kDot_eta (x := x1) (vm he c8) (vm he c9)))), (fun a s he hf hz q2 q3 => og rfl rfl rfl hz hz0 rfl q2 (fun g => op_call rfl rfl (vector_isDot.ok (q3.1 g)))), (fun a s he hf hz q2 q4 => an rfl rfl q2 (q4.1)), mvq rfl rfl, (fun a s he hf hz q6 => og rfl rfl rfl hz hz0 rfl q6 (fun g => op_faddr_b rfl fa_70_1 ((hf 3 rfl).trans h3))), (fun a s he hf hz q6 q7 => og rfl rfl rfl hz hz0 rfl q6 (fun g => op_load1 rfl ty_2 (q7.1 g) (B10.ext he) rfl (vm he c9))), (fun a s he hf hz q6 => og rfl rfl rfl hz hz0 rfl q6 (fun g => op_move_v rfl (V_at h0 he (hf 0 rfl)))), (fun a s he hf hz q6 => og rfl rfl rfl hz hz0 rfl q6 (fun g => op_faddr_b rfl fa_70_0 ((hf 3 rfl).trans h3))), (fun a s he hf hz q6 q10 => og rfl rfl rfl hz hz0 rfl q6 (fun g => op_load1 rfl ty_9 (q10.1 g) (B10.ext he) rfl (vm he c8))), (fun a s he hf hz q6 q9 q11 => og rfl rfl rfl hz hz0 rfl q6 (fun g => op_call rfl rfl (vector_at.ct (q9.1 g) (q11.1 g)))), (fun a s he hf hz q6 q8 q12 => og rfl rfl rfl hz hz0 rfl q6 (fun g => op_leq rfl (q8.1 g) (q12.1 g))), (fun a s he hf hz q6 q13 => an rfl rfl q6 (q13.1)), avq rfl rfl, trivial⟩ ?_
 intro a13 s14 he hf hz hd1 h4; have ⟨hd, E⟩ := hdE hd1 hd E he; refine wp_ret ?_; cases h
 exact ⟨hd, _, results_tmp rfl _ _ _, E, h4⟩
theorem cmp_lt (x y : Str) : Lib.compareBytes x y < 0 ↔ sLt x y = true := by
 unfold sLt
 induction x generalizing y with
 | nil => cases y <;> simp [Lib.compareBytes, Op.bytesLess]
 | cons a x ih =>
  cases y with
  | nil => simp [Lib.compareBytes, Op.bytesLess]
  | cons b y =>
   simp only [Lib.compareBytes, Op.bytesLess]
   rcases Nat.lt_trichotomy a.toNat b.toNat with h | h | h
   ·have h1 : a < b := UInt8.lt_iff_toNat_lt.2 h
    simp [h1]
   ·have h0 : a = b := UInt8.toNat_inj.1 h
    subst h0
    have h2 : ¬ a < a := fun h' => by have := UInt8.lt_iff_toNat_lt.1 h'; omega
    simp [h2, ih y]
   ·have h1 : b < a := UInt8.lt_iff_toNat_lt.2 h
    have h2 : ¬ a < b := fun h' => by have := UInt8.lt_iff_toNat_lt.1 h'; omega
    have h3 : ¬ a = b := fun h' => by rw [h'] at h; omega
    simp [h1, h2, h3]
theorem cmp_eq (x y : Str) : Lib.compareBytes x y = 0 ↔ x = y := by
 induction x generalizing y with
 | nil => cases y <;> simp [Lib.compareBytes]
 | cons a x ih =>
  cases y with
  | nil => simp [Lib.compareBytes]
  | cons b y =>
   simp only [Lib.compareBytes]
   rcases Nat.lt_trichotomy a.toNat b.toNat with h | h | h
   ·have h1 : a < b := UInt8.lt_iff_toNat_lt.2 h
    have h3 : ¬ a = b := fun h' => by rw [h'] at h; omega
    simp [h1, h3]
   ·have h0 : a = b := UInt8.toNat_inj.1 h
    subst h0
    have h2 : ¬ a < a := fun h' => by have := UInt8.lt_iff_toNat_lt.1 h'; omega
    simp [h2, ih y]
   ·have h1 : b < a := UInt8.lt_iff_toNat_lt.2 h
    have h2 : ¬ a < b := fun h' => by have := UInt8.lt_iff_toNat_lt.1 h'; omega
    have h3 : ¬ a = b := fun h' => by rw [h'] at h; omega
    simp [h1, h2, h3]
theorem sLt_irrefl (x : Str) : sLt x x = false := by
 have := sLt_tri x x
 cases h : sLt x x
 ·rfl
 ·rw [h] at this; simp at this
theorem sLt_ne {x y : Str} (h : sLt x y = true) : ¬ x = y := fun e => by subst e; rw [sLt_irrefl] at h; cases h
theorem sLt_trans {x y z : Str} (h1 : sLt x y = true) (h2 : sLt y z = true) : sLt x z = true := by
 unfold sLt at *
 induction x generalizing y z with
 | nil => cases z with
  | nil => cases y <;> simp [Op.bytesLess] at h2
  | cons c z => simp [Op.bytesLess]
 | cons a x ih =>
  cases y with
  | nil => simp [Op.bytesLess] at h1
  | cons b y =>
   cases z with
   | nil => simp [Op.bytesLess] at h2
   | cons c z =>
    simp only [Op.bytesLess, Bool.or_eq_true, Bool.and_eq_true, decide_eq_true_eq, beq_iff_eq] at h1 h2 ⊢
    rcases h1 with h1 | ⟨rfl, h1⟩ <;> rcases h2 with h2 | ⟨rfl, h2⟩
    ·exact .inl (UInt8.lt_iff_toNat_lt.2 (Nat.lt_trans (UInt8.lt_iff_toNat_lt.1 h1) (UInt8.lt_iff_toNat_lt.1 h2)))
    ·exact .inl h1
    ·exact .inl h2
    ·exact .inr ⟨rfl, ih h1 h2⟩
theorem sLt_not {x y : Str} (h1 : sLt x y = false) (h2 : ¬ x = y) : sLt y x = true := by
 have := sLt_tri x y
 rw [h1] at this
 simp only [h2, decide_false, Bool.or_self] at this
 cases h : sLt y x
 ·rw [h] at this; cases this
 ·rfl
theorem chainP_all : ∀ (l : List Dot) (p : Str), chainP p l = true → ∀ d ∈ l, sLt p d.who = true
 | [], _, _, _, h => by simp at h
 | e :: l, p, hc, d, hd => by
  simp only [chainP, Bool.and_eq_true] at hc
  rcases List.mem_cons.1 hd with rfl | hd
  ·exact hc.1.2
  ·exact sLt_trans hc.1.2 (chainP_all l e.who hc.2 d hd)
theorem chainV_lt : ∀ (l : List Dot), chainV l = true → ∀ (i j : Nat) (d e : Dot), i < j → l[i]? = some d → l[j]? = some e → sLt d.who e.who = true
 | [], _, _, _, _, _, _, h, _ => by simp at h
 | c :: l, hc, i, j, d, e, hij, hi, hj => by
  simp only [chainV, Bool.and_eq_true] at hc
  cases j with
  | zero => omega
  | succ j =>
   have hj : l[j]? = some e := by simpa using hj
   cases i with
   | zero =>
    have : c = d := by simpa using hi
    subst this
    exact chainP_all l c.who hc.2 e (List.mem_of_getElem? hj)
   | succ i =>
    have hi : l[i]? = some d := by simpa using hi
    refine chainV_lt l ?_ i j d e (by omega) hi hj
    cases l with
    | nil => rfl
    | cons f l => have h2 := hc.2; simp only [chainP, Bool.and_eq_true] at h2; simp only [chainV, Bool.and_eq_true]; exact ⟨h2.1.1, h2.2⟩
theorem bsGo_split (x : List Dot) (w : Str) (hs : ∀ (i j : Nat) (d e : Dot), i < j → x[i]? = some d → x[j]? = some e → sLt d.who e.who = true) : ∀ f lo hi : Nat, hi - lo ≤ f → lo ≤ hi → hi ≤ x.length → (∀ i d, i < lo → x[i]? = some d → sLt d.who w = true) → (∀ i d, hi ≤ i → x[i]? = some d → sLt d.who w = false) →
    (∀ i d, i < bsGo (fun d => Lib.compareBytes d.who w) x f lo hi → x[i]? = some d → sLt d.who w = true) ∧ (∀ i d, bsGo (fun d => Lib.compareBytes d.who w) x f lo hi ≤ i → x[i]? = some d → sLt d.who w = false) := by
  intro f
  induction f with
  | zero => intro lo hi h1 h2 h3 hl hh; have : lo = hi := by omega
            subst this; exact ⟨hl, hh⟩
  | succ f ih =>
    intro lo hi h1 h2 h3 hl hh
    unfold bsGo
    split
    · rename_i hlt
      have hm : (lo + hi) / 2 < x.length := by omega
      have hx : x[(lo + hi) / 2]? = some (x.getD ((lo + hi) / 2) default) := by rw [getD_at hm]; exact List.getElem?_eq_getElem hm
      split
      · rename_i hc
        have hc := (cmp_lt _ _).1 hc
        refine ih _ _ (by omega) (by omega) h3 (fun i d hi' hd => ?_) hh
        rcases Nat.lt_or_ge i ((lo + hi) / 2) with h | h
        · exact sLt_trans (hs i _ d _ h hd hx) hc
        · have : i = (lo + hi) / 2 := by omega
          subst this
          rw [hx] at hd; cases hd; exact hc
      · rename_i hc
        have hc : sLt (x.getD ((lo + hi) / 2) default).who w = false := by
          cases h : sLt (x.getD ((lo + hi) / 2) default).who w
          · rfl
          · exact absurd ((cmp_lt _ _).2 h) hc
        refine ih _ _ (by omega) (by omega) (by omega) hl (fun i d hi' hd => ?_)
        rcases Nat.lt_or_ge ((lo + hi) / 2) i with h | h
        · cases h' : sLt d.who w
          · rfl
          · have := sLt_trans (hs _ i _ d h hx hd) h'
            rw [hc] at this; cases this
        · have : i = (lo + hi) / 2 := by omega
          subst this
          rw [hx] at hd; cases hd; exact hc
    · have : lo = hi := by omega
      subst this; exact ⟨hl, hh⟩
theorem at_found {x : List Dot} {w : Str} {r : Nat} (hr : r < x.length) (he : (x.getD r default).who = w) (hlt : ∀ i d, i < r → x[i]? = some d → ¬ d.who = w) : at_ x w = (x.getD r default).n := by
 have : x.find? (fun d => decide (d.who = w)) = some (x.getD r default) := by
  rw [List.find?_eq_some_iff_getElem]
  refine ⟨decide_eq_true he, r, hr, (getD_at hr).symm, fun j hj => ?_⟩
  have := hlt j x[j] hj (List.getElem?_eq_getElem (by omega))
  simpa using this
 unfold at_; rw [this]
theorem at_none {x : List Dot} {w : Str} (h : ∀ d ∈ x, ¬ d.who = w) : at_ x w = 0 := by
 have : x.find? (fun d => decide (d.who = w)) = none := List.find?_eq_none.2 fun d hd => by simpa using h d hd
 unfold at_; rw [this]
theorem atB_eq {x : List Dot} (w : Str) (h : chainV x = true) : atB x w = at_ x w := by
 have hs := chainV_lt x h
 obtain ⟨h1, h2⟩ := bsGo_split x w hs x.length 0 x.length (by omega) (by omega) (Nat.le_refl _) (fun i d hi => by omega) (fun i d hi hd => by have := (List.getElem?_eq_some_iff.1 hd).1; omega)
 have hf : vector_find x w = (((bsGo (fun d => Lib.compareBytes d.who w) x x.length 0 x.length : Nat) : Int), decide (((bsGo (fun d => Lib.compareBytes d.who w) x x.length 0 x.length : Nat) : Int) < (x.length : Int)) && decide (Lib.compareBytes (x.getD (bsGo (fun d => Lib.compareBytes d.who w) x x.length 0 x.length) default).who w = 0)) := rfl
 unfold atB
 rw [hf]
 generalize bsGo (fun d => Lib.compareBytes d.who w) x x.length 0 x.length = r at *
 show (if (decide ((r : Int) < (x.length : Int)) && decide (Lib.compareBytes (x.getD r default).who w = 0)) = true then (x.getD ((r : Nat) : Int).toNat default).n else 0) = _
 by_cases hc : (decide ((r : Int) < (x.length : Int)) && decide (Lib.compareBytes (x.getD r default).who w = 0)) = true
 ·rw [if_pos hc, Int.toNat_natCast]
  simp only [Bool.and_eq_true, decide_eq_true_eq, cmp_eq] at hc
  exact (at_found (by omega) hc.2 fun i d hi hd => sLt_ne (h1 i d hi hd)).symm
 ·rw [if_neg hc]
  refine (at_none fun d hd e => ?_).symm
  obtain ⟨i, hi⟩ := List.getElem?_of_mem hd
  rcases Nat.lt_or_ge i r with h' | h'
  ·exact sLt_ne (h1 i d h' hi) e
  ·have hil := (List.getElem?_eq_some_iff.1 hi).1
   have hrl : r < x.length := by omega
   have hx : x[r]? = some (x.getD r default) := by rw [getD_at hrl]; exact List.getElem?_eq_getElem hrl
   have hn : ¬ (x.getD r default).who = w := fun e' => hc (by simp only [Bool.and_eq_true, decide_eq_true_eq, cmp_eq]; exact ⟨by omega, e'⟩)
   have hgt := sLt_not (h2 r _ (Nat.le_refl _) hx) hn
   rcases Nat.lt_or_ge r i with h3 | h3
   ·have := sLt_trans hgt (hs r i _ d h3 hx hi)
    rw [e, sLt_irrefl] at this; cases this
   ·have : i = r := by omega
    subst this
    rw [hx] at hi; cases hi; exact hn e
def hasV (x : List Dot) (d : Dot) : Bool := rightV x && vector_isDot d && decide (d.n ≤ at_ x d.who)
theorem vector_Has_eq (x : List Dot) (d : Dot) : vector_Has x d = hasV x d := by
 unfold vector_Has hasV
 cases h : rightV x
 ·rfl
 ·have : chainV x = true := by unfold rightV at h; simp only [Bool.and_eq_true] at h; exact h.2
  rw [atB_eq _ this]
theorem vector_Has.ct {s0 : St} {v0 : Value} {x0 : List Dot} {v1 : Value} {x1 : Dot} (k0 : (kSl kDot).V s0 v0 x0) (k1 : kDot.V s0 v1 x1) : Cl Try.prog 95 #[v0, v1] s0 (Okf s0 (Fact.v kB (hasV x0 x1))) := by
 rw [← vector_Has_eq]; exact vector_Has.ok k0 k1
def ref07_Has (x0 : (List Dot)) (x1 : Dot) : Bool := (((rightV x0) && (vector_isDot x1)) && (decide (x1.n ≤ (at_ x0 x1.who))))
theorem ref07_Has.ok {s0 : St} {v0 : Value} {x0 : (List Dot)} {v1 : Value} {x1 : Dot} (k0 : (kSl kDot).V s0 v0 x0) (k1 : kDot.V s0 v1 x1) : Cl Try.prog 101 #[v0, v1] s0 (Okf s0 (Fact.v kB (ref07_Has x0 x1))) := by
 obtain ⟨r, h⟩ : ∃ r, some (ref07_Has x0 x1) = some r := ⟨_, rfl⟩
 rw [Option.some.inj h]
 have h : (some (((rightV x0) && (vector_isDot x1)) && (decide (x1.n ≤ (at_ x0 x1.who))))) = some r := by rw [← h]; unfold ref07_Has; first | rfl | simp only [apply_ite some] | (repeat' (first | rfl | split))
 refine cl_of_wp Try.func101 rfl en_101 fun a hz hd hp => ?_; have hz : a.tmps.size = 24 := hz; have E := Chg.refl (fun _ => False) s0; have h0 := V_at k0 E (hp 0 v0 rfl); have h1 := V_at k1 E (hp 1 v1 rfl); refine wp_sr ?_; refine sq_set hz rfl rfl rfl (op_boxn rfl rfl h1 (fun s2 e4 he BB3 r5 => fun a1 h3 hf hz hd1 => ?_)); obtain ⟨b10, hb10⟩ : ∃ b, b = s0.w.heap.size := ⟨_, rfl⟩; rw [← hb10] at BB3 h3; have B10 := BB3; have l10 : s0.w.heap.size ≤ b10 := by have := E.size; omega
 have ⟨hd, E⟩ := hdE hd1 hd E he; have h0 := V_at h0 he (hf 0 rfl); obtain ⟨u6, u7, rfl, c8, c9⟩ := kDot_open r5; refine sq_blk [⟨4, _, []⟩] [] hz rfl ⟨(fun a s he hf hz => av rfl rfl b_f), trivial⟩ ?_; intro a11 s12 he hf hz hd1; have ⟨hd, E⟩ := hdE hd1 hd E he; have h0 := V_at h0 he (hf 0 rfl); have h3 := (hf 3 rfl).trans h3; have B10 := B10.ext he; obtain ⟨c8, c9⟩ := vm2 he c8 c9; refine wp_sr ?_; refine sq_blk [⟨7, _, []⟩, ⟨8, _, [0]⟩, ⟨5, _, [1]⟩] [2] hz rfl ⟨mvs rfl rfl h0 rfl, (fun a s he hf hz q0 => opw rfl (op_call rfl rfl (ref07_Right.ct q0))), avq rfl rfl, trivial⟩ ?_; intro a13 s14 he hf hz hd1 h5; have ⟨hd, E⟩ := hdE hd1 hd E he; have h0 := V_at h0 he (hf 0 rfl); have h3 := (hf 3 rfl).trans h3; have B10 := B10.ext he; obtain ⟨c8, c9⟩ := vm2 he c8 c9; refine wp_sr ?_; refine sq_blk [⟨9, _, []⟩, ⟨10, _, [0]⟩, ⟨6, _, [1]⟩] [2] hz rfl ⟨(fun a s he hf hz => ld rfl rfl ty_70 rfl ((hf 3 rfl).trans h3) (B10.ext he) rfl (kDot_eta (x := x1) (vm he c8) (vm he c9))), (fun a s he hf hz q0 => opw rfl (op_call rfl rfl (ref07_IsDot.ok q0))), avq rfl rfl, trivial⟩ ?_
 intro a15 s16 he hf hz hd1 h6; have ⟨hd, E⟩ := hdE hd1 hd E he; obtain ⟨h0, h5⟩ := va2 he hf h0 h5 rfl; have h3 := (hf 3 rfl).trans h3; have B10 := B10.ext he; obtain ⟨c8, c9⟩ := vm2 he c8 c9; refine wp_seq ?_; have hz0 := hz; refine wp_draw [⟨11, _, []⟩, ⟨12, _, [0]⟩, ⟨13, _, [1]⟩, ⟨14, _, [1, 2]⟩, ⟨15, _, [3]⟩, ⟨16, _, [4]⟩, ⟨17, _, [4, 5]⟩, ⟨18, _, [4]⟩, ⟨19, _, [4]⟩, ⟨20, _, [4, 8]⟩, ⟨21, _, [4, 7, 9]⟩, ⟨22, _, [4, 6, 10]⟩, ⟨23, _, [4, 11]⟩, ⟨4, _, [12]⟩] [13] mo hz (by kernel_rfl) ⟨mvs rfl rfl h5 rfl, mvq rfl rfl, (fun a s he hf hz q1 => og rfl rfl rfl hz hz0 rfl q1 (fun g => op_move_v rfl (V_at h6 he (hf 6 rfl)))), (fun a s he hf hz q1 q2 => an rfl rfl q1 (q2.1)), mvq rfl rfl, (fun a s he hf hz q4 => og rfl rfl rfl hz hz0 rfl q4 (fun g => op_faddr_b rfl fa_70_1 ((hf 3 rfl).trans h3))), (fun a s he hf hz q4 q5 => og rfl rfl rfl hz hz0 rfl q4 (fun g => op_load1 rfl ty_2 (q5.1 g) (B10.ext he) rfl (vm he c9))), (fun a s he hf hz q4 => og rfl rfl rfl hz hz0 rfl q4 (fun g => op_move_v rfl (V_at h0 he (hf 0 rfl)))), (fun a s he hf hz q4 => og rfl rfl rfl hz hz0 rfl q4 (fun g => op_faddr_b rfl fa_70_0 ((hf 3 rfl).trans h3))), (fun a s he hf hz q4 q8 => og rfl rfl rfl hz hz0 rfl q4 (fun g => op_load1 rfl ty_9 (q8.1 g) (B10.ext he) rfl (vm he c8))), (fun a s he hf hz q4 q7 q9 => og rfl rfl rfl hz hz0 rfl q4 (fun g => op_call rfl rfl (ref07_At.ct (q7.1 g) (q9.1 g)))), (fun a s he hf hz q4 q6 q10 => og rfl rfl rfl hz hz0 rfl q4 (fun g => op_leq rfl (q6.1 g) (q10.1 g))), (fun a s he hf hz q4 q11 => an rfl rfl q4 (q11.1)), avq rfl rfl, trivial⟩ ?_
 intro a17 s18 he hf hz hd1 h4; have ⟨hd, E⟩ := hdE hd1 hd E he; refine wp_ret ?_; cases h
 exact ⟨hd, _, results_tmp rfl _ _ _, E, h4⟩
end
section
attribute [local irreducible] Kn.V PtrV
theorem isDot_parts {d : Dot} (h : vector_isDot d = true) : isName d.who = true ∧ 1 ≤ d.n ∧ d.n ≤ 4611686018427387904 := by
 unfold vector_isDot at h
 simp only [Bool.and_eq_true, decide_eq_true_eq] at h
 exact ⟨h.1.1, h.1.2, h.2⟩
theorem wrap_u64i {n : Int} (h0 : 0 ≤ n) (h1 : n < 18446744073709551616) : IntKind.wrap .u64 n = n := by
 obtain ⟨q, rfl⟩ := Int.eq_ofNat_of_zero_le h0
 rw [wrap_u64, Nat.mod_eq_of_lt (by omega)]
def readDots : Nat → Str → Option (List Dot × Str)
 | 0, x => some ([], x)
 | j + 1, x => match readT 24 x with
  | none => none
  | some (w, r) => match readN r with
   | none => none
   | some (n, r) => if 4611686018427387904 < n then none else match readDots j r with
    | none => none
    | some (l, r) => some (⟨w, (n : Int)⟩ :: l, r)
def readV (x : Str) : Option (List Dot × Str) := match readN x with
 | none => none
 | some (n, r) => if 64 < n then none else match readDots n r with
  | none => none
  | some (l, r) => if rightV l = true then some (l, r) else none
def takeV (b : Str) (i : Int) : List Dot × Int × Int := if i < 0 then ([], 0, 70) else match readV (b.drop i.toNat) with
 | none => ([], 0, 70)
 | some (l, r) => (l, (b.length : Int) - r.length, 0)
theorem sfx_drop {r b : Str} (h : r <:+ b) : b.drop (b.length - r.length) = r := (List.suffix_iff_eq_drop.1 h).symm
theorem sfx_at {r b : Str} (h : r <:+ b) : ((b.length : Int) - r.length) = ((b.length - r.length : Nat) : Int) := by have := h.length_le; omega
theorem takeN_sfx {r b : Str} (h : r <:+ b) : takeN b ((b.length : Int) - r.length) = match readN r with
  | none => (0, 0, 20)
  | some (n, q) => ((n : Int), (b.length : Int) - q.length, 0) := by
 rw [sfx_at h]
 unfold takeN
 rw [if_neg (by omega), Int.toNat_natCast, sfx_drop h] <;> rfl
theorem takeT_sfx {r b : Str} (most : Int) (h : r <:+ b) : takeT b ((b.length : Int) - r.length) most = match readT most r with
  | none => ([], 0, 20)
  | some (x, q) => (x, (b.length : Int) - q.length, 0) := by
 rw [sfx_at h, takeT_at, sfx_drop h] <;> rfl
theorem readN_sfx {x r : Str} {n : Nat} (h : readN x = some (n, r)) : r <:+ x := ⟨numB n, (readN_lays h).1.symm⟩
theorem readT_sfx {x y r : Str} {most : Int} (h : readT most x = some (y, r)) : r <:+ x := ⟨numB y.length ++ y, (readT_lays h).1.symm⟩
theorem takeN_neg {b : Str} {i : Int} (h : i < 0) : takeN b i = (0, 0, 20) := takeN_off (.inl h)
theorem takeN_pos {b : Str} {i : Int} (h : ¬ i < 0) : takeN b i = match readN (b.drop i.toNat) with
  | none => (0, 0, 20)
  | some (n, q) => ((n : Int), (b.length : Int) - q.length, 0) := by
 unfold takeN; rw [if_neg h] <;> rfl
def vector_Take.l0 : Nat → (List UInt8) → Int → Int → (List Dot) → Int → Option ((List Dot) × Int × Int)
 | 0, _, _, _, _, _ => none
 | m24 + 1, x0, x1, y20, y21, y23 => (if decide (y23 < ((takeN x0 x1).1)) = true then (if (!decide (((takeT x0 y20 24).2.2) = 0)) = true then (some (([] : (List Dot)), 0, 70)) else (if ((!decide (((takeN x0 ((takeT x0 y20 24).2.1)).2.2) = 0)) || (decide (4611686018427387904 < ((takeN x0 ((takeT x0 y20 24).2.1)).1)))) = true then (some (([] : (List Dot)), 0, 70)) else (if (List.length y21 + List.length ([(⟨(takeT x0 y20 24).1, IntKind.wrap .i64 ((takeN x0 ((takeT x0 y20 24).2.1)).1)⟩ : Dot)] : List Dot)) * 24 ≤ 140737488355328 then (vector_Take.l0 m24 x0 x1 ((takeN x0 ((takeT x0 y20 24).2.1)).2.1) (y21 ++ ([(⟨(takeT x0 y20 24).1, IntKind.wrap .i64 ((takeN x0 ((takeT x0 y20 24).2.1)).1)⟩ : Dot)] : List Dot)) (IntKind.wrap .u64 (y23 + 1))) else none))) else (if (!(rightV y21)) = true then (some (([] : (List Dot)), 0, 70)) else (some (y21, y20, 0))))
def vector_Take.f (k : Nat) (x0 : (List UInt8)) (x1 : Int) : Option ((List Dot) × Int × Int) := (if ((!decide (((takeN x0 x1).2.2) = 0)) || (decide (64 < ((takeN x0 x1).1)))) = true then (some (([] : (List Dot)), 0, 70)) else (vector_Take.l0 k x0 x1 ((takeN x0 x1).2.1) ([] : (List Dot)) 0))
theorem vector_Take.ok {s0 : St} {v0 : Value} {x0 : (List UInt8)} {v1 : Value} {x1 : Int} {k : Nat} {r : (List Dot) × Int × Int} (k0 : (kSl kY).V s0 v0 x0) (k1 : (kI .i64).V s0 v1 x1) (h : vector_Take.f k x0 x1 = some r) : Cl Try.prog 62 #[v0, v1] s0 (Okf s0 (Fact.tup [Fact.v (kSl kDot) r.1, Fact.v (kI .i64) r.2.1, Fact.v (kI .i64) r.2.2])) := by
 unfold vector_Take.f at h
 refine cl_of_wp Try.func62 rfl en_62 fun a hz hd hp => ?_; have hz : a.tmps.size = 66 := hz; have E := Chg.refl (fun _ => False) s0; have h0 := V_at k0 E (hp 0 v0 rfl); have h1 := V_at k1 E (hp 1 v1 rfl); refine wp_sr ?_; refine sq_blk [⟨4, _, []⟩, ⟨5, _, []⟩, ⟨6, _, []⟩] [] hz rfl ⟨(fun a s he hf hz => opw rfl (op_assign rfl (f := Fact.own (kSl kDot) 70 2 (fun g => s0.w.heap.size ≤ g) []) own_nil)), (fun a s he hf hz => av rfl rfl i0), (fun a s he hf hz => av rfl rfl i0), trivial⟩ ?_; intro a2 s3 he hf hz hd1; have ⟨hd, E⟩ := hdE hd1 hd E he; obtain ⟨h0, h1⟩ := va2 he hf h0 h1 rfl; refine wp_sr ?_; refine sq_blk [⟨15, _, []⟩, ⟨16, _, []⟩, ⟨17, _, [0, 1]⟩, ⟨14, _, [2]⟩, ⟨18, _, [3]⟩, ⟨19, _, [3]⟩, ⟨20, _, [3]⟩, ⟨7, _, [4]⟩] [5, 6, 7] hz rfl ⟨mvs rfl rfl h0 rfl, mvs rfl rfl h1 rfl, (fun a s he hf hz q0 q1 => opw rfl (op_call rfl rfl (wire_TakeNumber.ct q0 q1))), (fun a s he hf hz q2 => opw rfl (op_move rfl (f := Fact.tup _) q2)), (fun a s he hf hz q3 => opw rfl (op_extract (f := Fact.v _ _) rfl q3 rfl)), (fun a s he hf hz q3 => opw rfl (op_extract (f := Fact.v _ _) rfl q3 rfl)), (fun a s he hf hz q3 => opw rfl (op_extract (f := Fact.v _ _) rfl q3 rfl)), avq rfl rfl, trivial⟩ ?_
 intro a4 s5 he hf hz hd1 h19 h20 h7; have ⟨hd, E⟩ := hdE hd1 hd E he; have h0 := V_at h0 he (hf 0 rfl); refine sq_blk [⟨1, _, []⟩, ⟨8, _, []⟩] [0, 1] hz rfl ⟨avs rfl rfl h19 rfl, avs rfl rfl h20 rfl, trivial⟩ ?_; intro a6 s7 he hf hz hd1 h1 h8; have ⟨hd, E⟩ := hdE hd1 hd E he; obtain ⟨h0, h7⟩ := va2 he hf h0 h7 rfl; refine wp_seq ?_; refine wp_sr ?_; have hz0 := hz; refine sq_blk [⟨21, _, []⟩, ⟨22, _, [0]⟩, ⟨23, _, [1]⟩, ⟨24, _, [2]⟩, ⟨25, _, [2, 3]⟩, ⟨26, _, [2, 4]⟩] [5] hz rfl ⟨mvs rfl rfl h8 rfl, (fun a s he hf hz q0 => ne_ rfl rfl q0 i0), mvq rfl rfl, (fun a s he hf hz q2 => og rfl rfl rfl hz hz0 rfl q2 (fun g => op_move_v rfl (V_at h7 he (hf 7 rfl)))), (fun a s he hf hz q2 q3 => og rfl rfl rfl hz hz0 rfl q2 (fun g => op_gtr rfl (q3.1 g) (lit_i (k := .u64) (n := 64) (by decide)))), (fun a s he hf hz q2 q4 => oe rfl rfl q2 (q4.1)), trivial⟩ ?_; intro a8 s9 he hf hz hd1 h26; have ⟨hd, E⟩ := hdE hd1 hd E he; obtain ⟨h0, h1, h7⟩ := va3 he hf h0 h1 h7 rfl; refine wp_condV h26 (fun hb => ?_) (fun hb => ?_)
 ·have h := ite_t hb h; refine wp_sr ?_; refine sq_blk [⟨4, _, []⟩, ⟨5, _, []⟩, ⟨6, _, []⟩] [0, 1, 2] hz rfl ⟨(fun a s he hf hz => opw rfl (op_assign rfl (f := Fact.own (kSl kDot) 70 2 (fun g => s0.w.heap.size ≤ g) []) own_nil)), (fun a s he hf hz => av rfl rfl i0), (fun a s he hf hz => av rfl rfl (lit_i (k := .i64) (n := 70) (by decide))), trivial⟩ ?_; intro a11 s12 he hf hz hd1 k4 h5 h6; have ⟨hd, E⟩ := hdE hd1 hd E he; have h4 := k4.1; refine wp_ret ?_; cases h
  exact ⟨hd, _, results_tmp3' rfl _ _ _, E, tup3 h4 h5 h6⟩
 ·have h := ite_f hb h; refine wp_skip ?_; refine wp_sr ?_; refine sq_blk [⟨9, _, []⟩] [0] hz rfl ⟨(fun a s he hf hz => opw rfl (op_assign rfl (f := Fact.own (kSl kDot) 70 2 (fun g => s0.w.heap.size ≤ g) []) own_nil)), trivial⟩ ?_; intro a14 s15 he hf hz hd1 k9; have ⟨hd, E⟩ := hdE hd1 hd E he; obtain ⟨h0, h1, h7⟩ := va3 he hf h0 h1 h7 rfl; have h9 := k9.1; have p9 := k9.2.1; have f9 := k9.2.2; refine wp_seq ?_; refine wp_sr ?_; refine sq_blk [⟨27, _, []⟩, ⟨28, _, []⟩] [0, 1] hz rfl ⟨mvs rfl rfl h7 rfl, (fun a s he hf hz => mv rfl rfl (lit_i (k := .u64) (n := 0) (by decide))), trivial⟩ ?_; intro a16 s17 he hf hz hd1 h27 h28; have ⟨hd, E⟩ := hdE hd1 hd E he; have p9 := pa he p9 (hf 9 rfl); have f9 := sb_at f9 (hf 9 rfl); obtain ⟨h0, h1, h9⟩ := va3 he hf h0 h1 h9 rfl; refine wp_block ?_
  refine wp_loop (k := k) (fun m24 a s => ∃ (y20 : Int) (y21 : (List Dot)) (y23 : Int), vector_Take.l0 m24 x0 x1 y20 y21 y23 = some r ∧ m24 ≤ k ∧ Ext s0 s ∧ a.tmps.size = 66 ∧ a.defers = [] ∧ (kSl kY).V s (a.get 0) x0 ∧ (kI .i64).V s (a.get 1) y20 ∧ (kSl kDot).V s (a.get 9) y21 ∧ Sp s (a.get 9) 70 2 ∧ (∀ g, sb (a.get 9) = some g → s0.w.heap.size ≤ g) ∧ (kI .u64).V s (a.get 27) ((takeN x0 x1).1) ∧ (kI .u64).V s (a.get 28) y23) ⟨_, _, _, h, Nat.le_refl _, E, hz, hd, h0, h1, h9, p9, f9, h27, h28⟩ ?_; rintro m24 a19 s18 ⟨y20, y21, y23, h, hkm24, E, hz, hd, h0, h1, h9, p9, f9, h27, h28⟩; obtain _ | m24 := m24
  ·cases h
  refine wp_sr ?_; refine sq_blk [⟨29, _, []⟩] [0] hz rfl ⟨(fun a s he hf hz => ls rfl rfl (V_at h28 he (hf 28 rfl)) (V_at h27 he (hf 27 rfl))), trivial⟩ ?_; intro a25 s26 he hf hz hd1 h29; have ⟨hd, E⟩ := hdE hd1 hd E he; have p9 := pa he p9 (hf 9 rfl); have f9 := sb_at f9 (hf 9 rfl); obtain ⟨h0, h1, h9, h27, h28⟩ := va5 he hf h0 h1 h9 h27 h28 rfl; refine wp_seq ?_; refine wp_condV h29 (fun hb => ?_) (fun hb => ?_)
  ·have h := ite_t hb h; refine wp_skip ?_; refine wp_seq ?_; refine wp_block ?_; refine wp_sr ?_; refine sq_blk [⟨31, _, []⟩, ⟨32, _, []⟩, ⟨33, _, [0, 1]⟩, ⟨30, _, [2]⟩, ⟨34, _, [3]⟩, ⟨35, _, [3]⟩, ⟨36, _, [3]⟩, ⟨10, _, [4]⟩, ⟨11, _, [5]⟩, ⟨12, _, [6]⟩] [7, 8, 9] hz rfl ⟨mvs rfl rfl h0 rfl, mvs rfl rfl h1 rfl, (fun a s he hf hz q0 q1 => opw rfl (op_call rfl rfl (wire_TakeText.ct q0 q1 (lit_i (k := .i64) (n := 24) (by decide))))), (fun a s he hf hz q2 => opw rfl (op_move rfl (f := Fact.tup _) q2)), (fun a s he hf hz q3 => opw rfl (op_extract (f := Fact.v _ _) rfl q3 rfl)), (fun a s he hf hz q3 => opw rfl (op_extract (f := Fact.v _ _) rfl q3 rfl)), (fun a s he hf hz q3 => opw rfl (op_extract (f := Fact.v _ _) rfl q3 rfl)), avq rfl rfl, avq rfl rfl, avq rfl rfl, trivial⟩ ?_; intro a27 s28 he hf hz hd1 h10 h11 h12; have ⟨hd, E⟩ := hdE hd1 hd E he; have p9 := pa he p9 (hf 9 rfl); have f9 := sb_at f9 (hf 9 rfl); obtain ⟨h0, h9, h27, h28⟩ := va4 he hf h0 h9 h27 h28 rfl; refine wp_seq ?_; refine wp_sr ?_; refine sq_blk [⟨37, _, []⟩, ⟨38, _, [0]⟩] [1] hz rfl ⟨mvs rfl rfl h12 rfl, (fun a s he hf hz q0 => ne_ rfl rfl q0 i0), trivial⟩ ?_
   intro a29 s30 he hf hz hd1 h38; have ⟨hd, E⟩ := hdE hd1 hd E he; have p9 := pa he p9 (hf 9 rfl); have f9 := sb_at f9 (hf 9 rfl); obtain ⟨h0, h9, h10, h11, h27, h28⟩ := va6 he hf h0 h9 h10 h11 h27 h28 rfl; refine wp_condV h38 (fun hb => ?_) (fun hb => ?_)
   ·have h := ite_t hb h; refine wp_sr ?_; refine sq_blk [⟨4, _, []⟩, ⟨5, _, []⟩, ⟨6, _, []⟩] [0, 1, 2] hz rfl ⟨(fun a s he hf hz => opw rfl (op_assign rfl (f := Fact.own (kSl kDot) 70 2 (fun g => s0.w.heap.size ≤ g) []) own_nil)), (fun a s he hf hz => av rfl rfl i0), (fun a s he hf hz => av rfl rfl (lit_i (k := .i64) (n := 70) (by decide))), trivial⟩ ?_; intro a32 s33 he hf hz hd1 k4 h5 h6; have ⟨hd, E⟩ := hdE hd1 hd E he; have h4 := k4.1; refine wp_ret ?_; cases h
    exact ⟨hd, _, results_tmp3' rfl _ _ _, E, tup3 h4 h5 h6⟩
   ·have h := ite_f hb h; refine wp_skip ?_; refine wp_sr ?_; refine sq_blk [⟨40, _, []⟩, ⟨41, _, []⟩, ⟨42, _, [0, 1]⟩, ⟨39, _, [2]⟩, ⟨43, _, [3]⟩, ⟨44, _, [3]⟩, ⟨45, _, [3]⟩, ⟨13, _, [4]⟩] [5, 6, 7] hz rfl ⟨mvs rfl rfl h0 rfl, mvs rfl rfl h11 rfl, (fun a s he hf hz q0 q1 => opw rfl (op_call rfl rfl (wire_TakeNumber.ct q0 q1))), (fun a s he hf hz q2 => opw rfl (op_move rfl (f := Fact.tup _) q2)), (fun a s he hf hz q3 => opw rfl (op_extract (f := Fact.v _ _) rfl q3 rfl)), (fun a s he hf hz q3 => opw rfl (op_extract (f := Fact.v _ _) rfl q3 rfl)), (fun a s he hf hz q3 => opw rfl (op_extract (f := Fact.v _ _) rfl q3 rfl)), avq rfl rfl, trivial⟩ ?_; intro a34 s35 he hf hz hd1 h44 h45 h13; have ⟨hd, E⟩ := hdE hd1 hd E he; have p9 := pa he p9 (hf 9 rfl); have f9 := sb_at f9 (hf 9 rfl); obtain ⟨h0, h9, h10, h27, h28⟩ := va5 he hf h0 h9 h10 h27 h28 rfl; refine sq_blk [⟨11, _, []⟩, ⟨12, _, []⟩] [0, 1] hz rfl ⟨avs rfl rfl h44 rfl, avs rfl rfl h45 rfl, trivial⟩ ?_; intro a36 s37 he hf hz hd1 h11 h12; have hd := hd1.trans hd; have p9 := pa he p9 (hf 9 rfl); have f9 := sb_at f9 (hf 9 rfl)
    obtain ⟨h0, h9, h10, h13, h27, h28⟩ := va6 he hf h0 h9 h10 h13 h27 h28 rfl; have E := E.trans he; refine wp_seq ?_; refine wp_sr ?_; have hz0 := hz; refine sq_blk [⟨46, _, []⟩, ⟨47, _, [0]⟩, ⟨48, _, [1]⟩, ⟨49, _, [2]⟩, ⟨50, _, [2, 3]⟩, ⟨51, _, [2, 4]⟩] [5] hz rfl ⟨mvs rfl rfl h12 rfl, (fun a s he hf hz q0 => ne_ rfl rfl q0 i0), mvq rfl rfl, (fun a s he hf hz q2 => og rfl rfl rfl hz hz0 rfl q2 (fun g => op_move_v rfl (V_at h13 he (hf 13 rfl)))), (fun a s he hf hz q2 q3 => og rfl rfl rfl hz hz0 rfl q2 (fun g => op_gtr rfl (q3.1 g) (lit_i (k := .u64) (n := 4611686018427387904) (by decide)))), (fun a s he hf hz q2 q4 => oe rfl rfl q2 (q4.1)), trivial⟩ ?_; intro a38 s39 he hf hz hd1 h51; have ⟨hd, E⟩ := hdE hd1 hd E he; have p9 := pa he p9 (hf 9 rfl); have f9 := sb_at f9 (hf 9 rfl); obtain ⟨h0, h9, h10, h11, h13, h27, h28⟩ := va7 he hf h0 h9 h10 h11 h13 h27 h28 rfl; refine wp_condV h51 (fun hb => ?_) (fun hb => ?_)
    ·have h := ite_t hb h; refine wp_sr ?_; refine sq_blk [⟨4, _, []⟩, ⟨5, _, []⟩, ⟨6, _, []⟩] [0, 1, 2] hz rfl ⟨(fun a s he hf hz => opw rfl (op_assign rfl (f := Fact.own (kSl kDot) 70 2 (fun g => s0.w.heap.size ≤ g) []) own_nil)), (fun a s he hf hz => av rfl rfl i0), (fun a s he hf hz => av rfl rfl (lit_i (k := .i64) (n := 70) (by decide))), trivial⟩ ?_; intro a41 s42 he hf hz hd1 k4 h5 h6; have ⟨hd, E⟩ := hdE hd1 hd E he; have h4 := k4.1; refine wp_ret ?_; cases h
     exact ⟨hd, _, results_tmp3' rfl _ _ _, E, tup3 h4 h5 h6⟩
    ·have h := ite_f hb h; refine wp_skip ?_; refine wp_region ?_; refine sq_blk [⟨52, _, []⟩, ⟨53, _, []⟩, ⟨54, _, []⟩, ⟨55, _, [2]⟩, ⟨56, _, [1, 3]⟩, ⟨57, _, [4]⟩] [0, 5] hz rfl ⟨(fun a s he hf hz => opw rfl (op_move rfl (f := Fact.own _ _ _ _ _) (own_at h9 p9 f9 he (hf 9 rfl)))), mvs rfl rfl h10 rfl, mvs rfl rfl h13 rfl, (fun a s he hf hz q2 => cv rfl rfl u_89 u_2 q2), (fun a s he hf hz q1 q3 => opw rfl (op_build rfl bt_70 (ps := [(0, [(a.get 53)]), (1, [(a.get 55)])]) ⟨rfl, V_cells1 (s := s) rfl q1, rfl, V_cells1 (s := s) rfl q3, trivial⟩ rfl (f := Fact.v kDot (⟨(takeT x0 y20 24).1, IntKind.wrap .i64 ((takeN x0 ((takeT x0 y20 24).2.1)).1)⟩ : Dot)) (V_mk rfl (kDot_close q1 q3)))), (fun a s he hf hz q4 => opw rfl ((by obtain ⟨e43, w45, r44⟩ := V_open rfl q4; obtain ⟨u46, u47, rfl, c48, c49⟩ := kDot_open r44; exact op_lit_o (Q := fun g => s0.w.heap.size ≤ g) (d := kDot) rfl lt_32 (zc := [.string ⟨#[]⟩, .int .i64 0]) (by kernel_rfl) (ps := [(0, [u46, u47])]) ⟨rfl, congrArg Value.cells w45, trivial⟩ rfl (by decide) (ys := ([(⟨(takeT x0 y20 24).1, IntKind.wrap .i64 ((takeN x0 ((takeT x0 y20 24).2.1)).1)⟩ : Dot)] : List Dot)) rfl (by decide) rfl (lit_rows1 (show kDot.R _ [u46, u47] (⟨(takeT x0 y20 24).1, IntKind.wrap .i64 ((takeN x0 ((takeT x0 y20 24).2.1)).1)⟩ : Dot) from kDot_close c48 c49))))), trivial⟩ ?_
     intro a51 s52 he hf hz hd1 k52 k57; have ⟨hd, E⟩ := hdE hd1 hd E he; obtain ⟨h0, h11, h27, h28⟩ := va4 he hf h0 h11 h27 h28 rfl; have h52 := k52.1; have p52 := k52.2.1; have f52 := k52.2.2; have h57 := k57.1; obtain ⟨D55, h⟩ := need h; refine sq_set hz rfl rfl rfl (op_append2 rfl el_32 h52 p52 h57 D55 rfl (fun v s54 he hv hp hq => fun a53 hd' hf hz hd1 => ?_)); have f58' : ∀ g, sb (a53.get 58) = some g → s0.w.heap.size ≤ g := by
      intro g hg; rw [hd'] at hg; rcases hq g hg with h | h
      ·have h1 := f52 g h; exact h1
      ·have h2 := E.size; exact (by omega)
     have hd := hd1.trans hd; obtain ⟨h0, h11, h27, h28⟩ := va4 he hf h0 h11 h27 h28 rfl; have E := Chg.chg E he (fun b e h => absurd h (Nat.not_lt.2 (f52 b e))); have h58 := V_eq hd' hv; have p58 := Sp_at hp (Chg.refl (fun _ => False) _) (fun _ _ hf => hf) hd'; have f58 := f58'; refine sq_blk [⟨59, _, []⟩, ⟨9, _, []⟩, ⟨1, _, [0]⟩] [1, 2] hz rfl ⟨mvs rfl rfl h11 rfl, (fun a s he hf hz => opw rfl (op_assign rfl (f := Fact.own _ _ _ _ _) (own_at h58 p58 f58 he (hf 58 rfl)))), avq rfl rfl, trivial⟩ ?_; intro a57 s58 he hf hz hd1 k9 h1; have hd := hd1.trans hd; obtain ⟨h0, h27, h28⟩ := va3 he hf h0 h27 h28 rfl; have E := E.trans he; have h9 := k9.1; have p9 := k9.2.1; have f9 := k9.2.2; refine wp_region ?_; refine sq_blk [⟨60, _, []⟩] [0] hz rfl ⟨(fun a s he hf hz => ad rfl rfl (V_at h28 he (hf 28 rfl)) (lit_i (k := .u64) (n := 1) (by decide))), trivial⟩ ?_; intro a59 s60 he hf hz hd1 h60; have ⟨hd, E⟩ := hdE hd1 hd E he; have p9 := pa he p9 (hf 9 rfl); have f9 := sb_at f9 (hf 9 rfl); obtain ⟨h0, h1, h9, h27⟩ := va4 he hf h0 h1 h9 h27 rfl; refine sq_blk [⟨28, _, []⟩] [0] hz rfl ⟨mvs rfl rfl h60 rfl, trivial⟩ ?_
     intro a61 s62 he hf hz hd1 h28; have ⟨hd, E⟩ := hdE hd1 hd E he; have p9 := pa he p9 (hf 9 rfl); have f9 := sb_at f9 (hf 9 rfl); obtain ⟨h0, h1, h9, h27⟩ := va4 he hf h0 h1 h9 h27 rfl; exact ⟨_, (by omega : m24 < m24 + 1), _, _, _, h, by omega, E, hz, hd, h0, h1, h9, p9, (fun g hg => (f9 g hg)), h27, h28⟩
  ·have h := ite_f hb h; refine wp_exit ?_; refine then_exit ?_; refine then_exit ?_; refine inBlock_hit ?_; refine wp_seq ?_; refine wp_sr ?_; refine sq_blk [⟨61, _, []⟩, ⟨62, _, [0]⟩, ⟨63, _, [1]⟩] [2] hz rfl ⟨(fun a s he hf hz => opw rfl (op_move rfl (f := Fact.own _ _ _ _ _) (own_at h9 p9 f9 he (hf 9 rfl)))), (fun a s he hf hz q0 => opw rfl (op_call rfl rfl (vector_Right.ct q0.1))), (fun a s he hf hz q1 => no_ rfl rfl q1), trivial⟩ ?_; intro a63 s64 he hf hz hd1 h63; have ⟨hd, E⟩ := hdE hd1 hd E he; have p9 := pa he p9 (hf 9 rfl); have f9 := sb_at f9 (hf 9 rfl); obtain ⟨h1, h9⟩ := va2 he hf h1 h9 rfl; refine wp_condV h63 (fun hb => ?_) (fun hb => ?_)
   ·have h := ite_t hb h; refine wp_sr ?_; refine sq_blk [⟨4, _, []⟩, ⟨5, _, []⟩, ⟨6, _, []⟩] [0, 1, 2] hz rfl ⟨(fun a s he hf hz => opw rfl (op_assign rfl (f := Fact.own (kSl kDot) 70 2 (fun g => s0.w.heap.size ≤ g) []) own_nil)), (fun a s he hf hz => av rfl rfl i0), (fun a s he hf hz => av rfl rfl (lit_i (k := .i64) (n := 70) (by decide))), trivial⟩ ?_; intro a66 s67 he hf hz hd1 k4 h5 h6; have ⟨hd, E⟩ := hdE hd1 hd E he; have h4 := k4.1; refine wp_ret ?_; cases h
    exact ⟨hd, _, results_tmp3' rfl _ _ _, E, tup3 h4 h5 h6⟩
   ·have h := ite_f hb h; refine wp_skip ?_; refine wp_sr ?_; refine sq_blk [⟨64, _, []⟩, ⟨65, _, []⟩, ⟨4, _, [0]⟩, ⟨5, _, [1]⟩, ⟨6, _, []⟩] [2, 3, 4] hz rfl ⟨(fun a s he hf hz => opw rfl (op_move rfl (f := Fact.own _ _ _ _ _) (own_at h9 p9 f9 he (hf 9 rfl)))), mvs rfl rfl h1 rfl, (fun a s he hf hz q0 => opw rfl (op_assign rfl (f := Fact.own _ _ _ _ _) q0)), avq rfl rfl, (fun a s he hf hz => av rfl rfl i0), trivial⟩ ?_; intro a68 s69 he hf hz hd1 k4 h5 h6; have ⟨hd, E⟩ := hdE hd1 hd E he; have h4 := k4.1; refine wp_ret ?_; cases h
    exact ⟨hd, _, results_tmp3' rfl _ _ _, E, tup3 h4 h5 h6⟩
theorem vector_Take.e0 {b : Str} {x1 : Int} {n : Nat} (hb : b.length ≤ maxLen) (hn : (takeN b x1).1 = (n : Int)) (h64 : n ≤ 64) : ∀ j, j ≤ n → ∀ (r : Str) (acc : List Dot), r <:+ b → acc.length = n - j → ∃ k, vector_Take.l0 k b x1 ((b.length : Int) - r.length) acc ((n - j : Nat) : Int) =
  some (match readDots j r with | none => ([], 0, 70) | some (l, q) => if rightV (acc ++ l) = true then (acc ++ l, (b.length : Int) - q.length, 0) else ([], 0, 70)) := by
 intro j
 induction j with
 | zero =>
  intro _ r acc hr ha
  refine ⟨1, ?_⟩
  simp only [vector_Take.l0, hn, Nat.sub_zero, Int.lt_irrefl, decide_false, Bool.false_eq_true, if_false, readDots, List.append_nil]
  cases rightV acc <;> simp
 | succ j ih =>
  intro hj r acc hr ha
  have h1 : ((n - (j + 1) : Nat) : Int) < (n : Int) := by omega
  simp only [readDots]
  have ht := takeT_sfx 24 hr
  cases e1 : readT 24 r with
  | none =>
   rw [e1] at ht
   refine ⟨1, ?_⟩
   simp only [vector_Take.l0, hn, h1, decide_true, if_true, ht]
   rfl
  | some wr =>
   obtain ⟨w, r1⟩ := wr
   rw [e1] at ht
   have hr1 := (readT_sfx e1).trans hr
   have hnn := takeN_sfx hr1
   simp only []
   cases e2 : readN r1 with
   | none =>
    rw [e2] at hnn
    refine ⟨1, ?_⟩
    simp only [vector_Take.l0, hn, h1, decide_true, if_true, ht, hnn]
    rfl
   | some nr =>
    obtain ⟨m, r2⟩ := nr
    rw [e2] at hnn
    have hr2 := (readN_sfx e2).trans hr1
    simp only []
    by_cases hm : 4611686018427387904 < m
    ·have hm' : (4611686018427387904 : Int) < (m : Int) := by omega
     refine ⟨1, ?_⟩
     simp only [vector_Take.l0, hn, h1, decide_true, if_true, ht, hnn, hm', if_pos hm]
     rfl
    ·have hm' : ¬ (4611686018427387904 : Int) < (m : Int) := by omega
     obtain ⟨k, hk⟩ := ih (by omega) r2 (acc ++ [⟨w, (m : Int)⟩]) hr2 (by simp; omega)
     refine ⟨k + 1, ?_⟩
     have ew : IntKind.wrap .i64 (m : Int) = (m : Int) := w64 (by omega) (by omega)
     have en : IntKind.wrap .u64 (((n - (j + 1) : Nat) : Int) + 1) = ((n - j : Nat) : Int) := by rw [wrap_u64i (by omega) (by omega)]; omega
     simp only [vector_Take.l0, hn, h1, decide_true, if_true, ht, hnn, hm', decide_false, Bool.not_true, Bool.or_self, Bool.false_eq_true, if_false, if_neg hm, ew, en]
     rw [if_pos (by simp; omega), hk]
     cases readDots j r2 with
     | none => rfl
     | some lq => obtain ⟨l, q⟩ := lq; simp
theorem vector_Take.nice (x0 : Str) (x1 : Int) (b0 : (kSl kY).bd x0) (b1 : (kI .i64).bd x1) : ∃ k, vector_Take.f k x0 x1 = some (takeV x0 x1) := by
 have hb : x0.length ≤ maxLen := b0.1
 unfold vector_Take.f takeV readV
 by_cases h0 : x1 < 0
 ·exact ⟨0, by rw [takeN_neg h0, if_pos h0]; rfl⟩
 ·have ht := takeN_pos (b := x0) h0
  rw [if_neg h0]
  cases e1 : readN (x0.drop x1.toNat) with
  | none =>
   rw [e1] at ht
   exact ⟨0, by rw [ht]; rfl⟩
  | some nr =>
   obtain ⟨n, r⟩ := nr
   rw [e1] at ht
   simp only [ht]
   by_cases h64 : 64 < n
   ·have h64' : (64 : Int) < (n : Int) := by omega
    exact ⟨0, by simp only [h64', decide_true, if_pos h64]; rfl⟩
   ·have h64' : ¬ (64 : Int) < (n : Int) := by omega
    have hr : r <:+ x0 := (readN_sfx e1).trans (List.drop_suffix _ _)
    obtain ⟨k, hk⟩ := vector_Take.e0 hb (by rw [ht]) (by omega) n (Nat.le_refl _) r [] hr (by simp)
    refine ⟨k, ?_⟩
    simp only [h64', decide_true, decide_false, Bool.not_true, Bool.or_self, Bool.false_eq_true, if_false, if_neg h64]
    rw [Nat.sub_self] at hk
    refine hk.trans ?_
    cases readDots n r with
    | none => rfl
    | some lq => obtain ⟨l, q⟩ := lq; simp only [List.nil_append]; cases rightV l <;> rfl
theorem vector_Take.ct {s0 : St} {v0 : Value} {x0 : (List UInt8)} {v1 : Value} {x1 : Int} (k0 : (kSl kY).V s0 v0 x0) (k1 : (kI .i64).V s0 v1 x1) : Cl Try.prog 62 #[v0, v1] s0 (Okf s0 (Fact.tup [Fact.v (kSl kDot) ((takeV x0 x1).1), Fact.v (kI .i64) ((takeV x0 x1).2.1), Fact.v (kI .i64) ((takeV x0 x1).2.2)])) := by
 obtain ⟨k, h⟩ := vector_Take.nice x0 x1 (Kn.V_bd k0) (Kn.V_bd k1)
 exact vector_Take.ok k0 k1 h
def ref07_Take.l0 : Nat → (List UInt8) → Int → Int → (List Dot) → Int → Option ((List Dot) × Int × Int)
 | 0, _, _, _, _, _ => none
 | m22 + 1, x0, x1, y18, y19, y21 => (if decide (y21 < (IntKind.wrap .i64 ((takeN x0 x1).1))) = true then (if (((!decide (((takeT x0 y18 24).2.2) = 0)) || (!decide (((takeN x0 ((takeT x0 y18 24).2.1)).2.2) = 0))) || (decide (4611686018427387904 < ((takeN x0 ((takeT x0 y18 24).2.1)).1)))) = true then (some (([] : (List Dot)), 0, 70)) else (if (List.length y19 + List.length ([(⟨(takeT x0 y18 24).1, IntKind.wrap .i64 ((takeN x0 ((takeT x0 y18 24).2.1)).1)⟩ : Dot)] : List Dot)) * 24 ≤ 140737488355328 then (ref07_Take.l0 m22 x0 x1 ((takeN x0 ((takeT x0 y18 24).2.1)).2.1) (y19 ++ ([(⟨(takeT x0 y18 24).1, IntKind.wrap .i64 ((takeN x0 ((takeT x0 y18 24).2.1)).1)⟩ : Dot)] : List Dot)) (IntKind.wrap .i64 (y21 + 1))) else none)) else (if (!(rightV y19)) = true then (some (([] : (List Dot)), 0, 70)) else (some (y19, y18, 0))))
def ref07_Take.f (k : Nat) (x0 : (List UInt8)) (x1 : Int) : Option ((List Dot) × Int × Int) := (if ((!decide (((takeN x0 x1).2.2) = 0)) || (decide (64 < ((takeN x0 x1).1)))) = true then (some (([] : (List Dot)), 0, 70)) else (ref07_Take.l0 k x0 x1 ((takeN x0 x1).2.1) ([] : (List Dot)) 0))
theorem ref07_Take.ok {s0 : St} {v0 : Value} {x0 : (List UInt8)} {v1 : Value} {x1 : Int} {k : Nat} {r : (List Dot) × Int × Int} (k0 : (kSl kY).V s0 v0 x0) (k1 : (kI .i64).V s0 v1 x1) (h : ref07_Take.f k x0 x1 = some r) : Cl Try.prog 67 #[v0, v1] s0 (Okf s0 (Fact.tup [Fact.v (kSl kDot) r.1, Fact.v (kI .i64) r.2.1, Fact.v (kI .i64) r.2.2])) := by
 unfold ref07_Take.f at h
 refine cl_of_wp Try.func67 rfl en_67 fun a hz hd hp => ?_; have hz : a.tmps.size = 76 := hz; have E := Chg.refl (fun _ => False) s0; have h0 := V_at k0 E (hp 0 v0 rfl); have h1 := V_at k1 E (hp 1 v1 rfl); refine wp_sr ?_; refine sq_blk [⟨4, _, []⟩, ⟨5, _, []⟩, ⟨6, _, []⟩] [] hz rfl ⟨(fun a s he hf hz => opw rfl (op_assign rfl (f := Fact.own (kSl kDot) 70 2 (fun g => s0.w.heap.size ≤ g) []) own_nil)), (fun a s he hf hz => av rfl rfl i0), (fun a s he hf hz => av rfl rfl i0), trivial⟩ ?_; intro a2 s3 he hf hz hd1; have ⟨hd, E⟩ := hdE hd1 hd E he; obtain ⟨h0, h1⟩ := va2 he hf h0 h1 rfl; refine wp_sr ?_; refine sq_blk [⟨20, _, []⟩, ⟨21, _, []⟩, ⟨22, _, [0, 1]⟩, ⟨19, _, [2]⟩, ⟨23, _, [3]⟩, ⟨24, _, [3]⟩, ⟨25, _, [3]⟩, ⟨7, _, [4]⟩, ⟨8, _, [5]⟩, ⟨9, _, [6]⟩] [7, 8, 9] hz rfl ⟨mvs rfl rfl h0 rfl, mvs rfl rfl h1 rfl, (fun a s he hf hz q0 q1 => opw rfl (op_call rfl rfl (ref02_TakeNumber.ct q0 q1))), (fun a s he hf hz q2 => opw rfl (op_move rfl (f := Fact.tup _) q2)), (fun a s he hf hz q3 => opw rfl (op_extract (f := Fact.v _ _) rfl q3 rfl)), (fun a s he hf hz q3 => opw rfl (op_extract (f := Fact.v _ _) rfl q3 rfl)), (fun a s he hf hz q3 => opw rfl (op_extract (f := Fact.v _ _) rfl q3 rfl)), avq rfl rfl, avq rfl rfl, avq rfl rfl, trivial⟩ ?_
 intro a4 s5 he hf hz hd1 h7 h8 h9; have ⟨hd, E⟩ := hdE hd1 hd E he; have h0 := V_at h0 he (hf 0 rfl); refine wp_seq ?_; refine wp_sr ?_; have hz0 := hz; refine sq_blk [⟨26, _, []⟩, ⟨27, _, [0]⟩, ⟨28, _, [1]⟩, ⟨29, _, [2]⟩, ⟨30, _, [2, 3]⟩, ⟨31, _, [2, 4]⟩] [5] hz rfl ⟨mvs rfl rfl h9 rfl, (fun a s he hf hz q0 => ne_ rfl rfl q0 i0), mvq rfl rfl, (fun a s he hf hz q2 => og rfl rfl rfl hz hz0 rfl q2 (fun g => op_move_v rfl (V_at h7 he (hf 7 rfl)))), (fun a s he hf hz q2 q3 => og rfl rfl rfl hz hz0 rfl q2 (fun g => op_gtr rfl (q3.1 g) (lit_i (k := .u64) (n := 64) (by decide)))), (fun a s he hf hz q2 q4 => oe rfl rfl q2 (q4.1)), trivial⟩ ?_; intro a6 s7 he hf hz hd1 h31; have ⟨hd, E⟩ := hdE hd1 hd E he; obtain ⟨h0, h7, h8⟩ := va3 he hf h0 h7 h8 rfl; refine wp_condV h31 (fun hb => ?_) (fun hb => ?_)
 ·have h := ite_t hb h; refine wp_sr ?_; refine sq_blk [⟨4, _, []⟩, ⟨5, _, []⟩, ⟨6, _, []⟩] [0, 1, 2] hz rfl ⟨(fun a s he hf hz => opw rfl (op_assign rfl (f := Fact.own (kSl kDot) 70 2 (fun g => s0.w.heap.size ≤ g) []) own_nil)), (fun a s he hf hz => av rfl rfl i0), (fun a s he hf hz => av rfl rfl (lit_i (k := .i64) (n := 70) (by decide))), trivial⟩ ?_; intro a9 s10 he hf hz hd1 k4 h5 h6; have ⟨hd, E⟩ := hdE hd1 hd E he; have h4 := k4.1; refine wp_ret ?_; cases h
  exact ⟨hd, _, results_tmp3' rfl _ _ _, E, tup3 h4 h5 h6⟩
 ·have h := ite_f hb h; refine wp_skip ?_; refine wp_sr ?_; refine sq_blk [⟨10, _, []⟩] [0] hz rfl ⟨(fun a s he hf hz => opw rfl (op_assign rfl (f := Fact.own (kSl kDot) 70 2 (fun g => s0.w.heap.size ≤ g) []) own_nil)), trivial⟩ ?_; intro a12 s13 he hf hz hd1 k10; have ⟨hd, E⟩ := hdE hd1 hd E he; obtain ⟨h0, h7, h8⟩ := va3 he hf h0 h7 h8 rfl; have h10 := k10.1; have p10 := k10.2.1; have f10 := k10.2.2; refine wp_seq ?_; refine wp_sr ?_; refine sq_blk [⟨11, _, []⟩] [0] hz rfl ⟨(fun a s he hf hz => av rfl rfl i0), trivial⟩ ?_; intro a14 s15 he hf hz hd1 h11; have ⟨hd, E⟩ := hdE hd1 hd E he; have p10 := pa he p10 (hf 10 rfl); have f10 := sb_at f10 (hf 10 rfl); obtain ⟨h0, h7, h8, h10⟩ := va4 he hf h0 h7 h8 h10 rfl; refine wp_block ?_
  refine wp_loop (k := k) (fun m22 a s => ∃ (y18 : Int) (y19 : (List Dot)) (y21 : Int), ref07_Take.l0 m22 x0 x1 y18 y19 y21 = some r ∧ m22 ≤ k ∧ Ext s0 s ∧ a.tmps.size = 76 ∧ a.defers = [] ∧ (kSl kY).V s (a.get 0) x0 ∧ (kI .u64).V s (a.get 7) ((takeN x0 x1).1) ∧ (kI .i64).V s (a.get 8) y18 ∧ (kSl kDot).V s (a.get 10) y19 ∧ Sp s (a.get 10) 70 2 ∧ (∀ g, sb (a.get 10) = some g → s0.w.heap.size ≤ g) ∧ (kI .i64).V s (a.get 11) y21) ⟨_, _, _, h, Nat.le_refl _, E, hz, hd, h0, h7, h8, h10, p10, f10, h11⟩ ?_; rintro m22 a17 s16 ⟨y18, y19, y21, h, hkm22, E, hz, hd, h0, h7, h8, h10, p10, f10, h11⟩; obtain _ | m22 := m22
  ·cases h
  refine wp_seq ?_; refine wp_sr ?_; refine sq_blk [⟨32, _, []⟩, ⟨33, _, []⟩, ⟨34, _, [1]⟩, ⟨35, _, [0, 2]⟩] [3] hz rfl ⟨mvs rfl rfl h11 rfl, mvs rfl rfl h7 rfl, (fun a s he hf hz q1 => cv rfl rfl u_89 u_3 q1), (fun a s he hf hz q0 q2 => ls rfl rfl q0 q2), trivial⟩ ?_; intro a23 s24 he hf hz hd1 h35; have ⟨hd, E⟩ := hdE hd1 hd E he; have p10 := pa he p10 (hf 10 rfl); have f10 := sb_at f10 (hf 10 rfl); obtain ⟨h0, h7, h8, h10, h11⟩ := va5 he hf h0 h7 h8 h10 h11 rfl; refine wp_condV h35 (fun hb => ?_) (fun hb => ?_)
  ·have h := ite_t hb h; refine wp_skip ?_; refine wp_seq ?_; refine wp_block ?_; refine wp_sr ?_; refine sq_blk [⟨39, _, []⟩, ⟨40, _, []⟩, ⟨41, _, [0, 1]⟩, ⟨38, _, [2]⟩, ⟨42, _, [3]⟩, ⟨43, _, [3]⟩, ⟨44, _, [3]⟩, ⟨12, _, [4]⟩, ⟨13, _, [5]⟩, ⟨14, _, [6]⟩] [7, 8, 9] hz rfl ⟨mvs rfl rfl h0 rfl, mvs rfl rfl h8 rfl, (fun a s he hf hz q0 q1 => opw rfl (op_call rfl rfl (ref02_TakeText.ct q0 q1 (lit_i (k := .i64) (n := 24) (by decide))))), (fun a s he hf hz q2 => opw rfl (op_move rfl (f := Fact.tup _) q2)), (fun a s he hf hz q3 => opw rfl (op_extract (f := Fact.v _ _) rfl q3 rfl)), (fun a s he hf hz q3 => opw rfl (op_extract (f := Fact.v _ _) rfl q3 rfl)), (fun a s he hf hz q3 => opw rfl (op_extract (f := Fact.v _ _) rfl q3 rfl)), avq rfl rfl, avq rfl rfl, avq rfl rfl, trivial⟩ ?_; intro a25 s26 he hf hz hd1 h12 h13 h14; have ⟨hd, E⟩ := hdE hd1 hd E he; have p10 := pa he p10 (hf 10 rfl); have f10 := sb_at f10 (hf 10 rfl); obtain ⟨h0, h7, h10, h11⟩ := va4 he hf h0 h7 h10 h11 rfl; refine wp_sr ?_
   refine sq_blk [⟨46, _, []⟩, ⟨47, _, []⟩, ⟨48, _, [0, 1]⟩, ⟨45, _, [2]⟩, ⟨49, _, [3]⟩, ⟨50, _, [3]⟩, ⟨51, _, [3]⟩, ⟨15, _, [4]⟩, ⟨16, _, [5]⟩, ⟨17, _, [6]⟩] [7, 8, 9] hz rfl ⟨mvs rfl rfl h0 rfl, mvs rfl rfl h13 rfl, (fun a s he hf hz q0 q1 => opw rfl (op_call rfl rfl (ref02_TakeNumber.ct q0 q1))), (fun a s he hf hz q2 => opw rfl (op_move rfl (f := Fact.tup _) q2)), (fun a s he hf hz q3 => opw rfl (op_extract (f := Fact.v _ _) rfl q3 rfl)), (fun a s he hf hz q3 => opw rfl (op_extract (f := Fact.v _ _) rfl q3 rfl)), (fun a s he hf hz q3 => opw rfl (op_extract (f := Fact.v _ _) rfl q3 rfl)), avq rfl rfl, avq rfl rfl, avq rfl rfl, trivial⟩ ?_; intro a27 s28 he hf hz hd1 h15 h16 h17; have ⟨hd, E⟩ := hdE hd1 hd E he; have p10 := pa he p10 (hf 10 rfl); have f10 := sb_at f10 (hf 10 rfl); obtain ⟨h0, h7, h10, h11, h12, h14⟩ := va6 he hf h0 h7 h10 h11 h12 h14 rfl; refine wp_seq ?_; refine wp_sr ?_; have hz0 := hz; refine sq_blk [⟨52, _, []⟩, ⟨53, _, [0]⟩, ⟨54, _, [1]⟩, ⟨55, _, [2]⟩, ⟨56, _, [2, 3]⟩, ⟨57, _, [2, 4]⟩, ⟨58, _, [5]⟩, ⟨59, _, [6]⟩, ⟨60, _, [6, 7]⟩, ⟨61, _, [6, 8]⟩] [9] hz rfl ⟨mvs rfl rfl h14 rfl, (fun a s he hf hz q0 => ne_ rfl rfl q0 i0), mvq rfl rfl, (fun a s he hf hz q2 => og rfl rfl rfl hz hz0 rfl q2 (fun g => op_move_v rfl (V_at h17 he (hf 17 rfl)))), (fun a s he hf hz q2 q3 => og rfl rfl rfl hz hz0 rfl q2 (fun g => op_neq rfl (q3.1 g) i0)), (fun a s he hf hz q2 q4 => oe rfl rfl q2 (q4.1)), mvq rfl rfl, (fun a s he hf hz q6 => og rfl rfl rfl hz hz0 rfl q6 (fun g => op_move_v rfl (V_at h15 he (hf 15 rfl)))), (fun a s he hf hz q6 q7 => og rfl rfl rfl hz hz0 rfl q6 (fun g => op_gtr rfl (q7.1 g) (lit_i (k := .u64) (n := 4611686018427387904) (by decide)))), (fun a s he hf hz q6 q8 => oe rfl rfl q6 (q8.1)), trivial⟩ ?_
   intro a29 s30 he hf hz hd1 h61; have ⟨hd, E⟩ := hdE hd1 hd E he; have p10 := pa he p10 (hf 10 rfl); have f10 := sb_at f10 (hf 10 rfl); obtain ⟨h0, h7, h10, h11, h12, h15, h16⟩ := va7 he hf h0 h7 h10 h11 h12 h15 h16 rfl; refine wp_condV h61 (fun hb => ?_) (fun hb => ?_)
   ·have h := ite_t hb h; refine wp_sr ?_; refine sq_blk [⟨4, _, []⟩, ⟨5, _, []⟩, ⟨6, _, []⟩] [0, 1, 2] hz rfl ⟨(fun a s he hf hz => opw rfl (op_assign rfl (f := Fact.own (kSl kDot) 70 2 (fun g => s0.w.heap.size ≤ g) []) own_nil)), (fun a s he hf hz => av rfl rfl i0), (fun a s he hf hz => av rfl rfl (lit_i (k := .i64) (n := 70) (by decide))), trivial⟩ ?_; intro a32 s33 he hf hz hd1 k4 h5 h6; have ⟨hd, E⟩ := hdE hd1 hd E he; have h4 := k4.1; refine wp_ret ?_; cases h
    exact ⟨hd, _, results_tmp3' rfl _ _ _, E, tup3 h4 h5 h6⟩
   ·have h := ite_f hb h; refine wp_skip ?_; refine wp_sr ?_; refine sq_blk [⟨62, _, []⟩, ⟨63, _, []⟩, ⟨64, _, []⟩, ⟨65, _, [2]⟩, ⟨66, _, [1, 3]⟩, ⟨67, _, [4]⟩] [0, 5] hz rfl ⟨(fun a s he hf hz => opw rfl (op_move rfl (f := Fact.own _ _ _ _ _) (own_at h10 p10 f10 he (hf 10 rfl)))), mvs rfl rfl h12 rfl, mvs rfl rfl h15 rfl, (fun a s he hf hz q2 => cv rfl rfl u_89 u_2 q2), (fun a s he hf hz q1 q3 => opw rfl (op_build rfl bt_70 (ps := [(0, [(a.get 63)]), (1, [(a.get 65)])]) ⟨rfl, V_cells1 (s := s) rfl q1, rfl, V_cells1 (s := s) rfl q3, trivial⟩ rfl (f := Fact.v kDot (⟨(takeT x0 y18 24).1, IntKind.wrap .i64 ((takeN x0 ((takeT x0 y18 24).2.1)).1)⟩ : Dot)) (V_mk rfl (kDot_close q1 q3)))), (fun a s he hf hz q4 => opw rfl ((by obtain ⟨e34, w36, r35⟩ := V_open rfl q4; obtain ⟨u37, u38, rfl, c39, c40⟩ := kDot_open r35; exact op_lit_o (Q := fun g => s0.w.heap.size ≤ g) (d := kDot) rfl lt_32 (zc := [.string ⟨#[]⟩, .int .i64 0]) (by kernel_rfl) (ps := [(0, [u37, u38])]) ⟨rfl, congrArg Value.cells w36, trivial⟩ rfl (by decide) (ys := ([(⟨(takeT x0 y18 24).1, IntKind.wrap .i64 ((takeN x0 ((takeT x0 y18 24).2.1)).1)⟩ : Dot)] : List Dot)) rfl (by decide) rfl (lit_rows1 (show kDot.R _ [u37, u38] (⟨(takeT x0 y18 24).1, IntKind.wrap .i64 ((takeN x0 ((takeT x0 y18 24).2.1)).1)⟩ : Dot) from kDot_close c39 c40))))), trivial⟩ ?_
    intro a42 s43 he hf hz hd1 k62 k67; have ⟨hd, E⟩ := hdE hd1 hd E he; obtain ⟨h0, h7, h11, h16⟩ := va4 he hf h0 h7 h11 h16 rfl; have h62 := k62.1; have p62 := k62.2.1; have f62 := k62.2.2; have h67 := k67.1; obtain ⟨D46, h⟩ := need h; refine sq_set hz rfl rfl rfl (op_append2 rfl el_32 h62 p62 h67 D46 rfl (fun v s45 he hv hp hq => fun a44 hd' hf hz hd1 => ?_)); have f68' : ∀ g, sb (a44.get 68) = some g → s0.w.heap.size ≤ g := by
     intro g hg; rw [hd'] at hg; rcases hq g hg with h | h
     ·have h1 := f62 g h; exact h1
     ·have h2 := E.size; exact (by omega)
    have hd := hd1.trans hd; obtain ⟨h0, h7, h11, h16⟩ := va4 he hf h0 h7 h11 h16 rfl; have E := Chg.chg E he (fun b e h => absurd h (Nat.not_lt.2 (f62 b e))); have h68 := V_eq hd' hv; have p68 := Sp_at hp (Chg.refl (fun _ => False) _) (fun _ _ hf => hf) hd'; have f68 := f68'; refine sq_blk [⟨10, _, []⟩] [0] hz rfl ⟨(fun a s he hf hz => opw rfl (op_assign rfl (f := Fact.own _ _ _ _ _) (own_at h68 p68 f68 he (hf 68 rfl)))), trivial⟩ ?_; intro a48 s49 he hf hz hd1 k10; have hd := hd1.trans hd; obtain ⟨h0, h7, h11, h16⟩ := va4 he hf h0 h7 h11 h16 rfl; have E := E.trans he; have h10 := k10.1; have p10 := k10.2.1; have f10 := k10.2.2; refine wp_region ?_; refine sq_blk [⟨69, _, []⟩, ⟨8, _, [0]⟩] [1] hz rfl ⟨mvs rfl rfl h16 rfl, avq rfl rfl, trivial⟩ ?_; intro a50 s51 he hf hz hd1 h8; have ⟨hd, E⟩ := hdE hd1 hd E he; have p10 := pa he p10 (hf 10 rfl); have f10 := sb_at f10 (hf 10 rfl); obtain ⟨h0, h7, h10, h11⟩ := va4 he hf h0 h7 h10 h11 rfl; refine wp_region ?_; refine sq_blk [⟨36, _, []⟩, ⟨37, _, [0]⟩] [1] hz rfl ⟨mvs rfl rfl h11 rfl, (fun a s he hf hz q0 => ad rfl rfl q0 i1), trivial⟩ ?_
    intro a52 s53 he hf hz hd1 h37; have ⟨hd, E⟩ := hdE hd1 hd E he; have p10 := pa he p10 (hf 10 rfl); have f10 := sb_at f10 (hf 10 rfl); obtain ⟨h0, h7, h8, h10⟩ := va4 he hf h0 h7 h8 h10 rfl; refine sq_blk [⟨11, _, []⟩] [0] hz rfl ⟨avs rfl rfl h37 rfl, trivial⟩ ?_; intro a54 s55 he hf hz hd1 h11; have ⟨hd, E⟩ := hdE hd1 hd E he; have p10 := pa he p10 (hf 10 rfl); have f10 := sb_at f10 (hf 10 rfl); obtain ⟨h0, h7, h8, h10⟩ := va4 he hf h0 h7 h8 h10 rfl; exact ⟨_, (by omega : m22 < m22 + 1), _, _, _, h, by omega, E, hz, hd, h0, h7, h8, h10, p10, (fun g hg => (f10 g hg)), h11⟩
  ·have h := ite_f hb h; refine wp_exit ?_; refine then_exit ?_; refine then_exit ?_; refine inBlock_hit ?_; refine wp_sr ?_; refine sq_blk [⟨70, _, []⟩, ⟨71, _, [0]⟩, ⟨18, _, [1]⟩] [2] hz rfl ⟨(fun a s he hf hz => opw rfl (op_move rfl (f := Fact.own _ _ _ _ _) (own_at h10 p10 f10 he (hf 10 rfl)))), (fun a s he hf hz q0 => opw rfl (op_call rfl rfl (ref07_Right.ct q0.1))), avq rfl rfl, trivial⟩ ?_; intro a56 s57 he hf hz hd1 h18; have ⟨hd, E⟩ := hdE hd1 hd E he; have p10 := pa he p10 (hf 10 rfl); have f10 := sb_at f10 (hf 10 rfl); obtain ⟨h8, h10⟩ := va2 he hf h8 h10 rfl; refine wp_seq ?_; refine wp_sr ?_; refine sq_blk [⟨72, _, []⟩, ⟨73, _, [0]⟩] [1] hz rfl ⟨mvs rfl rfl h18 rfl, (fun a s he hf hz q0 => no_ rfl rfl q0), trivial⟩ ?_; intro a58 s59 he hf hz hd1 h73; have ⟨hd, E⟩ := hdE hd1 hd E he; have p10 := pa he p10 (hf 10 rfl); have f10 := sb_at f10 (hf 10 rfl); obtain ⟨h8, h10⟩ := va2 he hf h8 h10 rfl; refine wp_condV h73 (fun hb => ?_) (fun hb => ?_)
   ·have h := ite_t hb h; refine wp_sr ?_; refine sq_blk [⟨4, _, []⟩, ⟨5, _, []⟩, ⟨6, _, []⟩] [0, 1, 2] hz rfl ⟨(fun a s he hf hz => opw rfl (op_assign rfl (f := Fact.own (kSl kDot) 70 2 (fun g => s0.w.heap.size ≤ g) []) own_nil)), (fun a s he hf hz => av rfl rfl i0), (fun a s he hf hz => av rfl rfl (lit_i (k := .i64) (n := 70) (by decide))), trivial⟩ ?_; intro a61 s62 he hf hz hd1 k4 h5 h6; have ⟨hd, E⟩ := hdE hd1 hd E he; have h4 := k4.1; refine wp_ret ?_; cases h
    exact ⟨hd, _, results_tmp3' rfl _ _ _, E, tup3 h4 h5 h6⟩
   ·have h := ite_f hb h; refine wp_skip ?_; refine wp_sr ?_; refine sq_blk [⟨74, _, []⟩, ⟨75, _, []⟩, ⟨4, _, [0]⟩, ⟨5, _, [1]⟩, ⟨6, _, []⟩] [2, 3, 4] hz rfl ⟨(fun a s he hf hz => opw rfl (op_move rfl (f := Fact.own _ _ _ _ _) (own_at h10 p10 f10 he (hf 10 rfl)))), mvs rfl rfl h8 rfl, (fun a s he hf hz q0 => opw rfl (op_assign rfl (f := Fact.own _ _ _ _ _) q0)), avq rfl rfl, (fun a s he hf hz => av rfl rfl i0), trivial⟩ ?_; intro a63 s64 he hf hz hd1 k4 h5 h6; have ⟨hd, E⟩ := hdE hd1 hd E he; have h4 := k4.1; refine wp_ret ?_; cases h
    exact ⟨hd, _, results_tmp3' rfl _ _ _, E, tup3 h4 h5 h6⟩
theorem ref07_Take.e0 {b : Str} {x1 : Int} {n : Nat} (hb : b.length ≤ maxLen) (hn : (takeN b x1).1 = (n : Int)) (h64 : n ≤ 64) : ∀ j, j ≤ n → ∀ (r : Str) (acc : List Dot), r <:+ b → acc.length = n - j → ∃ k, ref07_Take.l0 k b x1 ((b.length : Int) - r.length) acc ((n - j : Nat) : Int) =
  some (match readDots j r with | none => ([], 0, 70) | some (l, q) => if rightV (acc ++ l) = true then (acc ++ l, (b.length : Int) - q.length, 0) else ([], 0, 70)) := by
 have hn64 : IntKind.wrap .i64 (n : Int) = (n : Int) := w64 (by omega) (by omega)
 intro j
 induction j with
 | zero =>
  intro _ r acc hr ha
  refine ⟨1, ?_⟩
  simp only [ref07_Take.l0, hn, hn64, Nat.sub_zero, Int.lt_irrefl, decide_false, Bool.false_eq_true, if_false, readDots, List.append_nil]
  cases rightV acc <;> simp
 | succ j ih =>
  intro hj r acc hr ha
  have h1 : ((n - (j + 1) : Nat) : Int) < (n : Int) := by omega
  simp only [readDots]
  have ht := takeT_sfx 24 hr
  cases e1 : readT 24 r with
  | none =>
   rw [e1] at ht
   refine ⟨1, ?_⟩
   simp only [ref07_Take.l0, hn, hn64, h1, decide_true, if_true, ht]
   simp
  | some wr =>
   obtain ⟨w, r1⟩ := wr
   rw [e1] at ht
   have hr1 := (readT_sfx e1).trans hr
   have hnn := takeN_sfx hr1
   simp only []
   cases e2 : readN r1 with
   | none =>
    rw [e2] at hnn
    refine ⟨1, ?_⟩
    simp only [ref07_Take.l0, hn, hn64, h1, decide_true, if_true, ht, hnn]
    simp
   | some nr =>
    obtain ⟨m, r2⟩ := nr
    rw [e2] at hnn
    have hr2 := (readN_sfx e2).trans hr1
    simp only []
    by_cases hm : 4611686018427387904 < m
    ·have hm' : (4611686018427387904 : Int) < (m : Int) := by omega
     refine ⟨1, ?_⟩
     simp only [ref07_Take.l0, hn, hn64, h1, decide_true, if_true, ht, hnn, hm', if_pos hm]
     simp
    ·have hm' : ¬ (4611686018427387904 : Int) < (m : Int) := by omega
     obtain ⟨k, hk⟩ := ih (by omega) r2 (acc ++ [⟨w, (m : Int)⟩]) hr2 (by simp; omega)
     refine ⟨k + 1, ?_⟩
     have ew : IntKind.wrap .i64 (m : Int) = (m : Int) := w64 (by omega) (by omega)
     have en : IntKind.wrap .i64 (((n - (j + 1) : Nat) : Int) + 1) = ((n - j : Nat) : Int) := by rw [w64 (by omega) (by omega)]; omega
     simp only [ref07_Take.l0, hn, hn64, h1, decide_true, if_true, ht, hnn, hm', decide_false, Bool.not_true, Bool.or_self, Bool.false_eq_true, if_false, if_neg hm, ew, en]
     rw [if_pos (by simp; omega), hk]
     cases readDots j r2 with
     | none => rfl
     | some lq => obtain ⟨l, q⟩ := lq; simp
theorem ref07_Take.nice (x0 : Str) (x1 : Int) (b0 : (kSl kY).bd x0) (b1 : (kI .i64).bd x1) : ∃ k, ref07_Take.f k x0 x1 = some (takeV x0 x1) := by
 have hb : x0.length ≤ maxLen := b0.1
 unfold ref07_Take.f takeV readV
 by_cases h0 : x1 < 0
 ·exact ⟨0, by rw [takeN_neg h0, if_pos h0]; rfl⟩
 ·have ht := takeN_pos (b := x0) h0
  rw [if_neg h0]
  cases e1 : readN (x0.drop x1.toNat) with
  | none =>
   rw [e1] at ht
   exact ⟨0, by rw [ht]; rfl⟩
  | some nr =>
   obtain ⟨n, r⟩ := nr
   rw [e1] at ht
   simp only [ht]
   by_cases h64 : 64 < n
   ·have h64' : (64 : Int) < (n : Int) := by omega
    exact ⟨0, by simp only [h64', decide_true, if_pos h64]; rfl⟩
   ·have h64' : ¬ (64 : Int) < (n : Int) := by omega
    have hr : r <:+ x0 := (readN_sfx e1).trans (List.drop_suffix _ _)
    obtain ⟨k, hk⟩ := ref07_Take.e0 hb (by rw [ht]) (by omega) n (Nat.le_refl _) r [] hr (by simp)
    refine ⟨k, ?_⟩
    simp only [h64', decide_true, decide_false, Bool.not_true, Bool.or_self, Bool.false_eq_true, if_false, if_neg h64]
    rw [Nat.sub_self] at hk
    refine hk.trans ?_
    cases readDots n r with
    | none => rfl
    | some lq => obtain ⟨l, q⟩ := lq; simp only [List.nil_append]; cases rightV l <;> rfl
theorem ref07_Take.ct {s0 : St} {v0 : Value} {x0 : (List UInt8)} {v1 : Value} {x1 : Int} (k0 : (kSl kY).V s0 v0 x0) (k1 : (kI .i64).V s0 v1 x1) : Cl Try.prog 67 #[v0, v1] s0 (Okf s0 (Fact.tup [Fact.v (kSl kDot) ((takeV x0 x1).1), Fact.v (kI .i64) ((takeV x0 x1).2.1), Fact.v (kI .i64) ((takeV x0 x1).2.2)])) := by
 obtain ⟨k, h⟩ := ref07_Take.nice x0 x1 (Kn.V_bd k0) (Kn.V_bd k1)
 exact ref07_Take.ok k0 k1 h
end
section
attribute [local irreducible] Kn.V PtrV
def cmp_isNaN_int64 (x0 : Int) : Bool := (!decide (x0 = x0))
theorem cmp_isNaN_int64.ok {s0 : St} {v0 : Value} {x0 : Int} (k0 : (kI .i64).V s0 v0 x0) : Cl Try.prog 147 #[v0] s0 (Okf s0 (Fact.v kB (cmp_isNaN_int64 x0))) := by
 obtain ⟨r, h⟩ : ∃ r, some (cmp_isNaN_int64 x0) = some r := ⟨_, rfl⟩
 rw [Option.some.inj h]
 have h : (some (!decide (x0 = x0))) = some r := by rw [← h]; unfold cmp_isNaN_int64; first | rfl | simp only [apply_ite some] | (repeat' (first | rfl | split))
 refine cl_of_wp Try.func147 rfl en_147 fun a hz hd hp => ?_; have hz : a.tmps.size = 6 := hz; have E := Chg.refl (fun _ => False) s0; have h0 := V_at k0 E (hp 0 v0 rfl); refine wp_sr ?_; refine sq_blk [⟨2, _, []⟩] [] hz rfl ⟨(fun a s he hf hz => av rfl rfl b_f), trivial⟩ ?_; intro a1 s2 he hf hz hd1; have ⟨hd, E⟩ := hdE hd1 hd E he; have h0 := V_at h0 he (hf 0 rfl); refine wp_sr ?_; refine sq_blk [⟨3, _, []⟩, ⟨4, _, []⟩, ⟨5, _, [0, 1]⟩, ⟨2, _, [2]⟩] [3] hz rfl ⟨mvs rfl rfl h0 rfl, mvs rfl rfl h0 rfl, (fun a s he hf hz q0 q1 => ne_ rfl rfl q0 q1), avq rfl rfl, trivial⟩ ?_; intro a3 s4 he hf hz hd1 h2; have ⟨hd, E⟩ := hdE hd1 hd E he; refine wp_ret ?_; cases h
 exact ⟨hd, _, results_tmp rfl _ _ _, E, h2⟩
def cmp_Compare_int64 (x0 : Int) (x1 : Int) : Int := if (cmp_isNaN_int64 x0) = true then (if (cmp_isNaN_int64 x1) = true then (0) else ((-1))) else (if (cmp_isNaN_int64 x1) = true then (1) else (if decide (x0 < x1) = true then ((-1)) else (if decide (x1 < x0) = true then (1) else (0))))
theorem cmp_Compare_int64.ok {s0 : St} {v0 : Value} {x0 : Int} {v1 : Value} {x1 : Int} (k0 : (kI .i64).V s0 v0 x0) (k1 : (kI .i64).V s0 v1 x1) : Cl Try.prog 130 #[v0, v1] s0 (Okf s0 (Fact.v (kI .i64) (cmp_Compare_int64 x0 x1))) := by
 obtain ⟨r, h⟩ : ∃ r, some (cmp_Compare_int64 x0 x1) = some r := ⟨_, rfl⟩
 rw [Option.some.inj h]
 have h : (if (cmp_isNaN_int64 x0) = true then (if (cmp_isNaN_int64 x1) = true then (some 0) else (some (-1))) else (if (cmp_isNaN_int64 x1) = true then (some 1) else (if decide (x0 < x1) = true then (some (-1)) else (if decide (x1 < x0) = true then (some 1) else (some 0))))) = some r := by rw [← h]; unfold cmp_Compare_int64; first | rfl | simp only [apply_ite some] | (repeat' (first | rfl | split))
 refine cl_of_wp Try.func130 rfl en_130 fun a hz hd hp => ?_; have hz : a.tmps.size = 20 := hz; have E := Chg.refl (fun _ => False) s0; have h0 := V_at k0 E (hp 0 v0 rfl); have h1 := V_at k1 E (hp 1 v1 rfl); refine wp_sr ?_; refine sq_blk [⟨4, _, []⟩] [] hz rfl ⟨(fun a s he hf hz => av rfl rfl i0), trivial⟩ ?_; intro a1 s2 he hf hz hd1; have ⟨hd, E⟩ := hdE hd1 hd E he; obtain ⟨h0, h1⟩ := va2 he hf h0 h1 rfl; refine wp_sr ?_; refine sq_blk [⟨7, _, []⟩, ⟨8, _, [0]⟩, ⟨5, _, [1]⟩] [2] hz rfl ⟨mvs rfl rfl h0 rfl, (fun a s he hf hz q0 => opw rfl (op_call rfl rfl (cmp_isNaN_int64.ok q0))), avq rfl rfl, trivial⟩ ?_; intro a3 s4 he hf hz hd1 h5; have ⟨hd, E⟩ := hdE hd1 hd E he; obtain ⟨h0, h1⟩ := va2 he hf h0 h1 rfl; refine wp_sr ?_; refine sq_blk [⟨9, _, []⟩, ⟨10, _, [0]⟩, ⟨6, _, [1]⟩] [2] hz rfl ⟨mvs rfl rfl h1 rfl, (fun a s he hf hz q0 => opw rfl (op_call rfl rfl (cmp_isNaN_int64.ok q0))), avq rfl rfl, trivial⟩ ?_; intro a5 s6 he hf hz hd1 h6; have hd := hd1.trans hd; obtain ⟨h0, h1, h5⟩ := va3 he hf h0 h1 h5 rfl
 have E := E.trans he; refine wp_seq ?_; refine wp_sr ?_; refine sq_blk [⟨11, _, []⟩] [0] hz rfl ⟨mvs rfl rfl h5 rfl, trivial⟩ ?_; intro a7 s8 he hf hz hd1 h11; have ⟨hd, E⟩ := hdE hd1 hd E he; obtain ⟨h0, h1, h6⟩ := va3 he hf h0 h1 h6 rfl; refine wp_condV h11 (fun hb => ?_) (fun hb => ?_)
 ·have h := ite_t hb h; refine wp_seq ?_; refine wp_sr ?_; refine sq_blk [⟨12, _, []⟩] [0] hz rfl ⟨mvs rfl rfl h6 rfl, trivial⟩ ?_; intro a9 s10 he hf hz hd1 h12; have ⟨hd, E⟩ := hdE hd1 hd E he; refine wp_condV h12 (fun hb => ?_) (fun hb => ?_)
  ·have h := ite_t hb h; refine wp_sr ?_; refine sq_blk [⟨4, _, []⟩] [0] hz rfl ⟨(fun a s he hf hz => av rfl rfl i0), trivial⟩ ?_; intro a11 s12 he hf hz hd1 h4; have ⟨hd, E⟩ := hdE hd1 hd E he; refine wp_ret ?_; cases h
   exact ⟨hd, _, results_tmp rfl _ _ _, E, h4⟩
  ·have h := ite_f hb h; refine wp_skip ?_; refine wp_sr ?_; refine sq_blk [⟨4, _, []⟩] [0] hz rfl ⟨(fun a s he hf hz => av rfl rfl (lit_i (k := .i64) (n := (-1)) (by decide))), trivial⟩ ?_; intro a13 s14 he hf hz hd1 h4; have ⟨hd, E⟩ := hdE hd1 hd E he; refine wp_ret ?_; cases h
   exact ⟨hd, _, results_tmp rfl _ _ _, E, h4⟩
 ·have h := ite_f hb h; refine wp_skip ?_; refine wp_seq ?_; refine wp_sr ?_; refine sq_blk [⟨13, _, []⟩] [0] hz rfl ⟨mvs rfl rfl h6 rfl, trivial⟩ ?_; intro a15 s16 he hf hz hd1 h13; have ⟨hd, E⟩ := hdE hd1 hd E he; obtain ⟨h0, h1⟩ := va2 he hf h0 h1 rfl; refine wp_condV h13 (fun hb => ?_) (fun hb => ?_)
  ·have h := ite_t hb h; refine wp_sr ?_; refine sq_blk [⟨4, _, []⟩] [0] hz rfl ⟨(fun a s he hf hz => av rfl rfl i1), trivial⟩ ?_; intro a17 s18 he hf hz hd1 h4; have ⟨hd, E⟩ := hdE hd1 hd E he; refine wp_ret ?_; cases h
   exact ⟨hd, _, results_tmp rfl _ _ _, E, h4⟩
  ·have h := ite_f hb h; refine wp_skip ?_; refine wp_seq ?_; refine wp_sr ?_; refine sq_blk [⟨14, _, []⟩, ⟨15, _, []⟩, ⟨16, _, [0, 1]⟩] [2] hz rfl ⟨mvs rfl rfl h0 rfl, mvs rfl rfl h1 rfl, (fun a s he hf hz q0 q1 => ls rfl rfl q0 q1), trivial⟩ ?_; intro a19 s20 he hf hz hd1 h16; have ⟨hd, E⟩ := hdE hd1 hd E he; obtain ⟨h0, h1⟩ := va2 he hf h0 h1 rfl; refine wp_condV h16 (fun hb => ?_) (fun hb => ?_)
   ·have h := ite_t hb h; refine wp_sr ?_; refine sq_blk [⟨4, _, []⟩] [0] hz rfl ⟨(fun a s he hf hz => av rfl rfl (lit_i (k := .i64) (n := (-1)) (by decide))), trivial⟩ ?_; intro a21 s22 he hf hz hd1 h4; have ⟨hd, E⟩ := hdE hd1 hd E he; refine wp_ret ?_; cases h
    exact ⟨hd, _, results_tmp rfl _ _ _, E, h4⟩
   ·have h := ite_f hb h; refine wp_skip ?_; refine wp_seq ?_; refine wp_sr ?_; refine sq_blk [⟨17, _, []⟩, ⟨18, _, []⟩, ⟨19, _, [0, 1]⟩] [2] hz rfl ⟨mvs rfl rfl h0 rfl, mvs rfl rfl h1 rfl, (fun a s he hf hz q0 q1 => gt_ rfl rfl q0 q1), trivial⟩ ?_; intro a23 s24 he hf hz hd1 h19; have ⟨hd, E⟩ := hdE hd1 hd E he; refine wp_condV h19 (fun hb => ?_) (fun hb => ?_)
    ·have h := ite_t hb h; refine wp_sr ?_; refine sq_blk [⟨4, _, []⟩] [0] hz rfl ⟨(fun a s he hf hz => av rfl rfl i1), trivial⟩ ?_; intro a25 s26 he hf hz hd1 h4; have ⟨hd, E⟩ := hdE hd1 hd E he; refine wp_ret ?_; cases h
     exact ⟨hd, _, results_tmp rfl _ _ _, E, h4⟩
    ·have h := ite_f hb h; refine wp_skip ?_; refine wp_sr ?_; refine sq_blk [⟨4, _, []⟩] [0] hz rfl ⟨(fun a s he hf hz => av rfl rfl i0), trivial⟩ ?_; intro a27 s28 he hf hz hd1 h4; have ⟨hd, E⟩ := hdE hd1 hd E he; refine wp_ret ?_; cases h
     exact ⟨hd, _, results_tmp rfl _ _ _, E, h4⟩
def cmp_Or_int.l0 : Nat → (List Int) → Int → Option (Int)
 | 0, _, _ => none
 | m10 + 1, x0, y9 => (if decide (y9 < (x0.length : Int)) = true then (if (0 ≤ y9 ∧ y9 < (x0.length : Int)) then (if (!decide ((List.getD x0 (y9).toNat default) = 0)) = true then (some (List.getD x0 (y9).toNat default)) else (cmp_Or_int.l0 m10 x0 (IntKind.wrap .i64 (y9 + 1)))) else none) else (some 0))
def cmp_Or_int.f (k : Nat) (x0 : (List Int)) : Option (Int) := (cmp_Or_int.l0 k x0 0)
theorem cmp_Or_int.ok {s0 : St} {v0 : Value} {x0 : (List Int)} {k : Nat} {r : Int} (k0 : (kSl (kI .i64)).V s0 v0 x0) (h : cmp_Or_int.f k x0 = some r) : Cl Try.prog 126 #[v0] s0 (Okf s0 (Fact.v (kI .i64) r)) := by
 unfold cmp_Or_int.f at h
 refine cl_of_wp Try.func126 rfl en_126 fun a hz hd hp => ?_; have hz : a.tmps.size = 18 := hz; have E := Chg.refl (fun _ => False) s0; have h0 := V_at k0 E (hp 0 v0 rfl); refine wp_sr ?_; refine sq_blk [⟨2, _, []⟩] [] hz rfl ⟨(fun a s he hf hz => av rfl rfl i0), trivial⟩ ?_; intro a1 s2 he hf hz hd1; have ⟨hd, E⟩ := hdE hd1 hd E he; have h0 := V_at h0 he (hf 0 rfl); refine wp_sr ?_; refine sq_blk [⟨3, _, []⟩] [0] hz rfl ⟨(fun a s he hf hz => av rfl rfl i0), trivial⟩ ?_; intro a3 s4 he hf hz hd1 h3; have ⟨hd, E⟩ := hdE hd1 hd E he; have h0 := V_at h0 he (hf 0 rfl); refine wp_seq ?_; refine wp_sr ?_; refine sq_blk [⟨6, _, []⟩, ⟨7, _, [0]⟩, ⟨8, _, []⟩] [0, 1, 2] hz rfl ⟨mvs rfl rfl h0 rfl, (fun a s he hf hz q0 => le_ rfl rfl u_175 q0), (fun a s he hf hz => mv rfl rfl i0), trivial⟩ ?_; intro a5 s6 he hf hz hd1 h6 h7 h8; have ⟨hd, E⟩ := hdE hd1 hd E he; have h3 := V_at h3 he (hf 3 rfl); refine wp_block ?_
 refine wp_loop (k := k) (fun m10 a s => ∃ (y9 : Int), cmp_Or_int.l0 m10 x0 y9 = some r ∧ m10 ≤ k ∧ Ext s0 s ∧ a.tmps.size = 18 ∧ a.defers = [] ∧ (kI .i64).V s (a.get 3) 0 ∧ (kSl (kI .i64)).V s (a.get 6) x0 ∧ (kI .i64).V s (a.get 7) (x0.length : Int) ∧ (kI .i64).V s (a.get 8) y9) ⟨_, h, Nat.le_refl _, E, hz, hd, h3, h6, h7, h8⟩ ?_; rintro m10 a8 s7 ⟨y9, h, hkm10, E, hz, hd, h3, h6, h7, h8⟩; obtain _ | m10 := m10
 ·cases h
 refine wp_sr ?_; refine sq_blk [⟨9, _, []⟩] [0] hz rfl ⟨(fun a s he hf hz => ls rfl rfl (V_at h8 he (hf 8 rfl)) (V_at h7 he (hf 7 rfl))), trivial⟩ ?_; intro a11 s12 he hf hz hd1 h9; have ⟨hd, E⟩ := hdE hd1 hd E he; obtain ⟨h3, h6, h7, h8⟩ := va4 he hf h3 h6 h7 h8 rfl; refine wp_seq ?_; refine wp_condV h9 (fun hb => ?_) (fun hb => ?_)
 ·have h := ite_t hb h; refine wp_skip ?_; refine wp_seq ?_; refine wp_block ?_; refine wp_sr ?_; obtain ⟨D13, h⟩ := need h; refine sq_blk [⟨10, _, []⟩, ⟨11, _, [0]⟩, ⟨5, _, [1]⟩] [2] hz rfl ⟨(fun a s he hf hz => ia rfl rfl sl_175 (V_at h6 he (hf 6 rfl)) (V_at h8 he (hf 8 rfl)) D13.1 D13.2), (fun a s he hf hz q0 => lp rfl rfl ty_3 (by decide) q0), avq rfl rfl, trivial⟩ ?_; intro a14 s15 he hf hz hd1 h5; have ⟨hd, E⟩ := hdE hd1 hd E he; obtain ⟨h3, h6, h7, h8⟩ := va4 he hf h3 h6 h7 h8 rfl; refine wp_sr ?_; refine sq_blk [⟨12, _, []⟩, ⟨13, _, []⟩, ⟨14, _, [0, 1]⟩] [2] hz rfl ⟨mvs rfl rfl h5 rfl, mvs rfl rfl h3 rfl, (fun a s he hf hz q0 q1 => ne_ rfl rfl q0 q1), trivial⟩ ?_; intro a16 s17 he hf hz hd1 h14; have ⟨hd, E⟩ := hdE hd1 hd E he; obtain ⟨h3, h5, h6, h7, h8⟩ := va5 he hf h3 h5 h6 h7 h8 rfl; refine wp_condV h14 (fun hb => ?_) (fun hb => ?_)
  ·have h := ite_t hb h; refine wp_sr ?_; refine sq_blk [⟨15, _, []⟩, ⟨2, _, [0]⟩] [1] hz rfl ⟨mvs rfl rfl h5 rfl, avq rfl rfl, trivial⟩ ?_; intro a18 s19 he hf hz hd1 h2; have ⟨hd, E⟩ := hdE hd1 hd E he; refine wp_ret ?_; cases h
   exact ⟨hd, _, results_tmp rfl _ _ _, E, h2⟩
  ·have h := ite_f hb h; refine wp_skip ?_; refine wp_region ?_; refine sq_blk [⟨16, _, []⟩] [0] hz rfl ⟨(fun a s he hf hz => ad rfl rfl (V_at h8 he (hf 8 rfl)) i1), trivial⟩ ?_; intro a20 s21 he hf hz hd1 h16; have ⟨hd, E⟩ := hdE hd1 hd E he; obtain ⟨h3, h6, h7⟩ := va3 he hf h3 h6 h7 rfl; refine sq_blk [⟨8, _, []⟩] [0] hz rfl ⟨mvs rfl rfl h16 rfl, trivial⟩ ?_; intro a22 s23 he hf hz hd1 h8; have ⟨hd, E⟩ := hdE hd1 hd E he; obtain ⟨h3, h6, h7⟩ := va3 he hf h3 h6 h7 rfl; exact ⟨_, (by omega : m10 < m10 + 1), _, h, by omega, E, hz, hd, h3, h6, h7, h8⟩
 ·have h := ite_f hb h; refine wp_exit ?_; refine then_exit ?_; refine then_exit ?_; refine inBlock_hit ?_; refine wp_sr ?_; refine sq_blk [⟨17, _, []⟩, ⟨2, _, [0]⟩] [1] hz rfl ⟨mvs rfl rfl h3 rfl, avq rfl rfl, trivial⟩ ?_; intro a24 s25 he hf hz hd1 h2; have ⟨hd, E⟩ := hdE hd1 hd E he; refine wp_ret ?_; cases h
  exact ⟨hd, _, results_tmp rfl _ _ _, E, h2⟩
def orL (l : List Int) : Int := match l with
 | [] => 0
 | a :: l => if a = 0 then orL l else a
theorem cmp_Or_int.nice (x0 : List Int) (b0 : (kSl (kI .i64)).bd x0) : ∃ k, cmp_Or_int.f k x0 = some (orL x0) := by
 have hb : x0.length ≤ maxLen := b0.1
 have hm := maxLen_lt
 have : ∀ y, y ≤ x0.length → ∃ k, cmp_Or_int.l0 k x0 (y : Int) = some (orL (x0.drop y)) := by
  refine rounds x0.length ⟨1, ?_⟩ fun y hy ⟨k, hk⟩ => ?_
  ·simp only [cmp_Or_int.l0, List.drop_length]; simp [orL]
  ·push_cast at hk
   have hr : (0 : Int) ≤ y ∧ (y : Int) < x0.length := ⟨by omega, by omega⟩
   rw [drop_at default hy]
   have hu : ∀ k, cmp_Or_int.l0 (k + 1) x0 (y : Int) = if (!decide (x0.getD y default = 0)) = true then some (x0.getD y default) else cmp_Or_int.l0 k x0 ((y : Int) + 1) := fun k => by
    simp only [cmp_Or_int.l0, Int.toNat_natCast, hr, and_self, decide_true, if_true]
    rw [w64s (by omega)]
   generalize x0.getD y default = d at *
   by_cases e : d = 0
   ·exact ⟨k + 1, by rw [hu]; simp [e, hk, orL]⟩
   ·exact ⟨1, by rw [hu 0]; simp [e, orL]⟩
 obtain ⟨k, hk⟩ := this 0 (Nat.zero_le _)
 exact ⟨k, by unfold cmp_Or_int.f; exact hk⟩
theorem cmp_Or_int.ct {s0 : St} {v0 : Value} {x0 : (List Int)} (k0 : (kSl (kI .i64)).V s0 v0 x0) : Cl Try.prog 126 #[v0] s0 (Okf s0 (Fact.v (kI .i64) (orL x0))) := by
 obtain ⟨k, h⟩ := cmp_Or_int.nice x0 (Kn.V_bd k0)
 exact cmp_Or_int.ok k0 h
def order_stands (x0 : Dot) (x1 : Dot) : Int := (orL ([(strings_Compare x0.who x1.who), (cmp_Compare_int64 x0.n x1.n)] : List Int))
theorem order_stands.ok {s0 : St} {v0 : Value} {x0 : Dot} {v1 : Value} {x1 : Dot} (k0 : kDot.V s0 v0 x0) (k1 : kDot.V s0 v1 x1) : Cl Try.prog 96 #[v0, v1] s0 (Okf s0 (Fact.v (kI .i64) (order_stands x0 x1))) := by
 obtain ⟨r, h⟩ : ∃ r, some (order_stands x0 x1) = some r := ⟨_, rfl⟩
 rw [Option.some.inj h]
 have h : (some (orL ([(strings_Compare x0.who x1.who), (cmp_Compare_int64 x0.n x1.n)] : List Int))) = some r := by rw [← h]; unfold order_stands; first | rfl | simp only [apply_ite some] | (repeat' (first | rfl | split))
 refine cl_of_wp Try.func96 rfl en_96 fun a hz hd hp => ?_; have hz : a.tmps.size = 17 := hz; have E := Chg.refl (fun _ => False) s0; have h0 := V_at k0 E (hp 0 v0 rfl); have h1 := V_at k1 E (hp 1 v1 rfl); refine wp_sr ?_; refine sq_set hz rfl rfl rfl (op_boxn rfl rfl h0 (fun s2 e4 he BB3 r5 => fun a1 h2 hf hz hd1 => ?_)); obtain ⟨b10, hb10⟩ : ∃ b, b = s0.w.heap.size := ⟨_, rfl⟩; rw [← hb10] at BB3 h2; have B10 := BB3; have l10 : s0.w.heap.size ≤ b10 := by have := E.size; omega
 have ⟨hd, E⟩ := hdE hd1 hd E he; have h1 := V_at h1 he (hf 1 rfl); obtain ⟨u6, u7, rfl, c8, c9⟩ := kDot_open r5; refine sq_set hz rfl rfl rfl (op_boxn rfl rfl h1 (fun s12 e14 he BB13 r15 => fun a11 h3 hf hz hd1 => ?_)); obtain ⟨b20, hb20⟩ : ∃ b, b = s2.w.heap.size := ⟨_, rfl⟩; rw [← hb20] at BB13 h3; have B20 := BB13; have l20 : s0.w.heap.size ≤ b20 := by have := E.size; omega
 have ⟨hd, E⟩ := hdE hd1 hd E he; have h2 := (hf 2 rfl).trans h2; have B10 := B10.ext he; obtain ⟨c8, c9⟩ := vm2 he c8 c9; obtain ⟨u16, u17, rfl, c18, c19⟩ := kDot_open r15; refine sq_blk [⟨4, _, []⟩] [] hz rfl ⟨(fun a s he hf hz => av rfl rfl i0), trivial⟩ ?_; intro a21 s22 he hf hz hd1; have ⟨hd, E⟩ := hdE hd1 hd E he; obtain ⟨h2, h3⟩ := ea2 hf h2 h3 rfl; obtain ⟨B10, B20⟩ := bx2 he B10 B20; obtain ⟨c8, c9, c18, c19⟩ := vm4 he c8 c9 c18 c19; refine wp_seq ?_; refine wp_draw [⟨5, _, []⟩, ⟨6, _, [0]⟩, ⟨7, _, []⟩, ⟨8, _, [2]⟩, ⟨9, _, [1, 3]⟩, ⟨10, _, []⟩, ⟨11, _, [5]⟩, ⟨12, _, []⟩, ⟨13, _, [7]⟩, ⟨14, _, [6, 8]⟩, ⟨15, _, [4, 9]⟩, ⟨16, _, [10]⟩, ⟨4, _, [11]⟩] [12] mo hz (by kernel_rfl) ⟨(fun a s he hf hz => fb rfl rfl fa_70_0 ((hf 2 rfl).trans h2)), (fun a s he hf hz q0 => lo rfl rfl ty_9 q0 (B10.ext he) rfl (vm he c8)), (fun a s he hf hz => fb rfl rfl fa_70_0 ((hf 3 rfl).trans h3)), (fun a s he hf hz q2 => lo rfl rfl ty_9 q2 (B20.ext he) rfl (vm he c18)), (fun a s he hf hz q1 q3 => opw rfl (op_call rfl rfl (strings_Compare.ok q1 q3))), (fun a s he hf hz => fb rfl rfl fa_70_1 ((hf 2 rfl).trans h2)), (fun a s he hf hz q5 => lo rfl rfl ty_2 q5 (B10.ext he) rfl (vm he c9)), (fun a s he hf hz => fb rfl rfl fa_70_1 ((hf 3 rfl).trans h3)), (fun a s he hf hz q7 => lo rfl rfl ty_2 q7 (B20.ext he) rfl (vm he c19)), (fun a s he hf hz q6 q8 => opw rfl (op_call rfl rfl (cmp_Compare_int64.ok q6 q8))), (fun a s he hf hz q4 q9 => opw rfl (op_lit_v (d := (kI .i64)) rfl lt_175 (zc := [.int .i64 0, .int .i64 0]) (by kernel_rfl) (ps := [(0, [(a.get 9)]), (1, [(a.get 14)])]) ⟨rfl, V_cells1 (s := s) rfl q4, rfl, V_cells1 (s := s) rfl q9, trivial⟩ rfl (by decide) (ys := ([(strings_Compare x0.who x1.who), (cmp_Compare_int64 x0.n x1.n)] : List Int)) rfl (by decide) rfl (lit_rows2 (V_one rfl q4) (V_one rfl q9)))), (fun a s he hf hz q10 => opw rfl (op_call rfl rfl (cmp_Or_int.ct q10))), avq rfl rfl, trivial⟩ ?_
 intro a23 s24 he hf hz hd1 h4; have ⟨hd, E⟩ := hdE hd1 hd E he; refine wp_ret ?_; cases h
 exact ⟨hd, _, results_tmp rfl _ _ _, E, h4⟩
theorem stands_eq (a b : Dot) : decide (0 ≤ order_stands a b) = !ref08_ahead a b := by
 have hi : cmp_Compare_int64 a.n b.n = if a.n < b.n then -1 else if b.n < a.n then 1 else 0 := by
  simp [cmp_Compare_int64, cmp_isNaN_int64]
 have hs : strings_Compare a.who b.who = Lib.compareBytes a.who b.who := rfl
 have hv : order_stands a b = if Lib.compareBytes a.who b.who = 0 then (if a.n < b.n then -1 else if b.n < a.n then 1 else 0) else Lib.compareBytes a.who b.who := by
  unfold order_stands
  rw [hi, hs]
  simp only [orL]
  have : ∀ c : Int, (if c = 0 then 0 else c) = c := fun c => by split <;> omega
  rw [this]
 rw [hv]
 unfold ref08_ahead
 by_cases e : a.who = b.who
 ·rw [(cmp_eq _ _).2 e, e, sLt_irrefl]
  by_cases h1 : a.n < b.n
  ·simp [h1]
  ·by_cases h2 : b.n < a.n <;> simp [h1, h2]
 ·have h0 : ¬ Lib.compareBytes a.who b.who = 0 := fun h => e ((cmp_eq _ _).1 h)
  rw [if_neg h0]
  cases h : sLt a.who b.who
  ·have : ¬ Lib.compareBytes a.who b.who < 0 := fun h' => by rw [(cmp_lt _ _).1 h'] at h; cases h
   simp [e]; omega
  ·have := (cmp_lt _ _).2 h
   simp; omega
def seenP (v : List Dot) (p : Dot) : List Dot → Bool
 | [] => true
 | d :: l => hasV v d && ref08_ahead p d && seenP v d l
def seenV (v : List Dot) : List Dot → Bool
 | [] => true
 | d :: l => hasV v d && seenP v d l
def kindOk (o : Op) : Bool := if o.kind = 1 then decide (1 ≤ o.qty) && decide (o.qty ≤ 9999) && decide (o.seen.length = 0) else if o.kind = 2 then decide (1 ≤ o.qty) && decide (o.qty ≤ 9999) else decide (o.kind = 3) && decide (o.qty = 0)
def textOk (x : Str) : Bool := decide (1 ≤ x.length) && decide (x.length ≤ 32)
def rightO (o : Op) : Bool := vector_isDot o.dot && rightV o.deps && decide (at_ o.deps o.dot.who = o.dot.n - 1) && textOk o.cart && textOk o.item && decide (o.seen.length ≤ 128) && seenV o.deps o.seen && kindOk o
theorem rightV_one (d : Dot) : rightV [d] = vector_isDot d := by simp [rightV, chainV, chainP]
theorem isText_eq (x : Str) : order_isText x = textOk x := by
 unfold order_isText textOk
 cases x with
 | nil => rfl
 | cons c l =>
  have h1 : decide (1 ≤ (c :: l).length) = true := by simp
  have h2 : decide (((c :: l).length : Int) ≤ 32) = decide ((c :: l).length ≤ 32) := by rw [decide_eq_decide]; omega
  rw [h1, h2]; simp
def order_Right.l0 : Nat → Op → Int → Option (Bool)
 | 0, _, _ => none
 | m43 + 1, x0, y42 => (if decide (y42 < (x0.seen.length : Int)) = true then (if (0 ≤ y42 ∧ y42 < (x0.seen.length : Int)) then (if (((!(hasV x0.deps (List.getD x0.seen (y42).toNat default))) = false ∧ (decide (0 < y42)) = true) → (0 ≤ (IntKind.wrap .i64 (y42 - 1)) ∧ (IntKind.wrap .i64 (y42 - 1)) < (x0.seen.length : Int))) then (if ((!(hasV x0.deps (List.getD x0.seen (y42).toNat default))) || ((decide (0 < y42)) && (decide (0 ≤ (order_stands (List.getD x0.seen (IntKind.wrap .i64 (y42 - 1)).toNat default) (List.getD x0.seen (y42).toNat default)))))) = true then (some false) else (order_Right.l0 m43 x0 (IntKind.wrap .i64 (y42 + 1)))) else none) else none) else (if decide (x0.kind = 1) = true then (some (((decide ((x0.seen.length : Int) = 0)) && (decide (1 ≤ x0.qty))) && (decide (x0.qty ≤ 9999)))) else (if decide (x0.kind = 2) = true then (some ((decide (1 ≤ x0.qty)) && (decide (x0.qty ≤ 9999)))) else (some ((decide (x0.kind = 3)) && (decide (x0.qty = 0)))))))
def order_Right.f (k : Nat) (x0 : Op) : Option (Bool) := (if ((((((!(rightV ([x0.dot] : List Dot))) || (!(rightV x0.deps))) || (!decide ((at_ x0.deps x0.dot.who) = (IntKind.wrap .i64 (x0.dot.n - 1))))) || (!(order_isText x0.cart))) || (!(order_isText x0.item))) || (decide (128 < (x0.seen.length : Int)))) = true then (some false) else (order_Right.l0 k x0 0))
theorem order_Right.ok {s0 : St} {v0 : Value} {x0 : Op} {k : Nat} {r : Bool} (k0 : kOp.V s0 v0 x0) (h : order_Right.f k x0 = some r) : Cl Try.prog 47 #[v0] s0 (Okf s0 (Fact.v kB r)) := by
 unfold order_Right.f at h
 refine cl_of_wp Try.func47 rfl en_47 fun a hz hd hp => ?_; have hz : a.tmps.size = 114 := hz; have E := Chg.refl (fun _ => False) s0; have h0 := V_at k0 E (hp 0 v0 rfl); refine wp_sr ?_; refine sq_set hz rfl rfl rfl (op_boxn rfl rfl h0 (fun s2 e4 he BB3 r5 => fun a1 h1 hf hz hd1 => ?_)); obtain ⟨b22, hb22⟩ : ∃ b, b = s0.w.heap.size := ⟨_, rfl⟩; rw [← hb22] at BB3 h1; have B22 := BB3; have l22 : s0.w.heap.size ≤ b22 := by have := E.size; omega
 have ⟨hd, E⟩ := hdE hd1 hd E he; obtain ⟨u6, u7, u8, u9, u10, u11, u12, u13, rfl, c14, c15, c16, c17, c18, c19, c20, c21⟩ := kOp_open r5; refine sq_blk [⟨2, _, []⟩] [] hz rfl ⟨(fun a s he hf hz => av rfl rfl b_f), trivial⟩ ?_; intro a23 s24 he hf hz hd1; have ⟨hd, E⟩ := hdE hd1 hd E he; have h1 := (hf 1 rfl).trans h1; have B22 := B22.ext he; obtain ⟨c14, c15, c16, c17, c18, c19, c20, c21⟩ := vm8 he c14 c15 c16 c17 c18 c19 c20 c21; refine wp_sr ?_; refine sq_blk [⟨6, _, []⟩, ⟨7, _, [0]⟩, ⟨8, _, [1]⟩, ⟨3, _, [2]⟩] [3] hz rfl ⟨(fun a s he hf hz => fb rfl rfl fa_72_0 ((hf 1 rfl).trans h1)), (fun a s he hf hz q0 => ld rfl rfl ty_70 rfl q0 (B22.ext he) rfl (kDot_eta (x := x0.dot) (vm he c14) (vm he c15))), (fun a s he hf hz q1 => opw rfl ((by obtain ⟨e25, w27, r26⟩ := V_open rfl q1; obtain ⟨u28, u29, rfl, c30, c31⟩ := kDot_open r26; exact op_lit_v (d := kDot) rfl lt_32 (zc := [.string ⟨#[]⟩, .int .i64 0]) (by kernel_rfl) (ps := [(0, [u28, u29])]) ⟨rfl, congrArg Value.cells w27, trivial⟩ rfl (by decide) (ys := ([x0.dot] : List Dot)) rfl (by decide) rfl (lit_rows1 (show kDot.R _ [u28, u29] x0.dot from kDot_close c30 c31))))), (fun a s he hf hz q2 => av rfl rfl q2), trivial⟩ ?_
 intro a32 s33 he hf hz hd1 h3; have ⟨hd, E⟩ := hdE hd1 hd E he; have h1 := (hf 1 rfl).trans h1; have B22 := B22.ext he; obtain ⟨c14, c15, c16, c17, c18, c19, c20, c21⟩ := vm8 he c14 c15 c16 c17 c18 c19 c20 c21; refine wp_seq ?_; refine wp_seq ?_; have hz0 := hz; refine wp_draw (⟨9, _, []⟩ :: ⟨10, _, [0]⟩ :: ⟨11, _, [1]⟩ :: ⟨12, _, [2]⟩ :: ⟨13, _, [3]⟩ :: ⟨14, _, [3, 4]⟩ :: ⟨15, _, [3, 5]⟩ :: ⟨16, _, [3, 6]⟩ :: ⟨17, _, [3, 7]⟩ :: ⟨18, _, [8]⟩ :: ⟨19, _, [9]⟩ :: ⟨20, _, [9, 10]⟩ :: ⟨21, _, [9]⟩ :: ⟨22, _, [9, 12]⟩ :: ⟨23, _, [9, 13]⟩ :: ⟨24, _, [9, 11, 14]⟩ :: ⟨25, _, [9]⟩ :: ⟨26, _, [9, 16]⟩ :: ⟨27, _, [9, 17]⟩ :: ⟨28, _, [9, 18]⟩ :: ⟨29, _, [9, 15, 19]⟩ :: ⟨30, _, [9, 20]⟩ :: ⟨31, _, [21]⟩ :: ⟨32, _, [22]⟩ :: ⟨33, _, [22, 23]⟩ :: ⟨34, _, [22, 24]⟩ :: ⟨35, _, [22, 25]⟩ :: ⟨36, _, [22, 26]⟩ :: ⟨37, _, [27]⟩ :: ⟨38, _, [28]⟩ :: ⟨39, _, [28, 29]⟩ :: ⟨40, _, [28, 30]⟩ :: ⟨41, _, [28, 31]⟩ :: ⟨42, _, [28, 32]⟩ :: ⟨43, _, [33]⟩ :: ⟨44, _, [34]⟩ :: ⟨45, _, [34, 35]⟩ :: ⟨46, _, [34, 36]⟩ :: ⟨47, _, [34, 37]⟩ :: ⟨48, _, [34, 38]⟩ :: []) [39] mo hz (by kernel_rfl) ⟨mvs rfl rfl h3 rfl, (fun a s he hf hz q0 => opw rfl (op_call rfl rfl (vector_Right.ct q0))), (fun a s he hf hz q1 => no_ rfl rfl q1), mvq rfl rfl, (fun a s he hf hz q3 => og rfl rfl rfl hz hz0 rfl q3 (fun g => op_faddr_b rfl fa_72_1 ((hf 1 rfl).trans h1))), (fun a s he hf hz q3 q4 => og rfl rfl rfl hz hz0 rfl q3 (fun g => op_load1 rfl ty_32 (q4.1 g) (B22.ext he) rfl (vm he c16))), (fun a s he hf hz q3 q5 => og rfl rfl rfl hz hz0 rfl q3 (fun g => op_call rfl rfl (vector_Right.ct (q5.1 g)))), (fun a s he hf hz q3 q6 => og rfl rfl rfl hz hz0 rfl q3 (fun g => op_not rfl (q6.1 g))), (fun a s he hf hz q3 q7 => oe rfl rfl q3 (q7.1)), mvq rfl rfl, (fun a s he hf hz q9 => og rfl rfl rfl hz hz0 rfl q9 (fun g => op_faddr_b rfl fa_72_1 ((hf 1 rfl).trans h1))), (fun a s he hf hz q9 q10 => og rfl rfl rfl hz hz0 rfl q9 (fun g => op_load1 rfl ty_32 (q10.1 g) (B22.ext he) rfl (vm he c16))), (fun a s he hf hz q9 => og rfl rfl rfl hz hz0 rfl q9 (fun g => op_faddr_b rfl fa_72_0 ((hf 1 rfl).trans h1))), (fun a s he hf hz q9 q12 => og rfl rfl rfl hz hz0 rfl q9 (fun g => op_faddr_b rfl fa_70_0 (q12.1 g))), (fun a s he hf hz q9 q13 => og rfl rfl rfl hz hz0 rfl q9 (fun g => op_load1 rfl ty_9 (q13.1 g) (B22.ext he) rfl (vm he c14))), (fun a s he hf hz q9 q11 q14 => og rfl rfl rfl hz hz0 rfl q9 (fun g => op_call rfl rfl (vector_At.ct (q11.1 g) (q14.1 g)))), (fun a s he hf hz q9 => og rfl rfl rfl hz hz0 rfl q9 (fun g => op_faddr_b rfl fa_72_0 ((hf 1 rfl).trans h1))), (fun a s he hf hz q9 q16 => og rfl rfl rfl hz hz0 rfl q9 (fun g => op_faddr_b rfl fa_70_1 (q16.1 g))), (fun a s he hf hz q9 q17 => og rfl rfl rfl hz hz0 rfl q9 (fun g => op_load1 rfl ty_2 (q17.1 g) (B22.ext he) rfl (vm he c15))), (fun a s he hf hz q9 q18 => og rfl rfl rfl hz hz0 rfl q9 (fun g => op_sub rfl (q18.1 g) i1)), (fun a s he hf hz q9 q15 q19 => og rfl rfl rfl hz hz0 rfl q9 (fun g => op_neq rfl (q15.1 g) (q19.1 g))), (fun a s he hf hz q9 q20 => oe rfl rfl q9 (q20.1)), mvq rfl rfl, (fun a s he hf hz q22 => og rfl rfl rfl hz hz0 rfl q22 (fun g => op_faddr_b rfl fa_72_2 ((hf 1 rfl).trans h1))), (fun a s he hf hz q22 q23 => og rfl rfl rfl hz hz0 rfl q22 (fun g => op_load1 rfl ty_9 (q23.1 g) (B22.ext he) rfl (vm he c17))), (fun a s he hf hz q22 q24 => og rfl rfl rfl hz hz0 rfl q22 (fun g => op_call rfl rfl (order_isText.ok (q24.1 g)))), (fun a s he hf hz q22 q25 => og rfl rfl rfl hz hz0 rfl q22 (fun g => op_not rfl (q25.1 g))), (fun a s he hf hz q22 q26 => oe rfl rfl q22 (q26.1)), mvq rfl rfl, (fun a s he hf hz q28 => og rfl rfl rfl hz hz0 rfl q28 (fun g => op_faddr_b rfl fa_72_4 ((hf 1 rfl).trans h1))), (fun a s he hf hz q28 q29 => og rfl rfl rfl hz hz0 rfl q28 (fun g => op_load1 rfl ty_9 (q29.1 g) (B22.ext he) rfl (vm he c19))), (fun a s he hf hz q28 q30 => og rfl rfl rfl hz hz0 rfl q28 (fun g => op_call rfl rfl (order_isText.ok (q30.1 g)))), (fun a s he hf hz q28 q31 => og rfl rfl rfl hz hz0 rfl q28 (fun g => op_not rfl (q31.1 g))), (fun a s he hf hz q28 q32 => oe rfl rfl q28 (q32.1)), mvq rfl rfl, (fun a s he hf hz q34 => og rfl rfl rfl hz hz0 rfl q34 (fun g => op_faddr_b rfl fa_72_6 ((hf 1 rfl).trans h1))), (fun a s he hf hz q34 q35 => og rfl rfl rfl hz hz0 rfl q34 (fun g => op_load1 rfl ty_32 (q35.1 g) (B22.ext he) rfl (vm he c21))), (fun a s he hf hz q34 q36 => og rfl rfl rfl hz hz0 rfl q34 (fun g => op_len rfl u_32 (q36.1 g))), (fun a s he hf hz q34 q37 => og rfl rfl rfl hz hz0 rfl q34 (fun g => op_gtr rfl (q37.1 g) (lit_i (k := .i64) (n := 128) (by decide)))), (fun a s he hf hz q34 q38 => oe rfl rfl q34 (q38.1)), trivial⟩ ?_
 intro a34 s35 he hf hz hd1 h48; have ⟨hd, E⟩ := hdE hd1 hd E he; have h1 := (hf 1 rfl).trans h1; have B22 := B22.ext he; obtain ⟨c14, c15, c16, c17, c18, c19, c20, c21⟩ := vm8 he c14 c15 c16 c17 c18 c19 c20 c21; refine wp_condV h48 (fun hb => ?_) (fun hb => ?_)
 ·have h := ite_t hb h; refine wp_sr ?_; refine sq_blk [⟨2, _, []⟩] [0] hz rfl ⟨(fun a s he hf hz => av rfl rfl b_f), trivial⟩ ?_; intro a36 s37 he hf hz hd1 h2; have ⟨hd, E⟩ := hdE hd1 hd E he; refine wp_ret ?_; cases h
  exact ⟨hd, _, results_tmp rfl _ _ _, E, h2⟩
 ·have h := ite_f hb h; refine wp_skip ?_; refine wp_seq ?_; refine wp_sr ?_; refine sq_blk [⟨49, _, []⟩, ⟨50, _, [0]⟩, ⟨51, _, [1]⟩, ⟨52, _, []⟩] [1, 2, 3] hz rfl ⟨(fun a s he hf hz => fb rfl rfl fa_72_6 ((hf 1 rfl).trans h1)), (fun a s he hf hz q0 => lo rfl rfl ty_32 q0 (B22.ext he) rfl (vm he c21)), (fun a s he hf hz q1 => le_ rfl rfl u_32 q1), (fun a s he hf hz => mv rfl rfl i0), trivial⟩ ?_; intro a38 s39 he hf hz hd1 h50 h51 h52; have ⟨hd, E⟩ := hdE hd1 hd E he; have h1 := (hf 1 rfl).trans h1; have B22 := B22.ext he; obtain ⟨c14, c15, c16, c17, c18, c19, c20, c21⟩ := vm8 he c14 c15 c16 c17 c18 c19 c20 c21; refine wp_block ?_
  refine wp_loop (k := k) (fun m43 a s => ∃ (y42 : Int), order_Right.l0 m43 x0 y42 = some r ∧ m43 ≤ k ∧ Ext s0 s ∧ a.tmps.size = 114 ∧ a.defers = [] ∧ a.get 1 = .pointer (some ⟨b22, 0, none⟩) ∧ (kSl kDot).V s (a.get 50) x0.seen ∧ (kI .i64).V s (a.get 51) (x0.seen.length : Int) ∧ (kI .i64).V s (a.get 52) y42 ∧ Bx s b22 72 [u6, u7, u8, u9, u10, u11, u12, u13] ∧ kS.V s u6 x0.dot.who ∧ (kI .i64).V s u7 x0.dot.n ∧ (kSl kDot).V s u8 x0.deps ∧ kS.V s u9 x0.cart ∧ (kI .i64).V s u10 x0.kind ∧ kS.V s u11 x0.item ∧ (kI .i64).V s u12 x0.qty ∧ (kSl kDot).V s u13 x0.seen) ⟨_, h, Nat.le_refl _, E, hz, hd, h1, h50, h51, h52, B22, c14, c15, c16, c17, c18, c19, c20, c21⟩ ?_; rintro m43 a41 s40 ⟨y42, h, hkm43, E, hz, hd, h1, h50, h51, h52, B22, c14, c15, c16, c17, c18, c19, c20, c21⟩; obtain _ | m43 := m43
  ·cases h
  refine wp_sr ?_; refine sq_blk [⟨53, _, []⟩] [0] hz rfl ⟨(fun a s he hf hz => ls rfl rfl (V_at h52 he (hf 52 rfl)) (V_at h51 he (hf 51 rfl))), trivial⟩ ?_; intro a44 s45 he hf hz hd1 h53; have ⟨hd, E⟩ := hdE hd1 hd E he; obtain ⟨h50, h51, h52⟩ := va3 he hf h50 h51 h52 rfl; have h1 := (hf 1 rfl).trans h1; have B22 := B22.ext he; obtain ⟨c14, c15, c16, c17, c18, c19, c20, c21⟩ := vm8 he c14 c15 c16 c17 c18 c19 c20 c21; refine wp_seq ?_; refine wp_condV h53 (fun hb => ?_) (fun hb => ?_)
  ·have h := ite_t hb h; refine wp_skip ?_; refine wp_seq ?_; refine wp_block ?_; refine wp_sr ?_; obtain ⟨D46, h⟩ := need h; refine sq_blk [⟨54, _, []⟩, ⟨55, _, []⟩, ⟨56, _, [1]⟩] [0, 2] hz rfl ⟨mvs rfl rfl h52 rfl, (fun a s he hf hz => ia rfl rfl sl_32 (V_at h50 he (hf 50 rfl)) (V_at h52 he (hf 52 rfl)) D46.1 D46.2), (fun a s he hf hz q1 => lp rfl rfl ty_70 (by decide) q1), trivial⟩ ?_; intro a47 s48 he hf hz hd1 h54 h56; have ⟨hd, E⟩ := hdE hd1 hd E he; obtain ⟨h50, h51, h52⟩ := va3 he hf h50 h51 h52 rfl; have h1 := (hf 1 rfl).trans h1; have B22 := B22.ext he; obtain ⟨c14, c15, c16, c17, c18, c19, c20, c21⟩ := vm8 he c14 c15 c16 c17 c18 c19 c20 c21; refine sq_set hz rfl rfl rfl (op_alloc (cs := [.string ⟨#[]⟩, .int .i64 0]) rfl zv_70 rfl (fun s50 he BB51 => fun a49 h5 hf hz hd1 => ?_)); obtain ⟨b54, hb54⟩ : ∃ b, b = s48.w.heap.size := ⟨_, rfl⟩; rw [← hb54] at BB51 h5; have B54 := BB51; have l54 : s0.w.heap.size ≤ b54 := by have := E.size; omega
   have n54_22 : b54 ≠ b22 := by have := B22.lt; omega
   have ⟨hd, E⟩ := hdE hd1 hd E he; obtain ⟨h50, h51, h52, h54, h56⟩ := va5 he hf h50 h51 h52 h54 h56 rfl; have h1 := (hf 1 rfl).trans h1; have B22 := B22.ext he; obtain ⟨c14, c15, c16, c17, c18, c19, c20, c21⟩ := vm8 he c14 c15 c16 c17 c18 c19 c20 c21; have c52 : kS.V s50 (.string ⟨#[]⟩) ([] : Str) := s_0; have c53 : (kI .i64).V s50 (.int .i64 0) 0 := i0; refine sq_blk [⟨4, _, []⟩] [0] hz rfl ⟨avs rfl rfl h54 rfl, trivial⟩ ?_; intro a55 s56 he hf hz hd1 h4; have ⟨hd, E⟩ := hdE hd1 hd E he; obtain ⟨h50, h51, h52, h56⟩ := va4 he hf h50 h51 h52 h56 rfl; obtain ⟨h1, h5⟩ := ea2 hf h1 h5 rfl; obtain ⟨B22, B54⟩ := bx2 he B22 B54; obtain ⟨c14, c15, c16, c17, c18, c19, c20, c21⟩ := vm8 he c14 c15 c16 c17 c18 c19 c20 c21; refine sq_do rfl rfl (op_storen rfl ty_70 rfl h5 B54 h56 rfl (fun s58 e59 he B54n r60 => ?_)); obtain ⟨h4, h50, h51, h52⟩ := vm4 he h4 h50 h51 h52; have B22 := B22.chg he (fun e => (Ne.symm n54_22) e); obtain ⟨c14, c15, c16, c17, c18, c19, c20, c21⟩ := vm8 he c14 c15 c16 c17 c18 c19 c20 c21
   have E := Chg.chg E he (fun b e h => (fun e => absurd h (by cases e; exact Nat.not_lt.2 l54)) e); obtain ⟨u61, u62, rfl, c63, c64⟩ := kDot_open r60; have B54 : Bx s58 b54 70 [u61, u62] := B54n; refine wp_seq ?_; obtain ⟨D65, h⟩ := need h; have hz0 := hz; refine wp_draw [⟨57, _, []⟩, ⟨58, _, [0]⟩, ⟨59, _, []⟩, ⟨60, _, [1, 2]⟩, ⟨61, _, [3]⟩, ⟨62, _, [4]⟩, ⟨63, _, [5]⟩, ⟨64, _, [5, 6]⟩, ⟨65, _, [5, 7]⟩, ⟨66, _, [8]⟩, ⟨67, _, [8, 9]⟩, ⟨68, _, [8]⟩, ⟨69, _, [8, 11]⟩, ⟨70, _, [8, 10, 12]⟩, ⟨71, _, [8, 13]⟩, ⟨72, _, [8]⟩, ⟨73, _, [8, 14, 15]⟩, ⟨74, _, [8, 16]⟩, ⟨75, _, [5, 8, 17]⟩, ⟨76, _, [5, 18]⟩] [19] mo hz (by kernel_rfl) ⟨(fun a s he hf hz => fb rfl rfl fa_72_1 ((hf 1 rfl).trans h1)), (fun a s he hf hz q0 => lo rfl rfl ty_32 q0 (B22.ext he) rfl (vm he c16)), (fun a s he hf hz => ld rfl rfl ty_70 rfl ((hf 5 rfl).trans h5) (B54.ext he) rfl (kDot_eta (x := (List.getD x0.seen (y42).toNat default)) (vm he c63) (vm he c64))), (fun a s he hf hz q1 q2 => opw rfl (op_call rfl rfl (vector_Has.ct q1 q2))), (fun a s he hf hz q3 => no_ rfl rfl q3), mvq rfl rfl, (fun a s he hf hz q5 => og rfl rfl rfl hz hz0 rfl q5 (fun g => op_move_v rfl (V_at h4 he (hf 4 rfl)))), (fun a s he hf hz q5 q6 => og rfl rfl rfl hz hz0 rfl q5 (fun g => op_gtr rfl (q6.1 g) i0)), (fun a s he hf hz q5 q7 => og rfl rfl rfl hz hz0 rfl q5 (fun g => op_move_v rfl (q7.1 g))), (fun a s he hf hz q8 => ogg rfl rfl rfl hz hz0 rfl q8 (fun g => op_faddr_b rfl fa_72_6 ((hf 1 rfl).trans h1))), (fun a s he hf hz q8 q9 => ogg rfl rfl rfl hz hz0 rfl q8 (fun g => op_load1 rfl ty_32 (q9.1 g) (B22.ext he) rfl (vm he c21))), (fun a s he hf hz q8 => ogg rfl rfl rfl hz hz0 rfl q8 (fun g => op_move_v rfl (V_at h4 he (hf 4 rfl)))), (fun a s he hf hz q8 q11 => ogg rfl rfl rfl hz hz0 rfl q8 (fun g => op_sub rfl (q11.1 g) i1)), (fun a s he hf hz q8 q10 q12 => ogg rfl rfl rfl hz hz0 rfl q8 (fun g => op_iaddr rfl sl_32 (q10.1 g) (q12.1 g) (D65 g).1 (D65 g).2)), (fun a s he hf hz q8 q13 => ogg rfl rfl rfl hz hz0 rfl q8 (fun g => op_load_p rfl ty_70 (by decide) (q13.1 g))), (fun a s he hf hz q8 => ogg rfl rfl rfl hz hz0 rfl q8 (fun g => op_loadn rfl ty_70 rfl ((hf 5 rfl).trans h5) (B54.ext he) rfl (kDot_eta (x := (List.getD x0.seen (y42).toNat default)) (vm he c63) (vm he c64)))), (fun a s he hf hz q8 q14 q15 => ogg rfl rfl rfl hz hz0 rfl q8 (fun g => op_call rfl rfl (order_stands.ok (q14.1 g) (q15.1 g)))), (fun a s he hf hz q8 q16 => ogg rfl rfl rfl hz hz0 rfl q8 (fun g => op_geq rfl (q16.1 g) i0)), (fun a s he hf hz q5 q8 q17 => og rfl rfl rfl hz hz0 rfl q5 (fun g => op_and_then rfl (q8.1 g) (fun e => q17.1 ⟨g, e⟩))), (fun a s he hf hz q5 q18 => oe rfl rfl q5 (q18.1)), trivial⟩ ?_
   intro a66 s67 he hf hz hd1 h76; have ⟨hd, E⟩ := hdE hd1 hd E he; obtain ⟨h50, h51, h52⟩ := va3 he hf h50 h51 h52 rfl; have h1 := (hf 1 rfl).trans h1; have B22 := B22.ext he; obtain ⟨c14, c15, c16, c17, c18, c19, c20, c21⟩ := vm8 he c14 c15 c16 c17 c18 c19 c20 c21; refine wp_condV h76 (fun hb => ?_) (fun hb => ?_)
   ·have h := ite_t hb h; refine wp_sr ?_; refine sq_blk [⟨2, _, []⟩] [0] hz rfl ⟨(fun a s he hf hz => av rfl rfl b_f), trivial⟩ ?_; intro a68 s69 he hf hz hd1 h2; have ⟨hd, E⟩ := hdE hd1 hd E he; refine wp_ret ?_; cases h
    exact ⟨hd, _, results_tmp rfl _ _ _, E, h2⟩
   ·have h := ite_f hb h; refine wp_skip ?_; refine wp_region ?_; refine sq_blk [⟨77, _, []⟩] [0] hz rfl ⟨(fun a s he hf hz => ad rfl rfl (V_at h52 he (hf 52 rfl)) i1), trivial⟩ ?_; intro a70 s71 he hf hz hd1 h77; have ⟨hd, E⟩ := hdE hd1 hd E he; obtain ⟨h50, h51⟩ := va2 he hf h50 h51 rfl; have h1 := (hf 1 rfl).trans h1; have B22 := B22.ext he; obtain ⟨c14, c15, c16, c17, c18, c19, c20, c21⟩ := vm8 he c14 c15 c16 c17 c18 c19 c20 c21; refine sq_blk [⟨52, _, []⟩] [0] hz rfl ⟨mvs rfl rfl h77 rfl, trivial⟩ ?_; intro a72 s73 he hf hz hd1 h52; have ⟨hd, E⟩ := hdE hd1 hd E he; obtain ⟨h50, h51⟩ := va2 he hf h50 h51 rfl; have h1 := (hf 1 rfl).trans h1; have B22 := B22.ext he; obtain ⟨c14, c15, c16, c17, c18, c19, c20, c21⟩ := vm8 he c14 c15 c16 c17 c18 c19 c20 c21; exact ⟨_, (by omega : m43 < m43 + 1), _, h, by omega, E, hz, hd, h1, h50, h51, h52, B22, c14, c15, c16, c17, c18, c19, c20, c21⟩
  ·have h := ite_f hb h; refine wp_exit ?_; refine then_exit ?_; refine then_exit ?_; refine inBlock_hit ?_; refine wp_seq ?_; refine wp_sr ?_; refine sq_blk [⟨78, _, []⟩, ⟨79, _, [0]⟩] [1] hz rfl ⟨(fun a s he hf hz => fb rfl rfl fa_72_3 ((hf 1 rfl).trans h1)), (fun a s he hf hz q0 => lo rfl rfl ty_3 q0 (B22.ext he) rfl (vm he c18)), trivial⟩ ?_; intro a74 s75 he hf hz hd1 h79; have ⟨hd, E⟩ := hdE hd1 hd E he; have h1 := (hf 1 rfl).trans h1; have B22 := B22.ext he; obtain ⟨c18, c20, c21⟩ := vm3 he c18 c20 c21; refine wp_block ?_; refine wp_sr ?_; refine sq_blk [⟨81, _, []⟩, ⟨80, _, [0]⟩] [1] hz rfl ⟨(fun a s he hf hz => eq_ rfl rfl (V_at h79 he (hf 79 rfl)) i1), avq rfl rfl, trivial⟩ ?_; intro a76 s77 he hf hz hd1 h80; have ⟨hd, E⟩ := hdE hd1 hd E he; have h79 := V_at h79 he (hf 79 rfl); have h1 := (hf 1 rfl).trans h1; have B22 := B22.ext he; obtain ⟨c18, c20, c21⟩ := vm3 he c18 c20 c21; refine wp_condV h80 (fun hb => ?_) (fun hb => ?_)
   ·have h := ite_t hb h; refine wp_sr ?_; have hz0 := hz; refine sq_blk [⟨82, _, []⟩, ⟨83, _, [0]⟩, ⟨84, _, [1]⟩, ⟨85, _, [2]⟩, ⟨86, _, [3]⟩, ⟨87, _, [4]⟩, ⟨88, _, [4, 5]⟩, ⟨89, _, [4, 6]⟩, ⟨90, _, [4, 7]⟩, ⟨91, _, [8]⟩, ⟨92, _, [9]⟩, ⟨93, _, [9, 10]⟩, ⟨94, _, [9, 11]⟩, ⟨95, _, [9, 12]⟩, ⟨2, _, [13]⟩] [14] hz rfl ⟨(fun a s he hf hz => fb rfl rfl fa_72_6 ((hf 1 rfl).trans h1)), (fun a s he hf hz q0 => lo rfl rfl ty_32 q0 (B22.ext he) rfl (vm he c21)), (fun a s he hf hz q1 => le_ rfl rfl u_32 q1), (fun a s he hf hz q2 => eq_ rfl rfl q2 i0), mvq rfl rfl, (fun a s he hf hz q4 => og rfl rfl rfl hz hz0 rfl q4 (fun g => op_faddr_b rfl fa_72_5 ((hf 1 rfl).trans h1))), (fun a s he hf hz q4 q5 => og rfl rfl rfl hz hz0 rfl q4 (fun g => op_load1 rfl ty_2 (q5.1 g) (B22.ext he) rfl (vm he c20))), (fun a s he hf hz q4 q6 => og rfl rfl rfl hz hz0 rfl q4 (fun g => op_geq rfl (q6.1 g) i1)), (fun a s he hf hz q4 q7 => an rfl rfl q4 (q7.1)), mvq rfl rfl, (fun a s he hf hz q9 => og rfl rfl rfl hz hz0 rfl q9 (fun g => op_faddr_b rfl fa_72_5 ((hf 1 rfl).trans h1))), (fun a s he hf hz q9 q10 => og rfl rfl rfl hz hz0 rfl q9 (fun g => op_load1 rfl ty_2 (q10.1 g) (B22.ext he) rfl (vm he c20))), (fun a s he hf hz q9 q11 => og rfl rfl rfl hz hz0 rfl q9 (fun g => op_leq rfl (q11.1 g) (lit_i (k := .i64) (n := 9999) (by decide)))), (fun a s he hf hz q9 q12 => an rfl rfl q9 (q12.1)), avq rfl rfl, trivial⟩ ?_
    intro a78 s79 he hf hz hd1 h2; have ⟨hd, E⟩ := hdE hd1 hd E he; refine wp_ret ?_; cases h
    exact ⟨hd, _, results_tmp rfl _ _ _, E, h2⟩
   ·have h := ite_f hb h; refine wp_sr ?_; refine sq_blk [⟨97, _, []⟩, ⟨96, _, [0]⟩] [1] hz rfl ⟨(fun a s he hf hz => eq_ rfl rfl (V_at h79 he (hf 79 rfl)) (lit_i (k := .i64) (n := 2) (by decide))), avq rfl rfl, trivial⟩ ?_; intro a80 s81 he hf hz hd1 h96; have ⟨hd, E⟩ := hdE hd1 hd E he; have h1 := (hf 1 rfl).trans h1; have B22 := B22.ext he; obtain ⟨c18, c20⟩ := vm2 he c18 c20; refine wp_condV h96 (fun hb => ?_) (fun hb => ?_)
    ·have h := ite_t hb h; refine wp_sr ?_; have hz0 := hz; refine sq_blk [⟨98, _, []⟩, ⟨99, _, [0]⟩, ⟨100, _, [1]⟩, ⟨101, _, [2]⟩, ⟨102, _, [3]⟩, ⟨103, _, [3, 4]⟩, ⟨104, _, [3, 5]⟩, ⟨105, _, [3, 6]⟩, ⟨2, _, [7]⟩] [8] hz rfl ⟨(fun a s he hf hz => fb rfl rfl fa_72_5 ((hf 1 rfl).trans h1)), (fun a s he hf hz q0 => lo rfl rfl ty_2 q0 (B22.ext he) rfl (vm he c20)), (fun a s he hf hz q1 => opw rfl (op_geq rfl q1 i1)), mvq rfl rfl, (fun a s he hf hz q3 => og rfl rfl rfl hz hz0 rfl q3 (fun g => op_faddr_b rfl fa_72_5 ((hf 1 rfl).trans h1))), (fun a s he hf hz q3 q4 => og rfl rfl rfl hz hz0 rfl q3 (fun g => op_load1 rfl ty_2 (q4.1 g) (B22.ext he) rfl (vm he c20))), (fun a s he hf hz q3 q5 => og rfl rfl rfl hz hz0 rfl q3 (fun g => op_leq rfl (q5.1 g) (lit_i (k := .i64) (n := 9999) (by decide)))), (fun a s he hf hz q3 q6 => an rfl rfl q3 (q6.1)), avq rfl rfl, trivial⟩ ?_; intro a82 s83 he hf hz hd1 h2; have ⟨hd, E⟩ := hdE hd1 hd E he; refine wp_ret ?_; cases h
     exact ⟨hd, _, results_tmp rfl _ _ _, E, h2⟩
    ·have h := ite_f hb h; refine wp_skip ?_; refine wp_sr ?_; have hz0 := hz; refine sq_blk [⟨106, _, []⟩, ⟨107, _, [0]⟩, ⟨108, _, [1]⟩, ⟨109, _, [2]⟩, ⟨110, _, [3]⟩, ⟨111, _, [3, 4]⟩, ⟨112, _, [3, 5]⟩, ⟨113, _, [3, 6]⟩, ⟨2, _, [7]⟩] [8] hz rfl ⟨(fun a s he hf hz => fb rfl rfl fa_72_3 ((hf 1 rfl).trans h1)), (fun a s he hf hz q0 => lo rfl rfl ty_3 q0 (B22.ext he) rfl (vm he c18)), (fun a s he hf hz q1 => eq_ rfl rfl q1 (lit_i (k := .i64) (n := 3) (by decide))), mvq rfl rfl, (fun a s he hf hz q3 => og rfl rfl rfl hz hz0 rfl q3 (fun g => op_faddr_b rfl fa_72_5 ((hf 1 rfl).trans h1))), (fun a s he hf hz q3 q4 => og rfl rfl rfl hz hz0 rfl q3 (fun g => op_load1 rfl ty_2 (q4.1 g) (B22.ext he) rfl (vm he c20))), (fun a s he hf hz q3 q5 => og rfl rfl rfl hz hz0 rfl q3 (fun g => op_eql rfl (q5.1 g) i0)), (fun a s he hf hz q3 q6 => an rfl rfl q3 (q6.1)), avq rfl rfl, trivial⟩ ?_; intro a84 s85 he hf hz hd1 h2; have ⟨hd, E⟩ := hdE hd1 hd E he; refine wp_ret ?_; cases h
     exact ⟨hd, _, results_tmp rfl _ _ _, E, h2⟩
theorem order_Right.nice (x0 : Op) (b0 : kOp.bd x0) : ∃ k, order_Right.f k x0 = some (rightO x0) := by
 have hm := maxLen_lt
 have hb : x0.seen.length ≤ maxLen := b0.2.2.2.2.2.2.1
 have hn := inK64 (show inK .i64 x0.dot.n from b0.1.2)
 have fin : order_Right.l0 1 x0 (x0.seen.length : Int) = some (kindOk x0) := by
  simp only [order_Right.l0, Int.lt_irrefl, decide_false, Bool.false_eq_true, if_false]
  unfold kindOk
  by_cases h1 : x0.kind = 1
  ·simp [h1]; cases decide (x0.seen = []) <;> simp
  ·by_cases h2 : x0.kind = 2
   ·simp [h2]
   ·simp [h1, h2]
 have : ∀ y, y ≤ x0.seen.length → ∃ k, order_Right.l0 k x0 (y : Int) = some ((if y = 0 then seenV x0.deps x0.seen else seenP x0.deps (x0.seen.getD (y - 1) default) (x0.seen.drop y)) && kindOk x0) := by
  refine rounds x0.seen.length ⟨1, ?_⟩ fun y hy ⟨k, hk⟩ => ?_
  ·rw [fin, List.drop_length]
   by_cases h : x0.seen.length = 0
   ·rw [if_pos h, List.length_eq_zero_iff.1 h] <;> rfl
   ·rw [if_neg h] <;> rfl
  ·rw [if_neg (by omega), Nat.add_sub_cancel] at hk
   push_cast at hk
   have hr : (0 : Int) ≤ y ∧ (y : Int) < x0.seen.length := ⟨by omega, by omega⟩
   have hu : ∀ k, order_Right.l0 (k + 1) x0 (y : Int) = if ((!hasV x0.deps (x0.seen.getD y default)) || (decide (0 < y) && !ref08_ahead (x0.seen.getD (y - 1) default) (x0.seen.getD y default))) = true then some false else order_Right.l0 k x0 ((y : Int) + 1) := fun k => by
    have hg : ((!(hasV x0.deps (x0.seen.getD y default))) = false ∧ decide ((0 : Int) < (y : Int)) = true) → (0 ≤ IntKind.wrap .i64 ((y : Int) - 1) ∧ IntKind.wrap .i64 ((y : Int) - 1) < (x0.seen.length : Int)) := fun ⟨_, h⟩ => by
     have : (0 : Int) < y := by simpa using h
     rw [w64 (by omega) (by omega)]; omega
    simp only [order_Right.l0, Int.toNat_natCast, hr, and_self, decide_true, if_true, if_pos hg]
    rw [w64s (by omega)]
    by_cases h0 : y = 0
    ·subst h0; simp
    ·have e1 : IntKind.wrap .i64 ((y : Int) - 1) = ((y - 1 : Nat) : Int) := by rw [w64 (by omega) (by omega)]; omega
     have h1 : (0 : Int) < (y : Int) := by omega
     have h2 : 0 < y := by omega
     rw [e1]
     simp only [Int.toNat_natCast, h1, h2, decide_true, stands_eq]
   refine ⟨k + 1, ?_⟩
   rw [hu]
   by_cases h0 : y = 0
   ·subst h0
    have hd := drop_at (xs := x0.seen) (y := 0) default hy
    rw [List.drop_zero] at hd
    rw [if_pos rfl]
    conv => rhs; rw [hd]
    generalize x0.seen.getD 0 default = d at *
    simp only [seenV]
    cases h1 : hasV x0.deps d
    ·simp
    ·simp only [Bool.not_true, Nat.lt_irrefl, decide_false, Bool.false_and, Bool.or_self, Bool.false_eq_true, if_false, Bool.true_and]; exact hk
   ·rw [if_neg h0, drop_at default hy]
    have h2 : 0 < y := by omega
    generalize x0.seen.getD y default = d at *
    generalize x0.seen.getD (y - 1) default = e at *
    simp only [seenP, h2, decide_true, Bool.true_and]
    cases h1 : hasV x0.deps d
    ·simp
    ·cases h3 : ref08_ahead e d
     ·simp
     ·simp only [Bool.not_true, Bool.or_self, Bool.false_eq_true, if_false, Bool.true_and]; exact hk
 have hw : IntKind.wrap .i64 (x0.dot.n - 1) = x0.dot.n - 1 ∨ vector_isDot x0.dot = false := by
  cases h : vector_isDot x0.dot
  ·exact .inr rfl
  ·obtain ⟨_, h1, h2⟩ := isDot_parts h
   exact .inl (w64 (by omega) (by omega))
 obtain ⟨k, hk⟩ := this 0 (Nat.zero_le _)
 rw [if_pos rfl] at hk
 unfold order_Right.f rightO
 simp only [rightV_one, isText_eq]
 cases h1 : vector_isDot x0.dot
 ·exact ⟨0, by simp⟩
 have hw : IntKind.wrap .i64 (x0.dot.n - 1) = x0.dot.n - 1 := by
  rcases hw with h | h
  ·exact h
  ·rw [h1] at h; cases h
 rw [hw]
 cases h2 : rightV x0.deps
 ·exact ⟨0, by simp⟩
 by_cases h3 : at_ x0.deps x0.dot.who = x0.dot.n - 1
 ·cases h4 : textOk x0.cart
  ·exact ⟨0, by simp⟩
  cases h5 : textOk x0.item
  ·exact ⟨0, by simp⟩
  by_cases h6 : x0.seen.length ≤ 128
  ·have h6' : ¬ (128 : Int) < x0.seen.length := by omega
   refine ⟨k, ?_⟩
   simp only [h3, h6, h6', decide_true, decide_false, Bool.not_true, Bool.or_self, Bool.false_eq_true, if_false, Bool.true_and]
   exact hk
  ·have h6' : (128 : Int) < x0.seen.length := by omega
   exact ⟨0, by simp [h6, h6']⟩
 ·exact ⟨0, by simp [h3]⟩
theorem order_Right.ct {s0 : St} {v0 : Value} {x0 : Op} (k0 : kOp.V s0 v0 x0) : Cl Try.prog 47 #[v0] s0 (Okf s0 (Fact.v kB (rightO x0))) := by
 obtain ⟨k, h⟩ := order_Right.nice x0 (Kn.V_bd k0)
 exact order_Right.ok k0 h
def ref08_Right.l0 : Nat → Op → Int → Option (Bool)
 | 0, _, _ => none
 | m42 + 1, x0, y41 => (if decide (y41 < (x0.seen.length : Int)) = true then (if (0 ≤ y41 ∧ y41 < (x0.seen.length : Int)) then (if (((!(hasV x0.deps (List.getD x0.seen (y41).toNat default))) = false ∧ (decide (0 < y41)) = true) → (0 ≤ (IntKind.wrap .i64 (y41 - 1)) ∧ (IntKind.wrap .i64 (y41 - 1)) < (x0.seen.length : Int))) then (if ((!(hasV x0.deps (List.getD x0.seen (y41).toNat default))) || ((decide (0 < y41)) && (!(ref08_ahead (List.getD x0.seen (IntKind.wrap .i64 (y41 - 1)).toNat default) (List.getD x0.seen (y41).toNat default))))) = true then (some false) else (ref08_Right.l0 m42 x0 (IntKind.wrap .i64 (y41 + 1)))) else none) else none) else (if decide (x0.kind = 1) = true then (some (((decide (1 ≤ x0.qty)) && (decide (x0.qty ≤ 9999))) && (decide ((x0.seen.length : Int) = 0)))) else (if decide (x0.kind = 2) = true then (some ((decide (1 ≤ x0.qty)) && (decide (x0.qty ≤ 9999)))) else (if decide (x0.kind = 3) = true then (some (decide (x0.qty = 0))) else (some false)))))
def ref08_Right.f (k : Nat) (x0 : Op) : Option (Bool) := (if ((((!(vector_isDot x0.dot)) || (!(rightV x0.deps))) || (!decide ((at_ x0.deps x0.dot.who) = (IntKind.wrap .i64 (x0.dot.n - 1))))) || (decide (128 < (x0.seen.length : Int)))) = true then (some false) else (if ((((decide ((x0.cart.length : Int) < 1)) || (decide (32 < (x0.cart.length : Int)))) || (decide ((x0.item.length : Int) < 1))) || (decide (32 < (x0.item.length : Int)))) = true then (some false) else (ref08_Right.l0 k x0 0)))
theorem ref08_Right.ok {s0 : St} {v0 : Value} {x0 : Op} {k : Nat} {r : Bool} (k0 : kOp.V s0 v0 x0) (h : ref08_Right.f k x0 = some r) : Cl Try.prog 52 #[v0] s0 (Okf s0 (Fact.v kB r)) := by
 unfold ref08_Right.f at h
 refine cl_of_wp Try.func52 rfl en_52 fun a hz hd hp => ?_; have hz : a.tmps.size = 124 := hz; have E := Chg.refl (fun _ => False) s0; have h0 := V_at k0 E (hp 0 v0 rfl); refine wp_sr ?_; refine sq_set hz rfl rfl rfl (op_boxn rfl rfl h0 (fun s2 e4 he BB3 r5 => fun a1 h1 hf hz hd1 => ?_)); obtain ⟨b22, hb22⟩ : ∃ b, b = s0.w.heap.size := ⟨_, rfl⟩; rw [← hb22] at BB3 h1; have B22 := BB3; have l22 : s0.w.heap.size ≤ b22 := by have := E.size; omega
 have ⟨hd, E⟩ := hdE hd1 hd E he; obtain ⟨u6, u7, u8, u9, u10, u11, u12, u13, rfl, c14, c15, c16, c17, c18, c19, c20, c21⟩ := kOp_open r5; refine sq_blk [⟨2, _, []⟩] [] hz rfl ⟨(fun a s he hf hz => av rfl rfl b_f), trivial⟩ ?_; intro a23 s24 he hf hz hd1; have ⟨hd, E⟩ := hdE hd1 hd E he; have h1 := (hf 1 rfl).trans h1; have B22 := B22.ext he; obtain ⟨c14, c15, c16, c17, c18, c19, c20, c21⟩ := vm8 he c14 c15 c16 c17 c18 c19 c20 c21; refine wp_sr ?_; refine sq_blk [⟨8, _, []⟩, ⟨9, _, [0]⟩, ⟨10, _, [1]⟩, ⟨3, _, [2]⟩] [3] hz rfl ⟨(fun a s he hf hz => fb rfl rfl fa_72_0 ((hf 1 rfl).trans h1)), (fun a s he hf hz q0 => ld rfl rfl ty_70 rfl q0 (B22.ext he) rfl (kDot_eta (x := x0.dot) (vm he c14) (vm he c15))), (fun a s he hf hz q1 => opw rfl (op_call rfl rfl (ref07_IsDot.ok q1))), avq rfl rfl, trivial⟩ ?_; intro a25 s26 he hf hz hd1 h3; have ⟨hd, E⟩ := hdE hd1 hd E he; have h1 := (hf 1 rfl).trans h1; have B22 := B22.ext he; obtain ⟨c14, c15, c16, c17, c18, c19, c20, c21⟩ := vm8 he c14 c15 c16 c17 c18 c19 c20 c21; refine wp_sr ?_
 refine sq_blk [⟨11, _, []⟩, ⟨12, _, [0]⟩, ⟨13, _, [1]⟩, ⟨4, _, [2]⟩] [3] hz rfl ⟨(fun a s he hf hz => fb rfl rfl fa_72_1 ((hf 1 rfl).trans h1)), (fun a s he hf hz q0 => lo rfl rfl ty_32 q0 (B22.ext he) rfl (vm he c16)), (fun a s he hf hz q1 => opw rfl (op_call rfl rfl (ref07_Right.ct q1))), avq rfl rfl, trivial⟩ ?_; intro a27 s28 he hf hz hd1 h4; have ⟨hd, E⟩ := hdE hd1 hd E he; have h3 := V_at h3 he (hf 3 rfl); have h1 := (hf 1 rfl).trans h1; have B22 := B22.ext he; obtain ⟨c14, c15, c16, c17, c18, c19, c20, c21⟩ := vm8 he c14 c15 c16 c17 c18 c19 c20 c21; refine wp_seq ?_; refine wp_seq ?_; have hz0 := hz; refine wp_draw (⟨14, _, []⟩ :: ⟨15, _, [0]⟩ :: ⟨16, _, [1]⟩ :: ⟨17, _, [2]⟩ :: ⟨18, _, [2, 3]⟩ :: ⟨19, _, [2, 4]⟩ :: ⟨20, _, [5]⟩ :: ⟨21, _, [6]⟩ :: ⟨22, _, [6, 7]⟩ :: ⟨23, _, [6]⟩ :: ⟨24, _, [6, 9]⟩ :: ⟨25, _, [6, 10]⟩ :: ⟨26, _, [6, 8, 11]⟩ :: ⟨27, _, [6]⟩ :: ⟨28, _, [6, 13]⟩ :: ⟨29, _, [6, 14]⟩ :: ⟨30, _, [6, 15]⟩ :: ⟨31, _, [6, 12, 16]⟩ :: ⟨32, _, [6, 17]⟩ :: ⟨33, _, [18]⟩ :: ⟨34, _, [19]⟩ :: ⟨35, _, [19, 20]⟩ :: ⟨36, _, [19, 21]⟩ :: ⟨37, _, [19, 22]⟩ :: ⟨38, _, [19, 23]⟩ :: []) [24] mo hz (by kernel_rfl) ⟨mvs rfl rfl h3 rfl, (fun a s he hf hz q0 => no_ rfl rfl q0), mvq rfl rfl, (fun a s he hf hz q2 => og rfl rfl rfl hz hz0 rfl q2 (fun g => op_move_v rfl (V_at h4 he (hf 4 rfl)))), (fun a s he hf hz q2 q3 => og rfl rfl rfl hz hz0 rfl q2 (fun g => op_not rfl (q3.1 g))), (fun a s he hf hz q2 q4 => oe rfl rfl q2 (q4.1)), mvq rfl rfl, (fun a s he hf hz q6 => og rfl rfl rfl hz hz0 rfl q6 (fun g => op_faddr_b rfl fa_72_1 ((hf 1 rfl).trans h1))), (fun a s he hf hz q6 q7 => og rfl rfl rfl hz hz0 rfl q6 (fun g => op_load1 rfl ty_32 (q7.1 g) (B22.ext he) rfl (vm he c16))), (fun a s he hf hz q6 => og rfl rfl rfl hz hz0 rfl q6 (fun g => op_faddr_b rfl fa_72_0 ((hf 1 rfl).trans h1))), (fun a s he hf hz q6 q9 => og rfl rfl rfl hz hz0 rfl q6 (fun g => op_faddr_b rfl fa_70_0 (q9.1 g))), (fun a s he hf hz q6 q10 => og rfl rfl rfl hz hz0 rfl q6 (fun g => op_load1 rfl ty_9 (q10.1 g) (B22.ext he) rfl (vm he c14))), (fun a s he hf hz q6 q8 q11 => og rfl rfl rfl hz hz0 rfl q6 (fun g => op_call rfl rfl (ref07_At.ct (q8.1 g) (q11.1 g)))), (fun a s he hf hz q6 => og rfl rfl rfl hz hz0 rfl q6 (fun g => op_faddr_b rfl fa_72_0 ((hf 1 rfl).trans h1))), (fun a s he hf hz q6 q13 => og rfl rfl rfl hz hz0 rfl q6 (fun g => op_faddr_b rfl fa_70_1 (q13.1 g))), (fun a s he hf hz q6 q14 => og rfl rfl rfl hz hz0 rfl q6 (fun g => op_load1 rfl ty_2 (q14.1 g) (B22.ext he) rfl (vm he c15))), (fun a s he hf hz q6 q15 => og rfl rfl rfl hz hz0 rfl q6 (fun g => op_sub rfl (q15.1 g) i1)), (fun a s he hf hz q6 q12 q16 => og rfl rfl rfl hz hz0 rfl q6 (fun g => op_neq rfl (q12.1 g) (q16.1 g))), (fun a s he hf hz q6 q17 => oe rfl rfl q6 (q17.1)), mvq rfl rfl, (fun a s he hf hz q19 => og rfl rfl rfl hz hz0 rfl q19 (fun g => op_faddr_b rfl fa_72_6 ((hf 1 rfl).trans h1))), (fun a s he hf hz q19 q20 => og rfl rfl rfl hz hz0 rfl q19 (fun g => op_load1 rfl ty_32 (q20.1 g) (B22.ext he) rfl (vm he c21))), (fun a s he hf hz q19 q21 => og rfl rfl rfl hz hz0 rfl q19 (fun g => op_len rfl u_32 (q21.1 g))), (fun a s he hf hz q19 q22 => og rfl rfl rfl hz hz0 rfl q19 (fun g => op_gtr rfl (q22.1 g) (lit_i (k := .i64) (n := 128) (by decide)))), (fun a s he hf hz q19 q23 => oe rfl rfl q19 (q23.1)), trivial⟩ ?_
 intro a29 s30 he hf hz hd1 h38; have ⟨hd, E⟩ := hdE hd1 hd E he; have h1 := (hf 1 rfl).trans h1; have B22 := B22.ext he; obtain ⟨c14, c15, c16, c17, c18, c19, c20, c21⟩ := vm8 he c14 c15 c16 c17 c18 c19 c20 c21; refine wp_condV h38 (fun hb => ?_) (fun hb => ?_)
 ·have h := ite_t hb h; refine wp_sr ?_; refine sq_blk [⟨2, _, []⟩] [0] hz rfl ⟨(fun a s he hf hz => av rfl rfl b_f), trivial⟩ ?_; intro a31 s32 he hf hz hd1 h2; have ⟨hd, E⟩ := hdE hd1 hd E he; refine wp_ret ?_; cases h
  exact ⟨hd, _, results_tmp rfl _ _ _, E, h2⟩
 ·have h := ite_f hb h; refine wp_skip ?_; refine wp_seq ?_; refine wp_sr ?_; have hz0 := hz; refine sq_blk [⟨39, _, []⟩, ⟨40, _, [0]⟩, ⟨41, _, [1]⟩, ⟨42, _, [2]⟩, ⟨43, _, [3]⟩, ⟨44, _, [4]⟩, ⟨45, _, [4, 5]⟩, ⟨46, _, [4, 6]⟩, ⟨47, _, [4, 7]⟩, ⟨48, _, [4, 8]⟩, ⟨49, _, [9]⟩, ⟨50, _, [10]⟩, ⟨51, _, [10, 11]⟩, ⟨52, _, [10, 12]⟩, ⟨53, _, [10, 13]⟩, ⟨54, _, [10, 14]⟩, ⟨55, _, [15]⟩, ⟨56, _, [16]⟩, ⟨57, _, [16, 17]⟩, ⟨58, _, [16, 18]⟩, ⟨59, _, [16, 19]⟩, ⟨60, _, [16, 20]⟩] [21] hz rfl ⟨(fun a s he hf hz => fb rfl rfl fa_72_2 ((hf 1 rfl).trans h1)), (fun a s he hf hz q0 => lo rfl rfl ty_9 q0 (B22.ext he) rfl (vm he c17)), (fun a s he hf hz q1 => lns rfl rfl u_9 q1), (fun a s he hf hz q2 => ls rfl rfl q2 i1), mvq rfl rfl, (fun a s he hf hz q4 => og rfl rfl rfl hz hz0 rfl q4 (fun g => op_faddr_b rfl fa_72_2 ((hf 1 rfl).trans h1))), (fun a s he hf hz q4 q5 => og rfl rfl rfl hz hz0 rfl q4 (fun g => op_load1 rfl ty_9 (q5.1 g) (B22.ext he) rfl (vm he c17))), (fun a s he hf hz q4 q6 => og rfl rfl rfl hz hz0 rfl q4 (fun g => op_len_s rfl u_9 (q6.1 g))), (fun a s he hf hz q4 q7 => og rfl rfl rfl hz hz0 rfl q4 (fun g => op_gtr rfl (q7.1 g) (lit_i (k := .i64) (n := 32) (by decide)))), (fun a s he hf hz q4 q8 => oe rfl rfl q4 (q8.1)), mvq rfl rfl, (fun a s he hf hz q10 => og rfl rfl rfl hz hz0 rfl q10 (fun g => op_faddr_b rfl fa_72_4 ((hf 1 rfl).trans h1))), (fun a s he hf hz q10 q11 => og rfl rfl rfl hz hz0 rfl q10 (fun g => op_load1 rfl ty_9 (q11.1 g) (B22.ext he) rfl (vm he c19))), (fun a s he hf hz q10 q12 => og rfl rfl rfl hz hz0 rfl q10 (fun g => op_len_s rfl u_9 (q12.1 g))), (fun a s he hf hz q10 q13 => og rfl rfl rfl hz hz0 rfl q10 (fun g => op_lss rfl (q13.1 g) i1)), (fun a s he hf hz q10 q14 => oe rfl rfl q10 (q14.1)), mvq rfl rfl, (fun a s he hf hz q16 => og rfl rfl rfl hz hz0 rfl q16 (fun g => op_faddr_b rfl fa_72_4 ((hf 1 rfl).trans h1))), (fun a s he hf hz q16 q17 => og rfl rfl rfl hz hz0 rfl q16 (fun g => op_load1 rfl ty_9 (q17.1 g) (B22.ext he) rfl (vm he c19))), (fun a s he hf hz q16 q18 => og rfl rfl rfl hz hz0 rfl q16 (fun g => op_len_s rfl u_9 (q18.1 g))), (fun a s he hf hz q16 q19 => og rfl rfl rfl hz hz0 rfl q16 (fun g => op_gtr rfl (q19.1 g) (lit_i (k := .i64) (n := 32) (by decide)))), (fun a s he hf hz q16 q20 => oe rfl rfl q16 (q20.1)), trivial⟩ ?_
  intro a33 s34 he hf hz hd1 h60; have ⟨hd, E⟩ := hdE hd1 hd E he; have h1 := (hf 1 rfl).trans h1; have B22 := B22.ext he; obtain ⟨c14, c15, c16, c17, c18, c19, c20, c21⟩ := vm8 he c14 c15 c16 c17 c18 c19 c20 c21; refine wp_condV h60 (fun hb => ?_) (fun hb => ?_)
  ·have h := ite_t hb h; refine wp_sr ?_; refine sq_blk [⟨2, _, []⟩] [0] hz rfl ⟨(fun a s he hf hz => av rfl rfl b_f), trivial⟩ ?_; intro a35 s36 he hf hz hd1 h2; have ⟨hd, E⟩ := hdE hd1 hd E he; refine wp_ret ?_; cases h
   exact ⟨hd, _, results_tmp rfl _ _ _, E, h2⟩
  ·have h := ite_f hb h; refine wp_skip ?_; refine wp_seq ?_; refine wp_sr ?_; refine sq_blk [⟨5, _, []⟩] [0] hz rfl ⟨(fun a s he hf hz => av rfl rfl i0), trivial⟩ ?_; intro a37 s38 he hf hz hd1 h5; have ⟨hd, E⟩ := hdE hd1 hd E he; have h1 := (hf 1 rfl).trans h1; have B22 := B22.ext he; obtain ⟨c14, c15, c16, c17, c18, c19, c20, c21⟩ := vm8 he c14 c15 c16 c17 c18 c19 c20 c21; refine wp_block ?_; refine wp_loop (k := k) (fun m42 a s => ∃ (y41 : Int), ref08_Right.l0 m42 x0 y41 = some r ∧ m42 ≤ k ∧ Ext s0 s ∧ a.tmps.size = 124 ∧ a.defers = [] ∧ a.get 1 = .pointer (some ⟨b22, 0, none⟩) ∧ (kI .i64).V s (a.get 5) y41 ∧ Bx s b22 72 [u6, u7, u8, u9, u10, u11, u12, u13] ∧ kS.V s u6 x0.dot.who ∧ (kI .i64).V s u7 x0.dot.n ∧ (kSl kDot).V s u8 x0.deps ∧ kS.V s u9 x0.cart ∧ (kI .i64).V s u10 x0.kind ∧ kS.V s u11 x0.item ∧ (kI .i64).V s u12 x0.qty ∧ (kSl kDot).V s u13 x0.seen) ⟨_, h, Nat.le_refl _, E, hz, hd, h1, h5, B22, c14, c15, c16, c17, c18, c19, c20, c21⟩ ?_; rintro m42 a40 s39 ⟨y41, h, hkm42, E, hz, hd, h1, h5, B22, c14, c15, c16, c17, c18, c19, c20, c21⟩; obtain _ | m42 := m42
   ·cases h
   refine wp_seq ?_; refine wp_sr ?_; refine sq_blk [⟨61, _, []⟩, ⟨62, _, []⟩, ⟨63, _, [1]⟩, ⟨64, _, [2]⟩, ⟨65, _, [0, 3]⟩] [4] hz rfl ⟨mvs rfl rfl h5 rfl, (fun a s he hf hz => fb rfl rfl fa_72_6 ((hf 1 rfl).trans h1)), (fun a s he hf hz q1 => lo rfl rfl ty_32 q1 (B22.ext he) rfl (vm he c21)), (fun a s he hf hz q2 => le_ rfl rfl u_32 q2), (fun a s he hf hz q0 q3 => ls rfl rfl q0 q3), trivial⟩ ?_; intro a43 s44 he hf hz hd1 h65; have ⟨hd, E⟩ := hdE hd1 hd E he; have h5 := V_at h5 he (hf 5 rfl); have h1 := (hf 1 rfl).trans h1; have B22 := B22.ext he; obtain ⟨c14, c15, c16, c17, c18, c19, c20, c21⟩ := vm8 he c14 c15 c16 c17 c18 c19 c20 c21; refine wp_condV h65 (fun hb => ?_) (fun hb => ?_)
   ·have h := ite_t hb h; refine wp_skip ?_; refine wp_seq ?_; refine wp_block ?_; refine wp_seq ?_; obtain ⟨D45, h⟩ := need h; refine wp_draw [⟨68, _, []⟩, ⟨69, _, [0]⟩, ⟨70, _, []⟩, ⟨71, _, [2]⟩, ⟨72, _, []⟩, ⟨73, _, [3, 4]⟩, ⟨74, _, [5]⟩, ⟨75, _, [1, 6]⟩, ⟨6, _, [7]⟩] [8] mo hz (by kernel_rfl) ⟨(fun a s he hf hz => fb rfl rfl fa_72_1 ((hf 1 rfl).trans h1)), (fun a s he hf hz q0 => lo rfl rfl ty_32 q0 (B22.ext he) rfl (vm he c16)), (fun a s he hf hz => fb rfl rfl fa_72_6 ((hf 1 rfl).trans h1)), (fun a s he hf hz q2 => lo rfl rfl ty_32 q2 (B22.ext he) rfl (vm he c21)), mvs rfl rfl h5 rfl, (fun a s he hf hz q3 q4 => ia rfl rfl sl_32 q3 q4 D45.1 D45.2), (fun a s he hf hz q5 => lp rfl rfl ty_70 (by decide) q5), (fun a s he hf hz q1 q6 => opw rfl (op_call rfl rfl (ref07_Has.ok q1 q6))), avq rfl rfl, trivial⟩ ?_; intro a46 s47 he hf hz hd1 h6; have ⟨hd, E⟩ := hdE hd1 hd E he; have h5 := V_at h5 he (hf 5 rfl); have h1 := (hf 1 rfl).trans h1; have B22 := B22.ext he; obtain ⟨c14, c15, c16, c17, c18, c19, c20, c21⟩ := vm8 he c14 c15 c16 c17 c18 c19 c20 c21; refine wp_seq ?_; obtain ⟨D48, h⟩ := need h; have hz0 := hz
    refine wp_draw [⟨76, _, []⟩, ⟨77, _, [0]⟩, ⟨78, _, [1]⟩, ⟨79, _, [2]⟩, ⟨80, _, [2, 3]⟩, ⟨81, _, [2, 4]⟩, ⟨82, _, [5]⟩, ⟨83, _, [5, 6]⟩, ⟨84, _, [5]⟩, ⟨85, _, [5, 8]⟩, ⟨86, _, [5, 7, 9]⟩, ⟨87, _, [5, 10]⟩, ⟨88, _, [5]⟩, ⟨89, _, [5, 12]⟩, ⟨90, _, [5]⟩, ⟨91, _, [5, 13, 14]⟩, ⟨92, _, [5, 15]⟩, ⟨93, _, [5, 11, 16]⟩, ⟨94, _, [5, 17]⟩, ⟨95, _, [2, 5, 18]⟩, ⟨96, _, [2, 19]⟩] [20] mo hz (by kernel_rfl) ⟨mvs rfl rfl h6 rfl, (fun a s he hf hz q0 => no_ rfl rfl q0), mvq rfl rfl, (fun a s he hf hz q2 => og rfl rfl rfl hz hz0 rfl q2 (fun g => op_move_v rfl (V_at h5 he (hf 5 rfl)))), (fun a s he hf hz q2 q3 => og rfl rfl rfl hz hz0 rfl q2 (fun g => op_gtr rfl (q3.1 g) i0)), (fun a s he hf hz q2 q4 => og rfl rfl rfl hz hz0 rfl q2 (fun g => op_move_v rfl (q4.1 g))), (fun a s he hf hz q5 => ogg rfl rfl rfl hz hz0 rfl q5 (fun g => op_faddr_b rfl fa_72_6 ((hf 1 rfl).trans h1))), (fun a s he hf hz q5 q6 => ogg rfl rfl rfl hz hz0 rfl q5 (fun g => op_load1 rfl ty_32 (q6.1 g) (B22.ext he) rfl (vm he c21))), (fun a s he hf hz q5 => ogg rfl rfl rfl hz hz0 rfl q5 (fun g => op_move_v rfl (V_at h5 he (hf 5 rfl)))), (fun a s he hf hz q5 q8 => ogg rfl rfl rfl hz hz0 rfl q5 (fun g => op_sub rfl (q8.1 g) i1)), (fun a s he hf hz q5 q7 q9 => ogg rfl rfl rfl hz hz0 rfl q5 (fun g => op_iaddr rfl sl_32 (q7.1 g) (q9.1 g) (D48 g).1 (D48 g).2)), (fun a s he hf hz q5 q10 => ogg rfl rfl rfl hz hz0 rfl q5 (fun g => op_load_p rfl ty_70 (by decide) (q10.1 g))), (fun a s he hf hz q5 => ogg rfl rfl rfl hz hz0 rfl q5 (fun g => op_faddr_b rfl fa_72_6 ((hf 1 rfl).trans h1))), (fun a s he hf hz q5 q12 => ogg rfl rfl rfl hz hz0 rfl q5 (fun g => op_load1 rfl ty_32 (q12.1 g) (B22.ext he) rfl (vm he c21))), (fun a s he hf hz q5 => ogg rfl rfl rfl hz hz0 rfl q5 (fun g => op_move_v rfl (V_at h5 he (hf 5 rfl)))), (fun a s he hf hz q5 q13 q14 => ogg rfl rfl rfl hz hz0 rfl q5 (fun g => op_iaddr rfl sl_32 (q13.1 g) (q14.1 g) D45.1 D45.2)), (fun a s he hf hz q5 q15 => ogg rfl rfl rfl hz hz0 rfl q5 (fun g => op_load_p rfl ty_70 (by decide) (q15.1 g))), (fun a s he hf hz q5 q11 q16 => ogg rfl rfl rfl hz hz0 rfl q5 (fun g => op_call rfl rfl (ref08_ahead.ok (q11.1 g) (q16.1 g)))), (fun a s he hf hz q5 q17 => ogg rfl rfl rfl hz hz0 rfl q5 (fun g => op_not rfl (q17.1 g))), (fun a s he hf hz q2 q5 q18 => og rfl rfl rfl hz hz0 rfl q2 (fun g => op_and_then rfl (q5.1 g) (fun e => q18.1 ⟨g, e⟩))), (fun a s he hf hz q2 q19 => oe rfl rfl q2 (q19.1)), trivial⟩ ?_
    intro a49 s50 he hf hz hd1 h96; have ⟨hd, E⟩ := hdE hd1 hd E he; have h5 := V_at h5 he (hf 5 rfl); have h1 := (hf 1 rfl).trans h1; have B22 := B22.ext he; obtain ⟨c14, c15, c16, c17, c18, c19, c20, c21⟩ := vm8 he c14 c15 c16 c17 c18 c19 c20 c21; refine wp_condV h96 (fun hb => ?_) (fun hb => ?_)
    ·have h := ite_t hb h; refine wp_sr ?_; refine sq_blk [⟨2, _, []⟩] [0] hz rfl ⟨(fun a s he hf hz => av rfl rfl b_f), trivial⟩ ?_; intro a51 s52 he hf hz hd1 h2; have ⟨hd, E⟩ := hdE hd1 hd E he; refine wp_ret ?_; cases h
     exact ⟨hd, _, results_tmp rfl _ _ _, E, h2⟩
    ·have h := ite_f hb h; refine wp_skip ?_; refine wp_region ?_; refine sq_blk [⟨66, _, []⟩, ⟨67, _, [0]⟩] [1] hz rfl ⟨mvs rfl rfl h5 rfl, (fun a s he hf hz q0 => ad rfl rfl q0 i1), trivial⟩ ?_; intro a53 s54 he hf hz hd1 h67; have ⟨hd, E⟩ := hdE hd1 hd E he; have h1 := (hf 1 rfl).trans h1; have B22 := B22.ext he; obtain ⟨c14, c15, c16, c17, c18, c19, c20, c21⟩ := vm8 he c14 c15 c16 c17 c18 c19 c20 c21; refine sq_blk [⟨5, _, []⟩] [0] hz rfl ⟨avs rfl rfl h67 rfl, trivial⟩ ?_; intro a55 s56 he hf hz hd1 h5; have ⟨hd, E⟩ := hdE hd1 hd E he; have h1 := (hf 1 rfl).trans h1; have B22 := B22.ext he; obtain ⟨c14, c15, c16, c17, c18, c19, c20, c21⟩ := vm8 he c14 c15 c16 c17 c18 c19 c20 c21; exact ⟨_, (by omega : m42 < m42 + 1), _, h, by omega, E, hz, hd, h1, h5, B22, c14, c15, c16, c17, c18, c19, c20, c21⟩
   ·have h := ite_f hb h; refine wp_exit ?_; refine then_exit ?_; refine then_exit ?_; refine inBlock_hit ?_; refine wp_sr ?_; have hz0 := hz; refine sq_blk [⟨97, _, []⟩, ⟨98, _, [0]⟩, ⟨99, _, [1]⟩, ⟨100, _, [2]⟩, ⟨101, _, [3]⟩, ⟨102, _, [3, 4]⟩, ⟨103, _, [3, 5]⟩, ⟨104, _, [3, 6]⟩, ⟨7, _, [7]⟩] [8] hz rfl ⟨(fun a s he hf hz => fb rfl rfl fa_72_5 ((hf 1 rfl).trans h1)), (fun a s he hf hz q0 => lo rfl rfl ty_2 q0 (B22.ext he) rfl (vm he c20)), (fun a s he hf hz q1 => opw rfl (op_geq rfl q1 i1)), mvq rfl rfl, (fun a s he hf hz q3 => og rfl rfl rfl hz hz0 rfl q3 (fun g => op_faddr_b rfl fa_72_5 ((hf 1 rfl).trans h1))), (fun a s he hf hz q3 q4 => og rfl rfl rfl hz hz0 rfl q3 (fun g => op_load1 rfl ty_2 (q4.1 g) (B22.ext he) rfl (vm he c20))), (fun a s he hf hz q3 q5 => og rfl rfl rfl hz hz0 rfl q3 (fun g => op_leq rfl (q5.1 g) (lit_i (k := .i64) (n := 9999) (by decide)))), (fun a s he hf hz q3 q6 => an rfl rfl q3 (q6.1)), avq rfl rfl, trivial⟩ ?_; intro a57 s58 he hf hz hd1 h7; have hd := hd1.trans hd; have h1 := (hf 1 rfl).trans h1; have B22 := B22.ext he; obtain ⟨c18, c20, c21⟩ := vm3 he c18 c20 c21
    have E := E.trans he; refine wp_seq ?_; refine wp_sr ?_; refine sq_blk [⟨105, _, []⟩, ⟨106, _, [0]⟩] [1] hz rfl ⟨(fun a s he hf hz => fb rfl rfl fa_72_3 ((hf 1 rfl).trans h1)), (fun a s he hf hz q0 => lo rfl rfl ty_3 q0 (B22.ext he) rfl (vm he c18)), trivial⟩ ?_; intro a59 s60 he hf hz hd1 h106; have ⟨hd, E⟩ := hdE hd1 hd E he; have h7 := V_at h7 he (hf 7 rfl); have h1 := (hf 1 rfl).trans h1; have B22 := B22.ext he; obtain ⟨c20, c21⟩ := vm2 he c20 c21; refine wp_block ?_; refine wp_sr ?_; refine sq_blk [⟨108, _, []⟩, ⟨107, _, [0]⟩] [1] hz rfl ⟨(fun a s he hf hz => eq_ rfl rfl (V_at h106 he (hf 106 rfl)) i1), avq rfl rfl, trivial⟩ ?_; intro a61 s62 he hf hz hd1 h107; have ⟨hd, E⟩ := hdE hd1 hd E he; obtain ⟨h7, h106⟩ := va2 he hf h7 h106 rfl; have h1 := (hf 1 rfl).trans h1; have B22 := B22.ext he; obtain ⟨c20, c21⟩ := vm2 he c20 c21; refine wp_condV h107 (fun hb => ?_) (fun hb => ?_)
    ·have h := ite_t hb h; refine wp_sr ?_; have hz0 := hz; refine sq_blk [⟨109, _, []⟩, ⟨110, _, [0]⟩, ⟨111, _, [1]⟩, ⟨112, _, [1, 2]⟩, ⟨113, _, [1, 3]⟩, ⟨114, _, [1, 4]⟩, ⟨115, _, [1, 5]⟩, ⟨2, _, [6]⟩] [7] hz rfl ⟨mvs rfl rfl h7 rfl, mvq rfl rfl, (fun a s he hf hz q1 => og rfl rfl rfl hz hz0 rfl q1 (fun g => op_faddr_b rfl fa_72_6 ((hf 1 rfl).trans h1))), (fun a s he hf hz q1 q2 => og rfl rfl rfl hz hz0 rfl q1 (fun g => op_load1 rfl ty_32 (q2.1 g) (B22.ext he) rfl (vm he c21))), (fun a s he hf hz q1 q3 => og rfl rfl rfl hz hz0 rfl q1 (fun g => op_len rfl u_32 (q3.1 g))), (fun a s he hf hz q1 q4 => og rfl rfl rfl hz hz0 rfl q1 (fun g => op_eql rfl (q4.1 g) i0)), (fun a s he hf hz q1 q5 => an rfl rfl q1 (q5.1)), avq rfl rfl, trivial⟩ ?_; intro a63 s64 he hf hz hd1 h2; have ⟨hd, E⟩ := hdE hd1 hd E he; refine wp_ret ?_; cases h
     exact ⟨hd, _, results_tmp rfl _ _ _, E, h2⟩
    ·have h := ite_f hb h; refine wp_sr ?_; refine sq_blk [⟨117, _, []⟩, ⟨116, _, [0]⟩] [1] hz rfl ⟨(fun a s he hf hz => eq_ rfl rfl (V_at h106 he (hf 106 rfl)) (lit_i (k := .i64) (n := 2) (by decide))), avq rfl rfl, trivial⟩ ?_; intro a65 s66 he hf hz hd1 h116; have ⟨hd, E⟩ := hdE hd1 hd E he; obtain ⟨h7, h106⟩ := va2 he hf h7 h106 rfl; have h1 := (hf 1 rfl).trans h1; have B22 := B22.ext he; have c20 := vm he c20; refine wp_condV h116 (fun hb => ?_) (fun hb => ?_)
     ·have h := ite_t hb h; refine wp_sr ?_; refine sq_blk [⟨118, _, []⟩, ⟨2, _, [0]⟩] [1] hz rfl ⟨mvs rfl rfl h7 rfl, avq rfl rfl, trivial⟩ ?_; intro a67 s68 he hf hz hd1 h2; have ⟨hd, E⟩ := hdE hd1 hd E he; refine wp_ret ?_; cases h
      exact ⟨hd, _, results_tmp rfl _ _ _, E, h2⟩
     ·have h := ite_f hb h; refine wp_sr ?_; refine sq_blk [⟨120, _, []⟩, ⟨119, _, [0]⟩] [1] hz rfl ⟨(fun a s he hf hz => eq_ rfl rfl (V_at h106 he (hf 106 rfl)) (lit_i (k := .i64) (n := 3) (by decide))), avq rfl rfl, trivial⟩ ?_; intro a69 s70 he hf hz hd1 h119; have ⟨hd, E⟩ := hdE hd1 hd E he; have h1 := (hf 1 rfl).trans h1; have B22 := B22.ext he; have c20 := vm he c20; refine wp_condV h119 (fun hb => ?_) (fun hb => ?_)
      ·have h := ite_t hb h; refine wp_sr ?_; refine sq_blk [⟨121, _, []⟩, ⟨122, _, [0]⟩, ⟨123, _, [1]⟩, ⟨2, _, [2]⟩] [3] hz rfl ⟨(fun a s he hf hz => fb rfl rfl fa_72_5 ((hf 1 rfl).trans h1)), (fun a s he hf hz q0 => lo rfl rfl ty_2 q0 (B22.ext he) rfl (vm he c20)), (fun a s he hf hz q1 => eq_ rfl rfl q1 i0), avq rfl rfl, trivial⟩ ?_; intro a71 s72 he hf hz hd1 h2; have ⟨hd, E⟩ := hdE hd1 hd E he; refine wp_ret ?_; cases h
       exact ⟨hd, _, results_tmp rfl _ _ _, E, h2⟩
      ·have h := ite_f hb h; refine wp_skip ?_; refine wp_sr ?_; refine sq_blk [⟨2, _, []⟩] [0] hz rfl ⟨(fun a s he hf hz => av rfl rfl b_f), trivial⟩ ?_; intro a73 s74 he hf hz hd1 h2; have ⟨hd, E⟩ := hdE hd1 hd E he; refine wp_ret ?_; cases h
       exact ⟨hd, _, results_tmp rfl _ _ _, E, h2⟩
theorem ref08_Right.nice (x0 : Op) (b0 : kOp.bd x0) : ∃ k, ref08_Right.f k x0 = some (rightO x0) := by
 have hm := maxLen_lt
 have hb : x0.seen.length ≤ maxLen := b0.2.2.2.2.2.2.1
 have hn := inK64 (show inK .i64 x0.dot.n from b0.1.2)
 have fin : ref08_Right.l0 1 x0 (x0.seen.length : Int) = some (kindOk x0) := by
  simp only [ref08_Right.l0, Int.lt_irrefl, decide_false, Bool.false_eq_true, if_false]
  unfold kindOk
  by_cases h1 : x0.kind = 1
  ·simp [h1]; skip
  ·by_cases h2 : x0.kind = 2
   ·simp [h2]
   ·by_cases h3 : x0.kind = 3 <;> simp [h1, h2, h3]
 have : ∀ y, y ≤ x0.seen.length → ∃ k, ref08_Right.l0 k x0 (y : Int) = some ((if y = 0 then seenV x0.deps x0.seen else seenP x0.deps (x0.seen.getD (y - 1) default) (x0.seen.drop y)) && kindOk x0) := by
  refine rounds x0.seen.length ⟨1, ?_⟩ fun y hy ⟨k, hk⟩ => ?_
  ·rw [fin, List.drop_length]
   by_cases h : x0.seen.length = 0
   ·rw [if_pos h, List.length_eq_zero_iff.1 h] <;> rfl
   ·rw [if_neg h] <;> rfl
  ·rw [if_neg (by omega), Nat.add_sub_cancel] at hk
   push_cast at hk
   have hr : (0 : Int) ≤ y ∧ (y : Int) < x0.seen.length := ⟨by omega, by omega⟩
   have hu : ∀ k, ref08_Right.l0 (k + 1) x0 (y : Int) = if ((!hasV x0.deps (x0.seen.getD y default)) || (decide (0 < y) && !ref08_ahead (x0.seen.getD (y - 1) default) (x0.seen.getD y default))) = true then some false else ref08_Right.l0 k x0 ((y : Int) + 1) := fun k => by
    have hg : ((!(hasV x0.deps (x0.seen.getD y default))) = false ∧ decide ((0 : Int) < (y : Int)) = true) → (0 ≤ IntKind.wrap .i64 ((y : Int) - 1) ∧ IntKind.wrap .i64 ((y : Int) - 1) < (x0.seen.length : Int)) := fun ⟨_, h⟩ => by
     have : (0 : Int) < y := by simpa using h
     rw [w64 (by omega) (by omega)]; omega
    simp only [ref08_Right.l0, Int.toNat_natCast, hr, and_self, decide_true, if_true, if_pos hg]
    rw [w64s (by omega)]
    by_cases h0 : y = 0
    ·subst h0; simp
    ·have e1 : IntKind.wrap .i64 ((y : Int) - 1) = ((y - 1 : Nat) : Int) := by rw [w64 (by omega) (by omega)]; omega
     have h1 : (0 : Int) < (y : Int) := by omega
     have h2 : 0 < y := by omega
     rw [e1]
     simp only [Int.toNat_natCast, h1, h2, decide_true, Bool.true_and]
   refine ⟨k + 1, ?_⟩
   rw [hu]
   by_cases h0 : y = 0
   ·subst h0
    have hd := drop_at (xs := x0.seen) (y := 0) default hy
    rw [List.drop_zero] at hd
    rw [if_pos rfl]
    conv => rhs; rw [hd]
    generalize x0.seen.getD 0 default = d at *
    simp only [seenV]
    cases h1 : hasV x0.deps d
    ·simp
    ·simp only [Bool.not_true, Nat.lt_irrefl, decide_false, Bool.false_and, Bool.or_self, Bool.false_eq_true, if_false, Bool.true_and]; exact hk
   ·rw [if_neg h0, drop_at default hy]
    have h2 : 0 < y := by omega
    generalize x0.seen.getD y default = d at *
    generalize x0.seen.getD (y - 1) default = e at *
    simp only [seenP, h2, decide_true, Bool.true_and]
    cases h1 : hasV x0.deps d
    ·simp
    ·cases h3 : ref08_ahead e d
     ·simp
     ·simp only [Bool.not_true, Bool.or_self, Bool.false_eq_true, if_false, Bool.true_and]; exact hk
 have hw : IntKind.wrap .i64 (x0.dot.n - 1) = x0.dot.n - 1 ∨ vector_isDot x0.dot = false := by
  cases h : vector_isDot x0.dot
  ·exact .inr rfl
  ·obtain ⟨_, h1, h2⟩ := isDot_parts h
   exact .inl (w64 (by omega) (by omega))
 obtain ⟨k, hk⟩ := this 0 (Nat.zero_le _)
 rw [if_pos rfl] at hk
 unfold ref08_Right.f rightO
 have ht : ∀ x : Str, textOk x = (!(decide ((x.length : Int) < 1) || decide ((32 : Int) < (x.length : Int)))) := fun x => by
  unfold textOk
  by_cases a1 : 1 ≤ x.length <;> by_cases a2 : x.length ≤ 32 <;> simp [a1, a2] <;> omega
 cases h1 : vector_isDot x0.dot
 ·exact ⟨0, by simp [h1]⟩
 have hw : IntKind.wrap .i64 (x0.dot.n - 1) = x0.dot.n - 1 := by
  rcases hw with h | h
  ·exact h
  ·rw [h1] at h; cases h
 simp only [h1, hw]
 cases h2 : rightV x0.deps
 ·exact ⟨0, by simp⟩
 by_cases h3 : at_ x0.deps x0.dot.who = x0.dot.n - 1
 ·by_cases h6 : x0.seen.length ≤ 128
  ·have h6' : ¬ (128 : Int) < x0.seen.length := by omega
   cases h4 : textOk x0.cart
   ·rw [ht] at h4
    exact ⟨0, by
     simp only [h3, h6, h6', decide_true, decide_false, Bool.not_true, Bool.or_self, Bool.false_eq_true, if_false, Bool.true_and, Bool.false_and]
     rw [if_pos]
     simp only [Bool.not_eq_false'] at h4
     rw [h4]; rfl⟩
   ·cases h5 : textOk x0.item
    ·rw [ht] at h4 h5
     exact ⟨0, by
      simp only [h3, h6, h6', decide_true, decide_false, Bool.not_true, Bool.or_self, Bool.false_eq_true, if_false, Bool.true_and, Bool.false_and]
      rw [if_pos]
      simp only [Bool.not_eq_false', Bool.not_eq_true'] at h4 h5
      rw [h4, Bool.false_or, h5]⟩
    ·rw [ht] at h4 h5
     refine ⟨k, ?_⟩
     simp only [h3, h6, h6', decide_true, decide_false, Bool.not_true, Bool.or_self, Bool.false_eq_true, if_false, Bool.true_and]
     rw [if_neg]
     ·exact hk
     ·simp only [Bool.not_eq_true'] at h4 h5
      rw [h4, Bool.false_or, h5]; simp
  ·have h6' : (128 : Int) < x0.seen.length := by omega
   exact ⟨0, by simp [h6, h6']⟩
 ·exact ⟨0, by simp [h3]⟩
theorem ref08_Right.ct {s0 : St} {v0 : Value} {x0 : Op} (k0 : kOp.V s0 v0 x0) : Cl Try.prog 52 #[v0] s0 (Okf s0 (Fact.v kB (rightO x0))) := by
 obtain ⟨k, h⟩ := ref08_Right.nice x0 (Kn.V_bd k0)
 exact ref08_Right.ok k0 h
end
section
attribute [local irreducible] Kn.V PtrV
end
section
attribute [local irreducible] Kn.V PtrV
end
section
attribute [local irreducible] Kn.V PtrV
end
section
attribute [local irreducible] Kn.V PtrV
end
section
attribute [local irreducible] Kn.V PtrV
end
section
attribute [local irreducible] Kn.V PtrV
def rightF (f : Frame) : Bool := isName f.src && isName f.dst && !decide (f.src = f.dst) && textOk f.cart && decide (1 ≤ f.session) && decide (f.session ≤ 1152921504606846976) && decide (0 ≤ f.index) &&
  (if f.kind = 1 then decide (f.many = 0) && decide (f.ops.length = 0) && rightV f.known && decide (f.index ≤ 1152921504606846976)
   else if f.kind = 2 then decide (f.known.length = 0) && decide (f.index < f.many) && decide (f.many ≤ 512) && decide (1 ≤ f.ops.length) && decide (f.ops.length ≤ 8) && f.ops.all (fun o => decide (o.cart = f.cart) && rightO o)
   else decide (f.kind = 3) && decide (f.many = 0) && decide (f.known.length = 0) && decide (f.ops.length = 0) && decide (f.index ≤ 512))
theorem textOk_parts {x : Str} (h : textOk x = true) : 1 ≤ x.length ∧ x.length ≤ 32 := by
 unfold textOk at h
 simp only [Bool.and_eq_true, decide_eq_true_eq] at h
 exact h
theorem name_parts {x : Str} (h : isName x = true) : 1 ≤ x.length ∧ x.length ≤ 24 := by
 unfold isName at h
 simp only [Bool.and_eq_true, decide_eq_true_eq] at h
 omega
theorem rightF_parts {f : Frame} (h : rightF f = true) : (1 ≤ f.src.length ∧ f.src.length ≤ 24) ∧ (1 ≤ f.dst.length ∧ f.dst.length ≤ 24) ∧ (1 ≤ f.cart.length ∧ f.cart.length ≤ 32) ∧ (1 ≤ f.session ∧ f.session ≤ 1152921504606846976) ∧ (0 ≤ f.index ∧ f.index ≤ 1152921504606846976) ∧
  ((f.kind = 1 ∧ f.many = 0 ∧ f.ops = [] ∧ rightV f.known = true) ∨ (f.kind = 2 ∧ f.known = [] ∧ (1 ≤ f.many ∧ f.many ≤ 512) ∧ (1 ≤ f.ops.length ∧ f.ops.length ≤ 8) ∧ ∀ o ∈ f.ops, rightO o = true) ∨ (f.kind = 3 ∧ f.many = 0 ∧ f.known = [] ∧ f.ops = [])) := by
 unfold rightF at h
 simp only [Bool.and_eq_true, decide_eq_true_eq] at h
 obtain ⟨⟨⟨⟨⟨⟨⟨h1, h2⟩, h3⟩, h4⟩, h5⟩, h6⟩, h7⟩, h8⟩ := h
 have n1 := name_parts h1
 have n2 := name_parts h2
 have n3 := textOk_parts h4
 split at h8
 ·rename_i hk
  simp only [Bool.and_eq_true, decide_eq_true_eq] at h8
  obtain ⟨⟨⟨g1, g2⟩, g3⟩, g4⟩ := h8
  exact ⟨n1, n2, n3, ⟨h5, h6⟩, ⟨h7, g4⟩, .inl ⟨hk, g1, List.length_eq_zero_iff.1 g2, g3⟩⟩
 ·split at h8
  ·rename_i hk
   simp only [Bool.and_eq_true, decide_eq_true_eq, List.all_eq_true] at h8
   obtain ⟨⟨⟨⟨⟨g1, g2⟩, g3⟩, g4⟩, g5⟩, g6⟩ := h8
   exact ⟨n1, n2, n3, ⟨h5, h6⟩, ⟨h7, by omega⟩, .inr (.inl ⟨hk, List.length_eq_zero_iff.1 g1, ⟨by omega, g3⟩, ⟨g4, g5⟩, fun o ho => (g6 o ho).2⟩)⟩
  ·simp only [Bool.and_eq_true, decide_eq_true_eq] at h8
   obtain ⟨⟨⟨⟨g1, g2⟩, g3⟩, g4⟩, g5⟩ := h8
   exact ⟨n1, n2, n3, ⟨h5, h6⟩, ⟨h7, by omega⟩, .inr (.inr ⟨g1, g2, List.length_eq_zero_iff.1 g3, List.length_eq_zero_iff.1 g4⟩)⟩
def idxF (φ : Op → Bool) : List Op → Nat → Int
 | [], _ => -1
 | x :: l, i => if φ x = true then (i : Int) else idxF φ l (i + 1)
theorem idxF_any (φ : Op → Bool) : ∀ (l : List Op) (i : Nat), decide (0 ≤ idxF φ l i) = l.any φ
 | [], i => by simp [idxF]
 | x :: l, i => by
  rw [List.any_cons, ← idxF_any φ l (i + 1)]
  have e : idxF φ (x :: l) i = if φ x = true then (i : Int) else idxF φ l (i + 1) := rfl
  rw [e]
  by_cases h : φ x = true
  ·rw [if_pos h, h]; simp
  ·rw [if_neg h]; rw [Bool.not_eq_true] at h; rw [h, Bool.false_or]
def indexOp.l0 : Nat → (List Op) → (Op → Bool) → Int → Option (Int)
 | 0, _, _, _ => none
 | m8 + 1, x0, φ1, y7 => (if decide (y7 < (x0.length : Int)) = true then (if (0 ≤ y7 ∧ y7 < (x0.length : Int)) then (if φ1 (List.getD x0 (y7).toNat default) = true then (some y7) else (indexOp.l0 m8 x0 φ1 (IntKind.wrap .i64 (y7 + 1)))) else none) else (some (-1)))
def indexOp.f (k : Nat) (x0 : (List Op)) (φ1 : Op → Bool) : Option (Int) := (indexOp.l0 k x0 φ1 0)
theorem indexOp.ok {s0 : St} {v0 : Value} {x0 : (List Op)} {v1 : Value} {g1 : FuncId} {caps1 : List Value} {φ1 : Op → Bool} {k : Nat} {r : Int} (k0 : (kSl kOp).V s0 v0 x0) (e1 : v1 = .func (.func g1) #[] caps1.toArray) (F1 : ∀ {s : St} {w0 : Value} {y0 : Op}, Ext s0 s → kOp.V s w0 y0 → Cl Try.prog g1 ([w0] ++ caps1).toArray s (Okf s (Fact.v kB (φ1 y0)))) (h : indexOp.f k x0 φ1 = some r) : Cl Try.prog 92 #[v0, v1] s0 (Okf s0 (Fact.v (kI .i64) r)) := by
 unfold indexOp.f at h
 refine cl_of_wp Try.func92 rfl en_92 fun a hz hd hp => ?_; have hz : a.tmps.size = 19 := hz; have E := Chg.refl (fun _ => False) s0; have h0 := V_at k0 E (hp 0 v0 rfl); have h1 := (hp 1 v1 rfl).trans e1; refine wp_sr ?_; refine sq_blk [⟨4, _, []⟩] [] hz rfl ⟨(fun a s he hf hz => av rfl rfl i0), trivial⟩ ?_; intro a1 s2 he hf hz hd1; have ⟨hd, E⟩ := hdE hd1 hd E he; have h0 := V_at h0 he (hf 0 rfl); have h1 := (hf 1 rfl).trans h1; refine wp_seq ?_; refine wp_sr ?_; refine sq_blk [⟨6, _, []⟩, ⟨7, _, [0]⟩, ⟨8, _, []⟩] [1, 2] hz rfl ⟨mvs rfl rfl h0 rfl, (fun a s he hf hz q0 => le_ rfl rfl u_22 q0), (fun a s he hf hz => mv rfl rfl i0), trivial⟩ ?_; intro a3 s4 he hf hz hd1 h7 h8; have ⟨hd, E⟩ := hdE hd1 hd E he; have h0 := V_at h0 he (hf 0 rfl); have h1 := (hf 1 rfl).trans h1; refine wp_block ?_
 refine wp_loop (k := k) (fun m8 a s => ∃ (y7 : Int), indexOp.l0 m8 x0 φ1 y7 = some r ∧ m8 ≤ k ∧ Ext s0 s ∧ a.tmps.size = 19 ∧ a.defers = [] ∧ (kSl kOp).V s (a.get 0) x0 ∧ a.get 1 = .func (.func g1) #[] caps1.toArray ∧ (kI .i64).V s (a.get 7) (x0.length : Int) ∧ (kI .i64).V s (a.get 8) y7) ⟨_, h, Nat.le_refl _, E, hz, hd, h0, h1, h7, h8⟩ ?_; rintro m8 a6 s5 ⟨y7, h, hkm8, E, hz, hd, h0, h1, h7, h8⟩; obtain _ | m8 := m8
 ·cases h
 refine wp_sr ?_; refine sq_blk [⟨9, _, []⟩] [0] hz rfl ⟨(fun a s he hf hz => ls rfl rfl (V_at h8 he (hf 8 rfl)) (V_at h7 he (hf 7 rfl))), trivial⟩ ?_; intro a9 s10 he hf hz hd1 h9; have ⟨hd, E⟩ := hdE hd1 hd E he; obtain ⟨h0, h7, h8⟩ := va3 he hf h0 h7 h8 rfl; have h1 := (hf 1 rfl).trans h1; refine wp_seq ?_; refine wp_condV h9 (fun hb => ?_) (fun hb => ?_)
 ·have h := ite_t hb h; refine wp_skip ?_; refine wp_seq ?_; refine wp_block ?_; refine wp_sr ?_; refine sq_blk [⟨10, _, []⟩, ⟨5, _, [0]⟩] [1] hz rfl ⟨mvs rfl rfl h8 rfl, avq rfl rfl, trivial⟩ ?_; intro a11 s12 he hf hz hd1 h5; have ⟨hd, E⟩ := hdE hd1 hd E he; obtain ⟨h0, h7, h8⟩ := va3 he hf h0 h7 h8 rfl; have h1 := (hf 1 rfl).trans h1; refine wp_sr ?_; obtain ⟨D13, h⟩ := need h; refine sq_blk [⟨11, _, []⟩, ⟨12, _, []⟩, ⟨13, _, []⟩, ⟨14, _, [1, 2]⟩, ⟨15, _, [3]⟩, ⟨16, _, [0, 4]⟩] [5] hz rfl ⟨mes rfl rfl h1 rfl, mvs rfl rfl h0 rfl, mvs rfl rfl h5 rfl, (fun a s he hf hz q1 q2 => ia rfl rfl sl_22 q1 q2 D13.1 D13.2), (fun a s he hf hz q3 => lp rfl rfl ty_72 (by decide) q3), (fun a s he hf hz q0 q4 => opw rfl (op_callv rfl q0 rfl (F1 (E.trans he) q4))), trivial⟩ ?_; intro a14 s15 he hf hz hd1 h16; have ⟨hd, E⟩ := hdE hd1 hd E he; obtain ⟨h0, h5, h7, h8⟩ := va4 he hf h0 h5 h7 h8 rfl; have h1 := (hf 1 rfl).trans h1; refine wp_condV h16 (fun hb => ?_) (fun hb => ?_)
  ·have h := ite_t hb h; refine wp_sr ?_; refine sq_blk [⟨17, _, []⟩, ⟨4, _, [0]⟩] [1] hz rfl ⟨mvs rfl rfl h5 rfl, avq rfl rfl, trivial⟩ ?_; intro a16 s17 he hf hz hd1 h4; have ⟨hd, E⟩ := hdE hd1 hd E he; refine wp_ret ?_; cases h
   exact ⟨hd, _, results_tmp rfl _ _ _, E, h4⟩
  ·have h := ite_f hb h; refine wp_skip ?_; refine wp_region ?_; refine sq_blk [⟨18, _, []⟩] [0] hz rfl ⟨(fun a s he hf hz => ad rfl rfl (V_at h8 he (hf 8 rfl)) i1), trivial⟩ ?_; intro a18 s19 he hf hz hd1 h18; have ⟨hd, E⟩ := hdE hd1 hd E he; obtain ⟨h0, h7⟩ := va2 he hf h0 h7 rfl; have h1 := (hf 1 rfl).trans h1; refine sq_blk [⟨8, _, []⟩] [0] hz rfl ⟨mvs rfl rfl h18 rfl, trivial⟩ ?_; intro a20 s21 he hf hz hd1 h8; have ⟨hd, E⟩ := hdE hd1 hd E he; obtain ⟨h0, h7⟩ := va2 he hf h0 h7 rfl; have h1 := (hf 1 rfl).trans h1; exact ⟨_, (by omega : m8 < m8 + 1), _, h, by omega, E, hz, hd, h0, h1, h7, h8⟩
 ·have h := ite_f hb h; refine wp_exit ?_; refine then_exit ?_; refine then_exit ?_; refine inBlock_hit ?_; refine wp_sr ?_; refine sq_blk [⟨4, _, []⟩] [0] hz rfl ⟨(fun a s he hf hz => av rfl rfl (lit_i (k := .i64) (n := (-1)) (by decide))), trivial⟩ ?_; intro a22 s23 he hf hz hd1 h4; have ⟨hd, E⟩ := hdE hd1 hd E he; refine wp_ret ?_; cases h
  exact ⟨hd, _, results_tmp rfl _ _ _, E, h4⟩
def idxF0 (x : List Op) (φ : Op → Bool) : Int := idxF φ x 0
theorem indexOp.nice (x0 : List Op) (φ1 : Op → Bool) (b0 : (kSl kOp).bd x0) : ∃ k, indexOp.f k x0 φ1 = some (idxF0 x0 φ1) := by
 have hb : x0.length ≤ maxLen := b0.1
 have hm := maxLen_lt
 have : ∀ y, y ≤ x0.length → ∃ k, indexOp.l0 k x0 φ1 (y : Int) = some (idxF φ1 (x0.drop y) y) := by
  refine rounds x0.length ⟨1, ?_⟩ fun y hy ⟨k, hk⟩ => ?_
  ·simp only [indexOp.l0, List.drop_length, idxF, Int.lt_irrefl, decide_false, Bool.false_eq_true, if_false]
  ·push_cast at hk
   have hr : (0 : Int) ≤ y ∧ (y : Int) < x0.length := ⟨by omega, by omega⟩
   refine ⟨k + 1, ?_⟩
   rw [drop_at default hy]
   simp only [indexOp.l0, idxF, hr, and_self, if_true, decide_true]
   rw [Int.toNat_natCast]
   generalize x0.getD y default = o
   cases φ1 o
   ·simp only [Bool.false_eq_true, if_false]; rw [w64s (by omega)]; exact hk
   ·simp only [if_true]
 exact this 0 (Nat.zero_le _)
theorem indexOp.ct {s0 : St} {v0 : Value} {x0 : (List Op)} {v1 : Value} {g1 : FuncId} {caps1 : List Value} {φ1 : Op → Bool} (k0 : (kSl kOp).V s0 v0 x0) (e1 : v1 = .func (.func g1) #[] caps1.toArray) (F1 : ∀ {s : St} {w0 : Value} {y0 : Op}, Ext s0 s → kOp.V s w0 y0 → Cl Try.prog g1 ([w0] ++ caps1).toArray s (Okf s (Fact.v kB (φ1 y0)))) : Cl Try.prog 92 #[v0, v1] s0 (Okf s0 (Fact.v (kI .i64) (idxF0 x0 φ1))) := by
 obtain ⟨k, h⟩ := indexOp.nice x0 φ1 (Kn.V_bd k0)
 exact indexOp.ok k0 e1 F1 h
def hasOp (x0 : (List Op)) (φ1 : Op → Bool) : Bool := (decide (0 ≤ (idxF0 x0 φ1)))
theorem hasOp.ok {s0 : St} {v0 : Value} {x0 : (List Op)} {v1 : Value} {g1 : FuncId} {caps1 : List Value} {φ1 : Op → Bool} (k0 : (kSl kOp).V s0 v0 x0) (e1 : v1 = .func (.func g1) #[] caps1.toArray) (F1 : ∀ {s : St} {w0 : Value} {y0 : Op}, Ext s0 s → kOp.V s w0 y0 → Cl Try.prog g1 ([w0] ++ caps1).toArray s (Okf s (Fact.v kB (φ1 y0)))) : Cl Try.prog 45 #[v0, v1] s0 (Okf s0 (Fact.v kB (hasOp x0 φ1))) := by
 obtain ⟨r, h⟩ : ∃ r, some (hasOp x0 φ1) = some r := ⟨_, rfl⟩
 rw [Option.some.inj h]
 have h : (some (decide (0 ≤ (idxF0 x0 φ1)))) = some r := by rw [← h]; unfold hasOp; first | rfl | simp only [apply_ite some] | (repeat' (first | rfl | split))
 refine cl_of_wp Try.func45 rfl en_45 fun a hz hd hp => ?_; have hz : a.tmps.size = 9 := hz; have E := Chg.refl (fun _ => False) s0; have h0 := V_at k0 E (hp 0 v0 rfl); have h1 := (hp 1 v1 rfl).trans e1; refine wp_sr ?_; refine sq_blk [⟨4, _, []⟩] [] hz rfl ⟨(fun a s he hf hz => av rfl rfl b_f), trivial⟩ ?_; intro a1 s2 he hf hz hd1; have ⟨hd, E⟩ := hdE hd1 hd E he; have h0 := V_at h0 he (hf 0 rfl); have h1 := (hf 1 rfl).trans h1; refine wp_sr ?_; refine sq_blk [⟨5, _, []⟩, ⟨6, _, []⟩, ⟨7, _, [0, 1]⟩, ⟨8, _, [2]⟩, ⟨4, _, [3]⟩] [4] hz rfl ⟨mvs rfl rfl h0 rfl, mes rfl rfl h1 rfl, (fun a s he hf hz q0 q1 => opw rfl (op_call rfl (argc rfl (argc rfl rfl)) (indexOp.ct q0 q1 (φ1 := φ1) (fun he' hv0 => F1 ((E.trans he).trans he') hv0)))), (fun a s he hf hz q2 => opw rfl (op_geq rfl q2 i0)), avq rfl rfl, trivial⟩ ?_; intro a3 s4 he hf hz hd1 h4; have ⟨hd, E⟩ := hdE hd1 hd E he; refine wp_ret ?_; cases h
 exact ⟨hd, _, results_tmp rfl _ _ _, E, h4⟩
def frame_Right_1 (x0 : Op) (x1 : Frame) : Bool := ((!decide (x0.cart = x1.cart)) || (!(rightO x0)))
theorem frame_Right_1.ok {s0 : St} {v0 : Value} {x0 : Op} {b1 : Nat} {x1 : Frame} (k0 : kOp.V s0 v0 x0) (H1 : Hd s0 b1 34 kFrame x1) : Cl Try.prog 81 #[v0, .pointer (some ⟨b1, 0, none⟩)] s0 (Okf s0 (Fact.v kB (frame_Right_1 x0 x1))) := by
 obtain ⟨r, h⟩ : ∃ r, some (frame_Right_1 x0 x1) = some r := ⟨_, rfl⟩
 rw [Option.some.inj h]
 have h : (some ((!decide (x0.cart = x1.cart)) || (!(rightO x0)))) = some r := by rw [← h]; unfold frame_Right_1; first | rfl | simp only [apply_ite some] | (repeat' (first | rfl | split))
 refine cl_of_wp Try.func81 rfl en_81 fun a hz hd hp => ?_; have hz : a.tmps.size = 14 := hz; have E := Chg.refl (fun _ => False) s0; obtain ⟨e2, B1, r3⟩ := H1; obtain ⟨u4, u5, u6, u7, u8, u9, u10, u11, u12, rfl, c13, c14, c15, c16, c17, c18, c19, c20, c21⟩ := kFrame_open r3; have h0 := V_at k0 E (hp 0 v0 rfl); have h1 : a.get 1 = .pointer (some ⟨b1, 0, none⟩) := hp 1 _ rfl; refine wp_sr ?_; refine sq_set hz rfl rfl rfl (op_boxn rfl rfl h0 (fun s23 e25 he BB24 r26 => fun a22 h2 hf hz hd1 => ?_)); obtain ⟨b43, hb43⟩ : ∃ b, b = s0.w.heap.size := ⟨_, rfl⟩; rw [← hb43] at BB24 h2; have B43 := BB24; have l43 : s0.w.heap.size ≤ b43 := by have := E.size; omega
 have ⟨hd, E⟩ := hdE hd1 hd E he; have h1 := (hf 1 rfl).trans h1; have B1 := B1.ext he; have c16 := vm he c16; obtain ⟨u27, u28, u29, u30, u31, u32, u33, u34, rfl, c35, c36, c37, c38, c39, c40, c41, c42⟩ := kOp_open r26; refine sq_blk [⟨3, _, []⟩] [] hz rfl ⟨(fun a s he hf hz => av rfl rfl b_f), trivial⟩ ?_; intro a44 s45 he hf hz hd1; have ⟨hd, E⟩ := hdE hd1 hd E he; obtain ⟨h1, h2⟩ := ea2 hf h1 h2 rfl; obtain ⟨B1, B43⟩ := bx2 he B1 B43; obtain ⟨c16, c35, c36, c37⟩ := vm4 he c16 c35 c36 c37; obtain ⟨c38, c39, c40, c41, c42⟩ := vm5 he c38 c39 c40 c41 c42; refine wp_sr ?_; have hz0 := hz; refine sq_blk [⟨4, _, []⟩, ⟨5, _, [0]⟩, ⟨6, _, []⟩, ⟨7, _, [2]⟩, ⟨8, _, [1, 3]⟩, ⟨9, _, [4]⟩, ⟨10, _, [5]⟩, ⟨11, _, [5, 6]⟩, ⟨12, _, [5, 7]⟩, ⟨13, _, [5, 8]⟩, ⟨3, _, [9]⟩] [10] hz rfl ⟨(fun a s he hf hz => fb rfl rfl fa_72_2 ((hf 2 rfl).trans h2)), (fun a s he hf hz q0 => lo rfl rfl ty_9 q0 (B43.ext he) rfl (vm he c38)), (fun a s he hf hz => fb rfl rfl fa_34_3 ((hf 1 rfl).trans h1)), (fun a s he hf hz q2 => lo rfl rfl ty_9 q2 (B1.ext he) rfl (vm he c16)), (fun a s he hf hz q1 q3 => opw rfl (op_sneq rfl q1 q3)), mvq rfl rfl, (fun a s he hf hz q5 => og rfl rfl rfl hz hz0 rfl q5 (fun g => op_loadn rfl ty_72 rfl ((hf 2 rfl).trans h2) (B43.ext he) rfl (kOp_eta (x := x0) (vm he c35) (vm he c36) (vm he c37) (vm he c38) (vm he c39) (vm he c40) (vm he c41) (vm he c42)))), (fun a s he hf hz q5 q6 => og rfl rfl rfl hz hz0 rfl q5 (fun g => op_call rfl rfl (order_Right.ct (q6.1 g)))), (fun a s he hf hz q5 q7 => og rfl rfl rfl hz hz0 rfl q5 (fun g => op_not rfl (q7.1 g))), (fun a s he hf hz q5 q8 => oe rfl rfl q5 (q8.1)), avq rfl rfl, trivial⟩ ?_
 intro a46 s47 he hf hz hd1 h3; have ⟨hd, E⟩ := hdE hd1 hd E he; refine wp_ret ?_; cases h
 exact ⟨hd, _, results_tmp rfl _ _ _, E, h3⟩
def frame_Right (x0 : Frame) : Bool := if ((((((((!(isName x0.src)) || (!(isName x0.dst))) || (decide (x0.src = x0.dst))) || (decide (x0.cart = ([] : Str)))) || (decide (32 < (x0.cart.length : Int)))) || (decide (x0.session < 1))) || (decide (1152921504606846976 < x0.session))) || (decide (x0.index < 0))) = true then (false) else (if decide (x0.kind = 1) = true then ((((frame_bare (⟨x0.kind, x0.src, x0.dst, x0.cart, x0.session, x0.index, x0.many, ([] : (List Dot)), x0.ops⟩ : Frame)) && (rightV x0.known)) && (decide (x0.index ≤ 1152921504606846976)))) else (if decide (x0.kind = 2) = true then (((((((decide ((x0.known.length : Int) = 0)) && (decide (x0.index < x0.many))) && (decide (x0.many ≤ 512))) && (decide (0 < (x0.ops.length : Int)))) && (decide ((x0.ops.length : Int) ≤ 8))) && (!(hasOp x0.ops (fun y0 => (frame_Right_1 y0 x0)))))) else ((((decide (x0.kind = 3)) && (frame_bare x0)) && (decide (x0.index ≤ 512))))))
theorem frame_Right.ok {s0 : St} {v0 : Value} {x0 : Frame} (k0 : kFrame.V s0 v0 x0) : Cl Try.prog 29 #[v0] s0 (Okf s0 (Fact.v kB (frame_Right x0))) := by
 obtain ⟨r, h⟩ : ∃ r, some (frame_Right x0) = some r := ⟨_, rfl⟩
 rw [Option.some.inj h]
 have h : (if ((((((((!(isName x0.src)) || (!(isName x0.dst))) || (decide (x0.src = x0.dst))) || (decide (x0.cart = ([] : Str)))) || (decide (32 < (x0.cart.length : Int)))) || (decide (x0.session < 1))) || (decide (1152921504606846976 < x0.session))) || (decide (x0.index < 0))) = true then (some false) else (if decide (x0.kind = 1) = true then (some (((frame_bare (⟨x0.kind, x0.src, x0.dst, x0.cart, x0.session, x0.index, x0.many, ([] : (List Dot)), x0.ops⟩ : Frame)) && (rightV x0.known)) && (decide (x0.index ≤ 1152921504606846976)))) else (if decide (x0.kind = 2) = true then (some ((((((decide ((x0.known.length : Int) = 0)) && (decide (x0.index < x0.many))) && (decide (x0.many ≤ 512))) && (decide (0 < (x0.ops.length : Int)))) && (decide ((x0.ops.length : Int) ≤ 8))) && (!(hasOp x0.ops (fun y0 => (frame_Right_1 y0 x0)))))) else (some (((decide (x0.kind = 3)) && (frame_bare x0)) && (decide (x0.index ≤ 512))))))) = some r := by rw [← h]; unfold frame_Right; first | rfl | simp only [apply_ite some] | (repeat' (first | rfl | split))
 refine cl_of_wp Try.func29 rfl en_29 fun a hz hd hp => ?_; have hz : a.tmps.size = 115 := hz; have E := Chg.refl (fun _ => False) s0; have h0 := V_at k0 E (hp 0 v0 rfl); refine wp_sr ?_; refine sq_set hz rfl rfl rfl (op_boxn rfl rfl h0 (fun s2 e4 he BB3 r5 => fun a1 h1 hf hz hd1 => ?_)); obtain ⟨b24, hb24⟩ : ∃ b, b = s0.w.heap.size := ⟨_, rfl⟩; rw [← hb24] at BB3 h1; have B24 := BB3; have l24 : s0.w.heap.size ≤ b24 := by have := E.size; omega
 have ⟨hd, E⟩ := hdE hd1 hd E he; obtain ⟨u6, u7, u8, u9, u10, u11, u12, u13, u14, rfl, c15, c16, c17, c18, c19, c20, c21, c22, c23⟩ := kFrame_open r5; refine sq_blk [⟨2, _, []⟩] [] hz rfl ⟨(fun a s he hf hz => av rfl rfl b_f), trivial⟩ ?_; intro a25 s26 he hf hz hd1; have ⟨hd, E⟩ := hdE hd1 hd E he; have h1 := (hf 1 rfl).trans h1; have B24 := B24.ext he; obtain ⟨c15, c16, c17, c18, c19, c20, c21, c22, c23⟩ := vm9 he c15 c16 c17 c18 c19 c20 c21 c22 c23; refine wp_seq ?_; refine wp_sr ?_; have hz0 := hz
 refine sq_blk (⟨5, _, []⟩ :: ⟨6, _, [0]⟩ :: ⟨7, _, [1]⟩ :: ⟨8, _, [2]⟩ :: ⟨9, _, [3]⟩ :: ⟨10, _, [4]⟩ :: ⟨11, _, [4, 5]⟩ :: ⟨12, _, [4, 6]⟩ :: ⟨13, _, [4, 7]⟩ :: ⟨14, _, [4, 8]⟩ :: ⟨15, _, [9]⟩ :: ⟨16, _, [10]⟩ :: ⟨17, _, [10, 11]⟩ :: ⟨18, _, [10]⟩ :: ⟨19, _, [10, 13]⟩ :: ⟨20, _, [10, 12, 14]⟩ :: ⟨21, _, [10, 15]⟩ :: ⟨22, _, [16]⟩ :: ⟨23, _, [17]⟩ :: ⟨24, _, [17, 18]⟩ :: ⟨25, _, [17, 19]⟩ :: ⟨26, _, [17, 20]⟩ :: ⟨27, _, [21]⟩ :: ⟨28, _, [22]⟩ :: ⟨29, _, [22, 23]⟩ :: ⟨30, _, [22, 24]⟩ :: ⟨31, _, [22, 25]⟩ :: ⟨32, _, [22, 26]⟩ :: ⟨33, _, [27]⟩ :: ⟨34, _, [28]⟩ :: ⟨35, _, [28, 29]⟩ :: ⟨36, _, [28, 30]⟩ :: ⟨37, _, [28, 31]⟩ :: ⟨38, _, [32]⟩ :: ⟨39, _, [33]⟩ :: ⟨40, _, [33, 34]⟩ :: ⟨41, _, [33, 35]⟩ :: ⟨42, _, [33, 36]⟩ :: ⟨43, _, [37]⟩ :: ⟨44, _, [38]⟩ :: ⟨45, _, [38, 39]⟩ :: ⟨46, _, [38, 40]⟩ :: ⟨47, _, [38, 41]⟩ :: []) [42] hz rfl ⟨(fun a s he hf hz => fb rfl rfl fa_34_1 ((hf 1 rfl).trans h1)), (fun a s he hf hz q0 => lo rfl rfl ty_9 q0 (B24.ext he) rfl (vm he c16)), (fun a s he hf hz q1 => opw rfl (op_call rfl rfl (vector_IsName.ct q1))), (fun a s he hf hz q2 => no_ rfl rfl q2), mvq rfl rfl, (fun a s he hf hz q4 => og rfl rfl rfl hz hz0 rfl q4 (fun g => op_faddr_b rfl fa_34_2 ((hf 1 rfl).trans h1))), (fun a s he hf hz q4 q5 => og rfl rfl rfl hz hz0 rfl q4 (fun g => op_load1 rfl ty_9 (q5.1 g) (B24.ext he) rfl (vm he c17))), (fun a s he hf hz q4 q6 => og rfl rfl rfl hz hz0 rfl q4 (fun g => op_call rfl rfl (vector_IsName.ct (q6.1 g)))), (fun a s he hf hz q4 q7 => og rfl rfl rfl hz hz0 rfl q4 (fun g => op_not rfl (q7.1 g))), (fun a s he hf hz q4 q8 => oe rfl rfl q4 (q8.1)), mvq rfl rfl, (fun a s he hf hz q10 => og rfl rfl rfl hz hz0 rfl q10 (fun g => op_faddr_b rfl fa_34_1 ((hf 1 rfl).trans h1))), (fun a s he hf hz q10 q11 => og rfl rfl rfl hz hz0 rfl q10 (fun g => op_load1 rfl ty_9 (q11.1 g) (B24.ext he) rfl (vm he c16))), (fun a s he hf hz q10 => og rfl rfl rfl hz hz0 rfl q10 (fun g => op_faddr_b rfl fa_34_2 ((hf 1 rfl).trans h1))), (fun a s he hf hz q10 q13 => og rfl rfl rfl hz hz0 rfl q10 (fun g => op_load1 rfl ty_9 (q13.1 g) (B24.ext he) rfl (vm he c17))), (fun a s he hf hz q10 q12 q14 => og rfl rfl rfl hz hz0 rfl q10 (fun g => op_seql rfl (q12.1 g) (q14.1 g))), (fun a s he hf hz q10 q15 => oe rfl rfl q10 (q15.1)), mvq rfl rfl, (fun a s he hf hz q17 => og rfl rfl rfl hz hz0 rfl q17 (fun g => op_faddr_b rfl fa_34_3 ((hf 1 rfl).trans h1))), (fun a s he hf hz q17 q18 => og rfl rfl rfl hz hz0 rfl q17 (fun g => op_load1 rfl ty_9 (q18.1 g) (B24.ext he) rfl (vm he c18))), (fun a s he hf hz q17 q19 => og rfl rfl rfl hz hz0 rfl q17 (fun g => op_seql rfl (q19.1 g) s_0)), (fun a s he hf hz q17 q20 => oe rfl rfl q17 (q20.1)), mvq rfl rfl, (fun a s he hf hz q22 => og rfl rfl rfl hz hz0 rfl q22 (fun g => op_faddr_b rfl fa_34_3 ((hf 1 rfl).trans h1))), (fun a s he hf hz q22 q23 => og rfl rfl rfl hz hz0 rfl q22 (fun g => op_load1 rfl ty_9 (q23.1 g) (B24.ext he) rfl (vm he c18))), (fun a s he hf hz q22 q24 => og rfl rfl rfl hz hz0 rfl q22 (fun g => op_len_s rfl u_9 (q24.1 g))), (fun a s he hf hz q22 q25 => og rfl rfl rfl hz hz0 rfl q22 (fun g => op_gtr rfl (q25.1 g) (lit_i (k := .i64) (n := 32) (by decide)))), (fun a s he hf hz q22 q26 => oe rfl rfl q22 (q26.1)), mvq rfl rfl, (fun a s he hf hz q28 => og rfl rfl rfl hz hz0 rfl q28 (fun g => op_faddr_b rfl fa_34_4 ((hf 1 rfl).trans h1))), (fun a s he hf hz q28 q29 => og rfl rfl rfl hz hz0 rfl q28 (fun g => op_load1 rfl ty_2 (q29.1 g) (B24.ext he) rfl (vm he c19))), (fun a s he hf hz q28 q30 => og rfl rfl rfl hz hz0 rfl q28 (fun g => op_lss rfl (q30.1 g) i1)), (fun a s he hf hz q28 q31 => oe rfl rfl q28 (q31.1)), mvq rfl rfl, (fun a s he hf hz q33 => og rfl rfl rfl hz hz0 rfl q33 (fun g => op_faddr_b rfl fa_34_4 ((hf 1 rfl).trans h1))), (fun a s he hf hz q33 q34 => og rfl rfl rfl hz hz0 rfl q33 (fun g => op_load1 rfl ty_2 (q34.1 g) (B24.ext he) rfl (vm he c19))), (fun a s he hf hz q33 q35 => og rfl rfl rfl hz hz0 rfl q33 (fun g => op_gtr rfl (q35.1 g) (lit_i (k := .i64) (n := 1152921504606846976) (by decide)))), (fun a s he hf hz q33 q36 => oe rfl rfl q33 (q36.1)), mvq rfl rfl, (fun a s he hf hz q38 => og rfl rfl rfl hz hz0 rfl q38 (fun g => op_faddr_b rfl fa_34_5 ((hf 1 rfl).trans h1))), (fun a s he hf hz q38 q39 => og rfl rfl rfl hz hz0 rfl q38 (fun g => op_load1 rfl ty_2 (q39.1 g) (B24.ext he) rfl (vm he c20))), (fun a s he hf hz q38 q40 => og rfl rfl rfl hz hz0 rfl q38 (fun g => op_lss rfl (q40.1 g) i0)), (fun a s he hf hz q38 q41 => oe rfl rfl q38 (q41.1)), trivial⟩ ?_
 intro a27 s28 he hf hz hd1 h47; have ⟨hd, E⟩ := hdE hd1 hd E he; have h1 := (hf 1 rfl).trans h1; have B24 := B24.ext he; obtain ⟨c15, c16, c17, c18, c19, c20, c21, c22, c23⟩ := vm9 he c15 c16 c17 c18 c19 c20 c21 c22 c23; refine wp_condV h47 (fun hb => ?_) (fun hb => ?_)
 ·have h := ite_t hb h; refine wp_sr ?_; refine sq_blk [⟨2, _, []⟩] [0] hz rfl ⟨(fun a s he hf hz => av rfl rfl b_f), trivial⟩ ?_; intro a29 s30 he hf hz hd1 h2; have ⟨hd, E⟩ := hdE hd1 hd E he; refine wp_ret ?_; cases h
  exact ⟨hd, _, results_tmp rfl _ _ _, E, h2⟩
 ·have h := ite_f hb h; refine wp_skip ?_; refine wp_sr ?_; refine sq_blk [⟨48, _, []⟩, ⟨49, _, [0]⟩, ⟨3, _, [1]⟩] [2] hz rfl ⟨(fun a s he hf hz => fb rfl rfl fa_34_7 ((hf 1 rfl).trans h1)), (fun a s he hf hz q0 => lo rfl rfl ty_32 q0 (B24.ext he) rfl (vm he c22)), avq rfl rfl, trivial⟩ ?_; intro a31 s32 he hf hz hd1 h3; have ⟨hd, E⟩ := hdE hd1 hd E he; have h1 := (hf 1 rfl).trans h1; have B24 := B24.ext he; obtain ⟨c15, c16, c17, c18, c19, c20, c21, c22, c23⟩ := vm9 he c15 c16 c17 c18 c19 c20 c21 c22 c23; refine wp_seq ?_; refine wp_sr ?_; refine sq_blk [⟨50, _, []⟩, ⟨51, _, [0]⟩] [1] hz rfl ⟨(fun a s he hf hz => fb rfl rfl fa_34_0 ((hf 1 rfl).trans h1)), (fun a s he hf hz q0 => lo rfl rfl ty_3 q0 (B24.ext he) rfl (vm he c15)), trivial⟩ ?_; intro a33 s34 he hf hz hd1 h51; have ⟨hd, E⟩ := hdE hd1 hd E he; have h3 := V_at h3 he (hf 3 rfl); have h1 := (hf 1 rfl).trans h1; have B24 := B24.ext he; obtain ⟨c15, c16, c17, c18, c19, c20, c21, c22, c23⟩ := vm9 he c15 c16 c17 c18 c19 c20 c21 c22 c23; refine wp_block ?_; refine wp_sr ?_
  refine sq_blk [⟨53, _, []⟩, ⟨52, _, [0]⟩] [1] hz rfl ⟨(fun a s he hf hz => eq_ rfl rfl (V_at h51 he (hf 51 rfl)) i1), avq rfl rfl, trivial⟩ ?_; intro a35 s36 he hf hz hd1 h52; have ⟨hd, E⟩ := hdE hd1 hd E he; obtain ⟨h3, h51⟩ := va2 he hf h3 h51 rfl; have h1 := (hf 1 rfl).trans h1; have B24 := B24.ext he; obtain ⟨c15, c16, c17, c18, c19, c20, c21, c22, c23⟩ := vm9 he c15 c16 c17 c18 c19 c20 c21 c22 c23; refine wp_condV h52 (fun hb => ?_) (fun hb => ?_)
  ·have h := ite_t hb h; refine wp_sr ?_; refine sq_blk [⟨54, _, []⟩] [0] hz rfl ⟨(fun a s he hf hz => fb rfl rfl fa_34_7 ((hf 1 rfl).trans h1)), trivial⟩ ?_; intro a37 s38 he hf hz hd1 h54; have ⟨hd, E⟩ := hdE hd1 hd E he; have h3 := V_at h3 he (hf 3 rfl); have h1 := (hf 1 rfl).trans h1; have B24 := B24.ext he; obtain ⟨c15, c16, c17, c18, c19, c20, c21, c23⟩ := vm8 he c15 c16 c17 c18 c19 c20 c21 c23; refine sq_do rfl rfl (op_store_v rfl ty_32 rfl h54 B24 (lit_nil (d := kDot)) rfl (fun s40 he B24n c41 => ?_)); have h3 := vm he h3; obtain ⟨c15, c16, c17, c18, c19, c20, c21, c23⟩ := vm8 he c15 c16 c17 c18 c19 c20 c21 c23; have E := Chg.chg E he (fun b e h => (fun e => absurd h (by cases e; exact Nat.not_lt.2 l24)) e); obtain ⟨u42, huu42⟩ : ∃ u : Value, u = (.slice none 0 0) := ⟨_, rfl⟩; have c41 : (kSl kDot).V s40 u42 ([] : (List Dot)) := by rw [huu42]; exact c41
   have B24 : Bx s40 b24 34 [u6, u7, u8, u9, u10, u11, u12, u42, u14] := by rw [huu42]; exact B24n
   refine wp_sr ?_; have hz0 := hz; refine sq_blk [⟨55, _, []⟩, ⟨56, _, [0]⟩, ⟨57, _, [1]⟩, ⟨58, _, [2]⟩, ⟨59, _, [2, 3]⟩, ⟨60, _, [2, 4]⟩, ⟨61, _, [5]⟩, ⟨62, _, [6]⟩, ⟨63, _, [6, 7]⟩, ⟨64, _, [6, 8]⟩, ⟨65, _, [6, 9]⟩, ⟨2, _, [10]⟩] [11] hz rfl ⟨(fun a s he hf hz => ld rfl rfl ty_34 rfl ((hf 1 rfl).trans h1) (B24.ext he) rfl (kFrame_close (vm he c15) (vm he c16) (vm he c17) (vm he c18) (vm he c19) (vm he c20) (vm he c21) (vm he c41) (vm he c23))), (fun a s he hf hz q0 => opw rfl (op_call rfl rfl (frame_bare.ok q0))), mvq rfl rfl, (fun a s he hf hz q2 => og rfl rfl rfl hz hz0 rfl q2 (fun g => op_move_v rfl (V_at h3 he (hf 3 rfl)))), (fun a s he hf hz q2 q3 => og rfl rfl rfl hz hz0 rfl q2 (fun g => op_call rfl rfl (vector_Right.ct (q3.1 g)))), (fun a s he hf hz q2 q4 => an rfl rfl q2 (q4.1)), mvq rfl rfl, (fun a s he hf hz q6 => og rfl rfl rfl hz hz0 rfl q6 (fun g => op_faddr_b rfl fa_34_5 ((hf 1 rfl).trans h1))), (fun a s he hf hz q6 q7 => og rfl rfl rfl hz hz0 rfl q6 (fun g => op_load1 rfl ty_2 (q7.1 g) (B24.ext he) rfl (vm he c20))), (fun a s he hf hz q6 q8 => og rfl rfl rfl hz hz0 rfl q6 (fun g => op_leq rfl (q8.1 g) (lit_i (k := .i64) (n := 1152921504606846976) (by decide)))), (fun a s he hf hz q6 q9 => an rfl rfl q6 (q9.1)), avq rfl rfl, trivial⟩ ?_
   intro a43 s44 he hf hz hd1 h2; have ⟨hd, E⟩ := hdE hd1 hd E he; refine wp_ret ?_; cases h
   exact ⟨hd, _, results_tmp rfl _ _ _, E, h2⟩
  ·have h := ite_f hb h; refine wp_sr ?_; refine sq_blk [⟨67, _, []⟩, ⟨66, _, [0]⟩] [1] hz rfl ⟨(fun a s he hf hz => eq_ rfl rfl (V_at h51 he (hf 51 rfl)) (lit_i (k := .i64) (n := 2) (by decide))), avq rfl rfl, trivial⟩ ?_; intro a45 s46 he hf hz hd1 h66; have ⟨hd, E⟩ := hdE hd1 hd E he; have h3 := V_at h3 he (hf 3 rfl); have h1 := (hf 1 rfl).trans h1; have B24 := B24.ext he; obtain ⟨c15, c16, c17, c18, c19, c20, c21, c22, c23⟩ := vm9 he c15 c16 c17 c18 c19 c20 c21 c22 c23; refine wp_condV h66 (fun hb => ?_) (fun hb => ?_)
   ·have h := ite_t hb h; refine wp_sr ?_; refine sq_blk [⟨68, _, []⟩, ⟨4, _, [0]⟩] [1] hz rfl ⟨(fun a s he hf hz => opw rfl (op_func rfl (f := Fact.eq (.func (.func 81) #[] #[.pointer (some ⟨b24, 0, none⟩)])) (caps1 ((hf 1 rfl).trans h1)))), (fun a s he hf hz q0 => ae rfl rfl q0), trivial⟩ ?_; intro a47 s48 he hf hz hd1 h4; have ⟨hd, E⟩ := hdE hd1 hd E he; have h3 := V_at h3 he (hf 3 rfl); have h1 := (hf 1 rfl).trans h1; have B24 := B24.ext he; obtain ⟨c15, c16, c17, c18, c19, c20, c21, c22, c23⟩ := vm9 he c15 c16 c17 c18 c19 c20 c21 c22 c23; refine wp_sr ?_; have hz0 := hz
    refine sq_blk (⟨69, _, []⟩ :: ⟨70, _, [0]⟩ :: ⟨71, _, [1]⟩ :: ⟨72, _, [2]⟩ :: ⟨73, _, [3]⟩ :: ⟨74, _, [3, 4]⟩ :: ⟨75, _, [3]⟩ :: ⟨76, _, [3, 6]⟩ :: ⟨77, _, [3, 5, 7]⟩ :: ⟨78, _, [3, 8]⟩ :: ⟨79, _, [9]⟩ :: ⟨80, _, [10]⟩ :: ⟨81, _, [10, 11]⟩ :: ⟨82, _, [10, 12]⟩ :: ⟨83, _, [10, 13]⟩ :: ⟨84, _, [14]⟩ :: ⟨85, _, [15]⟩ :: ⟨86, _, [15, 16]⟩ :: ⟨87, _, [15, 17]⟩ :: ⟨88, _, [15, 18]⟩ :: ⟨89, _, [15, 19]⟩ :: ⟨90, _, [20]⟩ :: ⟨91, _, [21]⟩ :: ⟨92, _, [21, 22]⟩ :: ⟨93, _, [21, 23]⟩ :: ⟨94, _, [21, 24]⟩ :: ⟨95, _, [21, 25]⟩ :: ⟨96, _, [26]⟩ :: ⟨97, _, [27]⟩ :: ⟨98, _, [27, 28]⟩ :: ⟨99, _, [27]⟩ :: ⟨100, _, [27, 29, 30]⟩ :: ⟨101, _, [27, 31]⟩ :: ⟨102, _, [27, 32]⟩ :: ⟨2, _, [33]⟩ :: []) [34] hz rfl ⟨mvs rfl rfl h3 rfl, (fun a s he hf hz q0 => le_ rfl rfl u_32 q0), (fun a s he hf hz q1 => eq_ rfl rfl q1 i0), mvq rfl rfl, (fun a s he hf hz q3 => og rfl rfl rfl hz hz0 rfl q3 (fun g => op_faddr_b rfl fa_34_5 ((hf 1 rfl).trans h1))), (fun a s he hf hz q3 q4 => og rfl rfl rfl hz hz0 rfl q3 (fun g => op_load1 rfl ty_2 (q4.1 g) (B24.ext he) rfl (vm he c20))), (fun a s he hf hz q3 => og rfl rfl rfl hz hz0 rfl q3 (fun g => op_faddr_b rfl fa_34_6 ((hf 1 rfl).trans h1))), (fun a s he hf hz q3 q6 => og rfl rfl rfl hz hz0 rfl q3 (fun g => op_load1 rfl ty_2 (q6.1 g) (B24.ext he) rfl (vm he c21))), (fun a s he hf hz q3 q5 q7 => og rfl rfl rfl hz hz0 rfl q3 (fun g => op_lss rfl (q5.1 g) (q7.1 g))), (fun a s he hf hz q3 q8 => an rfl rfl q3 (q8.1)), mvq rfl rfl, (fun a s he hf hz q10 => og rfl rfl rfl hz hz0 rfl q10 (fun g => op_faddr_b rfl fa_34_6 ((hf 1 rfl).trans h1))), (fun a s he hf hz q10 q11 => og rfl rfl rfl hz hz0 rfl q10 (fun g => op_load1 rfl ty_2 (q11.1 g) (B24.ext he) rfl (vm he c21))), (fun a s he hf hz q10 q12 => og rfl rfl rfl hz hz0 rfl q10 (fun g => op_leq rfl (q12.1 g) (lit_i (k := .i64) (n := 512) (by decide)))), (fun a s he hf hz q10 q13 => an rfl rfl q10 (q13.1)), mvq rfl rfl, (fun a s he hf hz q15 => og rfl rfl rfl hz hz0 rfl q15 (fun g => op_faddr_b rfl fa_34_8 ((hf 1 rfl).trans h1))), (fun a s he hf hz q15 q16 => og rfl rfl rfl hz hz0 rfl q15 (fun g => op_load1 rfl ty_22 (q16.1 g) (B24.ext he) rfl (vm he c23))), (fun a s he hf hz q15 q17 => og rfl rfl rfl hz hz0 rfl q15 (fun g => op_len rfl u_22 (q17.1 g))), (fun a s he hf hz q15 q18 => og rfl rfl rfl hz hz0 rfl q15 (fun g => op_gtr rfl (q18.1 g) i0)), (fun a s he hf hz q15 q19 => an rfl rfl q15 (q19.1)), mvq rfl rfl, (fun a s he hf hz q21 => og rfl rfl rfl hz hz0 rfl q21 (fun g => op_faddr_b rfl fa_34_8 ((hf 1 rfl).trans h1))), (fun a s he hf hz q21 q22 => og rfl rfl rfl hz hz0 rfl q21 (fun g => op_load1 rfl ty_22 (q22.1 g) (B24.ext he) rfl (vm he c23))), (fun a s he hf hz q21 q23 => og rfl rfl rfl hz hz0 rfl q21 (fun g => op_len rfl u_22 (q23.1 g))), (fun a s he hf hz q21 q24 => og rfl rfl rfl hz hz0 rfl q21 (fun g => op_leq rfl (q24.1 g) (lit_i (k := .i64) (n := 8) (by decide)))), (fun a s he hf hz q21 q25 => an rfl rfl q21 (q25.1)), mvq rfl rfl, (fun a s he hf hz q27 => og rfl rfl rfl hz hz0 rfl q27 (fun g => op_faddr_b rfl fa_34_8 ((hf 1 rfl).trans h1))), (fun a s he hf hz q27 q28 => og rfl rfl rfl hz hz0 rfl q27 (fun g => op_load1 rfl ty_22 (q28.1 g) (B24.ext he) rfl (vm he c23))), (fun a s he hf hz q27 => og rfl rfl rfl hz hz0 rfl q27 (fun g => op_move_e rfl ((hf 4 rfl).trans h4))), (fun a s he hf hz q27 q29 q30 => og rfl rfl rfl hz hz0 rfl q27 (fun g => op_call rfl (argc rfl (argc rfl rfl)) (hasOp.ok (q29.1 g) (q30.1 g) (φ1 := (fun y0 => (frame_Right_1 y0 x0))) (fun he' hv0 => frame_Right_1.ok hv0 (Hd.ext (show Hd _ b24 34 kFrame x0 from ⟨_, (B24.ext he), (kFrame_eta (x := x0) (vm he c15) (vm he c16) (vm he c17) (vm he c18) (vm he c19) (vm he c20) (vm he c21) (vm he c22) (vm he c23))⟩) he'))))), (fun a s he hf hz q27 q31 => og rfl rfl rfl hz hz0 rfl q27 (fun g => op_not rfl (q31.1 g))), (fun a s he hf hz q27 q32 => an rfl rfl q27 (q32.1)), avq rfl rfl, trivial⟩ ?_
    intro a49 s50 he hf hz hd1 h2; have ⟨hd, E⟩ := hdE hd1 hd E he; refine wp_ret ?_; cases h
    exact ⟨hd, _, results_tmp rfl _ _ _, E, h2⟩
   ·have h := ite_f hb h; refine wp_skip ?_; refine wp_sr ?_; have hz0 := hz; refine sq_blk [⟨103, _, []⟩, ⟨104, _, [0]⟩, ⟨105, _, [1]⟩, ⟨106, _, [2]⟩, ⟨107, _, [3]⟩, ⟨108, _, [3, 4]⟩, ⟨109, _, [3, 5]⟩, ⟨110, _, [6]⟩, ⟨111, _, [7]⟩, ⟨112, _, [7, 8]⟩, ⟨113, _, [7, 9]⟩, ⟨114, _, [7, 10]⟩, ⟨2, _, [11]⟩] [12] hz rfl ⟨(fun a s he hf hz => fb rfl rfl fa_34_0 ((hf 1 rfl).trans h1)), (fun a s he hf hz q0 => lo rfl rfl ty_3 q0 (B24.ext he) rfl (vm he c15)), (fun a s he hf hz q1 => eq_ rfl rfl q1 (lit_i (k := .i64) (n := 3) (by decide))), mvq rfl rfl, (fun a s he hf hz q3 => og rfl rfl rfl hz hz0 rfl q3 (fun g => op_loadn rfl ty_34 rfl ((hf 1 rfl).trans h1) (B24.ext he) rfl (kFrame_eta (x := x0) (vm he c15) (vm he c16) (vm he c17) (vm he c18) (vm he c19) (vm he c20) (vm he c21) (vm he c22) (vm he c23)))), (fun a s he hf hz q3 q4 => og rfl rfl rfl hz hz0 rfl q3 (fun g => op_call rfl rfl (frame_bare.ok (q4.1 g)))), (fun a s he hf hz q3 q5 => an rfl rfl q3 (q5.1)), mvq rfl rfl, (fun a s he hf hz q7 => og rfl rfl rfl hz hz0 rfl q7 (fun g => op_faddr_b rfl fa_34_5 ((hf 1 rfl).trans h1))), (fun a s he hf hz q7 q8 => og rfl rfl rfl hz hz0 rfl q7 (fun g => op_load1 rfl ty_2 (q8.1 g) (B24.ext he) rfl (vm he c20))), (fun a s he hf hz q7 q9 => og rfl rfl rfl hz hz0 rfl q7 (fun g => op_leq rfl (q9.1 g) (lit_i (k := .i64) (n := 512) (by decide)))), (fun a s he hf hz q7 q10 => an rfl rfl q7 (q10.1)), avq rfl rfl, trivial⟩ ?_
    intro a51 s52 he hf hz hd1 h2; have ⟨hd, E⟩ := hdE hd1 hd E he; refine wp_ret ?_; cases h
    exact ⟨hd, _, results_tmp rfl _ _ _, E, h2⟩
def opsOk (x : List Op) (c : Str) : Bool := x.all (fun o => rightO o && decide (o.cart = c)) && (decide (1 ≤ x.length) && decide (x.length ≤ 8))
def ref14_ops.l0 : Nat → (List Op) → Str → Int → Option (Bool)
 | 0, _, _, _ => none
 | m8 + 1, x0, x1, y7 => (if decide (y7 < (x0.length : Int)) = true then (if (0 ≤ y7 ∧ y7 < (x0.length : Int)) then (if ((!(rightO (List.getD x0 (y7).toNat default))) || (!decide (((List.getD x0 (y7).toNat default).cart) = x1))) = true then (some false) else (ref14_ops.l0 m8 x0 x1 (IntKind.wrap .i64 (y7 + 1)))) else none) else (some ((decide (1 ≤ (x0.length : Int))) && (decide ((x0.length : Int) ≤ 8)))))
def ref14_ops.f (k : Nat) (x0 : (List Op)) (x1 : Str) : Option (Bool) := (ref14_ops.l0 k x0 x1 0)
theorem ref14_ops.ok {s0 : St} {v0 : Value} {x0 : (List Op)} {v1 : Value} {x1 : Str} {k : Nat} {r : Bool} (k0 : (kSl kOp).V s0 v0 x0) (k1 : kS.V s0 v1 x1) (h : ref14_ops.f k x0 x1 = some r) : Cl Try.prog 83 #[v0, v1] s0 (Okf s0 (Fact.v kB r)) := by
 unfold ref14_ops.f at h
 refine cl_of_wp Try.func83 rfl en_83 fun a hz hd hp => ?_; have hz : a.tmps.size = 37 := hz; have E := Chg.refl (fun _ => False) s0; have h0 := V_at k0 E (hp 0 v0 rfl); have h1 := V_at k1 E (hp 1 v1 rfl); refine wp_sr ?_; refine sq_blk [⟨4, _, []⟩] [] hz rfl ⟨(fun a s he hf hz => av rfl rfl b_f), trivial⟩ ?_; intro a1 s2 he hf hz hd1; have ⟨hd, E⟩ := hdE hd1 hd E he; obtain ⟨h0, h1⟩ := va2 he hf h0 h1 rfl; refine wp_seq ?_; refine wp_sr ?_; refine sq_blk [⟨5, _, []⟩] [0] hz rfl ⟨(fun a s he hf hz => av rfl rfl i0), trivial⟩ ?_; intro a3 s4 he hf hz hd1 h5; have ⟨hd, E⟩ := hdE hd1 hd E he; obtain ⟨h0, h1⟩ := va2 he hf h0 h1 rfl; refine wp_block ?_; refine wp_loop (k := k) (fun m8 a s => ∃ (y7 : Int), ref14_ops.l0 m8 x0 x1 y7 = some r ∧ m8 ≤ k ∧ Ext s0 s ∧ a.tmps.size = 37 ∧ a.defers = [] ∧ (kSl kOp).V s (a.get 0) x0 ∧ kS.V s (a.get 1) x1 ∧ (kI .i64).V s (a.get 5) y7) ⟨_, h, Nat.le_refl _, E, hz, hd, h0, h1, h5⟩ ?_; rintro m8 a6 s5 ⟨y7, h, hkm8, E, hz, hd, h0, h1, h5⟩; obtain _ | m8 := m8
 ·cases h
 refine wp_seq ?_; refine wp_sr ?_; refine sq_blk [⟨7, _, []⟩, ⟨8, _, []⟩, ⟨9, _, [1]⟩, ⟨10, _, [0, 2]⟩] [3] hz rfl ⟨mvs rfl rfl h5 rfl, mvs rfl rfl h0 rfl, (fun a s he hf hz q1 => le_ rfl rfl u_22 q1), (fun a s he hf hz q0 q2 => ls rfl rfl q0 q2), trivial⟩ ?_; intro a9 s10 he hf hz hd1 h10; have ⟨hd, E⟩ := hdE hd1 hd E he; obtain ⟨h0, h1, h5⟩ := va3 he hf h0 h1 h5 rfl; refine wp_condV h10 (fun hb => ?_) (fun hb => ?_)
 ·have h := ite_t hb h; refine wp_skip ?_; refine wp_seq ?_; refine wp_block ?_; refine wp_sr ?_; obtain ⟨D11, h⟩ := need h; refine sq_blk [⟨13, _, []⟩, ⟨14, _, []⟩, ⟨15, _, [0, 1]⟩, ⟨16, _, [2]⟩, ⟨17, _, [3]⟩, ⟨6, _, [4]⟩] [5] hz rfl ⟨mvs rfl rfl h0 rfl, mvs rfl rfl h5 rfl, (fun a s he hf hz q0 q1 => ia rfl rfl sl_22 q0 q1 D11.1 D11.2), (fun a s he hf hz q2 => lp rfl rfl ty_72 (by decide) q2), (fun a s he hf hz q3 => opw rfl (op_call rfl rfl (ref08_Right.ct q3))), avq rfl rfl, trivial⟩ ?_; intro a12 s13 he hf hz hd1 h6; have ⟨hd, E⟩ := hdE hd1 hd E he; obtain ⟨h0, h1, h5⟩ := va3 he hf h0 h1 h5 rfl; refine wp_sr ?_; have hz0 := hz; refine sq_blk [⟨18, _, []⟩, ⟨19, _, [0]⟩, ⟨20, _, [1]⟩, ⟨21, _, [2]⟩, ⟨22, _, [2]⟩, ⟨23, _, [2, 3, 4]⟩, ⟨24, _, [2, 5]⟩, ⟨25, _, [2, 6]⟩, ⟨26, _, [2]⟩, ⟨27, _, [2, 7, 8]⟩, ⟨28, _, [2, 9]⟩] [10] hz rfl ⟨mvs rfl rfl h6 rfl, (fun a s he hf hz q0 => no_ rfl rfl q0), mvq rfl rfl, (fun a s he hf hz q2 => og rfl rfl rfl hz hz0 rfl q2 (fun g => op_move_v rfl (V_at h0 he (hf 0 rfl)))), (fun a s he hf hz q2 => og rfl rfl rfl hz hz0 rfl q2 (fun g => op_move_v rfl (V_at h5 he (hf 5 rfl)))), (fun a s he hf hz q2 q3 q4 => og rfl rfl rfl hz hz0 rfl q2 (fun g => op_iaddr rfl sl_22 (q3.1 g) (q4.1 g) D11.1 D11.2)), (fun a s he hf hz q2 q5 => og rfl rfl rfl hz hz0 rfl q2 (fun g => op_faddr_p rfl fa_72_2 kOp_s2 (q5.1 g))), (fun a s he hf hz q2 q6 => og rfl rfl rfl hz hz0 rfl q2 (fun g => op_load_p rfl ty_9 (by decide) (q6.1 g))), (fun a s he hf hz q2 => og rfl rfl rfl hz hz0 rfl q2 (fun g => op_move_v rfl (V_at h1 he (hf 1 rfl)))), (fun a s he hf hz q2 q7 q8 => og rfl rfl rfl hz hz0 rfl q2 (fun g => op_sneq rfl (q7.1 g) (q8.1 g))), (fun a s he hf hz q2 q9 => oe rfl rfl q2 (q9.1)), trivial⟩ ?_
  intro a14 s15 he hf hz hd1 h28; have ⟨hd, E⟩ := hdE hd1 hd E he; obtain ⟨h0, h1, h5⟩ := va3 he hf h0 h1 h5 rfl; refine wp_condV h28 (fun hb => ?_) (fun hb => ?_)
  ·have h := ite_t hb h; refine wp_sr ?_; refine sq_blk [⟨4, _, []⟩] [0] hz rfl ⟨(fun a s he hf hz => av rfl rfl b_f), trivial⟩ ?_; intro a16 s17 he hf hz hd1 h4; have ⟨hd, E⟩ := hdE hd1 hd E he; refine wp_ret ?_; cases h
   exact ⟨hd, _, results_tmp rfl _ _ _, E, h4⟩
  ·have h := ite_f hb h; refine wp_skip ?_; refine wp_region ?_; refine sq_blk [⟨11, _, []⟩, ⟨12, _, [0]⟩] [1] hz rfl ⟨mvs rfl rfl h5 rfl, (fun a s he hf hz q0 => ad rfl rfl q0 i1), trivial⟩ ?_; intro a18 s19 he hf hz hd1 h12; have ⟨hd, E⟩ := hdE hd1 hd E he; obtain ⟨h0, h1⟩ := va2 he hf h0 h1 rfl; refine sq_blk [⟨5, _, []⟩] [0] hz rfl ⟨avs rfl rfl h12 rfl, trivial⟩ ?_; intro a20 s21 he hf hz hd1 h5; have ⟨hd, E⟩ := hdE hd1 hd E he; obtain ⟨h0, h1⟩ := va2 he hf h0 h1 rfl; exact ⟨_, (by omega : m8 < m8 + 1), _, h, by omega, E, hz, hd, h0, h1, h5⟩
 ·have h := ite_f hb h; refine wp_exit ?_; refine then_exit ?_; refine then_exit ?_; refine inBlock_hit ?_; refine wp_sr ?_; have hz0 := hz; refine sq_blk [⟨29, _, []⟩, ⟨30, _, [0]⟩, ⟨31, _, [1]⟩, ⟨32, _, [2]⟩, ⟨33, _, [3]⟩, ⟨34, _, [3, 4]⟩, ⟨35, _, [3, 5]⟩, ⟨36, _, [3, 6]⟩, ⟨4, _, [7]⟩] [8] hz rfl ⟨mvs rfl rfl h0 rfl, (fun a s he hf hz q0 => le_ rfl rfl u_22 q0), (fun a s he hf hz q1 => opw rfl (op_geq rfl q1 i1)), mvq rfl rfl, (fun a s he hf hz q3 => og rfl rfl rfl hz hz0 rfl q3 (fun g => op_move_v rfl (V_at h0 he (hf 0 rfl)))), (fun a s he hf hz q3 q4 => og rfl rfl rfl hz hz0 rfl q3 (fun g => op_len rfl u_22 (q4.1 g))), (fun a s he hf hz q3 q5 => og rfl rfl rfl hz hz0 rfl q3 (fun g => op_leq rfl (q5.1 g) (lit_i (k := .i64) (n := 8) (by decide)))), (fun a s he hf hz q3 q6 => an rfl rfl q3 (q6.1)), avq rfl rfl, trivial⟩ ?_; intro a22 s23 he hf hz hd1 h4; have ⟨hd, E⟩ := hdE hd1 hd E he; refine wp_ret ?_; cases h
  exact ⟨hd, _, results_tmp rfl _ _ _, E, h4⟩
theorem ref14_ops.nice (x0 : List Op) (x1 : Str) (b0 : (kSl kOp).bd x0) (b1 : kS.bd x1) : ∃ k, ref14_ops.f k x0 x1 = some (opsOk x0 x1) := by
 have hb : x0.length ≤ maxLen := b0.1
 have hm := maxLen_lt
 have : ∀ y, y ≤ x0.length → ∃ k, ref14_ops.l0 k x0 x1 (y : Int) = some ((x0.drop y).all (fun o => rightO o && decide (o.cart = x1)) && (decide (1 ≤ x0.length) && decide (x0.length ≤ 8))) := by
  refine rounds x0.length ⟨1, ?_⟩ fun y hy ⟨k, hk⟩ => ?_
  ·simp only [ref14_ops.l0, List.drop_length, List.all_nil, Bool.true_and, Int.lt_irrefl, decide_false, Bool.false_eq_true, if_false]
   have h1 : decide ((1 : Int) ≤ (x0.length : Int)) = decide (1 ≤ x0.length) := by rw [decide_eq_decide]; omega
   have h2 : decide ((x0.length : Int) ≤ 8) = decide (x0.length ≤ 8) := by rw [decide_eq_decide]; omega
   rw [h1, h2]
  ·push_cast at hk
   have hr : (0 : Int) ≤ y ∧ (y : Int) < x0.length := ⟨by omega, by omega⟩
   refine ⟨k + 1, ?_⟩
   rw [drop_at default hy]
   simp only [ref14_ops.l0, List.all_cons, hr, and_self, if_true, decide_true]
   rw [Int.toNat_natCast]
   generalize x0.getD y default = o
   cases rightO o
   ·simp
   ·by_cases hc : o.cart = x1
    ·simp only [hc, decide_true, Bool.not_true, Bool.false_or, Bool.or_false, Bool.false_eq_true, if_false, Bool.true_and, Bool.and_true]
     rw [w64s (by omega)]; exact hk
    ·simp [hc]
 exact this 0 (Nat.zero_le _)
theorem ref14_ops.ct {s0 : St} {v0 : Value} {x0 : (List Op)} {v1 : Value} {x1 : Str} (k0 : (kSl kOp).V s0 v0 x0) (k1 : kS.V s0 v1 x1) : Cl Try.prog 83 #[v0, v1] s0 (Okf s0 (Fact.v kB (opsOk x0 x1))) := by
 obtain ⟨k, h⟩ := ref14_ops.nice x0 x1 (Kn.V_bd k0) (Kn.V_bd k1)
 exact ref14_ops.ok k0 k1 h
def ref14_Right (x0 : Frame) : Bool := if (((((((!(isName x0.src)) || (!(isName x0.dst))) || (decide (x0.src = x0.dst))) || (decide ((x0.cart.length : Int) < 1))) || (decide (32 < (x0.cart.length : Int)))) || (decide (x0.session < 1))) || (decide (1152921504606846976 < x0.session))) = true then (false) else (if decide (x0.kind = 1) = true then ((((((rightV x0.known) && (decide (0 ≤ x0.index))) && (decide (x0.index ≤ 1152921504606846976))) && (decide (x0.many = 0))) && (decide ((x0.ops.length : Int) = 0)))) else (if decide (x0.kind = 2) = true then ((((((opsOk x0.ops x0.cart) && (decide (0 ≤ x0.index))) && (decide (x0.index < x0.many))) && (decide (x0.many ≤ 512))) && (decide ((x0.known.length : Int) = 0)))) else (if decide (x0.kind = 3) = true then ((((((decide (0 ≤ x0.index)) && (decide (x0.index ≤ 512))) && (decide (x0.many = 0))) && (decide ((x0.known.length : Int) = 0))) && (decide ((x0.ops.length : Int) = 0)))) else (false))))
theorem ref14_Right.ok {s0 : St} {v0 : Value} {x0 : Frame} (k0 : kFrame.V s0 v0 x0) : Cl Try.prog 30 #[v0] s0 (Okf s0 (Fact.v kB (ref14_Right x0))) := by
 obtain ⟨r, h⟩ : ∃ r, some (ref14_Right x0) = some r := ⟨_, rfl⟩
 rw [Option.some.inj h]
 have h : (if (((((((!(isName x0.src)) || (!(isName x0.dst))) || (decide (x0.src = x0.dst))) || (decide ((x0.cart.length : Int) < 1))) || (decide (32 < (x0.cart.length : Int)))) || (decide (x0.session < 1))) || (decide (1152921504606846976 < x0.session))) = true then (some false) else (if decide (x0.kind = 1) = true then (some (((((rightV x0.known) && (decide (0 ≤ x0.index))) && (decide (x0.index ≤ 1152921504606846976))) && (decide (x0.many = 0))) && (decide ((x0.ops.length : Int) = 0)))) else (if decide (x0.kind = 2) = true then (some (((((opsOk x0.ops x0.cart) && (decide (0 ≤ x0.index))) && (decide (x0.index < x0.many))) && (decide (x0.many ≤ 512))) && (decide ((x0.known.length : Int) = 0)))) else (if decide (x0.kind = 3) = true then (some (((((decide (0 ≤ x0.index)) && (decide (x0.index ≤ 512))) && (decide (x0.many = 0))) && (decide ((x0.known.length : Int) = 0))) && (decide ((x0.ops.length : Int) = 0)))) else (some false))))) = some r := by rw [← h]; unfold ref14_Right; first | rfl | simp only [apply_ite some] | (repeat' (first | rfl | split))
 refine cl_of_wp Try.func30 rfl en_30 fun a hz hd hp => ?_; have hz : a.tmps.size = 135 := hz; have E := Chg.refl (fun _ => False) s0; have h0 := V_at k0 E (hp 0 v0 rfl); refine wp_sr ?_; refine sq_set hz rfl rfl rfl (op_boxn rfl rfl h0 (fun s2 e4 he BB3 r5 => fun a1 h1 hf hz hd1 => ?_)); obtain ⟨b24, hb24⟩ : ∃ b, b = s0.w.heap.size := ⟨_, rfl⟩; rw [← hb24] at BB3 h1; have B24 := BB3; have l24 : s0.w.heap.size ≤ b24 := by have := E.size; omega
 have ⟨hd, E⟩ := hdE hd1 hd E he; obtain ⟨u6, u7, u8, u9, u10, u11, u12, u13, u14, rfl, c15, c16, c17, c18, c19, c20, c21, c22, c23⟩ := kFrame_open r5; refine sq_blk [⟨2, _, []⟩] [] hz rfl ⟨(fun a s he hf hz => av rfl rfl b_f), trivial⟩ ?_; intro a25 s26 he hf hz hd1; have ⟨hd, E⟩ := hdE hd1 hd E he; have h1 := (hf 1 rfl).trans h1; have B24 := B24.ext he; obtain ⟨c15, c16, c17, c18, c19, c20, c21, c22, c23⟩ := vm9 he c15 c16 c17 c18 c19 c20 c21 c22 c23; refine wp_sr ?_; refine sq_blk [⟨7, _, []⟩, ⟨8, _, [0]⟩, ⟨9, _, [1]⟩, ⟨3, _, [2]⟩] [3] hz rfl ⟨(fun a s he hf hz => fb rfl rfl fa_34_1 ((hf 1 rfl).trans h1)), (fun a s he hf hz q0 => lo rfl rfl ty_9 q0 (B24.ext he) rfl (vm he c16)), (fun a s he hf hz q1 => opw rfl (op_call rfl rfl (ref07_IsName.ct q1))), avq rfl rfl, trivial⟩ ?_; intro a27 s28 he hf hz hd1 h3; have ⟨hd, E⟩ := hdE hd1 hd E he; have h1 := (hf 1 rfl).trans h1; have B24 := B24.ext he; obtain ⟨c15, c16, c17, c18, c19, c20, c21, c22, c23⟩ := vm9 he c15 c16 c17 c18 c19 c20 c21 c22 c23; refine wp_sr ?_
 refine sq_blk [⟨10, _, []⟩, ⟨11, _, [0]⟩, ⟨12, _, [1]⟩, ⟨4, _, [2]⟩] [3] hz rfl ⟨(fun a s he hf hz => fb rfl rfl fa_34_2 ((hf 1 rfl).trans h1)), (fun a s he hf hz q0 => lo rfl rfl ty_9 q0 (B24.ext he) rfl (vm he c17)), (fun a s he hf hz q1 => opw rfl (op_call rfl rfl (ref07_IsName.ct q1))), avq rfl rfl, trivial⟩ ?_; intro a29 s30 he hf hz hd1 h4; have ⟨hd, E⟩ := hdE hd1 hd E he; have h3 := V_at h3 he (hf 3 rfl); have h1 := (hf 1 rfl).trans h1; have B24 := B24.ext he; obtain ⟨c15, c16, c17, c18, c19, c20, c21, c22, c23⟩ := vm9 he c15 c16 c17 c18 c19 c20 c21 c22 c23; refine wp_seq ?_; refine wp_sr ?_; have hz0 := hz
 refine sq_blk (⟨13, _, []⟩ :: ⟨14, _, [0]⟩ :: ⟨15, _, [1]⟩ :: ⟨16, _, [2]⟩ :: ⟨17, _, [2, 3]⟩ :: ⟨18, _, [2, 4]⟩ :: ⟨19, _, [5]⟩ :: ⟨20, _, [6]⟩ :: ⟨21, _, [6, 7]⟩ :: ⟨22, _, [6]⟩ :: ⟨23, _, [6, 9]⟩ :: ⟨24, _, [6, 8, 10]⟩ :: ⟨25, _, [6, 11]⟩ :: ⟨26, _, [12]⟩ :: ⟨27, _, [13]⟩ :: ⟨28, _, [13, 14]⟩ :: ⟨29, _, [13, 15]⟩ :: ⟨30, _, [13, 16]⟩ :: ⟨31, _, [13, 17]⟩ :: ⟨32, _, [18]⟩ :: ⟨33, _, [19]⟩ :: ⟨34, _, [19, 20]⟩ :: ⟨35, _, [19, 21]⟩ :: ⟨36, _, [19, 22]⟩ :: ⟨37, _, [19, 23]⟩ :: ⟨38, _, [24]⟩ :: ⟨39, _, [25]⟩ :: ⟨40, _, [25, 26]⟩ :: ⟨41, _, [25, 27]⟩ :: ⟨42, _, [25, 28]⟩ :: ⟨43, _, [29]⟩ :: ⟨44, _, [30]⟩ :: ⟨45, _, [30, 31]⟩ :: ⟨46, _, [30, 32]⟩ :: ⟨47, _, [30, 33]⟩ :: []) [34] hz rfl ⟨mvs rfl rfl h3 rfl, (fun a s he hf hz q0 => no_ rfl rfl q0), mvq rfl rfl, (fun a s he hf hz q2 => og rfl rfl rfl hz hz0 rfl q2 (fun g => op_move_v rfl (V_at h4 he (hf 4 rfl)))), (fun a s he hf hz q2 q3 => og rfl rfl rfl hz hz0 rfl q2 (fun g => op_not rfl (q3.1 g))), (fun a s he hf hz q2 q4 => oe rfl rfl q2 (q4.1)), mvq rfl rfl, (fun a s he hf hz q6 => og rfl rfl rfl hz hz0 rfl q6 (fun g => op_faddr_b rfl fa_34_1 ((hf 1 rfl).trans h1))), (fun a s he hf hz q6 q7 => og rfl rfl rfl hz hz0 rfl q6 (fun g => op_load1 rfl ty_9 (q7.1 g) (B24.ext he) rfl (vm he c16))), (fun a s he hf hz q6 => og rfl rfl rfl hz hz0 rfl q6 (fun g => op_faddr_b rfl fa_34_2 ((hf 1 rfl).trans h1))), (fun a s he hf hz q6 q9 => og rfl rfl rfl hz hz0 rfl q6 (fun g => op_load1 rfl ty_9 (q9.1 g) (B24.ext he) rfl (vm he c17))), (fun a s he hf hz q6 q8 q10 => og rfl rfl rfl hz hz0 rfl q6 (fun g => op_seql rfl (q8.1 g) (q10.1 g))), (fun a s he hf hz q6 q11 => oe rfl rfl q6 (q11.1)), mvq rfl rfl, (fun a s he hf hz q13 => og rfl rfl rfl hz hz0 rfl q13 (fun g => op_faddr_b rfl fa_34_3 ((hf 1 rfl).trans h1))), (fun a s he hf hz q13 q14 => og rfl rfl rfl hz hz0 rfl q13 (fun g => op_load1 rfl ty_9 (q14.1 g) (B24.ext he) rfl (vm he c18))), (fun a s he hf hz q13 q15 => og rfl rfl rfl hz hz0 rfl q13 (fun g => op_len_s rfl u_9 (q15.1 g))), (fun a s he hf hz q13 q16 => og rfl rfl rfl hz hz0 rfl q13 (fun g => op_lss rfl (q16.1 g) i1)), (fun a s he hf hz q13 q17 => oe rfl rfl q13 (q17.1)), mvq rfl rfl, (fun a s he hf hz q19 => og rfl rfl rfl hz hz0 rfl q19 (fun g => op_faddr_b rfl fa_34_3 ((hf 1 rfl).trans h1))), (fun a s he hf hz q19 q20 => og rfl rfl rfl hz hz0 rfl q19 (fun g => op_load1 rfl ty_9 (q20.1 g) (B24.ext he) rfl (vm he c18))), (fun a s he hf hz q19 q21 => og rfl rfl rfl hz hz0 rfl q19 (fun g => op_len_s rfl u_9 (q21.1 g))), (fun a s he hf hz q19 q22 => og rfl rfl rfl hz hz0 rfl q19 (fun g => op_gtr rfl (q22.1 g) (lit_i (k := .i64) (n := 32) (by decide)))), (fun a s he hf hz q19 q23 => oe rfl rfl q19 (q23.1)), mvq rfl rfl, (fun a s he hf hz q25 => og rfl rfl rfl hz hz0 rfl q25 (fun g => op_faddr_b rfl fa_34_4 ((hf 1 rfl).trans h1))), (fun a s he hf hz q25 q26 => og rfl rfl rfl hz hz0 rfl q25 (fun g => op_load1 rfl ty_2 (q26.1 g) (B24.ext he) rfl (vm he c19))), (fun a s he hf hz q25 q27 => og rfl rfl rfl hz hz0 rfl q25 (fun g => op_lss rfl (q27.1 g) i1)), (fun a s he hf hz q25 q28 => oe rfl rfl q25 (q28.1)), mvq rfl rfl, (fun a s he hf hz q30 => og rfl rfl rfl hz hz0 rfl q30 (fun g => op_faddr_b rfl fa_34_4 ((hf 1 rfl).trans h1))), (fun a s he hf hz q30 q31 => og rfl rfl rfl hz hz0 rfl q30 (fun g => op_load1 rfl ty_2 (q31.1 g) (B24.ext he) rfl (vm he c19))), (fun a s he hf hz q30 q32 => og rfl rfl rfl hz hz0 rfl q30 (fun g => op_gtr rfl (q32.1 g) (lit_i (k := .i64) (n := 1152921504606846976) (by decide)))), (fun a s he hf hz q30 q33 => oe rfl rfl q30 (q33.1)), trivial⟩ ?_
 intro a31 s32 he hf hz hd1 h47; have ⟨hd, E⟩ := hdE hd1 hd E he; have h1 := (hf 1 rfl).trans h1; have B24 := B24.ext he; obtain ⟨c15, c18, c20, c21, c22, c23⟩ := vm6 he c15 c18 c20 c21 c22 c23; refine wp_condV h47 (fun hb => ?_) (fun hb => ?_)
 ·have h := ite_t hb h; refine wp_sr ?_; refine sq_blk [⟨2, _, []⟩] [0] hz rfl ⟨(fun a s he hf hz => av rfl rfl b_f), trivial⟩ ?_; intro a33 s34 he hf hz hd1 h2; have ⟨hd, E⟩ := hdE hd1 hd E he; refine wp_ret ?_; cases h
  exact ⟨hd, _, results_tmp rfl _ _ _, E, h2⟩
 ·have h := ite_f hb h; refine wp_skip ?_; refine wp_seq ?_; refine wp_sr ?_; refine sq_blk [⟨48, _, []⟩, ⟨49, _, [0]⟩] [1] hz rfl ⟨(fun a s he hf hz => fb rfl rfl fa_34_0 ((hf 1 rfl).trans h1)), (fun a s he hf hz q0 => lo rfl rfl ty_3 q0 (B24.ext he) rfl (vm he c15)), trivial⟩ ?_; intro a35 s36 he hf hz hd1 h49; have ⟨hd, E⟩ := hdE hd1 hd E he; have h1 := (hf 1 rfl).trans h1; have B24 := B24.ext he; obtain ⟨c18, c20, c21, c22, c23⟩ := vm5 he c18 c20 c21 c22 c23; refine wp_block ?_; refine wp_sr ?_; refine sq_blk [⟨51, _, []⟩, ⟨50, _, [0]⟩] [1] hz rfl ⟨(fun a s he hf hz => eq_ rfl rfl (V_at h49 he (hf 49 rfl)) i1), avq rfl rfl, trivial⟩ ?_; intro a37 s38 he hf hz hd1 h50; have ⟨hd, E⟩ := hdE hd1 hd E he; have h49 := V_at h49 he (hf 49 rfl); have h1 := (hf 1 rfl).trans h1; have B24 := B24.ext he; obtain ⟨c18, c20, c21, c22, c23⟩ := vm5 he c18 c20 c21 c22 c23; refine wp_condV h50 (fun hb => ?_) (fun hb => ?_)
  ·have h := ite_t hb h; refine wp_sr ?_; refine sq_blk [⟨52, _, []⟩, ⟨53, _, [0]⟩, ⟨54, _, [1]⟩, ⟨5, _, [2]⟩] [3] hz rfl ⟨(fun a s he hf hz => fb rfl rfl fa_34_7 ((hf 1 rfl).trans h1)), (fun a s he hf hz q0 => lo rfl rfl ty_32 q0 (B24.ext he) rfl (vm he c22)), (fun a s he hf hz q1 => opw rfl (op_call rfl rfl (ref07_Right.ct q1))), avq rfl rfl, trivial⟩ ?_; intro a39 s40 he hf hz hd1 h5; have ⟨hd, E⟩ := hdE hd1 hd E he; have h1 := (hf 1 rfl).trans h1; have B24 := B24.ext he; obtain ⟨c20, c21, c23⟩ := vm3 he c20 c21 c23; refine wp_sr ?_; have hz0 := hz; refine sq_blk [⟨55, _, []⟩, ⟨56, _, [0]⟩, ⟨57, _, [1]⟩, ⟨58, _, [1, 2]⟩, ⟨59, _, [1, 3]⟩, ⟨60, _, [1, 4]⟩, ⟨61, _, [5]⟩, ⟨62, _, [6]⟩, ⟨63, _, [6, 7]⟩, ⟨64, _, [6, 8]⟩, ⟨65, _, [6, 9]⟩, ⟨66, _, [10]⟩, ⟨67, _, [11]⟩, ⟨68, _, [11, 12]⟩, ⟨69, _, [11, 13]⟩, ⟨70, _, [11, 14]⟩, ⟨71, _, [15]⟩, ⟨72, _, [16]⟩, ⟨73, _, [16, 17]⟩, ⟨74, _, [16, 18]⟩, ⟨75, _, [16, 19]⟩, ⟨76, _, [16, 20]⟩, ⟨2, _, [21]⟩] [22] hz rfl ⟨mvs rfl rfl h5 rfl, mvq rfl rfl, (fun a s he hf hz q1 => og rfl rfl rfl hz hz0 rfl q1 (fun g => op_faddr_b rfl fa_34_5 ((hf 1 rfl).trans h1))), (fun a s he hf hz q1 q2 => og rfl rfl rfl hz hz0 rfl q1 (fun g => op_load1 rfl ty_2 (q2.1 g) (B24.ext he) rfl (vm he c20))), (fun a s he hf hz q1 q3 => og rfl rfl rfl hz hz0 rfl q1 (fun g => op_geq rfl (q3.1 g) i0)), (fun a s he hf hz q1 q4 => an rfl rfl q1 (q4.1)), mvq rfl rfl, (fun a s he hf hz q6 => og rfl rfl rfl hz hz0 rfl q6 (fun g => op_faddr_b rfl fa_34_5 ((hf 1 rfl).trans h1))), (fun a s he hf hz q6 q7 => og rfl rfl rfl hz hz0 rfl q6 (fun g => op_load1 rfl ty_2 (q7.1 g) (B24.ext he) rfl (vm he c20))), (fun a s he hf hz q6 q8 => og rfl rfl rfl hz hz0 rfl q6 (fun g => op_leq rfl (q8.1 g) (lit_i (k := .i64) (n := 1152921504606846976) (by decide)))), (fun a s he hf hz q6 q9 => an rfl rfl q6 (q9.1)), mvq rfl rfl, (fun a s he hf hz q11 => og rfl rfl rfl hz hz0 rfl q11 (fun g => op_faddr_b rfl fa_34_6 ((hf 1 rfl).trans h1))), (fun a s he hf hz q11 q12 => og rfl rfl rfl hz hz0 rfl q11 (fun g => op_load1 rfl ty_2 (q12.1 g) (B24.ext he) rfl (vm he c21))), (fun a s he hf hz q11 q13 => og rfl rfl rfl hz hz0 rfl q11 (fun g => op_eql rfl (q13.1 g) i0)), (fun a s he hf hz q11 q14 => an rfl rfl q11 (q14.1)), mvq rfl rfl, (fun a s he hf hz q16 => og rfl rfl rfl hz hz0 rfl q16 (fun g => op_faddr_b rfl fa_34_8 ((hf 1 rfl).trans h1))), (fun a s he hf hz q16 q17 => og rfl rfl rfl hz hz0 rfl q16 (fun g => op_load1 rfl ty_22 (q17.1 g) (B24.ext he) rfl (vm he c23))), (fun a s he hf hz q16 q18 => og rfl rfl rfl hz hz0 rfl q16 (fun g => op_len rfl u_22 (q18.1 g))), (fun a s he hf hz q16 q19 => og rfl rfl rfl hz hz0 rfl q16 (fun g => op_eql rfl (q19.1 g) i0)), (fun a s he hf hz q16 q20 => an rfl rfl q16 (q20.1)), avq rfl rfl, trivial⟩ ?_
   intro a41 s42 he hf hz hd1 h2; have ⟨hd, E⟩ := hdE hd1 hd E he; refine wp_ret ?_; cases h
   exact ⟨hd, _, results_tmp rfl _ _ _, E, h2⟩
  ·have h := ite_f hb h; refine wp_sr ?_; refine sq_blk [⟨78, _, []⟩, ⟨77, _, [0]⟩] [1] hz rfl ⟨(fun a s he hf hz => eq_ rfl rfl (V_at h49 he (hf 49 rfl)) (lit_i (k := .i64) (n := 2) (by decide))), avq rfl rfl, trivial⟩ ?_; intro a43 s44 he hf hz hd1 h77; have ⟨hd, E⟩ := hdE hd1 hd E he; have h49 := V_at h49 he (hf 49 rfl); have h1 := (hf 1 rfl).trans h1; have B24 := B24.ext he; obtain ⟨c18, c20, c21, c22, c23⟩ := vm5 he c18 c20 c21 c22 c23; refine wp_condV h77 (fun hb => ?_) (fun hb => ?_)
   ·have h := ite_t hb h; refine wp_sr ?_; refine sq_blk [⟨79, _, []⟩, ⟨80, _, [0]⟩, ⟨81, _, []⟩, ⟨82, _, [2]⟩, ⟨83, _, [1, 3]⟩, ⟨6, _, [4]⟩] [5] hz rfl ⟨(fun a s he hf hz => fb rfl rfl fa_34_8 ((hf 1 rfl).trans h1)), (fun a s he hf hz q0 => lo rfl rfl ty_22 q0 (B24.ext he) rfl (vm he c23)), (fun a s he hf hz => fb rfl rfl fa_34_3 ((hf 1 rfl).trans h1)), (fun a s he hf hz q2 => lo rfl rfl ty_9 q2 (B24.ext he) rfl (vm he c18)), (fun a s he hf hz q1 q3 => opw rfl (op_call rfl rfl (ref14_ops.ct q1 q3))), avq rfl rfl, trivial⟩ ?_; intro a45 s46 he hf hz hd1 h6; have ⟨hd, E⟩ := hdE hd1 hd E he; have h1 := (hf 1 rfl).trans h1; have B24 := B24.ext he; obtain ⟨c20, c21, c22⟩ := vm3 he c20 c21 c22; refine wp_sr ?_; have hz0 := hz
    refine sq_blk (⟨84, _, []⟩ :: ⟨85, _, [0]⟩ :: ⟨86, _, [1]⟩ :: ⟨87, _, [1, 2]⟩ :: ⟨88, _, [1, 3]⟩ :: ⟨89, _, [1, 4]⟩ :: ⟨90, _, [5]⟩ :: ⟨91, _, [6]⟩ :: ⟨92, _, [6, 7]⟩ :: ⟨93, _, [6]⟩ :: ⟨94, _, [6, 9]⟩ :: ⟨95, _, [6, 8, 10]⟩ :: ⟨96, _, [6, 11]⟩ :: ⟨97, _, [12]⟩ :: ⟨98, _, [13]⟩ :: ⟨99, _, [13, 14]⟩ :: ⟨100, _, [13, 15]⟩ :: ⟨101, _, [13, 16]⟩ :: ⟨102, _, [17]⟩ :: ⟨103, _, [18]⟩ :: ⟨104, _, [18, 19]⟩ :: ⟨105, _, [18, 20]⟩ :: ⟨106, _, [18, 21]⟩ :: ⟨107, _, [18, 22]⟩ :: ⟨2, _, [23]⟩ :: []) [24] hz rfl ⟨mvs rfl rfl h6 rfl, mvq rfl rfl, (fun a s he hf hz q1 => og rfl rfl rfl hz hz0 rfl q1 (fun g => op_faddr_b rfl fa_34_5 ((hf 1 rfl).trans h1))), (fun a s he hf hz q1 q2 => og rfl rfl rfl hz hz0 rfl q1 (fun g => op_load1 rfl ty_2 (q2.1 g) (B24.ext he) rfl (vm he c20))), (fun a s he hf hz q1 q3 => og rfl rfl rfl hz hz0 rfl q1 (fun g => op_geq rfl (q3.1 g) i0)), (fun a s he hf hz q1 q4 => an rfl rfl q1 (q4.1)), mvq rfl rfl, (fun a s he hf hz q6 => og rfl rfl rfl hz hz0 rfl q6 (fun g => op_faddr_b rfl fa_34_5 ((hf 1 rfl).trans h1))), (fun a s he hf hz q6 q7 => og rfl rfl rfl hz hz0 rfl q6 (fun g => op_load1 rfl ty_2 (q7.1 g) (B24.ext he) rfl (vm he c20))), (fun a s he hf hz q6 => og rfl rfl rfl hz hz0 rfl q6 (fun g => op_faddr_b rfl fa_34_6 ((hf 1 rfl).trans h1))), (fun a s he hf hz q6 q9 => og rfl rfl rfl hz hz0 rfl q6 (fun g => op_load1 rfl ty_2 (q9.1 g) (B24.ext he) rfl (vm he c21))), (fun a s he hf hz q6 q8 q10 => og rfl rfl rfl hz hz0 rfl q6 (fun g => op_lss rfl (q8.1 g) (q10.1 g))), (fun a s he hf hz q6 q11 => an rfl rfl q6 (q11.1)), mvq rfl rfl, (fun a s he hf hz q13 => og rfl rfl rfl hz hz0 rfl q13 (fun g => op_faddr_b rfl fa_34_6 ((hf 1 rfl).trans h1))), (fun a s he hf hz q13 q14 => og rfl rfl rfl hz hz0 rfl q13 (fun g => op_load1 rfl ty_2 (q14.1 g) (B24.ext he) rfl (vm he c21))), (fun a s he hf hz q13 q15 => og rfl rfl rfl hz hz0 rfl q13 (fun g => op_leq rfl (q15.1 g) (lit_i (k := .i64) (n := 512) (by decide)))), (fun a s he hf hz q13 q16 => an rfl rfl q13 (q16.1)), mvq rfl rfl, (fun a s he hf hz q18 => og rfl rfl rfl hz hz0 rfl q18 (fun g => op_faddr_b rfl fa_34_7 ((hf 1 rfl).trans h1))), (fun a s he hf hz q18 q19 => og rfl rfl rfl hz hz0 rfl q18 (fun g => op_load1 rfl ty_32 (q19.1 g) (B24.ext he) rfl (vm he c22))), (fun a s he hf hz q18 q20 => og rfl rfl rfl hz hz0 rfl q18 (fun g => op_len rfl u_32 (q20.1 g))), (fun a s he hf hz q18 q21 => og rfl rfl rfl hz hz0 rfl q18 (fun g => op_eql rfl (q21.1 g) i0)), (fun a s he hf hz q18 q22 => an rfl rfl q18 (q22.1)), avq rfl rfl, trivial⟩ ?_
    intro a47 s48 he hf hz hd1 h2; have ⟨hd, E⟩ := hdE hd1 hd E he; refine wp_ret ?_; cases h
    exact ⟨hd, _, results_tmp rfl _ _ _, E, h2⟩
   ·have h := ite_f hb h; refine wp_sr ?_; refine sq_blk [⟨109, _, []⟩, ⟨108, _, [0]⟩] [1] hz rfl ⟨(fun a s he hf hz => eq_ rfl rfl (V_at h49 he (hf 49 rfl)) (lit_i (k := .i64) (n := 3) (by decide))), avq rfl rfl, trivial⟩ ?_; intro a49 s50 he hf hz hd1 h108; have ⟨hd, E⟩ := hdE hd1 hd E he; have h1 := (hf 1 rfl).trans h1; have B24 := B24.ext he; obtain ⟨c20, c21, c22, c23⟩ := vm4 he c20 c21 c22 c23; refine wp_condV h108 (fun hb => ?_) (fun hb => ?_)
    ·have h := ite_t hb h; refine wp_sr ?_; have hz0 := hz; refine sq_blk (⟨110, _, []⟩ :: ⟨111, _, [0]⟩ :: ⟨112, _, [1]⟩ :: ⟨113, _, [2]⟩ :: ⟨114, _, [3]⟩ :: ⟨115, _, [3, 4]⟩ :: ⟨116, _, [3, 5]⟩ :: ⟨117, _, [3, 6]⟩ :: ⟨118, _, [7]⟩ :: ⟨119, _, [8]⟩ :: ⟨120, _, [8, 9]⟩ :: ⟨121, _, [8, 10]⟩ :: ⟨122, _, [8, 11]⟩ :: ⟨123, _, [12]⟩ :: ⟨124, _, [13]⟩ :: ⟨125, _, [13, 14]⟩ :: ⟨126, _, [13, 15]⟩ :: ⟨127, _, [13, 16]⟩ :: ⟨128, _, [13, 17]⟩ :: ⟨129, _, [18]⟩ :: ⟨130, _, [19]⟩ :: ⟨131, _, [19, 20]⟩ :: ⟨132, _, [19, 21]⟩ :: ⟨133, _, [19, 22]⟩ :: ⟨134, _, [19, 23]⟩ :: ⟨2, _, [24]⟩ :: []) [25] hz rfl ⟨(fun a s he hf hz => fb rfl rfl fa_34_5 ((hf 1 rfl).trans h1)), (fun a s he hf hz q0 => lo rfl rfl ty_2 q0 (B24.ext he) rfl (vm he c20)), (fun a s he hf hz q1 => opw rfl (op_geq rfl q1 i0)), mvq rfl rfl, (fun a s he hf hz q3 => og rfl rfl rfl hz hz0 rfl q3 (fun g => op_faddr_b rfl fa_34_5 ((hf 1 rfl).trans h1))), (fun a s he hf hz q3 q4 => og rfl rfl rfl hz hz0 rfl q3 (fun g => op_load1 rfl ty_2 (q4.1 g) (B24.ext he) rfl (vm he c20))), (fun a s he hf hz q3 q5 => og rfl rfl rfl hz hz0 rfl q3 (fun g => op_leq rfl (q5.1 g) (lit_i (k := .i64) (n := 512) (by decide)))), (fun a s he hf hz q3 q6 => an rfl rfl q3 (q6.1)), mvq rfl rfl, (fun a s he hf hz q8 => og rfl rfl rfl hz hz0 rfl q8 (fun g => op_faddr_b rfl fa_34_6 ((hf 1 rfl).trans h1))), (fun a s he hf hz q8 q9 => og rfl rfl rfl hz hz0 rfl q8 (fun g => op_load1 rfl ty_2 (q9.1 g) (B24.ext he) rfl (vm he c21))), (fun a s he hf hz q8 q10 => og rfl rfl rfl hz hz0 rfl q8 (fun g => op_eql rfl (q10.1 g) i0)), (fun a s he hf hz q8 q11 => an rfl rfl q8 (q11.1)), mvq rfl rfl, (fun a s he hf hz q13 => og rfl rfl rfl hz hz0 rfl q13 (fun g => op_faddr_b rfl fa_34_7 ((hf 1 rfl).trans h1))), (fun a s he hf hz q13 q14 => og rfl rfl rfl hz hz0 rfl q13 (fun g => op_load1 rfl ty_32 (q14.1 g) (B24.ext he) rfl (vm he c22))), (fun a s he hf hz q13 q15 => og rfl rfl rfl hz hz0 rfl q13 (fun g => op_len rfl u_32 (q15.1 g))), (fun a s he hf hz q13 q16 => og rfl rfl rfl hz hz0 rfl q13 (fun g => op_eql rfl (q16.1 g) i0)), (fun a s he hf hz q13 q17 => an rfl rfl q13 (q17.1)), mvq rfl rfl, (fun a s he hf hz q19 => og rfl rfl rfl hz hz0 rfl q19 (fun g => op_faddr_b rfl fa_34_8 ((hf 1 rfl).trans h1))), (fun a s he hf hz q19 q20 => og rfl rfl rfl hz hz0 rfl q19 (fun g => op_load1 rfl ty_22 (q20.1 g) (B24.ext he) rfl (vm he c23))), (fun a s he hf hz q19 q21 => og rfl rfl rfl hz hz0 rfl q19 (fun g => op_len rfl u_22 (q21.1 g))), (fun a s he hf hz q19 q22 => og rfl rfl rfl hz hz0 rfl q19 (fun g => op_eql rfl (q22.1 g) i0)), (fun a s he hf hz q19 q23 => an rfl rfl q19 (q23.1)), avq rfl rfl, trivial⟩ ?_
     intro a51 s52 he hf hz hd1 h2; have ⟨hd, E⟩ := hdE hd1 hd E he; refine wp_ret ?_; cases h
     exact ⟨hd, _, results_tmp rfl _ _ _, E, h2⟩
    ·have h := ite_f hb h; refine wp_skip ?_; refine wp_sr ?_; refine sq_blk [⟨2, _, []⟩] [0] hz rfl ⟨(fun a s he hf hz => av rfl rfl b_f), trivial⟩ ?_; intro a53 s54 he hf hz hd1 h2; have ⟨hd, E⟩ := hdE hd1 hd E he; refine wp_ret ?_; cases h
     exact ⟨hd, _, results_tmp rfl _ _ _, E, h2⟩
theorem hasOp_eq (x : Frame) : (!hasOp x.ops (fun y0 => frame_Right_1 y0 x)) = x.ops.all (fun o => decide (o.cart = x.cart) && rightO o) := by
 unfold hasOp idxF0
 rw [idxF_any, List.not_any_eq_all_not]
 congr 1
 funext o
 simp [frame_Right_1]
theorem opsOk_eq (x : Frame) : opsOk x.ops x.cart = (x.ops.all (fun o => decide (o.cart = x.cart) && rightO o) && (decide (1 ≤ x.ops.length) && decide (x.ops.length ≤ 8))) := by
 unfold opsOk
 congr 2
 funext o
 rw [Bool.and_comm]
theorem nilOk (x : Str) : (decide (x = ([] : Str)) = decide (x.length = 0)) := by cases x <;> simp
theorem frame_Right_eq (x : Frame) : frame_Right x = rightF x := by
 unfold frame_Right
 rw [hasOp_eq, nilOk]
 unfold rightF frame_bare textOk
 simp only []
 generalize x.ops.all (fun o => decide (o.cart = x.cart) && rightO o) = z
 generalize rightV x.known = v
 generalize isName x.src = a
 generalize isName x.dst = b
 generalize x.cart.length = cl
 generalize x.ops.length = ol
 generalize x.known.length = nl
 rw [Bool.eq_iff_iff]
 by_cases hs : x.src = x.dst
 ·simp [hs]
 by_cases k1 : x.kind = 1
 ·simp [k1, hs]; cases a <;> cases b <;> simp <;> cases v <;> simp <;> omega
 ·by_cases k2 : x.kind = 2
  ·simp [k1, k2, hs]; cases a <;> cases b <;> simp <;> cases z <;> simp <;> omega
  ·by_cases k3 : x.kind = 3
   ·simp [k3, hs]; cases a <;> cases b <;> simp <;> omega
   ·simp [k1, k2, k3]
theorem ref14_Right_eq (x : Frame) : ref14_Right x = rightF x := by
 unfold ref14_Right
 rw [opsOk_eq]
 unfold rightF textOk
 generalize x.ops.all (fun o => decide (o.cart = x.cart) && rightO o) = z
 generalize rightV x.known = v
 generalize isName x.src = a
 generalize isName x.dst = b
 generalize x.cart.length = cl
 generalize x.ops.length = ol
 generalize x.known.length = nl
 rw [Bool.eq_iff_iff]
 by_cases hs : x.src = x.dst
 ·simp [hs]
 by_cases k1 : x.kind = 1
 ·simp [k1, hs]; cases a <;> cases b <;> simp <;> cases v <;> simp <;> omega
 ·by_cases k2 : x.kind = 2
  ·simp [k1, k2, hs]; cases a <;> cases b <;> simp <;> cases z <;> simp <;> omega
  ·by_cases k3 : x.kind = 3
   ·simp [k3, hs]; cases a <;> cases b <;> simp <;> omega
   ·simp [k1, k2, k3]
end
section
attribute [local irreducible] Kn.V PtrV
def sess_NewOut_1 (x0 : Op) (x1 : Str) : Bool := ((!decide (x0.cart = x1)) || (!(rightO x0)))
theorem sess_NewOut_1.ok {s0 : St} {v0 : Value} {x0 : Op} {b1 : Nat} {x1 : Str} (k0 : kOp.V s0 v0 x0) (H1 : Hd s0 b1 9 kS x1) : Cl Try.prog 46 #[v0, .pointer (some ⟨b1, 0, none⟩)] s0 (Okf s0 (Fact.v kB (sess_NewOut_1 x0 x1))) := by
 obtain ⟨r, h⟩ : ∃ r, some (sess_NewOut_1 x0 x1) = some r := ⟨_, rfl⟩
 rw [Option.some.inj h]
 have h : (some ((!decide (x0.cart = x1)) || (!(rightO x0)))) = some r := by rw [← h]; unfold sess_NewOut_1; first | rfl | simp only [apply_ite some] | (repeat' (first | rfl | split))
 refine cl_of_wp Try.func46 rfl en_46 fun a hz hd hp => ?_; have hz : a.tmps.size = 13 := hz; have E := Chg.refl (fun _ => False) s0; obtain ⟨e2, B1, r3⟩ := H1; obtain ⟨u4, rfl, c5⟩ := one_of rfl rfl r3; have h0 := V_at k0 E (hp 0 v0 rfl); have h1 : a.get 1 = .pointer (some ⟨b1, 0, none⟩) := hp 1 _ rfl; refine wp_sr ?_; refine sq_set hz rfl rfl rfl (op_boxn rfl rfl h0 (fun s7 e9 he BB8 r10 => fun a6 h2 hf hz hd1 => ?_)); obtain ⟨b27, hb27⟩ : ∃ b, b = s0.w.heap.size := ⟨_, rfl⟩; rw [← hb27] at BB8 h2; have B27 := BB8; have l27 : s0.w.heap.size ≤ b27 := by have := E.size; omega
 have ⟨hd, E⟩ := hdE hd1 hd E he; have h1 := (hf 1 rfl).trans h1; have B1 := B1.ext he; have c5 := vm he c5; obtain ⟨u11, u12, u13, u14, u15, u16, u17, u18, rfl, c19, c20, c21, c22, c23, c24, c25, c26⟩ := kOp_open r10; refine sq_blk [⟨3, _, []⟩] [] hz rfl ⟨(fun a s he hf hz => av rfl rfl b_f), trivial⟩ ?_; intro a28 s29 he hf hz hd1; have ⟨hd, E⟩ := hdE hd1 hd E he; obtain ⟨h1, h2⟩ := ea2 hf h1 h2 rfl; obtain ⟨B1, B27⟩ := bx2 he B1 B27; obtain ⟨c5, c19, c20, c21, c22, c23, c24, c25, c26⟩ := vm9 he c5 c19 c20 c21 c22 c23 c24 c25 c26; refine wp_sr ?_; have hz0 := hz; refine sq_blk [⟨4, _, []⟩, ⟨5, _, [0]⟩, ⟨6, _, []⟩, ⟨7, _, [1, 2]⟩, ⟨8, _, [3]⟩, ⟨9, _, [4]⟩, ⟨10, _, [4, 5]⟩, ⟨11, _, [4, 6]⟩, ⟨12, _, [4, 7]⟩, ⟨3, _, [8]⟩] [9] hz rfl ⟨(fun a s he hf hz => fb rfl rfl fa_72_2 ((hf 2 rfl).trans h2)), (fun a s he hf hz q0 => lo rfl rfl ty_9 q0 (B27.ext he) rfl (vm he c22)), (fun a s he hf hz => lo rfl rfl ty_9 ((hf 1 rfl).trans h1) (B1.ext he) rfl (vm he c5)), (fun a s he hf hz q1 q2 => opw rfl (op_sneq rfl q1 q2)), mvq rfl rfl, (fun a s he hf hz q4 => og rfl rfl rfl hz hz0 rfl q4 (fun g => op_loadn rfl ty_72 rfl ((hf 2 rfl).trans h2) (B27.ext he) rfl (kOp_eta (x := x0) (vm he c19) (vm he c20) (vm he c21) (vm he c22) (vm he c23) (vm he c24) (vm he c25) (vm he c26)))), (fun a s he hf hz q4 q5 => og rfl rfl rfl hz hz0 rfl q4 (fun g => op_call rfl rfl (order_Right.ct (q5.1 g)))), (fun a s he hf hz q4 q6 => og rfl rfl rfl hz hz0 rfl q4 (fun g => op_not rfl (q6.1 g))), (fun a s he hf hz q4 q7 => oe rfl rfl q4 (q7.1)), avq rfl rfl, trivial⟩ ?_
 intro a30 s31 he hf hz hd1 h3; have ⟨hd, E⟩ := hdE hd1 hd E he; refine wp_ret ?_; cases h
 exact ⟨hd, _, results_tmp rfl _ _ _, E, h3⟩
def opSm (x : Op) : Prop := x.deps.length ≤ 1000 ∧ x.seen.length ≤ 1000
instance (x : Op) : Decidable (opSm x) := inferInstanceAs (Decidable (_ ∧ _))
def opsSm (x : List Op) : Prop := x.length ≤ 1000 ∧ ∀ o ∈ x, opSm o
instance (x : List Op) : Decidable (opsSm x) := inferInstanceAs (Decidable (_ ∧ _))
theorem opSm_right {x : Op} (h : rightO x = true) : opSm x := by
 unfold rightO rightV at h
 simp only [Bool.and_eq_true, decide_eq_true_eq] at h
 exact ⟨by omega, by omega⟩
def ownN (x : Op) : Op := x
def sess_own.f (k : Nat) (x0 : Op) : Option (Op) := (if x0.deps.length * 24 ≤ 140737488355328 then (if x0.seen.length * 24 ≤ 140737488355328 then (some x0) else none) else none)
theorem sess_own.ok {s0 : St} {v0 : Value} {x0 : Op} {k : Nat} {r : Op} (k0 : kOp.V s0 v0 x0) (h : sess_own.f k x0 = some r) : Cl Try.prog 98 #[v0] s0 (Okf s0 (Fact.v kOp r)) := by
 unfold sess_own.f at h
 refine cl_of_wp Try.func98 rfl en_98 fun a hz hd hp => ?_; have hz : a.tmps.size = 12 := hz; have E := Chg.refl (fun _ => False) s0; have h0 := V_at k0 E (hp 0 v0 rfl); refine wp_sr ?_; refine sq_set hz rfl rfl rfl (op_boxn rfl rfl h0 (fun s2 e4 he BB3 r5 => fun a1 h1 hf hz hd1 => ?_)); obtain ⟨b22, hb22⟩ : ∃ b, b = s0.w.heap.size := ⟨_, rfl⟩; rw [← hb22] at BB3 h1; have B22 := BB3; have l22 : s0.w.heap.size ≤ b22 := by have := E.size; omega
 have ⟨hd, E⟩ := hdE hd1 hd E he; obtain ⟨u6, u7, u8, u9, u10, u11, u12, u13, rfl, c14, c15, c16, c17, c18, c19, c20, c21⟩ := kOp_open r5; refine sq_set hz rfl rfl rfl (op_alloc (cs := [.string ⟨#[]⟩, .int .i64 0, .slice none 0 0, .string ⟨#[]⟩, .int .i64 0, .string ⟨#[]⟩, .int .i64 0, .slice none 0 0]) rfl zv_72 rfl (fun s24 he BB25 => fun a23 h2 hf hz hd1 => ?_)); obtain ⟨b34, hb34⟩ : ∃ b, b = s2.w.heap.size := ⟨_, rfl⟩; rw [← hb34] at BB25 h2; have B34 := BB25; have l34 : s0.w.heap.size ≤ b34 := by have := E.size; omega
 have n34_22 : b34 ≠ b22 := by have := B22.lt; omega
 have ⟨hd, E⟩ := hdE hd1 hd E he; have h1 := (hf 1 rfl).trans h1; have B22 := B22.ext he; obtain ⟨c14, c15, c16, c17, c18, c19, c20, c21⟩ := vm8 he c14 c15 c16 c17 c18 c19 c20 c21; have c26 : kS.V s24 (.string ⟨#[]⟩) ([] : Str) := s_0; have c27 : (kI .i64).V s24 (.int .i64 0) 0 := i0; have c28 : (kSl kDot).V s24 (.slice none 0 0) ([] : (List Dot)) := (lit_nil (d := kDot)); have c29 : kS.V s24 (.string ⟨#[]⟩) ([] : Str) := s_0; have c30 : (kI .i64).V s24 (.int .i64 0) 0 := i0; have c31 : kS.V s24 (.string ⟨#[]⟩) ([] : Str) := s_0; have c32 : (kI .i64).V s24 (.int .i64 0) 0 := i0; have c33 : (kSl kDot).V s24 (.slice none 0 0) ([] : (List Dot)) := (lit_nil (d := kDot)); refine wp_seq ?_; obtain ⟨D35, h⟩ := need h; obtain ⟨D36, h⟩ := need h; refine wp_draw [⟨3, _, []⟩, ⟨4, _, [0]⟩, ⟨5, _, [1]⟩, ⟨6, _, []⟩, ⟨7, _, [3]⟩, ⟨8, _, [4]⟩, ⟨9, _, []⟩] [2, 5, 6] mo hz (by kernel_rfl) ⟨(fun a s he hf hz => fb rfl rfl fa_72_1 ((hf 1 rfl).trans h1)), (fun a s he hf hz q0 => lo rfl rfl ty_32 q0 (B22.ext he) rfl (vm he c16)), (fun a s he hf hz q1 => opw rfl (op_call_f rfl rfl (f := Fact.own (kSl kDot) 70 2 (fun g => s24.w.heap.size ≤ g) x0.deps) (Cl.mono (clone_dot.ct q1 D35) (own_w he)))), (fun a s he hf hz => fb rfl rfl fa_72_6 ((hf 1 rfl).trans h1)), (fun a s he hf hz q3 => lo rfl rfl ty_32 q3 (B22.ext he) rfl (vm he c21)), (fun a s he hf hz q4 => opw rfl (op_call_f rfl rfl (f := Fact.own (kSl kDot) 70 2 (fun g => s24.w.heap.size ≤ g) x0.seen) (Cl.mono (clone_dot.ct q4 D36) (own_w he)))), (fun a s he hf hz => fb rfl rfl fa_72_1 ((hf 1 rfl).trans h1)), trivial⟩ ?_
 intro a37 s38 he hf hz hd1 k5 k8 h9; have hd := hd1.trans hd; have f5' : ∀ g, sb (a37.get 5) = some g → s0.w.heap.size ≤ g ∧ g ≠ b22 ∧ g ≠ b34 := fun g hg => by have h1 := k5.2.2 g hg; have h2 := E.size; have l22 := B22.lt; have l34 := B34.lt; exact ⟨(by omega), (by omega), (by omega)⟩
 have f8' : ∀ g, sb (a37.get 8) = some g → s0.w.heap.size ≤ g ∧ g ≠ b22 ∧ g ≠ b34 := fun g hg => by have h1 := k8.2.2 g hg; have h2 := E.size; have l22 := B22.lt; have l34 := B34.lt; exact ⟨(by omega), (by omega), (by omega)⟩
 obtain ⟨h1, h2⟩ := ea2 hf h1 h2 rfl; obtain ⟨B22, B34⟩ := bx2 he B22 B34; obtain ⟨c14, c15, c17, c18, c19, c20⟩ := vm6 he c14 c15 c17 c18 c19 c20; have E := E.trans he; have h5 := k5.1; have p5 := k5.2.1; have f5 := f5'; have h8 := k8.1; have p8 := k8.2.1; have f8 := f8'; refine sq_do rfl rfl (op_store_v rfl ty_32 rfl h9 B22 h5 rfl (fun s42 he B22n c43 => ?_)); have pn := Sp.chg p5 he (fun g hg => (fun e => (f5 g hg).2.1 e)); have fn := f5; have p8 := Sp_at p8 he (fun g hg => (fun e => (f8 g hg).2.1 e)) rfl; have h8 := vm he h8; have B34 := B34.chg he (fun e => n34_22 e); obtain ⟨c14, c15, c17, c18, c19, c20⟩ := vm6 he c14 c15 c17 c18 c19 c20; have E := Chg.chg E he (fun b e h => (fun e => absurd h (by cases e; exact Nat.not_lt.2 l22)) e); obtain ⟨u44, huu44⟩ : ∃ u : Value, u = (a37.get 5) := ⟨_, rfl⟩; have c43 : (kSl kDot).V s42 u44 x0.deps := by rw [huu44]; exact c43
 have p22_2 : Sp s42 u44 70 2 := by rw [huu44]; exact pn
 have B22 : Bx s42 b22 72 [u6, u7, u44, u9, u10, u11, u12, u13] := by rw [huu44]; exact B22n
 refine sq_blk [⟨10, _, []⟩] [0] hz rfl ⟨(fun a s he hf hz => fb rfl rfl fa_72_6 ((hf 1 rfl).trans h1)), trivial⟩ ?_; intro a45 s46 he hf hz hd1 h10; have ⟨hd, E⟩ := hdE hd1 hd E he; have p8 := pa he p8 (hf 8 rfl); have f8 := sb_at f8 (hf 8 rfl); have h8 := V_at h8 he (hf 8 rfl); obtain ⟨h1, h2⟩ := ea2 hf h1 h2 rfl; obtain ⟨B22, B34⟩ := bx2 he B22 B34; obtain ⟨c14, c15, c43, c17, c18, c19, c20⟩ := vm7 he c14 c15 c43 c17 c18 c19 c20; refine sq_do rfl rfl (op_store_v rfl ty_32 rfl h10 B22 h8 rfl (fun s48 he B22n c49 => ?_)); have pn := Sp.chg p8 he (fun g hg => (fun e => (f8 g hg).2.1 e)); have fn := f8; have B34 := B34.chg he (fun e => n34_22 e); obtain ⟨c14, c15, c43, c17, c18, c19, c20⟩ := vm7 he c14 c15 c43 c17 c18 c19 c20; have E := Chg.chg E he (fun b e h => (fun e => absurd h (by cases e; exact Nat.not_lt.2 l22)) e); obtain ⟨u50, huu50⟩ : ∃ u : Value, u = (a45.get 8) := ⟨_, rfl⟩; have c49 : (kSl kDot).V s48 u50 x0.seen := by rw [huu50]; exact c49
 have p22_7 : Sp s48 u50 70 2 := by rw [huu50]; exact pn
 have B22 : Bx s48 b22 72 [u6, u7, u44, u9, u10, u11, u12, u50] := by rw [huu50]; exact B22n
 refine wp_sr ?_; refine sq_blk [⟨11, _, []⟩] [0] hz rfl ⟨(fun a s he hf hz => ld rfl rfl ty_72 rfl ((hf 1 rfl).trans h1) (B22.ext he) rfl (kOp_eta (x := x0) (vm he c14) (vm he c15) (vm he c43) (vm he c17) (vm he c18) (vm he c19) (vm he c20) (vm he c49))), trivial⟩ ?_; intro a51 s52 he hf hz hd1 h11; have ⟨hd, E⟩ := hdE hd1 hd E he; have h2 := (hf 2 rfl).trans h2; have B34 := B34.ext he; refine sq_do rfl rfl (op_storen rfl ty_72 rfl h2 B34 h11 rfl (fun s54 e55 he B34n r56 => ?_)); have E := Chg.chg E he (fun b e h => (fun e => absurd h (by cases e; exact Nat.not_lt.2 l34)) e); obtain ⟨u57, u58, u59, u60, u61, u62, u63, u64, rfl, c65, c66, c67, c68, c69, c70, c71, c72⟩ := kOp_open r56; have B34 : Bx s54 b34 72 [u57, u58, u59, u60, u61, u62, u63, u64] := B34n; refine wp_ret ?_; cases h
 exact ⟨hd, _, results_cell (es := [u57, u58, u59, u60, u61, u62, u63, u64]) rfl (agg := true) ty_72 (by simp) h2 B34, E, (V_mk rfl (kOp_eta (x := x0) c65 c66 c67 c68 c69 c70 c71 c72))⟩
theorem sess_own.nice (x0 : Op) (b0 : kOp.bd x0) (hp : opSm x0) : ∃ k, sess_own.f k x0 = some (ownN x0) := by
 refine ⟨0, ?_⟩
 unfold sess_own.f
 rw [if_pos (by have := hp.1; omega), if_pos (by have := hp.2; omega)] <;> rfl
theorem sess_own.ct {s0 : St} {v0 : Value} {x0 : Op} (k0 : kOp.V s0 v0 x0) (hpre : opSm x0) : Cl Try.prog 98 #[v0] s0 (Okf s0 (Fact.v kOp (ownN x0))) := by
 obtain ⟨k, h⟩ := sess_own.nice x0 (Kn.V_bd k0) hpre
 exact sess_own.ok k0 h
def ownsN (x : List Op) : List Op := x
def sess_owns.l0 : Nat → (List Op) → (List Op) → Int → Option ((List Op))
 | 0, _, _, _ => none
 | m14 + 1, x0, y11, y13 => (if decide (y13 < (x0.length : Int)) = true then (if (0 ≤ y13 ∧ y13 < (x0.length : Int)) then (if opSm (List.getD x0 (y13).toNat default) then (if (List.length y11 + List.length ([(ownN (List.getD x0 (y13).toNat default))] : List Op)) * 120 ≤ 140737488355328 then (sess_owns.l0 m14 x0 (y11 ++ ([(ownN (List.getD x0 (y13).toNat default))] : List Op)) (IntKind.wrap .i64 (y13 + 1))) else none) else none) else none) else (some y11))
def sess_owns.f (k : Nat) (x0 : (List Op)) : Option ((List Op)) := (sess_owns.l0 k x0 ([] : (List Op)) 0)
theorem sess_owns.ok {s0 : St} {v0 : Value} {x0 : (List Op)} {k : Nat} {r : (List Op)} (k0 : (kSl kOp).V s0 v0 x0) (h : sess_owns.f k x0 = some r) : Cl Try.prog 49 #[v0] s0 (Okf s0 (Fact.v (kSl kOp) r)) := by
 unfold sess_owns.f at h
 refine cl_of_wp Try.func49 rfl en_49 fun a hz hd hp => ?_; have hz : a.tmps.size = 19 := hz; have E := Chg.refl (fun _ => False) s0; have h0 := V_at k0 E (hp 0 v0 rfl); refine wp_sr ?_; refine sq_blk [⟨2, _, []⟩] [] hz rfl ⟨(fun a s he hf hz => opw rfl (op_assign rfl (f := Fact.own (kSl kOp) 72 8 (fun g => s0.w.heap.size ≤ g) []) own_nil)), trivial⟩ ?_; intro a2 s3 he hf hz hd1; have ⟨hd, E⟩ := hdE hd1 hd E he; have h0 := V_at h0 he (hf 0 rfl); refine wp_sr ?_; refine sq_blk [⟨3, _, []⟩] [0] hz rfl ⟨(fun a s he hf hz => opw rfl (op_assign rfl (f := Fact.own (kSl kOp) 72 8 (fun g => s0.w.heap.size ≤ g) []) own_nil)), trivial⟩ ?_; intro a5 s6 he hf hz hd1 k3; have ⟨hd, E⟩ := hdE hd1 hd E he; have h0 := V_at h0 he (hf 0 rfl); have h3 := k3.1; have p3 := k3.2.1; have f3 := k3.2.2; refine wp_seq ?_; refine wp_sr ?_; refine sq_blk [⟨6, _, []⟩, ⟨7, _, [0]⟩, ⟨8, _, []⟩] [0, 1, 2] hz rfl ⟨mvs rfl rfl h0 rfl, (fun a s he hf hz q0 => le_ rfl rfl u_22 q0), (fun a s he hf hz => mv rfl rfl i0), trivial⟩ ?_
 intro a7 s8 he hf hz hd1 h6 h7 h8; have ⟨hd, E⟩ := hdE hd1 hd E he; have p3 := pa he p3 (hf 3 rfl); have f3 := sb_at f3 (hf 3 rfl); have h3 := V_at h3 he (hf 3 rfl); refine wp_block ?_; refine wp_loop (k := k) (fun m14 a s => ∃ (y11 : (List Op)) (y13 : Int), sess_owns.l0 m14 x0 y11 y13 = some r ∧ m14 ≤ k ∧ Ext s0 s ∧ a.tmps.size = 19 ∧ a.defers = [] ∧ (kSl kOp).V s (a.get 3) y11 ∧ Sp s (a.get 3) 72 8 ∧ (∀ g, sb (a.get 3) = some g → s0.w.heap.size ≤ g) ∧ (kSl kOp).V s (a.get 6) x0 ∧ (kI .i64).V s (a.get 7) (x0.length : Int) ∧ (kI .i64).V s (a.get 8) y13) ⟨_, _, h, Nat.le_refl _, E, hz, hd, h3, p3, f3, h6, h7, h8⟩ ?_; rintro m14 a10 s9 ⟨y11, y13, h, hkm14, E, hz, hd, h3, p3, f3, h6, h7, h8⟩; obtain _ | m14 := m14
 ·cases h
 refine wp_sr ?_; refine sq_blk [⟨9, _, []⟩] [0] hz rfl ⟨(fun a s he hf hz => ls rfl rfl (V_at h8 he (hf 8 rfl)) (V_at h7 he (hf 7 rfl))), trivial⟩ ?_; intro a15 s16 he hf hz hd1 h9; have ⟨hd, E⟩ := hdE hd1 hd E he; have p3 := pa he p3 (hf 3 rfl); have f3 := sb_at f3 (hf 3 rfl); obtain ⟨h3, h6, h7, h8⟩ := va4 he hf h3 h6 h7 h8 rfl; refine wp_seq ?_; refine wp_condV h9 (fun hb => ?_) (fun hb => ?_)
 ·have h := ite_t hb h; refine wp_skip ?_; refine wp_seq ?_; refine wp_block ?_; refine wp_sr ?_; obtain ⟨D17, h⟩ := need h; refine sq_blk [⟨10, _, []⟩, ⟨11, _, [0]⟩] [1] hz rfl ⟨(fun a s he hf hz => ia rfl rfl sl_22 (V_at h6 he (hf 6 rfl)) (V_at h8 he (hf 8 rfl)) D17.1 D17.2), (fun a s he hf hz q0 => lp rfl rfl ty_72 (by decide) q0), trivial⟩ ?_; intro a18 s19 he hf hz hd1 h11; have ⟨hd, E⟩ := hdE hd1 hd E he; have p3 := pa he p3 (hf 3 rfl); have f3 := sb_at f3 (hf 3 rfl); obtain ⟨h3, h6, h7, h8⟩ := va4 he hf h3 h6 h7 h8 rfl; refine sq_set hz rfl rfl rfl (op_alloc (cs := [.string ⟨#[]⟩, .int .i64 0, .slice none 0 0, .string ⟨#[]⟩, .int .i64 0, .string ⟨#[]⟩, .int .i64 0, .slice none 0 0]) rfl zv_72 rfl (fun s21 he BB22 => fun a20 h5 hf hz hd1 => ?_)); obtain ⟨b31, hb31⟩ : ∃ b, b = s19.w.heap.size := ⟨_, rfl⟩; rw [← hb31] at BB22 h5; have B31 := BB22; have l31 : s0.w.heap.size ≤ b31 := by have := E.size; omega
  have f3 : ∀ g, sb (a18.get 3) = some g → s0.w.heap.size ≤ g ∧ g ≠ b31 := fun g hg => ⟨(f3 g hg), (by have := Spare.lt p3 hg; omega)⟩; have ⟨hd, E⟩ := hdE hd1 hd E he; have p3 := pa he p3 (hf 3 rfl); have f3 := sb_at f3 (hf 3 rfl); obtain ⟨h3, h6, h7, h8, h11⟩ := va5 he hf h3 h6 h7 h8 h11 rfl; have c23 : kS.V s21 (.string ⟨#[]⟩) ([] : Str) := s_0; have c24 : (kI .i64).V s21 (.int .i64 0) 0 := i0; have c25 : (kSl kDot).V s21 (.slice none 0 0) ([] : (List Dot)) := (lit_nil (d := kDot)); have c26 : kS.V s21 (.string ⟨#[]⟩) ([] : Str) := s_0; have c27 : (kI .i64).V s21 (.int .i64 0) 0 := i0; have c28 : kS.V s21 (.string ⟨#[]⟩) ([] : Str) := s_0; have c29 : (kI .i64).V s21 (.int .i64 0) 0 := i0; have c30 : (kSl kDot).V s21 (.slice none 0 0) ([] : (List Dot)) := (lit_nil (d := kDot)); have p31_2 : Sp s21 (.slice none 0 0) 70 2 := Spare.nil _ _ _ 0; have p31_7 : Sp s21 (.slice none 0 0) 70 2 := Spare.nil _ _ _ 0
  refine sq_do rfl rfl (op_storen rfl ty_72 rfl h5 B31 h11 rfl (fun s35 e36 he B31n r37 => ?_)); have p3 := Sp_at p3 he (fun g hg => (fun e => (f3 g hg).2 e)) rfl; obtain ⟨h3, h6, h7, h8⟩ := vm4 he h3 h6 h7 h8; have E := Chg.chg E he (fun b e h => (fun e => absurd h (by cases e; exact Nat.not_lt.2 l31)) e); obtain ⟨u38, u39, u40, u41, u42, u43, u44, u45, rfl, c46, c47, c48, c49, c50, c51, c52, c53⟩ := kOp_open r37; have B31 : Bx s35 b31 72 [u38, u39, u40, u41, u42, u43, u44, u45] := B31n; refine wp_region ?_; obtain ⟨D54, h⟩ := need h; refine sq_blk [⟨12, _, []⟩, ⟨13, _, []⟩, ⟨14, _, [1]⟩, ⟨15, _, [2]⟩] [0, 3] hz rfl ⟨(fun a s he hf hz => opw rfl (op_move rfl (f := Fact.own _ _ _ _ _) (own_at h3 p3 f3 he (hf 3 rfl)))), (fun a s he hf hz => ld rfl rfl ty_72 rfl ((hf 5 rfl).trans h5) (B31.ext he) rfl (kOp_eta (x := (List.getD x0 (y13).toNat default)) (vm he c46) (vm he c47) (vm he c48) (vm he c49) (vm he c50) (vm he c51) (vm he c52) (vm he c53))), (fun a s he hf hz q1 => opw rfl (op_call rfl rfl (sess_own.ct q1 D54))), (fun a s he hf hz q2 => opw rfl ((by obtain ⟨e55, w57, r56⟩ := V_open rfl q2; obtain ⟨u58, u59, u60, u61, u62, u63, u64, u65, rfl, c66, c67, c68, c69, c70, c71, c72, c73⟩ := kOp_open r56; exact op_lit_o (Q := fun g => s0.w.heap.size ≤ g ∧ g ≠ b31) (d := kOp) rfl lt_22 (zc := [.string ⟨#[]⟩, .int .i64 0, .slice none 0 0, .string ⟨#[]⟩, .int .i64 0, .string ⟨#[]⟩, .int .i64 0, .slice none 0 0]) (by kernel_rfl) (ps := [(0, [u58, u59, u60, u61, u62, u63, u64, u65])]) ⟨rfl, congrArg Value.cells w57, trivial⟩ rfl (by decide) (ys := ([(ownN (List.getD x0 (y13).toNat default))] : List Op)) rfl (by decide) rfl (lit_rows1 (show kOp.R _ [u58, u59, u60, u61, u62, u63, u64, u65] (ownN (List.getD x0 (y13).toNat default)) from kOp_close c66 c67 c68 c69 c70 c71 c72 c73))))), trivial⟩ ?_
  intro a75 s76 he hf hz hd1 k12 k15; have ⟨hd, E⟩ := hdE hd1 hd E he; obtain ⟨h6, h7, h8⟩ := va3 he hf h6 h7 h8 rfl; have h12 := k12.1; have p12 := k12.2.1; have f12 := k12.2.2; have h15 := k15.1; obtain ⟨D79, h⟩ := need h; refine sq_set hz rfl rfl rfl (op_append2 rfl el_22 h12 p12 h15 D79 rfl (fun v s78 he hv hp hq => fun a77 hd' hf hz hd1 => ?_)); have f16' : ∀ g, sb (a77.get 16) = some g → s0.w.heap.size ≤ g := by
   intro g hg; rw [hd'] at hg; rcases hq g hg with h | h
   ·have h1 := f12 g h; exact h1.1
   ·have h2 := E.size; exact (by omega)
  have hd := hd1.trans hd; obtain ⟨h6, h7, h8⟩ := va3 he hf h6 h7 h8 rfl; have E := Chg.chg E he (fun b e h => absurd h (Nat.not_lt.2 (f12 b e).1)); have h16 := V_eq hd' hv; have p16 := Sp_at hp (Chg.refl (fun _ => False) _) (fun _ _ hf => hf) hd'; have f16 := f16'; refine sq_blk [⟨3, _, []⟩] [0] hz rfl ⟨(fun a s he hf hz => opw rfl (op_assign rfl (f := Fact.own _ _ _ _ _) (own_at h16 p16 f16 he (hf 16 rfl)))), trivial⟩ ?_; intro a81 s82 he hf hz hd1 k3; have hd := hd1.trans hd; obtain ⟨h6, h7, h8⟩ := va3 he hf h6 h7 h8 rfl; have E := E.trans he; have h3 := k3.1; have p3 := k3.2.1; have f3 := k3.2.2; refine wp_region ?_; refine sq_blk [⟨17, _, []⟩] [0] hz rfl ⟨(fun a s he hf hz => ad rfl rfl (V_at h8 he (hf 8 rfl)) i1), trivial⟩ ?_; intro a83 s84 he hf hz hd1 h17; have ⟨hd, E⟩ := hdE hd1 hd E he; have p3 := pa he p3 (hf 3 rfl); have f3 := sb_at f3 (hf 3 rfl); obtain ⟨h3, h6, h7⟩ := va3 he hf h3 h6 h7 rfl; refine sq_blk [⟨8, _, []⟩] [0] hz rfl ⟨mvs rfl rfl h17 rfl, trivial⟩ ?_; intro a85 s86 he hf hz hd1 h8; have hd := hd1.trans hd; have p3 := pa he p3 (hf 3 rfl); have f3 := sb_at f3 (hf 3 rfl)
  obtain ⟨h3, h6, h7⟩ := va3 he hf h3 h6 h7 rfl; have E := E.trans he; exact ⟨_, (by omega : m14 < m14 + 1), _, _, h, by omega, E, hz, hd, h3, p3, (fun g hg => (f3 g hg)), h6, h7, h8⟩
 ·have h := ite_f hb h; refine wp_exit ?_; refine then_exit ?_; refine then_exit ?_; refine inBlock_hit ?_; refine wp_sr ?_; refine sq_blk [⟨18, _, []⟩, ⟨2, _, [0]⟩] [1] hz rfl ⟨(fun a s he hf hz => opw rfl (op_move rfl (f := Fact.own _ _ _ _ _) (own_at h3 p3 f3 he (hf 3 rfl)))), (fun a s he hf hz q0 => opw rfl (op_assign rfl (f := Fact.own _ _ _ _ _) q0)), trivial⟩ ?_; intro a87 s88 he hf hz hd1 k2; have ⟨hd, E⟩ := hdE hd1 hd E he; have h2 := k2.1; refine wp_ret ?_; cases h
  exact ⟨hd, _, results_tmp rfl _ _ _, E, h2⟩
theorem sess_owns.nice (x0 : List Op) (b0 : (kSl kOp).bd x0) (hp : opsSm x0) : ∃ k, sess_owns.f k x0 = some (ownsN x0) := by
 have hb : x0.length ≤ maxLen := b0.1
 have hm := maxLen_lt
 have : ∀ y, y ≤ x0.length → ∃ k, sess_owns.l0 k x0 (x0.take y) (y : Int) = some x0 := by
  refine rounds x0.length ⟨1, ?_⟩ fun y hy ⟨k, hk⟩ => ?_
  ·simp only [sess_owns.l0, List.take_length, Int.lt_irrefl, decide_false, Bool.false_eq_true, if_false]
  ·push_cast at hk
   have hr : (0 : Int) ≤ y ∧ (y : Int) < x0.length := ⟨by omega, by omega⟩
   refine ⟨k + 1, ?_⟩
   have hg : x0.getD y default = x0[y] := by rw [List.getD_eq_getElem?_getD, List.getElem?_eq_getElem hy] <;> rfl
   have ho : opSm (x0.getD y default) := by rw [hg]; exact hp.2 _ (List.getElem_mem hy)
   simp only [sess_owns.l0, hr, and_self, if_true, decide_true]
   rw [Int.toNat_natCast, if_pos ho, if_pos (by simp; have := hp.1; omega), w64s (by omega), hg]
   show sess_owns.l0 k x0 (x0.take y ++ [x0[y]]) _ = _
   rw [← List.take_succ_eq_append_getElem hy]; exact hk
 exact this 0 (Nat.zero_le _)
theorem sess_owns.ct {s0 : St} {v0 : Value} {x0 : (List Op)} (k0 : (kSl kOp).V s0 v0 x0) (hpre : opsSm x0) : Cl Try.prog 49 #[v0] s0 (Okf s0 (Fact.v (kSl kOp) (ownsN x0))) := by
 obtain ⟨k, h⟩ := sess_owns.nice x0 (Kn.V_bd k0) hpre
 exact sess_owns.ok k0 h
def sess_cut (x0 : (List Op)) : (List Op) := x0
theorem sess_cut.ok {s0 : St} {v0 : Value} {x0 : (List Op)} (k0 : (kSl kOp).V s0 v0 x0) : Cl Try.prog 48 #[v0] s0 (fun v t => Ext s0 t ∧ ∃ b, v = .func (.func 97) #[] #[.pointer (some ⟨b, 0, none⟩)] ∧ s0.w.heap.size ≤ b ∧ Hd t b 22 (kSl kOp) (sess_cut x0)) := by
 obtain ⟨r, h⟩ : ∃ r, some (sess_cut x0) = some r := ⟨_, rfl⟩
 rw [Option.some.inj h]
 have h : (some x0) = some r := by rw [← h]; unfold sess_cut; first | rfl | simp only [apply_ite some] | (repeat' (first | rfl | split))
 refine cl_of_wp Try.func48 rfl en_48 fun a hz hd hp => ?_; have hz : a.tmps.size = 4 := hz; have E := Chg.refl (fun _ => False) s0; have h0 := V_at k0 E (hp 0 v0 rfl); refine wp_sr ?_; refine sq_set hz rfl rfl rfl (op_box1 rfl rfl h0 (fun s2 u4 he BB3 c5 => fun a1 h1 hf hz hd1 => ?_)); obtain ⟨b6, hb6⟩ : ∃ b, b = s0.w.heap.size := ⟨_, rfl⟩; rw [← hb6] at BB3 h1; have B6 := BB3; have l6 : s0.w.heap.size ≤ b6 := by have := E.size; omega
 have ⟨hd, E⟩ := hdE hd1 hd E he; refine sq_blk [⟨2, _, []⟩] [] hz rfl ⟨(fun a s he hf hz => ae rfl rfl rfl), trivial⟩ ?_; intro a7 s8 he hf hz hd1; have ⟨hd, E⟩ := hdE hd1 hd E he; have h1 := (hf 1 rfl).trans h1; have B6 := B6.ext he; have c5 := vm he c5; refine wp_sr ?_; refine sq_blk [⟨3, _, []⟩, ⟨2, _, [0]⟩] [1] hz rfl ⟨(fun a s he hf hz => opw rfl (op_func rfl (f := Fact.eq (.func (.func 97) #[] #[.pointer (some ⟨b6, 0, none⟩)])) (caps1 ((hf 1 rfl).trans h1)))), (fun a s he hf hz q0 => ae rfl rfl q0), trivial⟩ ?_; intro a9 s10 he hf hz hd1 h2; have ⟨hd, E⟩ := hdE hd1 hd E he; have B6 := B6.ext he; have c5 := vm he c5; refine wp_ret ?_; cases h
 exact ⟨hd, _, results_tmp rfl _ _ _, E, b6, h2, l6, ⟨_, B6, V_one rfl c5⟩⟩
def chunk : Nat → List Op → List (List Op)
 | 0, _ => []
 | n + 1, l => if l = [] then [] else l.take 8 :: chunk n (l.drop 8)
def chunks (l : List Op) : List (List Op) := chunk l.length l
theorem chunk_len : ∀ (n : Nat) (l : List Op), l.length ≤ n → (chunk n l).length = (l.length + 7) / 8
 | 0, l, h => by
  have : l.length = 0 := by omega
  simp [chunk, this]
 | n + 1, l, h => by
  unfold chunk
  split
  ·rename_i e; simp [e]
  ·rename_i e
   have : 0 < l.length := List.length_pos_iff.2 e
   rw [List.length_cons, chunk_len n _ (by simp; omega), List.length_drop]
   omega
theorem chunk_at : ∀ (n : Nat) (l : List Op) (i : Nat), l.length ≤ n → 8 * i < l.length → (chunk n l)[i]? = some ((l.drop (8 * i)).take 8)
 | 0, l, i, h, hi => by omega
 | n + 1, l, i, h, hi => by
  unfold chunk
  have e : l ≠ [] := fun e => by subst e; simp at hi
  rw [if_neg e]
  cases i with
  | zero => simp
  | succ i =>
   rw [List.getElem?_cons_succ, chunk_at n _ i (by simp; omega) (by simp; omega), List.drop_drop]
   congr 3
   omega
theorem chunks_len (l : List Op) : (chunks l).length = (l.length + 7) / 8 := chunk_len _ _ (Nat.le_refl _)
theorem chunks_at {l : List Op} {i : Nat} (h : 8 * i < l.length) : (chunks l)[i]? = some ((l.drop (8 * i)).take 8) := chunk_at _ _ _ (Nat.le_refl _) h
def sess_cut_1.l0 : Nat → (List Op) → Option (List (List Op))
 | 0, _ => none
 | m11 + 1, y8 => (if decide (0 < (y8.length : Int)) = true then (if (0 ≤ (mn 8 (y8.length : Int)) ∧ (mn 8 (y8.length : Int)) ≤ (y8.length : Int)) then (Option.map (fun q => (List.take (mn 8 (y8.length : Int)).toNat y8) :: q) ((sess_cut_1.l0 m11 (List.drop (mn 8 (y8.length : Int)).toNat y8)))) else none) else (some []))
def sess_cut_1.f (k : Nat) (x1 : (List Op)) : Option (List (List Op)) := (sess_cut_1.l0 k x1)
theorem sess_cut_1.ok {s0 : St} {l : Nat} {M : Nat → Prop} {J : List (List Op) → St → Prop} {b1 : Nat} {x1 : (List Op)} {k : Nat} {r : List (List Op)} (H1 : Hd s0 b1 22 (kSl kOp) x1) (hJ : ∀ q t t', J q t → Chg (fun k => k = b1) t t' → J q t') (hy : ∀ x q t u0, J (x :: q) t → (kSl kOp).V t u0 x → Yd Try.prog l #[u0] t (fun v t' => v = .bool true ∧ Chg M t t' ∧ J q t')) (m1 : ¬ M b1) (J0 : J r s0) (h : sess_cut_1.f k x1 = some r) : Cl Try.prog 97 #[.func (.yield l) #[] #[], .pointer (some ⟨b1, 0, none⟩)] s0 (fun v t => Chg (fun k => M k ∨ k = b1) s0 t ∧ J [] t) := by
 unfold sess_cut_1.f at h
 refine cl_of_wp Try.func97 rfl en_97 fun a hz hd hp => ?_; have hz : a.tmps.size = 20 := hz; have E := Chg.refl (fun k => M k ∨ k = b1) s0; have jj := J0; have EJ := Chg.refl (fun k => k = b1) s0; obtain ⟨e2, B1, r3⟩ := H1; obtain ⟨u4, rfl, c5⟩ := one_of rfl rfl r3; have h0 : a.get 0 = .func (.yield l) #[] #[] := hp 0 _ rfl; have h1 : a.get 1 = .pointer (some ⟨b1, 0, none⟩) := hp 1 _ rfl; refine wp_block ?_; have jj := hJ _ _ _ jj EJ; refine wp_loop (k := k) (fun m11 a s => ∃ (r : List (List Op)) (y8 : (List Op)) (u9 : Value), sess_cut_1.l0 m11 y8 = some r ∧ m11 ≤ k ∧ Chg (fun k => M k ∨ k = b1) s0 s ∧ a.tmps.size = 20 ∧ a.defers = [] ∧ J r s ∧ a.get 0 = .func (.yield l) #[] #[] ∧ a.get 1 = .pointer (some ⟨b1, 0, none⟩) ∧ Bx s b1 22 [u9] ∧ (kSl kOp).V s u9 y8) ⟨_, _, _, h, Nat.le_refl _, E, hz, hd, jj, h0, h1, B1, c5⟩ ?_; rintro m11 a7 s6 ⟨r, y8, u9, h, hkm11, E, hz, hd, jj, h0, h1, B1, c10⟩; have EJ := Chg.refl (fun k => k = b1) s6; obtain _ | m11 := m11
 ·cases h
 refine wp_seq ?_; refine wp_sr ?_; refine sq_blk [⟨4, _, []⟩, ⟨5, _, [0]⟩, ⟨6, _, [1]⟩] [2] hz rfl ⟨(fun a s he hf hz => lo rfl rfl ty_22 ((hf 1 rfl).trans h1) (B1.ext he) rfl (vm he c10)), (fun a s he hf hz q0 => le_ rfl rfl u_22 q0), (fun a s he hf hz q1 => gt_ rfl rfl q1 i0), trivial⟩ ?_; intro a12 s13 he hf hz hd1 h6; have hd := hd1.trans hd; obtain ⟨h0, h1⟩ := ea2 hf h0 h1 rfl; have B1 := B1.ext he; have c10 := vm he c10; have E := E.trans (Chg.of_ext he); have EJ := EJ.trans (Chg.of_ext he); refine wp_condV h6 (fun hb => ?_) (fun hb => ?_)
 ·have h := ite_t hb h; refine wp_skip ?_; refine wp_block ?_; refine wp_sr ?_; refine sq_blk [⟨7, _, []⟩, ⟨8, _, [0]⟩, ⟨9, _, [1]⟩, ⟨3, _, [2]⟩] [3] hz rfl ⟨(fun a s he hf hz => lo rfl rfl ty_22 ((hf 1 rfl).trans h1) (B1.ext he) rfl (vm he c10)), (fun a s he hf hz q0 => le_ rfl rfl u_22 q0), (fun a s he hf hz q1 => opw rfl (op_min rfl (lit_i (k := .i64) (n := 8) (by decide)) q1)), avq rfl rfl, trivial⟩ ?_; intro a14 s15 he hf hz hd1 h3; have hd := hd1.trans hd; obtain ⟨h0, h1⟩ := ea2 hf h0 h1 rfl; have B1 := B1.ext he; have c10 := vm he c10; have E := E.trans (Chg.of_ext he); have EJ := EJ.trans (Chg.of_ext he); refine wp_seq ?_; refine wp_sr ?_; obtain ⟨D16, h⟩ := need h; refine sq_blk [⟨10, _, []⟩, ⟨11, _, []⟩, ⟨12, _, []⟩, ⟨13, _, []⟩, ⟨14, _, [1, 2, 3]⟩] [0, 4] hz rfl ⟨mes rfl rfl h0 rfl, (fun a s he hf hz => lo rfl rfl ty_22 ((hf 1 rfl).trans h1) (B1.ext he) rfl (vm he c10)), mvs rfl rfl h3 rfl, mvs rfl rfl h3 rfl, (fun a s he hf hz q1 q2 q3 => opw rfl (op_cut3v rfl sl_22 q1 q2 q3 D16.1 D16.2)), trivial⟩ ?_; intro a17 s18 he hf hz hd1 h10 h14; have hd := hd1.trans hd; have h3 := V_at h3 he (hf 3 rfl)
  obtain ⟨h0, h1⟩ := ea2 hf h0 h1 rfl; have B1 := B1.ext he; have c10 := vm he c10; have E := E.trans (Chg.of_ext he); have EJ := EJ.trans (Chg.of_ext he); have jj := hJ _ _ _ jj EJ; obtain ⟨qa19, eq, h⟩ := yield_h h; rw [eq] at jj; refine sq_set hz rfl rfl rfl (op_yield rfl h10 rfl (Yd.mono (hy _ _ _ _ jj h14) (fun v s20 hR => fun a19 hd' hf hz hd1 => ?_))); obtain ⟨hv, he, jj⟩ := hR; have hd := hd1.trans hd; have h3 := V_at h3 he (hf 3 rfl); obtain ⟨h0, h1⟩ := ea2 hf h0 h1 rfl; have B1 := B1.chg he m1; have c10 := vm he c10; have E := E.trans (he.weak fun _ _ h => Or.inl h); have EJ := Chg.refl (fun k => k = b1) s20; have h15 : kB.V s20 (a19.get 15) true := V_eq (hd'.trans hv) b_t; refine sq_blk [⟨16, _, []⟩] [0] hz rfl ⟨(fun a s he hf hz => no_ rfl rfl (V_at h15 he (hf 15 rfl))), trivial⟩ ?_; intro a21 s22 he hf hz hd1 h16; have hd := hd1.trans hd; have h3 := V_at h3 he (hf 3 rfl); obtain ⟨h0, h1⟩ := ea2 hf h0 h1 rfl; have B1 := B1.ext he; have c10 := vm he c10; have E := E.trans (Chg.of_ext he); have EJ := EJ.trans (Chg.of_ext he); refine wp_condV h16 (fun e => absurd e (by decide)) (fun _ => ?_); refine wp_skip ?_; refine wp_region ?_
  refine sq_blk [⟨17, _, []⟩, ⟨18, _, []⟩, ⟨19, _, [0, 1]⟩] [2] hz rfl ⟨(fun a s he hf hz => lo rfl rfl ty_22 ((hf 1 rfl).trans h1) (B1.ext he) rfl (vm he c10)), mvs rfl rfl h3 rfl, (fun a s he hf hz q0 q1 => opw rfl (op_cut_l rfl sl_22 q0 q1 D16.1 D16.2)), trivial⟩ ?_; intro a23 s24 he hf hz hd1 h19; have hd := hd1.trans hd; obtain ⟨h0, h1⟩ := ea2 hf h0 h1 rfl; have B1 := B1.ext he; have E := E.trans (Chg.of_ext he); have EJ := EJ.trans (Chg.of_ext he); refine sq_do rfl rfl (op_store_v rfl ty_22 rfl h1 B1 h19 rfl (fun s26 he B1n c27 => ?_)); have E := Chg.chg E he (fun b e h => (fun e => by cases e; exact (Or.inr rfl)) e); have EJ := Chg.chg EJ he (fun b e h => (fun e => by cases e; rfl) e); obtain ⟨u28, huu28⟩ : ∃ u : Value, u = (a23.get 19) := ⟨_, rfl⟩; have c27 : (kSl kOp).V s26 u28 (List.drop (mn 8 (y8.length : Int)).toNat y8) := by rw [huu28]; exact c27
  have B1 : Bx s26 b1 22 [u28] := by rw [huu28]; exact B1n
  have jj := hJ _ _ _ jj EJ; exact ⟨_, (by omega : m11 < m11 + 1), _, _, _, h, by omega, E, hz, hd, jj, h0, h1, B1, c27⟩
 ·have h := ite_f hb h; refine wp_exit ?_; refine then_exit ?_; refine then_exit ?_; refine inBlock_hit ?_; have jj := hJ _ _ _ jj EJ; cases h
  exact ⟨hd, _, results_none rfl _ _ _, E, jj⟩
theorem sess_cut_1.nice (x1 : List Op) (b1 : (kSl kOp).bd x1) : ∃ k, sess_cut_1.f k x1 = some (chunks x1) := by
 have hb : x1.length ≤ maxLen := b1.1
 have hm := maxLen_lt
 have : ∀ n (l : List Op), l.length ≤ n → n ≤ maxLen → sess_cut_1.l0 (n + 1) l = some (chunk n l) := by
  intro n
  induction n with
  | zero => intro l hl _; have : l = [] := List.length_eq_zero_iff.1 (by omega); subst this; rfl
  | succ n ih =>
   intro l hl hn
   unfold sess_cut_1.l0 chunk
   by_cases e : l = []
   ·subst e; rfl
   ·have h0 : 0 < l.length := List.length_pos_iff.2 e
    have h1 : mn 8 (l.length : Int) = ((min 8 l.length : Nat) : Int) := by unfold mn; split <;> omega
    rw [if_pos (decide_eq_true (by omega)), if_neg e, h1, if_pos ⟨by omega, by omega⟩, Int.toNat_natCast]
    have h2 : l.take (min 8 l.length) = l.take 8 := by
     rw [Nat.min_def]
     split
     ·rfl
     ·rw [List.take_of_length_le (Nat.le_refl _), List.take_of_length_le (by omega)]
    have h3 : l.drop (min 8 l.length) = l.drop 8 := by
     rw [Nat.min_def]
     split
     ·rfl
     ·rw [List.drop_of_length_le (Nat.le_refl _), List.drop_of_length_le (by omega)]
    rw [h2, h3, ih (l.drop 8) (by simp; omega) (by omega)]
    rfl
 exact ⟨x1.length + 1, this _ _ (Nat.le_refl _) hb⟩
theorem sess_cut_1.ct {s0 : St} {l : Nat} {M : Nat → Prop} {J : List (List Op) → St → Prop} {b1 : Nat} {x1 : (List Op)} (H1 : Hd s0 b1 22 (kSl kOp) x1) (hJ : ∀ q t t', J q t → Chg (fun k => k = b1) t t' → J q t') (hy : ∀ x q t u0, J (x :: q) t → (kSl kOp).V t u0 x → Yd Try.prog l #[u0] t (fun v t' => v = .bool true ∧ Chg M t t' ∧ J q t')) (m1 : ¬ M b1) (J0 : J (chunks x1) s0) : Cl Try.prog 97 #[.func (.yield l) #[] #[], .pointer (some ⟨b1, 0, none⟩)] s0 (fun v t => Chg (fun k => M k ∨ k = b1) s0 t ∧ J [] t) := by
 obtain ⟨k, h⟩ := sess_cut_1.nice x1 (Hd.bd H1)
 exact sess_cut_1.ok H1 hJ hy m1 J0 h
end
end Go.Proofs.Ytfaenhhiogcacaa.Px
