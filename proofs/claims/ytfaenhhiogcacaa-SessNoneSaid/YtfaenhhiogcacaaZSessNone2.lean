/-
  PARTS OF ONE PROOF: W1 W2 W3 W4 W5 W6 W7 W8 W9 W10. CONDITIONS: none of their own; each line names its own.
-/
import Derived.Test.YtfaenhhiogcacaaZSessNone1
import Derived.Test.YtfaenhhiogcacaaProg
import Derived.KernelRfl
set_option linter.unusedSimpArgs false
set_option linter.unusedVariables false
set_option maxRecDepth 4000
set_option maxHeartbeats 1000000
namespace Go.Proofs.Ytfaenhhiogcacaa.Px
open Go Go.RowKit
section
attribute [local irreducible] Kn.V PtrV
def sess_isCart (x0 : Str) : Bool := ((!decide (x0 = ([] : Str))) && (decide ((x0.length : Int) ≤ 32)))
theorem sess_isCart.ok {s0 : St} {v0 : Value} {x0 : Str} (k0 : kS.V s0 v0 x0) : Cl Try.prog 44 #[v0] s0 (Okf s0 (Fact.v kB (sess_isCart x0))) := by
 obtain ⟨r, h⟩ : ∃ r, some (sess_isCart x0) = some r := ⟨_, rfl⟩
 rw [Option.some.inj h]
 have h : (some ((!decide (x0 = ([] : Str))) && (decide ((x0.length : Int) ≤ 32)))) = some r := by rw [← h]; unfold sess_isCart; first | rfl | simp only [apply_ite some] | (repeat' (first | rfl | split))
 refine cl_of_wp Try.func44 rfl en_44 fun a hz hd hp => ?_; have hz : a.tmps.size = 10 := hz; have E := Chg.refl (fun _ => False) s0; have h0 := V_at k0 E (hp 0 v0 rfl); refine wp_sr ?_; refine sq_blk [⟨2, _, []⟩] [] hz rfl ⟨(fun a s he hf hz => av rfl rfl b_f), trivial⟩ ?_; intro a1 s2 he hf hz hd1; have ⟨hd, E⟩ := hdE hd1 hd E he; have h0 := V_at h0 he (hf 0 rfl); refine wp_sr ?_; have hz0 := hz; refine sq_blk [⟨3, _, []⟩, ⟨4, _, [0]⟩, ⟨5, _, [1]⟩, ⟨6, _, [2]⟩, ⟨7, _, [2, 3]⟩, ⟨8, _, [2, 4]⟩, ⟨9, _, [2, 5]⟩, ⟨2, _, [6]⟩] [7] hz rfl ⟨mvs rfl rfl h0 rfl, (fun a s he hf hz q0 => opw rfl (op_sneq rfl q0 s_0)), mvq rfl rfl, (fun a s he hf hz q2 => og rfl rfl rfl hz hz0 rfl q2 (fun g => op_move_v rfl (V_at h0 he (hf 0 rfl)))), (fun a s he hf hz q2 q3 => og rfl rfl rfl hz hz0 rfl q2 (fun g => op_len_s rfl u_9 (q3.1 g))), (fun a s he hf hz q2 q4 => og rfl rfl rfl hz hz0 rfl q2 (fun g => op_leq rfl (q4.1 g) (lit_i (k := .i64) (n := 32) (by decide)))), (fun a s he hf hz q2 q5 => an rfl rfl q2 (q5.1)), avq rfl rfl, trivial⟩ ?_; intro a3 s4 he hf hz hd1 h2
 have ⟨hd, E⟩ := hdE hd1 hd E he; refine wp_ret ?_; cases h
 exact ⟨hd, _, results_tmp rfl _ _ _, E, h2⟩
def frame_bare (x0 : Frame) : Bool := (((decide (x0.many = 0)) && (decide ((x0.known.length : Int) = 0))) && (decide ((x0.ops.length : Int) = 0)))
theorem frame_bare.ok {s0 : St} {v0 : Value} {x0 : Frame} (k0 : kFrame.V s0 v0 x0) : Cl Try.prog 79 #[v0] s0 (Okf s0 (Fact.v kB (frame_bare x0))) := by
 obtain ⟨r, h⟩ : ∃ r, some (frame_bare x0) = some r := ⟨_, rfl⟩
 rw [Option.some.inj h]
 have h : (some (((decide (x0.many = 0)) && (decide ((x0.known.length : Int) = 0))) && (decide ((x0.ops.length : Int) = 0)))) = some r := by rw [← h]; unfold frame_bare; first | rfl | simp only [apply_ite some] | (repeat' (first | rfl | split))
 refine cl_of_wp Try.func79 rfl en_79 fun a hz hd hp => ?_; have hz : a.tmps.size = 18 := hz; have E := Chg.refl (fun _ => False) s0; have h0 := V_at k0 E (hp 0 v0 rfl); refine wp_sr ?_; refine sq_set hz rfl rfl rfl (op_boxn rfl rfl h0 (fun s2 e4 he BB3 r5 => fun a1 h1 hf hz hd1 => ?_)); obtain ⟨b24, hb24⟩ : ∃ b, b = s0.w.heap.size := ⟨_, rfl⟩; rw [← hb24] at BB3 h1; have B24 := BB3; have l24 : s0.w.heap.size ≤ b24 := by have := E.size; omega
 have ⟨hd, E⟩ := hdE hd1 hd E he; obtain ⟨u6, u7, u8, u9, u10, u11, u12, u13, u14, rfl, c15, c16, c17, c18, c19, c20, c21, c22, c23⟩ := kFrame_open r5; refine sq_blk [⟨2, _, []⟩] [] hz rfl ⟨(fun a s he hf hz => av rfl rfl b_f), trivial⟩ ?_; intro a25 s26 he hf hz hd1; have ⟨hd, E⟩ := hdE hd1 hd E he; have h1 := (hf 1 rfl).trans h1; have B24 := B24.ext he; obtain ⟨c21, c22, c23⟩ := vm3 he c21 c22 c23; refine wp_sr ?_; have hz0 := hz; refine sq_blk [⟨3, _, []⟩, ⟨4, _, [0]⟩, ⟨5, _, [1]⟩, ⟨6, _, [2]⟩, ⟨7, _, [3]⟩, ⟨8, _, [3, 4]⟩, ⟨9, _, [3, 5]⟩, ⟨10, _, [3, 6]⟩, ⟨11, _, [3, 7]⟩, ⟨12, _, [8]⟩, ⟨13, _, [9]⟩, ⟨14, _, [9, 10]⟩, ⟨15, _, [9, 11]⟩, ⟨16, _, [9, 12]⟩, ⟨17, _, [9, 13]⟩, ⟨2, _, [14]⟩] [15] hz rfl ⟨(fun a s he hf hz => fb rfl rfl fa_34_6 ((hf 1 rfl).trans h1)), (fun a s he hf hz q0 => lo rfl rfl ty_2 q0 (B24.ext he) rfl (vm he c21)), (fun a s he hf hz q1 => eq_ rfl rfl q1 i0), mvq rfl rfl, (fun a s he hf hz q3 => og rfl rfl rfl hz hz0 rfl q3 (fun g => op_faddr_b rfl fa_34_7 ((hf 1 rfl).trans h1))), (fun a s he hf hz q3 q4 => og rfl rfl rfl hz hz0 rfl q3 (fun g => op_load1 rfl ty_32 (q4.1 g) (B24.ext he) rfl (vm he c22))), (fun a s he hf hz q3 q5 => og rfl rfl rfl hz hz0 rfl q3 (fun g => op_len rfl u_32 (q5.1 g))), (fun a s he hf hz q3 q6 => og rfl rfl rfl hz hz0 rfl q3 (fun g => op_eql rfl (q6.1 g) i0)), (fun a s he hf hz q3 q7 => an rfl rfl q3 (q7.1)), mvq rfl rfl, (fun a s he hf hz q9 => og rfl rfl rfl hz hz0 rfl q9 (fun g => op_faddr_b rfl fa_34_8 ((hf 1 rfl).trans h1))), (fun a s he hf hz q9 q10 => og rfl rfl rfl hz hz0 rfl q9 (fun g => op_load1 rfl ty_22 (q10.1 g) (B24.ext he) rfl (vm he c23))), (fun a s he hf hz q9 q11 => og rfl rfl rfl hz hz0 rfl q9 (fun g => op_len rfl u_22 (q11.1 g))), (fun a s he hf hz q9 q12 => og rfl rfl rfl hz hz0 rfl q9 (fun g => op_eql rfl (q12.1 g) i0)), (fun a s he hf hz q9 q13 => an rfl rfl q9 (q13.1)), avq rfl rfl, trivial⟩ ?_
 intro a27 s28 he hf hz hd1 h2; have ⟨hd, E⟩ := hdE hd1 hd E he; refine wp_ret ?_; cases h
 exact ⟨hd, _, results_tmp rfl _ _ _, E, h2⟩
def order_isText (x0 : Str) : Bool := ((!decide (x0 = ([] : Str))) && (decide ((x0.length : Int) ≤ 32)))
theorem order_isText.ok {s0 : St} {v0 : Value} {x0 : Str} (k0 : kS.V s0 v0 x0) : Cl Try.prog 94 #[v0] s0 (Okf s0 (Fact.v kB (order_isText x0))) := by
 obtain ⟨r, h⟩ : ∃ r, some (order_isText x0) = some r := ⟨_, rfl⟩
 rw [Option.some.inj h]
 have h : (some ((!decide (x0 = ([] : Str))) && (decide ((x0.length : Int) ≤ 32)))) = some r := by rw [← h]; unfold order_isText; first | rfl | simp only [apply_ite some] | (repeat' (first | rfl | split))
 refine cl_of_wp Try.func94 rfl en_94 fun a hz hd hp => ?_; have hz : a.tmps.size = 10 := hz; have E := Chg.refl (fun _ => False) s0; have h0 := V_at k0 E (hp 0 v0 rfl); refine wp_sr ?_; refine sq_blk [⟨2, _, []⟩] [] hz rfl ⟨(fun a s he hf hz => av rfl rfl b_f), trivial⟩ ?_; intro a1 s2 he hf hz hd1; have ⟨hd, E⟩ := hdE hd1 hd E he; have h0 := V_at h0 he (hf 0 rfl); refine wp_sr ?_; have hz0 := hz; refine sq_blk [⟨3, _, []⟩, ⟨4, _, [0]⟩, ⟨5, _, [1]⟩, ⟨6, _, [2]⟩, ⟨7, _, [2, 3]⟩, ⟨8, _, [2, 4]⟩, ⟨9, _, [2, 5]⟩, ⟨2, _, [6]⟩] [7] hz rfl ⟨mvs rfl rfl h0 rfl, (fun a s he hf hz q0 => opw rfl (op_sneq rfl q0 s_0)), mvq rfl rfl, (fun a s he hf hz q2 => og rfl rfl rfl hz hz0 rfl q2 (fun g => op_move_v rfl (V_at h0 he (hf 0 rfl)))), (fun a s he hf hz q2 q3 => og rfl rfl rfl hz hz0 rfl q2 (fun g => op_len_s rfl u_9 (q3.1 g))), (fun a s he hf hz q2 q4 => og rfl rfl rfl hz hz0 rfl q2 (fun g => op_leq rfl (q4.1 g) (lit_i (k := .i64) (n := 32) (by decide)))), (fun a s he hf hz q2 q5 => an rfl rfl q2 (q5.1)), avq rfl rfl, trivial⟩ ?_; intro a3 s4 he hf hz hd1 h2
 have ⟨hd, E⟩ := hdE hd1 hd E he; refine wp_ret ?_; cases h
 exact ⟨hd, _, results_tmp rfl _ _ _, E, h2⟩
def ref08_ahead (x0 : Dot) (x1 : Dot) : Bool := ((sLt x0.who x1.who) || ((decide (x0.who = x1.who)) && (decide (x0.n < x1.n))))
theorem ref08_ahead.ok {s0 : St} {v0 : Value} {x0 : Dot} {v1 : Value} {x1 : Dot} (k0 : kDot.V s0 v0 x0) (k1 : kDot.V s0 v1 x1) : Cl Try.prog 102 #[v0, v1] s0 (Okf s0 (Fact.v kB (ref08_ahead x0 x1))) := by
 obtain ⟨r, h⟩ : ∃ r, some (ref08_ahead x0 x1) = some r := ⟨_, rfl⟩
 rw [Option.some.inj h]
 have h : (some ((sLt x0.who x1.who) || ((decide (x0.who = x1.who)) && (decide (x0.n < x1.n))))) = some r := by rw [← h]; unfold ref08_ahead; first | rfl | simp only [apply_ite some] | (repeat' (first | rfl | split))
 refine cl_of_wp Try.func102 rfl en_102 fun a hz hd hp => ?_; have hz : a.tmps.size = 24 := hz; have E := Chg.refl (fun _ => False) s0; have h0 := V_at k0 E (hp 0 v0 rfl); have h1 := V_at k1 E (hp 1 v1 rfl); refine wp_sr ?_; refine sq_set hz rfl rfl rfl (op_boxn rfl rfl h0 (fun s2 e4 he BB3 r5 => fun a1 h2 hf hz hd1 => ?_)); obtain ⟨b10, hb10⟩ : ∃ b, b = s0.w.heap.size := ⟨_, rfl⟩; rw [← hb10] at BB3 h2; have B10 := BB3; have l10 : s0.w.heap.size ≤ b10 := by have := E.size; omega
 have ⟨hd, E⟩ := hdE hd1 hd E he; have h1 := V_at h1 he (hf 1 rfl); obtain ⟨u6, u7, rfl, c8, c9⟩ := kDot_open r5; refine sq_set hz rfl rfl rfl (op_boxn rfl rfl h1 (fun s12 e14 he BB13 r15 => fun a11 h3 hf hz hd1 => ?_)); obtain ⟨b20, hb20⟩ : ∃ b, b = s2.w.heap.size := ⟨_, rfl⟩; rw [← hb20] at BB13 h3; have B20 := BB13; have l20 : s0.w.heap.size ≤ b20 := by have := E.size; omega
 have ⟨hd, E⟩ := hdE hd1 hd E he; have h2 := (hf 2 rfl).trans h2; have B10 := B10.ext he; obtain ⟨c8, c9⟩ := vm2 he c8 c9; obtain ⟨u16, u17, rfl, c18, c19⟩ := kDot_open r15; refine sq_blk [⟨4, _, []⟩] [] hz rfl ⟨(fun a s he hf hz => av rfl rfl b_f), trivial⟩ ?_; intro a21 s22 he hf hz hd1; have ⟨hd, E⟩ := hdE hd1 hd E he; obtain ⟨h2, h3⟩ := ea2 hf h2 h3 rfl; obtain ⟨B10, B20⟩ := bx2 he B10 B20; obtain ⟨c8, c9, c18, c19⟩ := vm4 he c8 c9 c18 c19; refine wp_sr ?_; have hz0 := hz; refine sq_blk [⟨5, _, []⟩, ⟨6, _, [0]⟩, ⟨7, _, []⟩, ⟨8, _, [2]⟩, ⟨9, _, [1, 3]⟩, ⟨10, _, [4]⟩, ⟨11, _, [5]⟩, ⟨12, _, [5, 6]⟩, ⟨13, _, [5]⟩, ⟨14, _, [5, 8]⟩, ⟨15, _, [5, 7, 9]⟩, ⟨16, _, [5, 10]⟩, ⟨17, _, [11]⟩, ⟨18, _, [11, 12]⟩, ⟨19, _, [11]⟩, ⟨20, _, [11, 14]⟩, ⟨21, _, [11, 13, 15]⟩, ⟨22, _, [5, 11, 16]⟩, ⟨23, _, [5, 17]⟩, ⟨4, _, [18]⟩] [19] hz rfl ⟨(fun a s he hf hz => fb rfl rfl fa_70_0 ((hf 2 rfl).trans h2)), (fun a s he hf hz q0 => lo rfl rfl ty_9 q0 (B10.ext he) rfl (vm he c8)), (fun a s he hf hz => fb rfl rfl fa_70_0 ((hf 3 rfl).trans h3)), (fun a s he hf hz q2 => lo rfl rfl ty_9 q2 (B20.ext he) rfl (vm he c18)), (fun a s he hf hz q1 q3 => opw rfl (op_slss rfl q1 q3)), mvq rfl rfl, (fun a s he hf hz q5 => og rfl rfl rfl hz hz0 rfl q5 (fun g => op_faddr_b rfl fa_70_0 ((hf 2 rfl).trans h2))), (fun a s he hf hz q5 q6 => og rfl rfl rfl hz hz0 rfl q5 (fun g => op_load1 rfl ty_9 (q6.1 g) (B10.ext he) rfl (vm he c8))), (fun a s he hf hz q5 => og rfl rfl rfl hz hz0 rfl q5 (fun g => op_faddr_b rfl fa_70_0 ((hf 3 rfl).trans h3))), (fun a s he hf hz q5 q8 => og rfl rfl rfl hz hz0 rfl q5 (fun g => op_load1 rfl ty_9 (q8.1 g) (B20.ext he) rfl (vm he c18))), (fun a s he hf hz q5 q7 q9 => og rfl rfl rfl hz hz0 rfl q5 (fun g => op_seql rfl (q7.1 g) (q9.1 g))), (fun a s he hf hz q5 q10 => og rfl rfl rfl hz hz0 rfl q5 (fun g => op_move_v rfl (q10.1 g))), (fun a s he hf hz q11 => ogg rfl rfl rfl hz hz0 rfl q11 (fun g => op_faddr_b rfl fa_70_1 ((hf 2 rfl).trans h2))), (fun a s he hf hz q11 q12 => ogg rfl rfl rfl hz hz0 rfl q11 (fun g => op_load1 rfl ty_2 (q12.1 g) (B10.ext he) rfl (vm he c9))), (fun a s he hf hz q11 => ogg rfl rfl rfl hz hz0 rfl q11 (fun g => op_faddr_b rfl fa_70_1 ((hf 3 rfl).trans h3))), (fun a s he hf hz q11 q14 => ogg rfl rfl rfl hz hz0 rfl q11 (fun g => op_load1 rfl ty_2 (q14.1 g) (B20.ext he) rfl (vm he c19))), (fun a s he hf hz q11 q13 q15 => ogg rfl rfl rfl hz hz0 rfl q11 (fun g => op_lss rfl (q13.1 g) (q15.1 g))), (fun a s he hf hz q5 q11 q16 => og rfl rfl rfl hz hz0 rfl q5 (fun g => op_and_then rfl (q11.1 g) (fun e => q16.1 ⟨g, e⟩))), (fun a s he hf hz q5 q17 => oe rfl rfl q5 (q17.1)), avq rfl rfl, trivial⟩ ?_
 intro a23 s24 he hf hz hd1 h4; have ⟨hd, E⟩ := hdE hd1 hd E he; refine wp_ret ?_; cases h
 exact ⟨hd, _, results_tmp rfl _ _ _, E, h4⟩
def okByte (c : UInt8) : Bool := (decide (97 ≤ (c.toNat : Int)) && decide ((c.toNat : Int) ≤ 122)) || (decide (48 ≤ (c.toNat : Int)) && decide ((c.toNat : Int) ≤ 57)) || decide ((c.toNat : Int) = 46)
def isName (x : Str) : Bool := x.all okByte && decide (1 ≤ x.length) && decide (x.length ≤ 24)
theorem okByte_eq (c : UInt8) : (!okByte c) = (((decide ((c.toNat : Int) < 97) || decide (122 < (c.toNat : Int))) && (decide ((c.toNat : Int) < 48) || decide (57 < (c.toNat : Int)))) && !decide ((c.toNat : Int) = 46)) := by
 unfold okByte
 have := byte_nat c
 by_cases h1 : (97 : Int) ≤ c.toNat <;> by_cases h2 : (c.toNat : Int) ≤ 122 <;> by_cases h3 : (48 : Int) ≤ c.toNat <;> by_cases h4 : (c.toNat : Int) ≤ 57 <;> by_cases h5 : (c.toNat : Int) = 46 <;>
  simp [h1, h2, h3, h4, h5] <;> omega
def ref07_IsName.l0 : Nat → Str → Int → Option (Bool)
 | 0, _, _ => none
 | m8 + 1, x0, y7 => (if decide (y7 < (x0.length : Int)) = true then (if (0 ≤ y7 ∧ y7 < (x0.length : Int)) then (if ((((decide (((List.getD x0 (y7).toNat 0).toNat : Int) < 97)) || (decide (122 < ((List.getD x0 (y7).toNat 0).toNat : Int)))) && ((decide (((List.getD x0 (y7).toNat 0).toNat : Int) < 48)) || (decide (57 < ((List.getD x0 (y7).toNat 0).toNat : Int))))) && (!decide (((List.getD x0 (y7).toNat 0).toNat : Int) = 46))) = true then (some false) else (ref07_IsName.l0 m8 x0 (IntKind.wrap .i64 (y7 + 1)))) else none) else (some ((decide (1 ≤ (x0.length : Int))) && (decide ((x0.length : Int) ≤ 24)))))
def ref07_IsName.f (k : Nat) (x0 : Str) : Option (Bool) := (ref07_IsName.l0 k x0 0)
theorem ref07_IsName.ok {s0 : St} {v0 : Value} {x0 : Str} {k : Nat} {r : Bool} (k0 : kS.V s0 v0 x0) (h : ref07_IsName.f k x0 = some r) : Cl Try.prog 50 #[v0] s0 (Okf s0 (Fact.v kB r)) := by
 unfold ref07_IsName.f at h
 refine cl_of_wp Try.func50 rfl en_50 fun a hz hd hp => ?_; have hz : a.tmps.size = 46 := hz; have E := Chg.refl (fun _ => False) s0; have h0 := V_at k0 E (hp 0 v0 rfl); refine wp_sr ?_; refine sq_blk [⟨2, _, []⟩] [] hz rfl ⟨(fun a s he hf hz => av rfl rfl b_f), trivial⟩ ?_; intro a1 s2 he hf hz hd1; have ⟨hd, E⟩ := hdE hd1 hd E he; have h0 := V_at h0 he (hf 0 rfl); refine wp_seq ?_; refine wp_sr ?_; refine sq_blk [⟨3, _, []⟩] [0] hz rfl ⟨(fun a s he hf hz => av rfl rfl i0), trivial⟩ ?_; intro a3 s4 he hf hz hd1 h3; have ⟨hd, E⟩ := hdE hd1 hd E he; have h0 := V_at h0 he (hf 0 rfl); refine wp_block ?_; refine wp_loop (k := k) (fun m8 a s => ∃ (y7 : Int), ref07_IsName.l0 m8 x0 y7 = some r ∧ m8 ≤ k ∧ Ext s0 s ∧ a.tmps.size = 46 ∧ a.defers = [] ∧ kS.V s (a.get 0) x0 ∧ (kI .i64).V s (a.get 3) y7) ⟨_, h, Nat.le_refl _, E, hz, hd, h0, h3⟩ ?_; rintro m8 a6 s5 ⟨y7, h, hkm8, E, hz, hd, h0, h3⟩; obtain _ | m8 := m8
 ·cases h
 refine wp_seq ?_; refine wp_sr ?_; refine sq_blk [⟨4, _, []⟩, ⟨5, _, []⟩, ⟨6, _, [1]⟩, ⟨7, _, [0, 2]⟩] [3] hz rfl ⟨mvs rfl rfl h3 rfl, mvs rfl rfl h0 rfl, (fun a s he hf hz q1 => lns rfl rfl u_9 q1), (fun a s he hf hz q0 q2 => ls rfl rfl q0 q2), trivial⟩ ?_; intro a9 s10 he hf hz hd1 h7; have ⟨hd, E⟩ := hdE hd1 hd E he; obtain ⟨h0, h3⟩ := va2 he hf h0 h3 rfl; refine wp_condV h7 (fun hb => ?_) (fun hb => ?_)
 ·have h := ite_t hb h; refine wp_skip ?_; refine wp_seq ?_; refine wp_block ?_; refine wp_sr ?_; obtain ⟨D11, h⟩ := need h; have hz0 := hz; refine sq_blk (⟨10, _, []⟩ :: ⟨11, _, []⟩ :: ⟨12, _, [0, 1]⟩ :: ⟨13, _, [2]⟩ :: ⟨14, _, [3]⟩ :: ⟨15, _, [4]⟩ :: ⟨16, _, [4]⟩ :: ⟨17, _, [4, 5, 6]⟩ :: ⟨18, _, [4, 7]⟩ :: ⟨19, _, [4, 8]⟩ :: ⟨20, _, [9]⟩ :: ⟨21, _, [10]⟩ :: ⟨22, _, [10]⟩ :: ⟨23, _, [10, 11, 12]⟩ :: ⟨24, _, [10, 13]⟩ :: ⟨25, _, [10, 14]⟩ :: ⟨26, _, [15]⟩ :: ⟨27, _, [15]⟩ :: ⟨28, _, [15, 16, 17]⟩ :: ⟨29, _, [15, 18]⟩ :: ⟨30, _, [10, 15, 19]⟩ :: ⟨31, _, [10, 20]⟩ :: ⟨32, _, [21]⟩ :: ⟨33, _, [22]⟩ :: ⟨34, _, [22]⟩ :: ⟨35, _, [22, 23, 24]⟩ :: ⟨36, _, [22, 25]⟩ :: ⟨37, _, [22, 26]⟩ :: []) [27] hz rfl ⟨mvs rfl rfl h0 rfl, mvs rfl rfl h3 rfl, (fun a s he hf hz q0 q1 => opw rfl (op_index_s rfl u_9 q0 q1 D11.1 D11.2)), (fun a s he hf hz q2 => ls rfl rfl q2 (lit_i (k := .u8) (n := 97) (by decide))), mvq rfl rfl, (fun a s he hf hz q4 => og rfl rfl rfl hz hz0 rfl q4 (fun g => op_move_v rfl (V_at h0 he (hf 0 rfl)))), (fun a s he hf hz q4 => og rfl rfl rfl hz hz0 rfl q4 (fun g => op_move_v rfl (V_at h3 he (hf 3 rfl)))), (fun a s he hf hz q4 q5 q6 => og rfl rfl rfl hz hz0 rfl q4 (fun g => op_index_s rfl u_9 (q5.1 g) (q6.1 g) D11.1 D11.2)), (fun a s he hf hz q4 q7 => og rfl rfl rfl hz hz0 rfl q4 (fun g => op_gtr rfl (q7.1 g) (lit_i (k := .u8) (n := 122) (by decide)))), (fun a s he hf hz q4 q8 => oe rfl rfl q4 (q8.1)), mvq rfl rfl, (fun a s he hf hz q10 => og rfl rfl rfl hz hz0 rfl q10 (fun g => op_move_v rfl (V_at h0 he (hf 0 rfl)))), (fun a s he hf hz q10 => og rfl rfl rfl hz hz0 rfl q10 (fun g => op_move_v rfl (V_at h3 he (hf 3 rfl)))), (fun a s he hf hz q10 q11 q12 => og rfl rfl rfl hz hz0 rfl q10 (fun g => op_index_s rfl u_9 (q11.1 g) (q12.1 g) D11.1 D11.2)), (fun a s he hf hz q10 q13 => og rfl rfl rfl hz hz0 rfl q10 (fun g => op_lss rfl (q13.1 g) (lit_i (k := .u8) (n := 48) (by decide)))), (fun a s he hf hz q10 q14 => og rfl rfl rfl hz hz0 rfl q10 (fun g => op_move_v rfl (q14.1 g))), (fun a s he hf hz q15 => ogg rfl rfl rfl hz hz0 rfl q15 (fun g => op_move_v rfl (V_at h0 he (hf 0 rfl)))), (fun a s he hf hz q15 => ogg rfl rfl rfl hz hz0 rfl q15 (fun g => op_move_v rfl (V_at h3 he (hf 3 rfl)))), (fun a s he hf hz q15 q16 q17 => ogg rfl rfl rfl hz hz0 rfl q15 (fun g => op_index_s rfl u_9 (q16.1 g) (q17.1 g) D11.1 D11.2)), (fun a s he hf hz q15 q18 => ogg rfl rfl rfl hz hz0 rfl q15 (fun g => op_gtr rfl (q18.1 g) (lit_i (k := .u8) (n := 57) (by decide)))), (fun a s he hf hz q10 q15 q19 => og rfl rfl rfl hz hz0 rfl q10 (fun g => op_or_else rfl (q15.1 g) (fun e => q19.1 ⟨g, e⟩))), (fun a s he hf hz q10 q20 => an rfl rfl q10 (q20.1)), mvq rfl rfl, (fun a s he hf hz q22 => og rfl rfl rfl hz hz0 rfl q22 (fun g => op_move_v rfl (V_at h0 he (hf 0 rfl)))), (fun a s he hf hz q22 => og rfl rfl rfl hz hz0 rfl q22 (fun g => op_move_v rfl (V_at h3 he (hf 3 rfl)))), (fun a s he hf hz q22 q23 q24 => og rfl rfl rfl hz hz0 rfl q22 (fun g => op_index_s rfl u_9 (q23.1 g) (q24.1 g) D11.1 D11.2)), (fun a s he hf hz q22 q25 => og rfl rfl rfl hz hz0 rfl q22 (fun g => op_neq rfl (q25.1 g) (lit_i (k := .u8) (n := 46) (by decide)))), (fun a s he hf hz q22 q26 => an rfl rfl q22 (q26.1)), trivial⟩ ?_
  intro a12 s13 he hf hz hd1 h37; have ⟨hd, E⟩ := hdE hd1 hd E he; obtain ⟨h0, h3⟩ := va2 he hf h0 h3 rfl; refine wp_condV h37 (fun hb => ?_) (fun hb => ?_)
  ·have h := ite_t hb h; refine wp_sr ?_; refine sq_blk [⟨2, _, []⟩] [0] hz rfl ⟨(fun a s he hf hz => av rfl rfl b_f), trivial⟩ ?_; intro a14 s15 he hf hz hd1 h2; have ⟨hd, E⟩ := hdE hd1 hd E he; refine wp_ret ?_; cases h
   exact ⟨hd, _, results_tmp rfl _ _ _, E, h2⟩
  ·have h := ite_f hb h; refine wp_skip ?_; refine wp_region ?_; refine sq_blk [⟨8, _, []⟩, ⟨9, _, [0]⟩] [1] hz rfl ⟨mvs rfl rfl h3 rfl, (fun a s he hf hz q0 => ad rfl rfl q0 i1), trivial⟩ ?_; intro a16 s17 he hf hz hd1 h9; have ⟨hd, E⟩ := hdE hd1 hd E he; have h0 := V_at h0 he (hf 0 rfl); refine sq_blk [⟨3, _, []⟩] [0] hz rfl ⟨avs rfl rfl h9 rfl, trivial⟩ ?_; intro a18 s19 he hf hz hd1 h3; have ⟨hd, E⟩ := hdE hd1 hd E he; have h0 := V_at h0 he (hf 0 rfl); exact ⟨_, (by omega : m8 < m8 + 1), _, h, by omega, E, hz, hd, h0, h3⟩
 ·have h := ite_f hb h; refine wp_exit ?_; refine then_exit ?_; refine then_exit ?_; refine inBlock_hit ?_; refine wp_sr ?_; have hz0 := hz; refine sq_blk [⟨38, _, []⟩, ⟨39, _, [0]⟩, ⟨40, _, [1]⟩, ⟨41, _, [2]⟩, ⟨42, _, [3]⟩, ⟨43, _, [3, 4]⟩, ⟨44, _, [3, 5]⟩, ⟨45, _, [3, 6]⟩, ⟨2, _, [7]⟩] [8] hz rfl ⟨mvs rfl rfl h0 rfl, (fun a s he hf hz q0 => lns rfl rfl u_9 q0), (fun a s he hf hz q1 => opw rfl (op_geq rfl q1 i1)), mvq rfl rfl, (fun a s he hf hz q3 => og rfl rfl rfl hz hz0 rfl q3 (fun g => op_move_v rfl (V_at h0 he (hf 0 rfl)))), (fun a s he hf hz q3 q4 => og rfl rfl rfl hz hz0 rfl q3 (fun g => op_len_s rfl u_9 (q4.1 g))), (fun a s he hf hz q3 q5 => og rfl rfl rfl hz hz0 rfl q3 (fun g => op_leq rfl (q5.1 g) (lit_i (k := .i64) (n := 24) (by decide)))), (fun a s he hf hz q3 q6 => an rfl rfl q3 (q6.1)), avq rfl rfl, trivial⟩ ?_; intro a20 s21 he hf hz hd1 h2; have ⟨hd, E⟩ := hdE hd1 hd E he; refine wp_ret ?_; cases h
  exact ⟨hd, _, results_tmp rfl _ _ _, E, h2⟩
theorem ref07_IsName.nice (x0 : Str) (b0 : kS.bd x0) : ∃ k, ref07_IsName.f k x0 = some (isName x0) := by
 have hb : x0.length ≤ maxLen := b0
 have hm := maxLen_lt
 have : ∀ y, y ≤ x0.length → ∃ k, ref07_IsName.l0 k x0 (y : Int) = some ((x0.drop y).all okByte && (decide (1 ≤ x0.length) && decide (x0.length ≤ 24))) := by
  refine rounds x0.length ⟨1, ?_⟩ fun y hy ⟨k, hk⟩ => ?_
  ·simp only [ref07_IsName.l0, List.drop_length]; simp
   congr 1 <;> simp only [decide_eq_decide] <;> omega
  ·push_cast at hk
   have hr : (0 : Int) ≤ y ∧ (y : Int) < x0.length := ⟨by omega, by omega⟩
   rw [drop_at 0 hy, List.all_cons]
   cases e : okByte (x0.getD y 0)
   ·refine ⟨1, ?_⟩
    have := okByte_eq (x0.getD y 0)
    rw [e] at this
    simp only [ref07_IsName.l0, Int.toNat_natCast, hr, and_self, implies_true, if_true, ← this]
    simp [hy]
   ·refine ⟨k + 1, ?_⟩
    have := okByte_eq (x0.getD y 0)
    rw [e] at this
    simp only [ref07_IsName.l0, Int.toNat_natCast, hr, and_self, implies_true, if_true, ← this]
    rw [w64s (by omega)]
    simp [hk]
 obtain ⟨k, hk⟩ := this 0 (Nat.zero_le _)
 exact ⟨k, by unfold ref07_IsName.f; rw [show (0 : Int) = ((0 : Nat) : Int) from rfl, hk]; simp [isName, Bool.and_assoc]⟩
theorem ref07_IsName.ct {s0 : St} {v0 : Value} {x0 : Str} (k0 : kS.V s0 v0 x0) : Cl Try.prog 50 #[v0] s0 (Okf s0 (Fact.v kB (isName x0))) := by
 obtain ⟨k, h⟩ := ref07_IsName.nice x0 (Kn.V_bd k0)
 exact ref07_IsName.ok k0 h
def at_ (ds : List Dot) (w : Str) : Int := match ds.find? (fun d => decide (d.who = w)) with
 | some d => d.n
 | none => 0
theorem at_eq {d : Dot} {ds : List Dot} {w : Str} (h : d.who = w) : at_ (d :: ds) w = d.n := by simp [at_, h]
theorem at_ne {d : Dot} {ds : List Dot} {w : Str} (h : ¬ d.who = w) : at_ (d :: ds) w = at_ ds w := by simp [at_, h]
def vector_At.l0 : Nat → (List Dot) → Str → Int → Option (Int)
 | 0, _, _, _ => none
 | m8 + 1, x0, x1, y7 => (if decide (y7 < (x0.length : Int)) = true then (if (0 ≤ y7 ∧ y7 < (x0.length : Int)) then (if decide (((List.getD x0 (y7).toNat default).who) = x1) = true then (some ((List.getD x0 (y7).toNat default).n)) else (vector_At.l0 m8 x0 x1 (IntKind.wrap .i64 (y7 + 1)))) else none) else (some 0))
def vector_At.f (k : Nat) (x0 : (List Dot)) (x1 : Str) : Option (Int) := (vector_At.l0 k x0 x1 0)
theorem vector_At.ok {s0 : St} {v0 : Value} {x0 : (List Dot)} {v1 : Value} {x1 : Str} {k : Nat} {r : Int} (k0 : (kSl kDot).V s0 v0 x0) (k1 : kS.V s0 v1 x1) (h : vector_At.f k x0 x1 = some r) : Cl Try.prog 93 #[v0, v1] s0 (Okf s0 (Fact.v (kI .i64) r)) := by
 unfold vector_At.f at h
 refine cl_of_wp Try.func93 rfl en_93 fun a hz hd hp => ?_; have hz : a.tmps.size = 20 := hz; have E := Chg.refl (fun _ => False) s0; have h0 := V_at k0 E (hp 0 v0 rfl); have h1 := V_at k1 E (hp 1 v1 rfl); refine wp_sr ?_; refine sq_blk [⟨4, _, []⟩] [] hz rfl ⟨(fun a s he hf hz => av rfl rfl i0), trivial⟩ ?_; intro a1 s2 he hf hz hd1; have ⟨hd, E⟩ := hdE hd1 hd E he; obtain ⟨h0, h1⟩ := va2 he hf h0 h1 rfl; refine wp_seq ?_; refine wp_sr ?_; refine sq_blk [⟨7, _, []⟩, ⟨8, _, [0]⟩, ⟨9, _, []⟩] [0, 1, 2] hz rfl ⟨mvs rfl rfl h0 rfl, (fun a s he hf hz q0 => le_ rfl rfl u_32 q0), (fun a s he hf hz => mv rfl rfl i0), trivial⟩ ?_; intro a3 s4 he hf hz hd1 h7 h8 h9; have ⟨hd, E⟩ := hdE hd1 hd E he; have h1 := V_at h1 he (hf 1 rfl); refine wp_block ?_
 refine wp_loop (k := k) (fun m8 a s => ∃ (y7 : Int), vector_At.l0 m8 x0 x1 y7 = some r ∧ m8 ≤ k ∧ Ext s0 s ∧ a.tmps.size = 20 ∧ a.defers = [] ∧ kS.V s (a.get 1) x1 ∧ (kSl kDot).V s (a.get 7) x0 ∧ (kI .i64).V s (a.get 8) (x0.length : Int) ∧ (kI .i64).V s (a.get 9) y7) ⟨_, h, Nat.le_refl _, E, hz, hd, h1, h7, h8, h9⟩ ?_; rintro m8 a6 s5 ⟨y7, h, hkm8, E, hz, hd, h1, h7, h8, h9⟩; obtain _ | m8 := m8
 ·cases h
 refine wp_sr ?_; refine sq_blk [⟨10, _, []⟩] [0] hz rfl ⟨(fun a s he hf hz => ls rfl rfl (V_at h9 he (hf 9 rfl)) (V_at h8 he (hf 8 rfl))), trivial⟩ ?_; intro a9 s10 he hf hz hd1 h10; have ⟨hd, E⟩ := hdE hd1 hd E he; obtain ⟨h1, h7, h8, h9⟩ := va4 he hf h1 h7 h8 h9 rfl; refine wp_seq ?_; refine wp_condV h10 (fun hb => ?_) (fun hb => ?_)
 ·have h := ite_t hb h; refine wp_skip ?_; refine wp_seq ?_; refine wp_block ?_; refine wp_sr ?_; obtain ⟨D11, h⟩ := need h; refine sq_blk [⟨11, _, []⟩, ⟨12, _, [0]⟩] [1] hz rfl ⟨(fun a s he hf hz => ia rfl rfl sl_32 (V_at h7 he (hf 7 rfl)) (V_at h9 he (hf 9 rfl)) D11.1 D11.2), (fun a s he hf hz q0 => lp rfl rfl ty_70 (by decide) q0), trivial⟩ ?_; intro a12 s13 he hf hz hd1 h12; have ⟨hd, E⟩ := hdE hd1 hd E he; obtain ⟨h1, h7, h8, h9⟩ := va4 he hf h1 h7 h8 h9 rfl; refine sq_set hz rfl rfl rfl (op_alloc (cs := [.string ⟨#[]⟩, .int .i64 0]) rfl zv_70 rfl (fun s15 he BB16 => fun a14 h6 hf hz hd1 => ?_)); obtain ⟨b19, hb19⟩ : ∃ b, b = s13.w.heap.size := ⟨_, rfl⟩; rw [← hb19] at BB16 h6; have B19 := BB16; have l19 : s0.w.heap.size ≤ b19 := by have := E.size; omega
  have ⟨hd, E⟩ := hdE hd1 hd E he; obtain ⟨h1, h7, h8, h9, h12⟩ := va5 he hf h1 h7 h8 h9 h12 rfl; have c17 : kS.V s15 (.string ⟨#[]⟩) ([] : Str) := s_0; have c18 : (kI .i64).V s15 (.int .i64 0) 0 := i0; refine sq_do rfl rfl (op_storen rfl ty_70 rfl h6 B19 h12 rfl (fun s21 e22 he B19n r23 => ?_)); obtain ⟨h1, h7, h8, h9⟩ := vm4 he h1 h7 h8 h9; have E := Chg.chg E he (fun b e h => (fun e => absurd h (by cases e; exact Nat.not_lt.2 l19)) e); obtain ⟨u24, u25, rfl, c26, c27⟩ := kDot_open r23; have B19 : Bx s21 b19 70 [u24, u25] := B19n; refine wp_sr ?_; refine sq_blk [⟨13, _, []⟩, ⟨14, _, [0]⟩, ⟨15, _, []⟩, ⟨16, _, [1, 2]⟩] [3] hz rfl ⟨(fun a s he hf hz => fb rfl rfl fa_70_0 ((hf 6 rfl).trans h6)), (fun a s he hf hz q0 => lo rfl rfl ty_9 q0 (B19.ext he) rfl (vm he c26)), mvs rfl rfl h1 rfl, (fun a s he hf hz q1 q2 => opw rfl (op_seql rfl q1 q2)), trivial⟩ ?_; intro a28 s29 he hf hz hd1 h16; have ⟨hd, E⟩ := hdE hd1 hd E he; obtain ⟨h1, h7, h8, h9⟩ := va4 he hf h1 h7 h8 h9 rfl; have h6 := (hf 6 rfl).trans h6; have B19 := B19.ext he; have c27 := vm he c27
  refine wp_condV h16 (fun hb => ?_) (fun hb => ?_)
  ·have h := ite_t hb h; refine wp_sr ?_; refine sq_blk [⟨17, _, []⟩, ⟨18, _, [0]⟩, ⟨4, _, [1]⟩] [2] hz rfl ⟨(fun a s he hf hz => fb rfl rfl fa_70_1 ((hf 6 rfl).trans h6)), (fun a s he hf hz q0 => lo rfl rfl ty_2 q0 (B19.ext he) rfl (vm he c27)), avq rfl rfl, trivial⟩ ?_; intro a30 s31 he hf hz hd1 h4; have ⟨hd, E⟩ := hdE hd1 hd E he; refine wp_ret ?_; cases h
   exact ⟨hd, _, results_tmp rfl _ _ _, E, h4⟩
  ·have h := ite_f hb h; refine wp_skip ?_; refine wp_region ?_; refine sq_blk [⟨19, _, []⟩] [0] hz rfl ⟨(fun a s he hf hz => ad rfl rfl (V_at h9 he (hf 9 rfl)) i1), trivial⟩ ?_; intro a32 s33 he hf hz hd1 h19; have ⟨hd, E⟩ := hdE hd1 hd E he; obtain ⟨h1, h7, h8⟩ := va3 he hf h1 h7 h8 rfl; refine sq_blk [⟨9, _, []⟩] [0] hz rfl ⟨mvs rfl rfl h19 rfl, trivial⟩ ?_; intro a34 s35 he hf hz hd1 h9; have ⟨hd, E⟩ := hdE hd1 hd E he; obtain ⟨h1, h7, h8⟩ := va3 he hf h1 h7 h8 rfl; exact ⟨_, (by omega : m8 < m8 + 1), _, h, by omega, E, hz, hd, h1, h7, h8, h9⟩
 ·have h := ite_f hb h; refine wp_exit ?_; refine then_exit ?_; refine then_exit ?_; refine inBlock_hit ?_; refine wp_sr ?_; refine sq_blk [⟨4, _, []⟩] [0] hz rfl ⟨(fun a s he hf hz => av rfl rfl i0), trivial⟩ ?_; intro a36 s37 he hf hz hd1 h4; have ⟨hd, E⟩ := hdE hd1 hd E he; refine wp_ret ?_; cases h
  exact ⟨hd, _, results_tmp rfl _ _ _, E, h4⟩
theorem vector_At.nice (x0 : List Dot) (x1 : Str) (b0 : (kSl kDot).bd x0) (b1 : kS.bd x1) : ∃ k, vector_At.f k x0 x1 = some (at_ x0 x1) := by
 have hb : x0.length ≤ maxLen := b0.1
 have hm := maxLen_lt
 have : ∀ y, y ≤ x0.length → ∃ k, vector_At.l0 k x0 x1 (y : Int) = some (at_ (x0.drop y) x1) := by
  refine rounds x0.length ⟨1, ?_⟩ fun y hy ⟨k, hk⟩ => ?_
  ·simp only [vector_At.l0, List.drop_length]; simp [at_]
  ·push_cast at hk
   have hr : (0 : Int) ≤ y ∧ (y : Int) < x0.length := ⟨by omega, by omega⟩
   rw [drop_at default hy]
   by_cases e : (x0.getD y default).who = x1
   ·exact ⟨1, by rw [at_eq e]; simp only [vector_At.l0, Int.toNat_natCast, hr, and_self, if_true, e, decide_true]⟩
   ·refine ⟨k + 1, ?_⟩
    rw [at_ne e, ← hk]
    simp only [vector_At.l0, Int.toNat_natCast, hr, and_self, if_true, e, decide_true, decide_false, Bool.false_eq_true, if_false]
    rw [w64s (by omega)]
 obtain ⟨k, hk⟩ := this 0 (Nat.zero_le _)
 exact ⟨k, by unfold vector_At.f; rw [show (0 : Int) = ((0 : Nat) : Int) from rfl, hk]; simp⟩
theorem vector_At.ct {s0 : St} {v0 : Value} {x0 : (List Dot)} {v1 : Value} {x1 : Str} (k0 : (kSl kDot).V s0 v0 x0) (k1 : kS.V s0 v1 x1) : Cl Try.prog 93 #[v0, v1] s0 (Okf s0 (Fact.v (kI .i64) (at_ x0 x1))) := by
 obtain ⟨k, h⟩ := vector_At.nice x0 x1 (Kn.V_bd k0) (Kn.V_bd k1)
 exact vector_At.ok k0 k1 h
end
section
attribute [local irreducible] Kn.V PtrV
def blI (x : Int) : Int := (bl x.toNat : Int)
def math_bits_Len8.f (k : Nat) (x0 : Int) : Option (Int) := (if (0 ≤ x0 ∧ x0 < ((lit_256_0_8 : Str).length : Int)) then (some (IntKind.wrap .i64 ((List.getD (lit_256_0_8 : Str) (x0).toNat 0).toNat : Int))) else none)
theorem math_bits_Len8.ok {s0 : St} {v0 : Value} {x0 : Int} {k : Nat} {r : Int} (k0 : (kI .u8).V s0 v0 x0) (h : math_bits_Len8.f k x0 = some r) : Cl Try.prog 133 #[v0] s0 (Okf s0 (Fact.v (kI .i64) r)) := by
 unfold math_bits_Len8.f at h
 refine cl_of_wp Try.func133 rfl en_133 fun a hz hd hp => ?_; have hz : a.tmps.size = 6 := hz; have E := Chg.refl (fun _ => False) s0; have h0 := V_at k0 E (hp 0 v0 rfl); refine wp_sr ?_; refine sq_blk [⟨2, _, []⟩] [] hz rfl ⟨(fun a s he hf hz => av rfl rfl i0), trivial⟩ ?_; intro a1 s2 he hf hz hd1; have ⟨hd, E⟩ := hdE hd1 hd E he; have h0 := V_at h0 he (hf 0 rfl); refine wp_sr ?_; obtain ⟨D3, h⟩ := need h; refine sq_blk [⟨3, _, []⟩, ⟨4, _, [0]⟩, ⟨5, _, [1]⟩, ⟨2, _, [2]⟩] [3] hz rfl ⟨mvs rfl rfl h0 rfl, (fun a s he hf hz q0 => opw rfl (op_index_s rfl u_9 (lit_s (x := lit_256_0_8) (by decide)) q0 D3.1 D3.2)), (fun a s he hf hz q1 => cv rfl rfl u_5 u_3 q1), avq rfl rfl, trivial⟩ ?_; intro a4 s5 he hf hz hd1 h2; have ⟨hd, E⟩ := hdE hd1 hd E he; refine wp_ret ?_; cases h
 exact ⟨hd, _, results_tmp rfl _ _ _, E, h2⟩
theorem tbl8 : ∀ n, n < 256 → (List.getD lit_256_0_8 n 0).toNat = bl n := by decide
theorem math_bits_Len8.nice (x0 : Int) (b0 : (kI .u8).bd x0) : ∃ k, math_bits_Len8.f k x0 = some (blI x0) := by
 obtain ⟨h0, h1⟩ := inKu8 b0
 obtain ⟨n, rfl⟩ := Int.eq_ofNat_of_zero_le h0
 refine ⟨0, ?_⟩
 have hl : (lit_256_0_8.length : Int) = 256 := by decide
 unfold math_bits_Len8.f
 rw [hl, if_pos ⟨h0, h1⟩, Int.toNat_natCast, tbl8 n (by omega)]
 have h2 : bl n ≤ 8 := bl_le.2 (by omega)
 rw [w64 (by omega) (by omega)]
 rfl
theorem math_bits_Len8.ct {s0 : St} {v0 : Value} {x0 : Int} (k0 : (kI .u8).V s0 v0 x0) : Cl Try.prog 133 #[v0] s0 (Okf s0 (Fact.v (kI .i64) (blI x0))) := by
 obtain ⟨k, h⟩ := math_bits_Len8.nice x0 (Kn.V_bd k0)
 exact math_bits_Len8.ok k0 h
mutual
def math_bits_Len64.l1 : Nat → Int → Int → Option (Int)
 | 0, _, _ => none
 | m28 + 1, y26, y27 => (if decide (256 ≤ y26) = true then (if (0 ≤ (IntKind.wrap .u8 (sShr .u64 y26 8)) ∧ (IntKind.wrap .u8 (sShr .u64 y26 8)) < ((lit_256_0_8 : Str).length : Int)) then (some (IntKind.wrap .i64 ((IntKind.wrap .i64 (y27 + 8)) + (IntKind.wrap .i64 ((List.getD (lit_256_0_8 : Str) (IntKind.wrap .u8 (sShr .u64 y26 8)).toNat 0).toNat : Int))))) else none) else (if (0 ≤ (IntKind.wrap .u8 y26) ∧ (IntKind.wrap .u8 y26) < ((lit_256_0_8 : Str).length : Int)) then (some (IntKind.wrap .i64 (y27 + (IntKind.wrap .i64 ((List.getD (lit_256_0_8 : Str) (IntKind.wrap .u8 y26).toNat 0).toNat : Int))))) else none))
def math_bits_Len64.l0 : Nat → Int → Int → Option (Int)
 | 0, _, _ => none
 | m13 + 1, y11, y12 => (if decide (65536 ≤ y11) = true then (math_bits_Len64.l1 m13 (sShr .u64 y11 16) (IntKind.wrap .i64 (y12 + 16))) else (math_bits_Len64.l1 m13 y11 y12))
end
def math_bits_Len64.f (k : Nat) (x0 : Int) : Option (Int) := (if decide (4294967296 ≤ x0) = true then (math_bits_Len64.l0 k (sShr .u64 x0 32) 32) else (math_bits_Len64.l0 k x0 0))
theorem math_bits_Len64.ok {s0 : St} {v0 : Value} {x0 : Int} {k : Nat} {r : Int} (k0 : (kI .u64).V s0 v0 x0) (h : math_bits_Len64.f k x0 = some r) : Cl Try.prog 134 #[v0] s0 (Okf s0 (Fact.v (kI .i64) r)) := by
 unfold math_bits_Len64.f at h
 refine cl_of_wp Try.func134 rfl en_134 fun a hz hd hp => ?_; have hz : a.tmps.size = 25 := hz; have E := Chg.refl (fun _ => False) s0; have h0 := V_at k0 E (hp 0 v0 rfl); refine wp_sr ?_; refine sq_blk [⟨2, _, []⟩] [0] hz rfl ⟨(fun a s he hf hz => av rfl rfl i0), trivial⟩ ?_; intro a1 s2 he hf hz hd1 h2; have ⟨hd, E⟩ := hdE hd1 hd E he; have h0 := V_at h0 he (hf 0 rfl); refine wp_seq ?_; refine wp_sr ?_; refine sq_blk [⟨3, _, []⟩, ⟨4, _, [0]⟩] [1] hz rfl ⟨mvs rfl rfl h0 rfl, (fun a s he hf hz q0 => opw rfl (op_geq rfl q0 (lit_i (k := .u64) (n := 4294967296) (by decide)))), trivial⟩ ?_; intro a3 s4 he hf hz hd1 h4; have ⟨hd, E⟩ := hdE hd1 hd E he; obtain ⟨h0, h2⟩ := va2 he hf h0 h2 rfl; refine wp_condJ (I := fun a s => ∃ (m13 : Nat) (y11 : Int) (y12 : Int), math_bits_Len64.l0 m13 y11 y12 = some r ∧ m13 ≤ k ∧ Ext s0 s ∧ a.tmps.size = 25 ∧ a.defers = [] ∧ (kI .u64).V s (a.get 0) y11 ∧ (kI .i64).V s (a.get 2) y12) h4 (fun J hb => ?_) (fun J hb => ?_) ?_
 ·have h := ite_t hb h; refine wp_sr ?_; refine sq_blk [⟨5, _, []⟩, ⟨6, _, [0]⟩] [1] hz rfl ⟨mvs rfl rfl h0 rfl, (fun a s he hf hz q0 => opw rfl (op_shr rfl q0 (lit_i (k := .u64) (n := 32) (by decide)) (by decide))), trivial⟩ ?_; intro a5 s6 he hf hz hd1 h6; have ⟨hd, E⟩ := hdE hd1 hd E he; refine sq_blk [⟨0, _, []⟩] [0] hz rfl ⟨avs rfl rfl h6 rfl, trivial⟩ ?_; intro a7 s8 he hf hz hd1 h0; have ⟨hd, E⟩ := hdE hd1 hd E he; refine wp_region ?_; refine sq_blk [⟨2, _, []⟩] [0] hz rfl ⟨(fun a s he hf hz => av rfl rfl (lit_i (k := .i64) (n := 32) (by decide))), trivial⟩ ?_; intro a9 s10 he hf hz hd1 h2; have ⟨hd, E⟩ := hdE hd1 hd E he; have h0 := V_at h0 he (hf 0 rfl); exact J _ _ ⟨_, _, _, h, by omega, E, hz, hd, h0, h2⟩
 ·have h := ite_f hb h; refine wp_skip ?_; exact J _ _ ⟨_, _, _, h, by omega, E, hz, hd, h0, h2⟩
 rintro a14 s15 ⟨m13, y11, y12, h, hkm13, E, hz, hd, h0, h2⟩
 obtain _ | m13 := m13
 ·cases h
 refine wp_seq ?_; refine wp_sr ?_; refine sq_blk [⟨7, _, []⟩, ⟨8, _, [0]⟩] [1] hz rfl ⟨mvs rfl rfl h0 rfl, (fun a s he hf hz q0 => opw rfl (op_geq rfl q0 (lit_i (k := .u64) (n := 65536) (by decide)))), trivial⟩ ?_; intro a16 s17 he hf hz hd1 h8; have ⟨hd, E⟩ := hdE hd1 hd E he; obtain ⟨h0, h2⟩ := va2 he hf h0 h2 rfl; refine wp_condJ (I := fun a s => ∃ (m28 : Nat) (y26 : Int) (y27 : Int), math_bits_Len64.l1 m28 y26 y27 = some r ∧ m28 ≤ m13 ∧ Ext s0 s ∧ a.tmps.size = 25 ∧ a.defers = [] ∧ (kI .u64).V s (a.get 0) y26 ∧ (kI .i64).V s (a.get 2) y27) h8 (fun J hb => ?_) (fun J hb => ?_) ?_
 ·have h := ite_t hb h; refine wp_sr ?_; refine sq_blk [⟨9, _, []⟩, ⟨10, _, [0]⟩] [1] hz rfl ⟨mvs rfl rfl h0 rfl, (fun a s he hf hz q0 => opw rfl (op_shr rfl q0 (lit_i (k := .u64) (n := 16) (by decide)) (by decide))), trivial⟩ ?_; intro a18 s19 he hf hz hd1 h10; have ⟨hd, E⟩ := hdE hd1 hd E he; have h2 := V_at h2 he (hf 2 rfl); refine sq_blk [⟨0, _, []⟩] [0] hz rfl ⟨avs rfl rfl h10 rfl, trivial⟩ ?_; intro a20 s21 he hf hz hd1 h0; have ⟨hd, E⟩ := hdE hd1 hd E he; have h2 := V_at h2 he (hf 2 rfl); refine wp_region ?_; refine sq_blk [⟨11, _, []⟩, ⟨12, _, [0]⟩] [1] hz rfl ⟨mvs rfl rfl h2 rfl, (fun a s he hf hz q0 => ad rfl rfl q0 (lit_i (k := .i64) (n := 16) (by decide))), trivial⟩ ?_; intro a22 s23 he hf hz hd1 h12; have ⟨hd, E⟩ := hdE hd1 hd E he; have h0 := V_at h0 he (hf 0 rfl); refine sq_blk [⟨2, _, []⟩] [0] hz rfl ⟨avs rfl rfl h12 rfl, trivial⟩ ?_; intro a24 s25 he hf hz hd1 h2; have ⟨hd, E⟩ := hdE hd1 hd E he; have h0 := V_at h0 he (hf 0 rfl); exact J _ _ ⟨_, _, _, h, by omega, E, hz, hd, h0, h2⟩
 ·have h := ite_f hb h; refine wp_skip ?_; exact J _ _ ⟨_, _, _, h, by omega, E, hz, hd, h0, h2⟩
 rintro a29 s30 ⟨m28, y26, y27, h, hkm28, E, hz, hd, h0, h2⟩
 obtain _ | m28 := m28
 ·cases h
 refine wp_seq ?_; refine wp_sr ?_; refine sq_blk [⟨13, _, []⟩, ⟨14, _, [0]⟩] [1] hz rfl ⟨mvs rfl rfl h0 rfl, (fun a s he hf hz q0 => opw rfl (op_geq rfl q0 (lit_i (k := .u64) (n := 256) (by decide)))), trivial⟩ ?_; intro a31 s32 he hf hz hd1 h14; have ⟨hd, E⟩ := hdE hd1 hd E he; obtain ⟨h0, h2⟩ := va2 he hf h0 h2 rfl; refine wp_condV h14 (fun hb => ?_) (fun hb => ?_)
 ·have h := ite_t hb h; refine wp_sr ?_; refine sq_blk [⟨15, _, []⟩, ⟨16, _, [0]⟩] [1] hz rfl ⟨mvs rfl rfl h0 rfl, (fun a s he hf hz q0 => opw rfl (op_shr rfl q0 (lit_i (k := .u64) (n := 8) (by decide)) (by decide))), trivial⟩ ?_; intro a33 s34 he hf hz hd1 h16; have ⟨hd, E⟩ := hdE hd1 hd E he; have h2 := V_at h2 he (hf 2 rfl); refine sq_blk [⟨0, _, []⟩] [0] hz rfl ⟨avs rfl rfl h16 rfl, trivial⟩ ?_; intro a35 s36 he hf hz hd1 h0; have ⟨hd, E⟩ := hdE hd1 hd E he; have h2 := V_at h2 he (hf 2 rfl); refine wp_region ?_; refine sq_blk [⟨17, _, []⟩, ⟨18, _, [0]⟩] [1] hz rfl ⟨mvs rfl rfl h2 rfl, (fun a s he hf hz q0 => ad rfl rfl q0 (lit_i (k := .i64) (n := 8) (by decide))), trivial⟩ ?_; intro a37 s38 he hf hz hd1 h18; have ⟨hd, E⟩ := hdE hd1 hd E he; have h0 := V_at h0 he (hf 0 rfl); refine sq_blk [⟨2, _, []⟩] [0] hz rfl ⟨avs rfl rfl h18 rfl, trivial⟩ ?_; intro a39 s40 he hf hz hd1 h2; have ⟨hd, E⟩ := hdE hd1 hd E he; have h0 := V_at h0 he (hf 0 rfl); refine wp_sr ?_; obtain ⟨D41, h⟩ := need h
  refine sq_blk [⟨19, _, []⟩, ⟨20, _, []⟩, ⟨21, _, [1]⟩, ⟨22, _, [2]⟩, ⟨23, _, [3]⟩, ⟨24, _, [0, 4]⟩] [5] hz rfl ⟨mvs rfl rfl h2 rfl, mvs rfl rfl h0 rfl, (fun a s he hf hz q1 => cv rfl rfl u_89 u_5 q1), (fun a s he hf hz q2 => opw rfl (op_index_s rfl u_9 (lit_s (x := lit_256_0_8) (by decide)) q2 D41.1 D41.2)), (fun a s he hf hz q3 => cv rfl rfl u_5 u_3 q3), (fun a s he hf hz q0 q4 => ad rfl rfl q0 q4), trivial⟩ ?_; intro a42 s43 he hf hz hd1 h24; have ⟨hd, E⟩ := hdE hd1 hd E he; refine sq_blk [⟨2, _, []⟩] [0] hz rfl ⟨avs rfl rfl h24 rfl, trivial⟩ ?_; intro a44 s45 he hf hz hd1 h2; have ⟨hd, E⟩ := hdE hd1 hd E he; refine wp_ret ?_; cases h
  exact ⟨hd, _, results_tmp rfl _ _ _, E, h2⟩
 ·have h := ite_f hb h; refine wp_skip ?_; refine wp_sr ?_; obtain ⟨D46, h⟩ := need h; refine sq_blk [⟨19, _, []⟩, ⟨20, _, []⟩, ⟨21, _, [1]⟩, ⟨22, _, [2]⟩, ⟨23, _, [3]⟩, ⟨24, _, [0, 4]⟩] [5] hz rfl ⟨mvs rfl rfl h2 rfl, mvs rfl rfl h0 rfl, (fun a s he hf hz q1 => cv rfl rfl u_89 u_5 q1), (fun a s he hf hz q2 => opw rfl (op_index_s rfl u_9 (lit_s (x := lit_256_0_8) (by decide)) q2 D46.1 D46.2)), (fun a s he hf hz q3 => cv rfl rfl u_5 u_3 q3), (fun a s he hf hz q0 q4 => ad rfl rfl q0 q4), trivial⟩ ?_; intro a47 s48 he hf hz hd1 h24; have ⟨hd, E⟩ := hdE hd1 hd E he; refine sq_blk [⟨2, _, []⟩] [0] hz rfl ⟨avs rfl rfl h24 rfl, trivial⟩ ?_; intro a49 s50 he hf hz hd1 h2; have ⟨hd, E⟩ := hdE hd1 hd E he; refine wp_ret ?_; cases h
  exact ⟨hd, _, results_tmp rfl _ _ _, E, h2⟩
theorem s64 {m : Nat} (j : Nat) (h : m < 18446744073709551616) : sShr .u64 (m : Int) ((j : Nat) : Int) = ((m / 2 ^ j : Nat) : Int) := sShr_nat m j h
theorem math_bits_Len64.e1 {m c : Nat} (hm : m < 65536) (hc : c ≤ 48) : math_bits_Len64.l1 1 (m : Int) (c : Int) = some ((c + bl m : Nat) : Int) := by
 have hl : (lit_256_0_8.length : Int) = 256 := by decide
 have s8 : sShr .u64 (m : Int) 8 = ((m / 256 : Nat) : Int) := s64 8 (by omega)
 simp only [math_bits_Len64.l1, hl, s8, wrap_u8]
 by_cases h : 256 ≤ m
 ·have h' : (256 : Int) ≤ m := by omega
  have hb : bl m = 8 + bl (m / 256) := bl_div (j := 8) h
  have h2 : bl (m / 256) ≤ 8 := bl_le.2 (by omega)
  simp only [h', decide_true, if_true]
  rw [Nat.mod_eq_of_lt (by omega), if_pos ⟨by omega, by omega⟩, Int.toNat_natCast, tbl8 _ (by omega), w64 (n := (c : Int) + 8) (by omega) (by omega)]
  rw [w64 (n := ((bl (m / 256) : Nat) : Int)) (by omega) (by omega), w64 (by omega) (by omega)]
  congr 1; omega
 ·have h' : ¬ (256 : Int) ≤ m := by omega
  have h2 : bl m ≤ 8 := bl_le.2 (by omega)
  simp only [h', decide_false, Bool.false_eq_true, if_false]
  rw [Nat.mod_eq_of_lt (by omega), if_pos ⟨by omega, by omega⟩, Int.toNat_natCast, tbl8 _ (by omega)]
  rw [w64 (n := ((bl m : Nat) : Int)) (by omega) (by omega), w64 (by omega) (by omega)]
  congr 1
theorem math_bits_Len64.e0 {m c : Nat} (hm : m < 4294967296) (hc : c ≤ 32) : math_bits_Len64.l0 2 (m : Int) (c : Int) = some ((c + bl m : Nat) : Int) := by
 have s16 : sShr .u64 (m : Int) 16 = ((m / 65536 : Nat) : Int) := s64 16 (by omega)
 simp only [math_bits_Len64.l0, s16]
 rw [w64 (n := (c : Int) + 16) (by omega) (by omega)]
 by_cases h : 65536 ≤ m
 ·have h' : (65536 : Int) ≤ m := by omega
  have hb : bl m = 16 + bl (m / 65536) := bl_div (j := 16) h
  simp only [h', decide_true, if_true]
  have := math_bits_Len64.e1 (m := m / 65536) (c := c + 16) (by omega) (by omega)
  rw [show ((c : Int) + 16) = ((c + 16 : Nat) : Int) from by omega, this]
  congr 1; omega
 ·have h' : ¬ (65536 : Int) ≤ m := by omega
  simp only [h', decide_false, Bool.false_eq_true, if_false]
  exact math_bits_Len64.e1 (by omega) (by omega)
theorem math_bits_Len64.nice (x0 : Int) (b0 : (kI .u64).bd x0) : ∃ k, math_bits_Len64.f k x0 = some (blI x0) := by
 obtain ⟨h0, h1⟩ := inKu64 b0
 obtain ⟨n, rfl⟩ := Int.eq_ofNat_of_zero_le h0
 refine ⟨2, ?_⟩
 have s32 : sShr .u64 (n : Int) 32 = ((n / 4294967296 : Nat) : Int) := s64 32 (by omega)
 unfold math_bits_Len64.f blI
 rw [s32, Int.toNat_natCast]
 by_cases h : 4294967296 ≤ n
 ·have h' : (4294967296 : Int) ≤ n := by omega
  have hb : bl n = 32 + bl (n / 4294967296) := bl_div (j := 32) h
  simp only [h', decide_true, if_true]
  rw [hb]
  exact math_bits_Len64.e0 (m := n / 4294967296) (c := 32) (by omega) (by omega)
 ·have h' : ¬ (4294967296 : Int) ≤ n := by omega
  simp only [h', decide_false, Bool.false_eq_true, if_false]
  have := math_bits_Len64.e0 (m := n) (c := 0) (by omega) (by omega)
  rw [Nat.zero_add] at this
  exact this
theorem math_bits_Len64.ct {s0 : St} {v0 : Value} {x0 : Int} (k0 : (kI .u64).V s0 v0 x0) : Cl Try.prog 134 #[v0] s0 (Okf s0 (Fact.v (kI .i64) (blI x0))) := by
 obtain ⟨k, h⟩ := math_bits_Len64.nice x0 (Kn.V_bd k0)
 exact math_bits_Len64.ok k0 h
def math_bits_LeadingZeros8 (x0 : Int) : Int := (IntKind.wrap .i64 (8 - (blI x0)))
theorem math_bits_LeadingZeros8.ok {s0 : St} {v0 : Value} {x0 : Int} (k0 : (kI .u8).V s0 v0 x0) : Cl Try.prog 105 #[v0] s0 (Okf s0 (Fact.v (kI .i64) (math_bits_LeadingZeros8 x0))) := by
 obtain ⟨r, h⟩ : ∃ r, some (math_bits_LeadingZeros8 x0) = some r := ⟨_, rfl⟩
 rw [Option.some.inj h]
 have h : (some (IntKind.wrap .i64 (8 - (blI x0)))) = some r := by rw [← h]; unfold math_bits_LeadingZeros8; first | rfl | simp only [apply_ite some] | (repeat' (first | rfl | split))
 refine cl_of_wp Try.func105 rfl en_105 fun a hz hd hp => ?_; have hz : a.tmps.size = 6 := hz; have E := Chg.refl (fun _ => False) s0; have h0 := V_at k0 E (hp 0 v0 rfl); refine wp_sr ?_; refine sq_blk [⟨2, _, []⟩] [] hz rfl ⟨(fun a s he hf hz => av rfl rfl i0), trivial⟩ ?_; intro a1 s2 he hf hz hd1; have ⟨hd, E⟩ := hdE hd1 hd E he; have h0 := V_at h0 he (hf 0 rfl); refine wp_sr ?_; refine sq_blk [⟨3, _, []⟩, ⟨4, _, [0]⟩, ⟨5, _, [1]⟩, ⟨2, _, [2]⟩] [3] hz rfl ⟨mvs rfl rfl h0 rfl, (fun a s he hf hz q0 => opw rfl (op_call rfl rfl (math_bits_Len8.ct q0))), (fun a s he hf hz q1 => opw rfl (op_sub rfl (lit_i (k := .i64) (n := 8) (by decide)) q1)), avq rfl rfl, trivial⟩ ?_; intro a3 s4 he hf hz hd1 h2; have ⟨hd, E⟩ := hdE hd1 hd E he; refine wp_ret ?_; cases h
 exact ⟨hd, _, results_tmp rfl _ _ _, E, h2⟩
def wire_extra (x0 : Int) : Int := (mn 8 (IntKind.wrap .i64 (Int.tdiv (mx 0 (IntKind.wrap .i64 ((blI x0) - 1))) 7)))
theorem wire_extra.ok {s0 : St} {v0 : Value} {x0 : Int} (k0 : (kI .u64).V s0 v0 x0) : Cl Try.prog 106 #[v0] s0 (Okf s0 (Fact.v (kI .i64) (wire_extra x0))) := by
 obtain ⟨r, h⟩ : ∃ r, some (wire_extra x0) = some r := ⟨_, rfl⟩
 rw [Option.some.inj h]
 have h : (some (mn 8 (IntKind.wrap .i64 (Int.tdiv (mx 0 (IntKind.wrap .i64 ((blI x0) - 1))) 7)))) = some r := by rw [← h]; unfold wire_extra; first | rfl | simp only [apply_ite some] | (repeat' (first | rfl | split))
 refine cl_of_wp Try.func106 rfl en_106 fun a hz hd hp => ?_; have hz : a.tmps.size = 9 := hz; have E := Chg.refl (fun _ => False) s0; have h0 := V_at k0 E (hp 0 v0 rfl); refine wp_sr ?_; refine sq_blk [⟨2, _, []⟩] [] hz rfl ⟨(fun a s he hf hz => av rfl rfl i0), trivial⟩ ?_; intro a1 s2 he hf hz hd1; have ⟨hd, E⟩ := hdE hd1 hd E he; have h0 := V_at h0 he (hf 0 rfl); refine wp_sr ?_; refine sq_blk [⟨3, _, []⟩, ⟨4, _, [0]⟩, ⟨5, _, [1]⟩, ⟨6, _, [2]⟩, ⟨7, _, [3]⟩, ⟨8, _, [4]⟩, ⟨2, _, [5]⟩] [6] hz rfl ⟨mvs rfl rfl h0 rfl, (fun a s he hf hz q0 => opw rfl (op_call rfl rfl (math_bits_Len64.ct q0))), (fun a s he hf hz q1 => opw rfl (op_sub rfl q1 i1)), (fun a s he hf hz q2 => opw rfl (op_max rfl i0 q2)), (fun a s he hf hz q3 => opw rfl (op_quo rfl q3 (lit_i (k := .i64) (n := 7) (by decide)) (by decide))), (fun a s he hf hz q4 => opw rfl (op_min rfl (lit_i (k := .i64) (n := 8) (by decide)) q4)), avq rfl rfl, trivial⟩ ?_; intro a3 s4 he hf hz hd1 h2; have ⟨hd, E⟩ := hdE hd1 hd E he
 refine wp_ret ?_; cases h
 exact ⟨hd, _, results_tmp rfl _ _ _, E, h2⟩
def ref02_follow.l0 : Nat → Int → Int → Option (Int)
 | 0, _, _ => none
 | m8 + 1, x0, y7 => (if ((decide (y7 < 8)) = true → 0 ≤ (IntKind.wrap .i64 (7 + (IntKind.wrap .i64 (7 * y7))))) then (if ((decide (y7 < 8)) && (decide (0 < (sShr .u64 x0 (IntKind.wrap .i64 (7 + (IntKind.wrap .i64 (7 * y7)))))))) = true then (ref02_follow.l0 m8 x0 (IntKind.wrap .i64 (y7 + 1))) else (some y7)) else none)
def ref02_follow.f (k : Nat) (x0 : Int) : Option (Int) := (ref02_follow.l0 k x0 0)
theorem ref02_follow.ok {s0 : St} {v0 : Value} {x0 : Int} {k : Nat} {r : Int} (k0 : (kI .u64).V s0 v0 x0) (h : ref02_follow.f k x0 = some r) : Cl Try.prog 115 #[v0] s0 (Okf s0 (Fact.v (kI .i64) r)) := by
 unfold ref02_follow.f at h
 refine cl_of_wp Try.func115 rfl en_115 fun a hz hd hp => ?_; have hz : a.tmps.size = 17 := hz; have E := Chg.refl (fun _ => False) s0; have h0 := V_at k0 E (hp 0 v0 rfl); refine wp_sr ?_; refine sq_blk [⟨2, _, []⟩] [] hz rfl ⟨(fun a s he hf hz => av rfl rfl i0), trivial⟩ ?_; intro a1 s2 he hf hz hd1; have ⟨hd, E⟩ := hdE hd1 hd E he; have h0 := V_at h0 he (hf 0 rfl); refine wp_sr ?_; refine sq_blk [⟨3, _, []⟩] [0] hz rfl ⟨(fun a s he hf hz => av rfl rfl i0), trivial⟩ ?_; intro a3 s4 he hf hz hd1 h3; have ⟨hd, E⟩ := hdE hd1 hd E he; have h0 := V_at h0 he (hf 0 rfl); refine wp_seq ?_; refine wp_block ?_; refine wp_loop (k := k) (fun m8 a s => ∃ (y7 : Int), ref02_follow.l0 m8 x0 y7 = some r ∧ m8 ≤ k ∧ Ext s0 s ∧ a.tmps.size = 17 ∧ a.defers = [] ∧ (kI .u64).V s (a.get 0) x0 ∧ (kI .i64).V s (a.get 3) y7) ⟨_, h, Nat.le_refl _, E, hz, hd, h0, h3⟩ ?_; rintro m8 a6 s5 ⟨y7, h, hkm8, E, hz, hd, h0, h3⟩; obtain _ | m8 := m8
 ·cases h
 refine wp_seq ?_; refine wp_sr ?_; obtain ⟨D9, h⟩ := need h; have hz0 := hz; refine sq_blk [⟨4, _, []⟩, ⟨5, _, [0]⟩, ⟨6, _, [1]⟩, ⟨7, _, [2]⟩, ⟨8, _, [2]⟩, ⟨9, _, [2, 4]⟩, ⟨10, _, [2, 5]⟩, ⟨11, _, [2, 3, 6]⟩, ⟨12, _, [2, 7]⟩, ⟨13, _, [2, 8]⟩] [9] hz rfl ⟨mvs rfl rfl h3 rfl, (fun a s he hf hz q0 => ls rfl rfl q0 (lit_i (k := .i64) (n := 8) (by decide))), mvq rfl rfl, (fun a s he hf hz q2 => og rfl rfl rfl hz hz0 rfl q2 (fun g => op_move_v rfl (V_at h0 he (hf 0 rfl)))), (fun a s he hf hz q2 => og rfl rfl rfl hz hz0 rfl q2 (fun g => op_move_v rfl (V_at h3 he (hf 3 rfl)))), (fun a s he hf hz q2 q4 => og rfl rfl rfl hz hz0 rfl q2 (fun g => op_mul rfl (lit_i (k := .i64) (n := 7) (by decide)) (q4.1 g))), (fun a s he hf hz q2 q5 => og rfl rfl rfl hz hz0 rfl q2 (fun g => op_add rfl (lit_i (k := .i64) (n := 7) (by decide)) (q5.1 g))), (fun a s he hf hz q2 q3 q6 => og rfl rfl rfl hz hz0 rfl q2 (fun g => op_shr rfl (q3.1 g) (q6.1 g) (D9 g))), (fun a s he hf hz q2 q7 => og rfl rfl rfl hz hz0 rfl q2 (fun g => op_gtr rfl (q7.1 g) (lit_i (k := .u64) (n := 0) (by decide)))), (fun a s he hf hz q2 q8 => an rfl rfl q2 (q8.1)), trivial⟩ ?_; intro a10 s11 he hf hz hd1 h13
 have ⟨hd, E⟩ := hdE hd1 hd E he; obtain ⟨h0, h3⟩ := va2 he hf h0 h3 rfl; refine wp_condV h13 (fun hb => ?_) (fun hb => ?_)
 ·have h := ite_t hb h; refine wp_skip ?_; refine wp_block ?_; refine wp_region ?_; refine sq_blk [⟨14, _, []⟩, ⟨15, _, [0]⟩] [1] hz rfl ⟨mvs rfl rfl h3 rfl, (fun a s he hf hz q0 => ad rfl rfl q0 i1), trivial⟩ ?_; intro a12 s13 he hf hz hd1 h15; have ⟨hd, E⟩ := hdE hd1 hd E he; have h0 := V_at h0 he (hf 0 rfl); refine sq_blk [⟨3, _, []⟩] [0] hz rfl ⟨avs rfl rfl h15 rfl, trivial⟩ ?_; intro a14 s15 he hf hz hd1 h3; have ⟨hd, E⟩ := hdE hd1 hd E he; have h0 := V_at h0 he (hf 0 rfl); exact ⟨_, (by omega : m8 < m8 + 1), _, h, by omega, E, hz, hd, h0, h3⟩
 ·have h := ite_f hb h; refine wp_exit ?_; refine then_exit ?_; refine then_exit ?_; refine inBlock_hit ?_; refine wp_sr ?_; refine sq_blk [⟨16, _, []⟩, ⟨2, _, [0]⟩] [1] hz rfl ⟨mvs rfl rfl h3 rfl, avq rfl rfl, trivial⟩ ?_; intro a16 s17 he hf hz hd1 h2; have ⟨hd, E⟩ := hdE hd1 hd E he; refine wp_ret ?_; cases h
  exact ⟨hd, _, results_tmp rfl _ _ _, E, h2⟩
def ext (n : Nat) : Nat := min 8 ((bl n - 1) / 7)
theorem ext_le8 (n : Nat) : ext n ≤ 8 := Nat.min_le_left _ _
theorem ext_le {n j : Nat} (h : j < 8) : ext n ≤ j ↔ n < 2 ^ (7 + 7 * j) := by
 rw [← bl_le]; unfold ext; omega
theorem wire_extra_eq {x : Int} (h0 : 0 ≤ x) (h1 : x < 18446744073709551616) : wire_extra x = ((ext x.toNat : Nat) : Int) := by
 obtain ⟨n, rfl⟩ := Int.eq_ofNat_of_zero_le h0
 unfold wire_extra blI ext mn mx
 rw [Int.toNat_natCast]
 have : bl n ≤ 64 := bl_le.2 (by omega)
 rw [w64 (n := (bl n : Int) - 1) (by omega) (by omega)]
 have e : (if (bl n : Int) - 1 > 0 then (bl n : Int) - 1 else 0) = ((bl n - 1 : Nat) : Int) := by split <;> omega
 rw [e]
 have e2 : Int.tdiv ((bl n - 1 : Nat) : Int) 7 = (((bl n - 1) / 7 : Nat) : Int) := rfl
 rw [e2, w64 (by omega) (by omega)]
 split <;> omega
theorem ref02_follow.nice (x0 : Int) (b0 : (kI .u64).bd x0) : ∃ k, ref02_follow.f k x0 = some (wire_extra x0) := by
 obtain ⟨h0, h1⟩ := inKu64 b0
 rw [wire_extra_eq h0 h1]
 obtain ⟨n, rfl⟩ := Int.eq_ofNat_of_zero_le h0
 rw [Int.toNat_natCast]
 have hn : n < 18446744073709551616 := by omega
 have he := ext_le8 n
 have step : ∀ y : Nat, y ≤ 8 → IntKind.wrap .i64 (7 + IntKind.wrap .i64 (7 * (y : Int))) = ((7 + 7 * y : Nat) : Int) := fun y hy => by
  rw [w64 (n := 7 * (y : Int)) (by omega) (by omega), w64 (by omega) (by omega)]; omega
 have : ∀ y, y ≤ ext n → ∃ k, ref02_follow.l0 k (n : Int) (y : Int) = some ((ext n : Nat) : Int) := by
  refine rounds (ext n) ⟨1, ?_⟩ fun y hy ⟨k, hk⟩ => ⟨k + 1, ?_⟩
  ·simp only [ref02_follow.l0, step _ he, s64 _ hn]
   rw [if_pos (by intro _; omega), if_neg]
   intro h
   simp only [Bool.and_eq_true, decide_eq_true_eq] at h
   have h8 : ext n < 8 := by omega
   have := (ext_le h8).1 (Nat.le_refl _)
   have hz : n / 2 ^ (7 + 7 * ext n) = 0 := Nat.div_eq_of_lt this
   rw [hz] at h; omega
  ·push_cast at hk
   simp only [ref02_follow.l0, step y (by omega), s64 _ hn]
   rw [if_pos (by intro _; omega), if_pos, w64 (by omega) (by omega), hk]
   have h8 : y < 8 := by omega
   have : ¬ n < 2 ^ (7 + 7 * y) := fun h => by have := (ext_le h8).2 h; omega
   have hp : 0 < 2 ^ (7 + 7 * y) := Nat.pow_pos (by omega)
   have hd : 0 < n / 2 ^ (7 + 7 * y) := Nat.div_pos (by omega) hp
   simp only [Bool.and_eq_true, decide_eq_true_eq]
   omega
 obtain ⟨k, hk⟩ := this 0 (Nat.zero_le _)
 exact ⟨k, by unfold ref02_follow.f; exact hk⟩
theorem ref02_follow.ct {s0 : St} {v0 : Value} {x0 : Int} (k0 : (kI .u64).V s0 v0 x0) : Cl Try.prog 115 #[v0] s0 (Okf s0 (Fact.v (kI .i64) (wire_extra x0))) := by
 obtain ⟨k, h⟩ := ref02_follow.nice x0 (Kn.V_bd k0)
 exact ref02_follow.ok k0 h
end
section
attribute [local irreducible] Kn.V PtrV
theorem clone_byte.ct {s0 : St} {v0 : Value} {x0 : List UInt8} (k0 : (kSl kY).V s0 v0 x0) (hl : x0.length * 1 ≤ 140737488355328) : Cl Try.prog 111 #[v0] s0 (Okf s0 (Fact.own (kSl kY) 5 1 (fun g => s0.w.heap.size ≤ g) x0)) := by
 obtain ⟨A, c, e, hc1, hc2, hr⟩ := V_one rfl k0
 have e : v0 = .slice A x0.length c := List.cons.inj e |>.1
 refine cl_of_wp Try.func111 rfl en_111 fun a hz hd hp => ?_
 have hz : a.tmps.size = 8 := hz
 have h0 : a.get 0 = .slice A x0.length c := (hp 0 v0 rfl).trans e
 rw [e] at k0
 refine wp_seq (wp_region ?_)
 have hz0 := hz
 refine sq_blk [⟨2, _, []⟩] [] hz rfl ⟨(fun a s he hf hz => opw rfl (op_assign_v rfl (lit_nil (d := kY)))), trivial⟩ ?_
 intro a1 s1 he1 hf hz hd1
 have h0 := (hf 0 rfl).trans h0
 have hd := hd1.trans hd
 refine wp_seq (wp_seq (wp_region ?_))
 have hz0 := hz
 refine sq_blk [⟨3, _, []⟩, ⟨4, _, [0]⟩] [1] hz rfl ⟨(fun a s he hf hz => opw rfl (op_move_e rfl ((hf 0 rfl).trans h0))), (fun a s he hf hz q0 => opw rfl (op_nil_e (.inl rfl) rfl u_53 q0)), trivial⟩ ?_
 intro a2 s2 he2 hf hz hd1 h4
 have h0 := (hf 0 rfl).trans h0
 have hd := hd1.trans hd
 have E := he1.trans he2
 refine wp_condV h4 (fun hb => ?_) (fun hb => ?_)
 ·have hx : x0 = [] := by
   cases x0 with
   | nil => rfl
   | cons y l => obtain ⟨p, rfl, _⟩ := hr (by simp); cases hb
  subst hx
  refine wp_seq (wp_region ?_)
  have hz0 := hz
  refine sq_blk [⟨2, _, []⟩] [0] hz rfl ⟨(fun a s he hf hz => opw rfl (op_assign rfl (f := Fact.own (kSl kY) 5 1 (fun g => s0.w.heap.size ≤ g) []) own_nil)), trivial⟩ ?_
  intro a3 s3 he3 hf hz hd1 h2
  exact wp_ret ⟨hd1.trans hd, _, results_tmp rfl _ _ _, E.trans he3, h2⟩
 ·refine wp_skip ?_
  refine wp_seq (wp_region ?_)
  have hz0 := hz
  refine sq_blk [⟨5, _, []⟩, ⟨6, _, []⟩] [0, 1] hz rfl ⟨(fun a s he hf hz => opw rfl (op_lit_o (d := kY) (Q := fun g => s0.w.heap.size ≤ g) rfl lt_53 (zc := []) (by kernel_rfl) (ps := []) trivial rfl (by decide) (ys := ([] : List UInt8)) rfl (by decide) rfl lit_rows0)), (fun a s he hf hz => opw rfl (op_move_v rfl (V_at k0 (E.trans he) ((hf 0 rfl).trans h0)))), trivial⟩ ?_
  intro a3 s3 he3 hf hz hd1 h5 h6
  have hd := hd1.trans hd
  refine sq_set hz rfl rfl rfl (op_append2 rfl el_53 h5.1 h5.2.1 h6 (by simpa using hl) rfl (fun v s4 he4 hv hp hq => fun a4 hd' hf hz hd1 => ?_))
  have hd := hd1.trans hd
  have E3 := E.trans he3
  have E := E3.chg he4 (fun b e h => absurd h (Nat.not_lt.2 (h5.2.2 b e)))
  have own : (Fact.own (kSl kY) 5 1 (fun g => s0.w.heap.size ≤ g) x0).φ s4 (a4.get 7) := by
   rw [hd']
   refine ⟨hv, hp, fun g hg => ?_⟩
   rcases hq g hg with h | h
   ·exact h5.2.2 g h
   ·exact Nat.le_trans E3.size h
  refine sq_blk [⟨2, _, []⟩] [0] hz rfl ⟨(fun a s he hf hz => opw rfl (op_assign rfl (f := Fact.own (kSl kY) 5 1 (fun g => s0.w.heap.size ≤ g) x0) (own_at own.1 own.2.1 own.2.2 he (hf 7 rfl)))), trivial⟩ ?_
  intro a5 s5 he5 hf hz hd1 h2
  exact wp_ret ⟨hd1.trans hd, _, results_tmp rfl _ _ _, E.trans he5, h2⟩
theorem clone_dot.ct {s0 : St} {v0 : Value} {x0 : List Dot} (k0 : (kSl kDot).V s0 v0 x0) (hl : x0.length * 24 ≤ 140737488355328) : Cl Try.prog 131 #[v0] s0 (Okf s0 (Fact.own (kSl kDot) 70 2 (fun g => s0.w.heap.size ≤ g) x0)) := by
 obtain ⟨A, c, e, hc1, hc2, hr⟩ := V_one rfl k0
 have e : v0 = .slice A x0.length c := List.cons.inj e |>.1
 refine cl_of_wp Try.func131 rfl en_131 fun a hz hd hp => ?_
 have hz : a.tmps.size = 8 := hz
 have h0 : a.get 0 = .slice A x0.length c := (hp 0 v0 rfl).trans e
 rw [e] at k0
 refine wp_seq (wp_region ?_)
 have hz0 := hz
 refine sq_blk [⟨2, _, []⟩] [] hz rfl ⟨(fun a s he hf hz => opw rfl (op_assign_v rfl (lit_nil (d := kDot)))), trivial⟩ ?_
 intro a1 s1 he1 hf hz hd1
 have h0 := (hf 0 rfl).trans h0
 have hd := hd1.trans hd
 refine wp_seq (wp_seq (wp_region ?_))
 have hz0 := hz
 refine sq_blk [⟨3, _, []⟩, ⟨4, _, [0]⟩] [1] hz rfl ⟨(fun a s he hf hz => opw rfl (op_move_e rfl ((hf 0 rfl).trans h0))), (fun a s he hf hz q0 => opw rfl (op_nil_e (.inl rfl) rfl u_32 q0)), trivial⟩ ?_
 intro a2 s2 he2 hf hz hd1 h4
 have h0 := (hf 0 rfl).trans h0
 have hd := hd1.trans hd
 have E := he1.trans he2
 refine wp_condV h4 (fun hb => ?_) (fun hb => ?_)
 ·have hx : x0 = [] := by
   cases x0 with
   | nil => rfl
   | cons y l => obtain ⟨p, rfl, _⟩ := hr (by simp); cases hb
  subst hx
  refine wp_seq (wp_region ?_)
  have hz0 := hz
  refine sq_blk [⟨2, _, []⟩] [0] hz rfl ⟨(fun a s he hf hz => opw rfl (op_assign rfl (f := Fact.own (kSl kDot) 70 2 (fun g => s0.w.heap.size ≤ g) []) own_nil)), trivial⟩ ?_
  intro a3 s3 he3 hf hz hd1 h2
  exact wp_ret ⟨hd1.trans hd, _, results_tmp rfl _ _ _, E.trans he3, h2⟩
 ·refine wp_skip ?_
  refine wp_seq (wp_region ?_)
  have hz0 := hz
  refine sq_blk [⟨5, _, []⟩, ⟨6, _, []⟩] [0, 1] hz rfl ⟨(fun a s he hf hz => opw rfl (op_lit_o (d := kDot) (Q := fun g => s0.w.heap.size ≤ g) rfl lt_32 (zc := []) (by kernel_rfl) (ps := []) trivial rfl (by decide) (ys := ([] : List Dot)) rfl (by decide) rfl lit_rows0)), (fun a s he hf hz => opw rfl (op_move_v rfl (V_at k0 (E.trans he) ((hf 0 rfl).trans h0)))), trivial⟩ ?_
  intro a3 s3 he3 hf hz hd1 h5 h6
  have hd := hd1.trans hd
  refine sq_set hz rfl rfl rfl (op_append2 rfl el_32 h5.1 h5.2.1 h6 (by simpa using hl) rfl (fun v s4 he4 hv hp hq => fun a4 hd' hf hz hd1 => ?_))
  have hd := hd1.trans hd
  have E3 := E.trans he3
  have E := E3.chg he4 (fun b e h => absurd h (Nat.not_lt.2 (h5.2.2 b e)))
  have own : (Fact.own (kSl kDot) 70 2 (fun g => s0.w.heap.size ≤ g) x0).φ s4 (a4.get 7) := by
   rw [hd']
   refine ⟨hv, hp, fun g hg => ?_⟩
   rcases hq g hg with h | h
   ·exact h5.2.2 g h
   ·exact Nat.le_trans E3.size h
  refine sq_blk [⟨2, _, []⟩] [0] hz rfl ⟨(fun a s he hf hz => opw rfl (op_assign rfl (f := Fact.own (kSl kDot) 70 2 (fun g => s0.w.heap.size ≤ g) x0) (own_at own.1 own.2.1 own.2.2 he (hf 7 rfl)))), trivial⟩ ?_
  intro a5 s5 he5 hf hz hd1 h2
  exact wp_ret ⟨hd1.trans hd, _, results_tmp rfl _ _ _, E.trans he5, h2⟩
def tailB (n : Nat) : Nat → Str
 | 0 => []
 | j + 1 => UInt8.ofNat (n / 2 ^ (8 * j)) :: tailB n j
def oneN (k : Nat) : Nat := 256 - 2 ^ (8 - k)
def firstN (n : Nat) : Nat := if ext n < 8 then oneN (ext n) ||| (n / 2 ^ (8 * ext n) % 256) else 255
def numB (n : Nat) : Str := UInt8.ofNat (firstN n) :: tailB n (ext n)
def number (b : Str) (n : Int) : Str := b ++ numB n.toNat
theorem tailB_len (n j : Nat) : (tailB n j).length = j := by induction j with | zero => rfl | succ j ih => simp [tailB, ih]
theorem numB_len (n : Nat) : (numB n).length = ext n + 1 := by simp [numB, tailB_len]
theorem u8_of (m : Nat) : UInt8.ofNat (IntKind.wrap .u8 (m : Int)).toNat = UInt8.ofNat m := by
 rw [wrap_u8, Int.toNat_natCast]
 apply UInt8.toNat_inj.1
 simp
theorem one_shl : ∀ k, k ≤ 8 → 255 * 2 ^ (8 - k) % 256 = oneN k := by decide
theorem one_or : ∀ k, k < 8 → oneN k ||| (128 / 2 ^ k) = oneN (k + 1) := by decide
theorem one_lt (k : Nat) : oneN k < 256 := by have : 0 < 2 ^ (8 - k) := Nat.pow_pos (by omega); unfold oneN; omega
mutual
def wire_Number.l1 : Nat → Int → (List UInt8) → Int → Option ((List UInt8))
 | 0, _, _, _ => none
 | m38 + 1, x1, y35, y37 => (if decide (y37 < (wire_extra x1)) = true then (if 0 ≤ (IntKind.wrap .i64 (8 * (IntKind.wrap .i64 ((IntKind.wrap .i64 ((wire_extra x1) - 1)) - y37)))) then (if (List.length y35 + List.length ([UInt8.ofNat (IntKind.wrap .u8 (sShr .u64 x1 (IntKind.wrap .i64 (8 * (IntKind.wrap .i64 ((IntKind.wrap .i64 ((wire_extra x1) - 1)) - y37)))))).toNat] : List UInt8)) * 1 ≤ 140737488355328 then (wire_Number.l1 m38 x1 (y35 ++ ([UInt8.ofNat (IntKind.wrap .u8 (sShr .u64 x1 (IntKind.wrap .i64 (8 * (IntKind.wrap .i64 ((IntKind.wrap .i64 ((wire_extra x1) - 1)) - y37)))))).toNat] : List UInt8)) (IntKind.wrap .i64 (y37 + 1))) else none) else none) else (some y35))
def wire_Number.l0 : Nat → (List UInt8) → Int → Int → Option ((List UInt8))
 | 0, _, _, _ => none
 | m17 + 1, x0, x1, y16 => (if x0.length * 1 ≤ 140737488355328 then (if (List.length x0 + List.length ([UInt8.ofNat (y16).toNat] : List UInt8)) * 1 ≤ 140737488355328 then (wire_Number.l1 m17 x1 (x0 ++ ([UInt8.ofNat (y16).toNat] : List UInt8)) 0) else none) else none)
end
def wire_Number.f (k : Nat) (x0 : (List UInt8)) (x1 : Int) : Option ((List UInt8)) := (if 0 ≤ (IntKind.wrap .i64 (8 - (wire_extra x1))) then (if decide ((wire_extra x1) < 8) = true then (if 0 ≤ (IntKind.wrap .i64 (8 * (wire_extra x1))) then (wire_Number.l0 k x0 x1 (bOr .u8 (sShl .u8 255 (IntKind.wrap .i64 (8 - (wire_extra x1)))) (IntKind.wrap .u8 (sShr .u64 x1 (IntKind.wrap .i64 (8 * (wire_extra x1))))))) else none) else (wire_Number.l0 k x0 x1 (sShl .u8 255 (IntKind.wrap .i64 (8 - (wire_extra x1)))))) else none)
theorem wire_Number.ok {s0 : St} {v0 : Value} {x0 : (List UInt8)} {v1 : Value} {x1 : Int} {k : Nat} {r : (List UInt8)} (k0 : (kSl kY).V s0 v0 x0) (k1 : (kI .u64).V s0 v1 x1) (h : wire_Number.f k x0 x1 = some r) : Cl Try.prog 70 #[v0, v1] s0 (Okf s0 (Fact.own (kSl kY) 5 1 (fun g => s0.w.heap.size ≤ g) r)) := by
 unfold wire_Number.f at h
 refine cl_of_wp Try.func70 rfl en_70 fun a hz hd hp => ?_; have hz : a.tmps.size = 45 := hz; have E := Chg.refl (fun _ => False) s0; have h0 := V_at k0 E (hp 0 v0 rfl); have h1 := V_at k1 E (hp 1 v1 rfl); refine wp_sr ?_; refine sq_blk [⟨4, _, []⟩] [] hz rfl ⟨(fun a s he hf hz => opw rfl (op_assign rfl (f := Fact.own (kSl kY) 5 1 (fun g => s0.w.heap.size ≤ g) []) own_nil)), trivial⟩ ?_; intro a2 s3 he hf hz hd1; have ⟨hd, E⟩ := hdE hd1 hd E he; obtain ⟨h0, h1⟩ := va2 he hf h0 h1 rfl; refine wp_sr ?_; refine sq_blk [⟨9, _, []⟩, ⟨10, _, [0]⟩, ⟨5, _, [1]⟩] [2] hz rfl ⟨mvs rfl rfl h1 rfl, (fun a s he hf hz q0 => opw rfl (op_call rfl rfl (wire_extra.ok q0))), avq rfl rfl, trivial⟩ ?_; intro a4 s5 he hf hz hd1 h5; have ⟨hd, E⟩ := hdE hd1 hd E he; obtain ⟨h0, h1⟩ := va2 he hf h0 h1 rfl; refine wp_sr ?_; obtain ⟨D6, h⟩ := need h; refine sq_blk [⟨11, _, []⟩, ⟨12, _, [0]⟩, ⟨13, _, [1]⟩, ⟨6, _, [2]⟩] [3] hz rfl ⟨mvs rfl rfl h5 rfl, (fun a s he hf hz q0 => opw rfl (op_sub rfl (lit_i (k := .i64) (n := 8) (by decide)) q0)), (fun a s he hf hz q1 => opw rfl (op_shl rfl (lit_i (k := .u8) (n := 255) (by decide)) q1 D6)), avq rfl rfl, trivial⟩ ?_
 intro a7 s8 he hf hz hd1 h6; have ⟨hd, E⟩ := hdE hd1 hd E he; obtain ⟨h0, h1, h5⟩ := va3 he hf h0 h1 h5 rfl; refine wp_seq ?_; refine wp_sr ?_; refine sq_blk [⟨14, _, []⟩, ⟨15, _, [0]⟩] [1] hz rfl ⟨mvs rfl rfl h5 rfl, (fun a s he hf hz q0 => ls rfl rfl q0 (lit_i (k := .i64) (n := 8) (by decide))), trivial⟩ ?_; intro a9 s10 he hf hz hd1 h15; have ⟨hd, E⟩ := hdE hd1 hd E he; obtain ⟨h0, h1, h5, h6⟩ := va4 he hf h0 h1 h5 h6 rfl; refine wp_condJ (I := fun a s => ∃ (m17 : Nat) (y16 : Int), wire_Number.l0 m17 x0 x1 y16 = some r ∧ m17 ≤ k ∧ Ext s0 s ∧ a.tmps.size = 45 ∧ a.defers = [] ∧ (kSl kY).V s (a.get 0) x0 ∧ (kI .u64).V s (a.get 1) x1 ∧ (kI .i64).V s (a.get 5) (wire_extra x1) ∧ (kI .u8).V s (a.get 6) y16) h15 (fun J hb => ?_) (fun J hb => ?_) ?_
 ·have h := ite_t hb h; refine wp_region ?_; obtain ⟨D11, h⟩ := need h; refine sq_blk [⟨16, _, []⟩, ⟨17, _, []⟩, ⟨18, _, []⟩, ⟨19, _, [2]⟩, ⟨20, _, [1, 3]⟩, ⟨21, _, [4]⟩, ⟨22, _, [0, 5]⟩] [6] hz rfl ⟨mvs rfl rfl h6 rfl, mvs rfl rfl h1 rfl, mvs rfl rfl h5 rfl, (fun a s he hf hz q2 => opw rfl (op_mul rfl (lit_i (k := .i64) (n := 8) (by decide)) q2)), (fun a s he hf hz q1 q3 => opw rfl (op_shr rfl q1 q3 D11)), (fun a s he hf hz q4 => cv rfl rfl u_89 u_5 q4), (fun a s he hf hz q0 q5 => opw rfl (op_or rfl q0 q5)), trivial⟩ ?_; intro a12 s13 he hf hz hd1 h22; have ⟨hd, E⟩ := hdE hd1 hd E he; obtain ⟨h0, h1, h5⟩ := va3 he hf h0 h1 h5 rfl; refine sq_blk [⟨6, _, []⟩] [0] hz rfl ⟨avs rfl rfl h22 rfl, trivial⟩ ?_; intro a14 s15 he hf hz hd1 h6; have ⟨hd, E⟩ := hdE hd1 hd E he; obtain ⟨h0, h1, h5⟩ := va3 he hf h0 h1 h5 rfl; exact J _ _ ⟨_, _, h, by omega, E, hz, hd, h0, h1, h5, h6⟩
 ·have h := ite_f hb h; refine wp_skip ?_; exact J _ _ ⟨_, _, h, by omega, E, hz, hd, h0, h1, h5, h6⟩
 rintro a18 s19 ⟨m17, y16, h, hkm17, E, hz, hd, h0, h1, h5, h6⟩
 obtain _ | m17 := m17
 ·cases h
 refine wp_sr ?_; obtain ⟨D20, h⟩ := need h; refine sq_blk [⟨23, _, []⟩, ⟨24, _, [0]⟩, ⟨25, _, []⟩, ⟨26, _, [2]⟩] [1, 3] hz rfl ⟨mvs rfl rfl h0 rfl, (fun a s he hf hz q0 => opw rfl (op_call_f rfl rfl (f := Fact.own (kSl kY) 5 1 (fun g => s19.w.heap.size ≤ g) x0) (Cl.mono (clone_byte.ct q0 D20) (own_w he)))), mvs rfl rfl h6 rfl, (fun a s he hf hz q2 => opw rfl (op_lit_o (Q := fun g => s0.w.heap.size ≤ g) (d := kY) rfl lt_53 (zc := [.int .u8 0]) (by kernel_rfl) (ps := [(0, [(a.get 25)])]) ⟨rfl, V_cells1 (s := s) rfl (V_i2y q2), trivial⟩ rfl (by decide) (ys := ([UInt8.ofNat (y16).toNat] : List UInt8)) rfl (by decide) rfl (lit_rows1 (V_one rfl (V_i2y q2))))), trivial⟩ ?_; intro a22 s23 he hf hz hd1 k24 k26; have hd := hd1.trans hd; have f24' : ∀ g, sb (a22.get 24) = some g → s0.w.heap.size ≤ g := fun g hg => by have h1 := k24.2.2 g hg; have h2 := E.size; exact (by omega)
 obtain ⟨h1, h5⟩ := va2 he hf h1 h5 rfl; have E := E.trans he; have h24 := k24.1; have p24 := k24.2.1; have f24 := f24'; have h26 := k26.1; obtain ⟨D27, h⟩ := need h; refine sq_set hz rfl rfl rfl (op_append2 rfl el_53 h24 p24 h26 D27 rfl (fun v s26 he hv hp hq => fun a25 hd' hf hz hd1 => ?_)); have f27' : ∀ g, sb (a25.get 27) = some g → s0.w.heap.size ≤ g := by
  intro g hg; rw [hd'] at hg; rcases hq g hg with h | h
  ·have h1 := f24 g h; exact h1
  ·have h2 := E.size; exact (by omega)
 have hd := hd1.trans hd; obtain ⟨h1, h5⟩ := va2 he hf h1 h5 rfl; have E := Chg.chg E he (fun b e h => absurd h (Nat.not_lt.2 (f24 b e))); have h27 := V_eq hd' hv; have p27 := Sp_at hp (Chg.refl (fun _ => False) _) (fun _ _ hf => hf) hd'; have f27 := f27'; refine sq_blk [⟨7, _, []⟩] [0] hz rfl ⟨(fun a s he hf hz => opw rfl (op_assign rfl (f := Fact.own _ _ _ _ _) (own_at h27 p27 f27 he (hf 27 rfl)))), trivial⟩ ?_; intro a29 s30 he hf hz hd1 k7; have hd := hd1.trans hd; obtain ⟨h1, h5⟩ := va2 he hf h1 h5 rfl; have E := E.trans he; have h7 := k7.1; have p7 := k7.2.1; have f7 := k7.2.2; refine wp_seq ?_; refine wp_sr ?_; refine sq_blk [⟨28, _, []⟩, ⟨29, _, []⟩] [0, 1] hz rfl ⟨mvs rfl rfl h5 rfl, (fun a s he hf hz => mv rfl rfl i0), trivial⟩ ?_; intro a31 s32 he hf hz hd1 h28 h29; have ⟨hd, E⟩ := hdE hd1 hd E he; have p7 := pa he p7 (hf 7 rfl); have f7 := sb_at f7 (hf 7 rfl); obtain ⟨h1, h5, h7⟩ := va3 he hf h1 h5 h7 rfl; refine wp_block ?_
 refine wp_loop (k := m17) (fun m38 a s => ∃ (y35 : (List UInt8)) (y37 : Int), wire_Number.l1 m38 x1 y35 y37 = some r ∧ m38 ≤ m17 ∧ Ext s0 s ∧ a.tmps.size = 45 ∧ a.defers = [] ∧ (kI .u64).V s (a.get 1) x1 ∧ (kI .i64).V s (a.get 5) (wire_extra x1) ∧ (kSl kY).V s (a.get 7) y35 ∧ Sp s (a.get 7) 5 1 ∧ (∀ g, sb (a.get 7) = some g → s0.w.heap.size ≤ g) ∧ (kI .i64).V s (a.get 28) (wire_extra x1) ∧ (kI .i64).V s (a.get 29) y37) ⟨_, _, h, Nat.le_refl _, E, hz, hd, h1, h5, h7, p7, f7, h28, h29⟩ ?_; rintro m38 a34 s33 ⟨y35, y37, h, hkm38, E, hz, hd, h1, h5, h7, p7, f7, h28, h29⟩; obtain _ | m38 := m38
 ·cases h
 refine wp_sr ?_; refine sq_blk [⟨30, _, []⟩] [0] hz rfl ⟨(fun a s he hf hz => ls rfl rfl (V_at h29 he (hf 29 rfl)) (V_at h28 he (hf 28 rfl))), trivial⟩ ?_; intro a39 s40 he hf hz hd1 h30; have ⟨hd, E⟩ := hdE hd1 hd E he; have p7 := pa he p7 (hf 7 rfl); have f7 := sb_at f7 (hf 7 rfl); obtain ⟨h1, h5, h7, h28, h29⟩ := va5 he hf h1 h5 h7 h28 h29 rfl; refine wp_seq ?_; refine wp_condV h30 (fun hb => ?_) (fun hb => ?_)
 ·have h := ite_t hb h; refine wp_skip ?_; refine wp_seq ?_; refine wp_block ?_; refine wp_sr ?_; refine sq_blk [⟨31, _, []⟩, ⟨8, _, [0]⟩] [1] hz rfl ⟨mvs rfl rfl h29 rfl, avq rfl rfl, trivial⟩ ?_; intro a41 s42 he hf hz hd1 h8; have ⟨hd, E⟩ := hdE hd1 hd E he; have p7 := pa he p7 (hf 7 rfl); have f7 := sb_at f7 (hf 7 rfl); obtain ⟨h1, h5, h7, h28, h29⟩ := va5 he hf h1 h5 h7 h28 h29 rfl; refine wp_region ?_; obtain ⟨D43, h⟩ := need h; refine sq_blk [⟨32, _, []⟩, ⟨33, _, []⟩, ⟨34, _, []⟩, ⟨35, _, [2]⟩, ⟨36, _, []⟩, ⟨37, _, [3, 4]⟩, ⟨38, _, [5]⟩, ⟨39, _, [1, 6]⟩, ⟨40, _, [7]⟩, ⟨41, _, [8]⟩] [0, 9] hz rfl ⟨(fun a s he hf hz => opw rfl (op_move rfl (f := Fact.own _ _ _ _ _) (own_at h7 p7 f7 he (hf 7 rfl)))), mvs rfl rfl h1 rfl, mvs rfl rfl h5 rfl, (fun a s he hf hz q2 => opw rfl (op_sub rfl q2 i1)), mvs rfl rfl h8 rfl, (fun a s he hf hz q3 q4 => opw rfl (op_sub rfl q3 q4)), (fun a s he hf hz q5 => opw rfl (op_mul rfl (lit_i (k := .i64) (n := 8) (by decide)) q5)), (fun a s he hf hz q1 q6 => opw rfl (op_shr rfl q1 q6 D43)), (fun a s he hf hz q7 => cv rfl rfl u_89 u_5 q7), (fun a s he hf hz q8 => opw rfl (op_lit_o (Q := fun g => s0.w.heap.size ≤ g) (d := kY) rfl lt_53 (zc := [.int .u8 0]) (by kernel_rfl) (ps := [(0, [(a.get 40)])]) ⟨rfl, V_cells1 (s := s) rfl (V_i2y q8), trivial⟩ rfl (by decide) (ys := ([UInt8.ofNat (IntKind.wrap .u8 (sShr .u64 x1 (IntKind.wrap .i64 (8 * (IntKind.wrap .i64 ((IntKind.wrap .i64 ((wire_extra x1) - 1)) - y37)))))).toNat] : List UInt8)) rfl (by decide) rfl (lit_rows1 (V_one rfl (V_i2y q8))))), trivial⟩ ?_
  intro a45 s46 he hf hz hd1 k32 k41; have ⟨hd, E⟩ := hdE hd1 hd E he; obtain ⟨h1, h5, h28, h29⟩ := va4 he hf h1 h5 h28 h29 rfl; have h32 := k32.1; have p32 := k32.2.1; have f32 := k32.2.2; have h41 := k41.1; obtain ⟨D49, h⟩ := need h; refine sq_set hz rfl rfl rfl (op_append2 rfl el_53 h32 p32 h41 D49 rfl (fun v s48 he hv hp hq => fun a47 hd' hf hz hd1 => ?_)); have f42' : ∀ g, sb (a47.get 42) = some g → s0.w.heap.size ≤ g := by
   intro g hg; rw [hd'] at hg; rcases hq g hg with h | h
   ·have h1 := f32 g h; exact h1
   ·have h2 := E.size; exact (by omega)
  have hd := hd1.trans hd; obtain ⟨h1, h5, h28, h29⟩ := va4 he hf h1 h5 h28 h29 rfl; have E := Chg.chg E he (fun b e h => absurd h (Nat.not_lt.2 (f32 b e))); have h42 := V_eq hd' hv; have p42 := Sp_at hp (Chg.refl (fun _ => False) _) (fun _ _ hf => hf) hd'; have f42 := f42'; refine sq_blk [⟨7, _, []⟩] [0] hz rfl ⟨(fun a s he hf hz => opw rfl (op_assign rfl (f := Fact.own _ _ _ _ _) (own_at h42 p42 f42 he (hf 42 rfl)))), trivial⟩ ?_; intro a51 s52 he hf hz hd1 k7; have hd := hd1.trans hd; obtain ⟨h1, h5, h28, h29⟩ := va4 he hf h1 h5 h28 h29 rfl; have E := E.trans he; have h7 := k7.1; have p7 := k7.2.1; have f7 := k7.2.2; refine wp_region ?_; refine sq_blk [⟨43, _, []⟩] [0] hz rfl ⟨(fun a s he hf hz => ad rfl rfl (V_at h29 he (hf 29 rfl)) i1), trivial⟩ ?_; intro a53 s54 he hf hz hd1 h43; have ⟨hd, E⟩ := hdE hd1 hd E he; have p7 := pa he p7 (hf 7 rfl); have f7 := sb_at f7 (hf 7 rfl); obtain ⟨h1, h5, h7, h28⟩ := va4 he hf h1 h5 h7 h28 rfl; refine sq_blk [⟨29, _, []⟩] [0] hz rfl ⟨mvs rfl rfl h43 rfl, trivial⟩ ?_; intro a55 s56 he hf hz hd1 h29; have hd := hd1.trans hd; have p7 := pa he p7 (hf 7 rfl)
  have f7 := sb_at f7 (hf 7 rfl); obtain ⟨h1, h5, h7, h28⟩ := va4 he hf h1 h5 h7 h28 rfl; have E := E.trans he; exact ⟨_, (by omega : m38 < m38 + 1), _, _, h, by omega, E, hz, hd, h1, h5, h7, p7, (fun g hg => (f7 g hg)), h28, h29⟩
 ·have h := ite_f hb h; refine wp_exit ?_; refine then_exit ?_; refine then_exit ?_; refine inBlock_hit ?_; refine wp_sr ?_; refine sq_blk [⟨44, _, []⟩, ⟨4, _, [0]⟩] [1] hz rfl ⟨(fun a s he hf hz => opw rfl (op_move rfl (f := Fact.own _ _ _ _ _) (own_at h7 p7 f7 he (hf 7 rfl)))), (fun a s he hf hz q0 => opw rfl (op_assign rfl (f := Fact.own _ _ _ _ _) q0)), trivial⟩ ?_; intro a57 s58 he hf hz hd1 k4; have ⟨hd, E⟩ := hdE hd1 hd E he; have h4 := k4.1; have p4 := k4.2.1; have f4 := k4.2.2; refine wp_ret ?_; cases h
  exact ⟨hd, _, results_tmp rfl _ _ _, E, ⟨h4, p4, fun g hg => (f4 g hg)⟩⟩
theorem wire_Number.loop (n : Nat) (hn : n < 18446744073709551616) : ∀ (j : Nat) (acc : Str), j ≤ ext n → acc.length + j ≤ 140737488355328 → ∃ k, wire_Number.l1 k (n : Int) acc ((ext n - j : Nat) : Int) = some (acc ++ tailB n j) := by
 intro j
 induction j with
 | zero =>
  intro acc _ _
  refine ⟨1, ?_⟩
  simp only [wire_Number.l1, wire_extra_eq (x := (n : Int)) (by omega) (by omega), Int.toNat_natCast]
  simp [tailB]
 | succ j ih =>
  intro acc hj hl
  have he := ext_le8 n
  obtain ⟨k, hk⟩ := ih (acc ++ [UInt8.ofNat (n / 2 ^ (8 * j))]) (by omega) (by simp; omega)
  refine ⟨k + 1, ?_⟩
  simp only [wire_Number.l1, wire_extra_eq (x := (n : Int)) (by omega) (by omega), Int.toNat_natCast]
  have h1 : ((ext n - (j + 1) : Nat) : Int) < (ext n : Int) := by omega
  have e1 : IntKind.wrap .i64 ((ext n : Int) - 1) = (ext n : Int) - 1 := w64 (by omega) (by omega)
  have e2 : IntKind.wrap .i64 (((ext n : Int) - 1) - ((ext n - (j + 1) : Nat) : Int)) = (j : Int) := by rw [w64 (by omega) (by omega)]; omega
  have e3 : IntKind.wrap .i64 (8 * (j : Int)) = ((8 * j : Nat) : Int) := by rw [w64 (by omega) (by omega)]; omega
  have e4 : IntKind.wrap .i64 (((ext n - (j + 1) : Nat) : Int) + 1) = ((ext n - j : Nat) : Int) := by rw [w64 (by omega) (by omega)]; omega
  simp only [h1, decide_true, if_true, e1, e2, e3, s64 _ hn, u8_of, e4]
  rw [if_pos (by omega), if_pos (by simp; omega), hk]
  simp [tailB]
theorem wire_Number.nice (x0 : Str) (x1 : Int) (b0 : (kSl kY).bd x0) (b1 : (kI .u64).bd x1) (hl : x0.length + 9 ≤ 140737488355328) : ∃ k, wire_Number.f k x0 x1 = some (number x0 x1) := by
 obtain ⟨h0, h1⟩ := inKu64 b1
 obtain ⟨n, rfl⟩ := Int.eq_ofNat_of_zero_le h0
 have hn : n < 18446744073709551616 := by omega
 have he := ext_le8 n
 have e1 : IntKind.wrap .i64 (8 - (ext n : Int)) = ((8 - ext n : Nat) : Int) := by rw [w64 (by omega) (by omega)]; omega
 have e2 : IntKind.wrap .i64 (8 * (ext n : Int)) = ((8 * ext n : Nat) : Int) := by rw [w64 (by omega) (by omega)]; omega
 have e3 : sShl .u8 255 ((8 - ext n : Nat) : Int) = ((oneN (ext n) : Nat) : Int) := by
  have : sShl .u8 ((255 : Nat) : Int) ((8 - ext n : Nat) : Int) = _ := sShl_nat 255 (8 - ext n) (by show 8 - ext n ≤ 8; omega)
  rw [wrap_u8, one_shl _ he] at this
  exact this
 have fin : ∀ y : Nat, y < 256 → UInt8.ofNat y = UInt8.ofNat (firstN n) → ∃ k, wire_Number.l0 k x0 (n : Int) (y : Int) = some (number x0 (n : Int)) := fun y hy hf => by
  obtain ⟨k, hk⟩ := wire_Number.loop n hn (ext n) (x0 ++ [UInt8.ofNat (firstN n)]) (Nat.le_refl _) (by simp; omega)
  refine ⟨k + 1, ?_⟩
  rw [Nat.sub_self] at hk
  simp only [wire_Number.l0, Int.toNat_natCast, hf]
  rw [if_pos (show x0.length * 1 ≤ 140737488355328 by omega), if_pos (show (x0.length + [UInt8.ofNat (firstN n)].length) * 1 ≤ 140737488355328 by simp; omega)]
  refine hk.trans ?_
  simp [number, numB]
 unfold wire_Number.f
 rw [wire_extra_eq (x := (n : Int)) (by omega) (by omega), Int.toNat_natCast]
 simp only [e1, e2, e3, s64 _ hn, wrap_u8]
 by_cases h8 : ext n < 8
 ·have h8' : (ext n : Int) < 8 := by omega
  have hp : n / 2 ^ (8 * ext n) % 256 < 256 := Nat.mod_lt _ (by omega)
  have eo : bOr .u8 ((oneN (ext n) : Nat) : Int) ((n / 2 ^ (8 * ext n) % 256 : Nat) : Int) = ((firstN n : Nat) : Int) := by
   rw [bOr_nat rfl (one_lt _) hp]; simp only [firstN, if_pos h8]
  have hfl : firstN n < 256 := by
   have : (oneN (ext n) ||| (n / 2 ^ (8 * ext n) % 256)) < 2 ^ 8 := Nat.or_lt_two_pow (one_lt _) hp
   simp only [firstN, if_pos h8]; exact this
  obtain ⟨k, hk⟩ := fin _ hfl rfl
  refine ⟨k, ?_⟩
  rw [if_pos (by omega)]
  simp only [h8', decide_true, if_true, eo]
  rw [if_pos (by omega)]
  exact hk
 ·have h8' : ¬ (ext n : Int) < 8 := by omega
  have : ext n = 8 := by omega
  obtain ⟨k, hk⟩ := fin (oneN (ext n)) (one_lt _) (by rw [this]; simp [firstN, this, oneN])
  refine ⟨k, ?_⟩
  rw [if_pos (by omega)]
  simp only [h8', decide_false, Bool.false_eq_true, if_false]
  exact hk
theorem wire_Number.ct {s0 : St} {v0 : Value} {x0 : (List UInt8)} {v1 : Value} {x1 : Int} (k0 : (kSl kY).V s0 v0 x0) (k1 : (kI .u64).V s0 v1 x1) (hpre : x0.length + 9 ≤ 140737488355328) : Cl Try.prog 70 #[v0, v1] s0 (Okf s0 (Fact.own (kSl kY) 5 1 (fun g => s0.w.heap.size ≤ g) (number x0 x1))) := by
 obtain ⟨k, h⟩ := wire_Number.nice x0 x1 (Kn.V_bd k0) (Kn.V_bd k1) hpre
 exact wire_Number.ok k0 k1 h
mutual
def ref02_Number.l2 : Nat → Int → (List UInt8) → Int → Option ((List UInt8))
 | 0, _, _, _ => none
 | m68 + 1, x1, y65, y67 => (if decide (0 ≤ y67) = true then (if 0 ≤ (IntKind.wrap .i64 (8 * y67)) then (if (List.length y65 + List.length ([UInt8.ofNat (IntKind.wrap .u8 (sShr .u64 x1 (IntKind.wrap .i64 (8 * y67)))).toNat] : List UInt8)) * 1 ≤ 140737488355328 then (ref02_Number.l2 m68 x1 (y65 ++ ([UInt8.ofNat (IntKind.wrap .u8 (sShr .u64 x1 (IntKind.wrap .i64 (8 * y67)))).toNat] : List UInt8)) (IntKind.wrap .i64 (y67 - 1))) else none) else none) else (some y65))
def ref02_Number.l1 : Nat → (List UInt8) → Int → Int → Option ((List UInt8))
 | 0, _, _, _ => none
 | m49 + 1, x0, x1, y48 => (if (List.length (([] : List UInt8) ++ x0) + List.length ([UInt8.ofNat (y48).toNat] : List UInt8)) * 1 ≤ 140737488355328 then (ref02_Number.l2 m49 x1 ((([] : List UInt8) ++ x0) ++ ([UInt8.ofNat (y48).toNat] : List UInt8)) (IntKind.wrap .i64 ((wire_extra x1) - 1))) else none)
def ref02_Number.l0 : Nat → (List UInt8) → Int → Int → Int → Option ((List UInt8))
 | 0, _, _, _, _ => none
 | m28 + 1, x0, x1, y26, y27 => (if decide (y27 < (wire_extra x1)) = true then (if 0 ≤ y27 then (ref02_Number.l0 m28 x0 x1 (bOr .u8 y26 (sShr .u8 128 y27)) (IntKind.wrap .i64 (y27 + 1))) else none) else (if decide ((wire_extra x1) < 8) = true then (if 0 ≤ (IntKind.wrap .i64 (8 * (wire_extra x1))) then (ref02_Number.l1 m28 x0 x1 (bOr .u8 y26 (IntKind.wrap .u8 (sShr .u64 x1 (IntKind.wrap .i64 (8 * (wire_extra x1))))))) else none) else (ref02_Number.l1 m28 x0 x1 y26)))
end
def ref02_Number.f (k : Nat) (x0 : (List UInt8)) (x1 : Int) : Option ((List UInt8)) := (if (0 ≤ (IntKind.wrap .i64 ((x0.length : Int) + 9)) ∧ (IntKind.wrap .i64 ((x0.length : Int) + 9)) * 1 ≤ 281474976710656) then (if (List.length ([] : List UInt8) + List.length x0) * 1 ≤ 140737488355328 then (ref02_Number.l0 k x0 x1 0 0) else none) else none)
theorem ref02_Number.ok {s0 : St} {v0 : Value} {x0 : (List UInt8)} {v1 : Value} {x1 : Int} {k : Nat} {r : (List UInt8)} (k0 : (kSl kY).V s0 v0 x0) (k1 : (kI .u64).V s0 v1 x1) (h : ref02_Number.f k x0 x1 = some r) : Cl Try.prog 75 #[v0, v1] s0 (Okf s0 (Fact.own (kSl kY) 5 1 (fun g => s0.w.heap.size ≤ g) r)) := by
 unfold ref02_Number.f at h
 refine cl_of_wp Try.func75 rfl en_75 fun a hz hd hp => ?_; have hz : a.tmps.size = 55 := hz; have E := Chg.refl (fun _ => False) s0; have h0 := V_at k0 E (hp 0 v0 rfl); have h1 := V_at k1 E (hp 1 v1 rfl); refine wp_sr ?_; refine sq_blk [⟨4, _, []⟩] [] hz rfl ⟨(fun a s he hf hz => opw rfl (op_assign rfl (f := Fact.own (kSl kY) 5 1 (fun g => s0.w.heap.size ≤ g) []) own_nil)), trivial⟩ ?_; intro a2 s3 he hf hz hd1; have ⟨hd, E⟩ := hdE hd1 hd E he; obtain ⟨h0, h1⟩ := va2 he hf h0 h1 rfl; refine wp_sr ?_; refine sq_blk [⟨10, _, []⟩, ⟨11, _, [0]⟩, ⟨12, _, [1]⟩] [2] hz rfl ⟨mvs rfl rfl h0 rfl, (fun a s he hf hz q0 => le_ rfl rfl u_53 q0), (fun a s he hf hz q1 => ad rfl rfl q1 (lit_i (k := .i64) (n := 9) (by decide))), trivial⟩ ?_; intro a4 s5 he hf hz hd1 h12; have ⟨hd, E⟩ := hdE hd1 hd E he; obtain ⟨h0, h1⟩ := va2 he hf h0 h1 rfl; obtain ⟨D8, h⟩ := need h; refine sq_set hz rfl rfl rfl (op_make0 (d := kY) rfl el_53 i0 h12 D8.1 D8.2 (by decide) (fun v s7 he hv hp ho => fun a6 hd' hf hz hd1 => ?_))
 have f13' : ∀ g, sb (a6.get 13) = some g → s0.w.heap.size ≤ g := fun g hg => by rw [hd'] at hg; have h1 := Spare.low hp hg; have h2 := E.size; exact (by omega)
 have ⟨hd, E⟩ := hdE hd1 hd E he; obtain ⟨h0, h1⟩ := va2 he hf h0 h1 rfl; have h13 := V_eq hd' hv; have p13 := Sp_at hp.sp (Chg.refl (fun _ => False) _) (fun _ _ hf => hf) hd'; have f13 := f13'; refine sq_blk [⟨14, _, []⟩] [0] hz rfl ⟨mvs rfl rfl h0 rfl, trivial⟩ ?_; intro a10 s11 he hf hz hd1 h14; have ⟨hd, E⟩ := hdE hd1 hd E he; have p13 := pa he p13 (hf 13 rfl); have f13 := sb_at f13 (hf 13 rfl); obtain ⟨h1, h13⟩ := va2 he hf h1 h13 rfl; obtain ⟨D14, h⟩ := need h; refine sq_set hz rfl rfl rfl (op_append2 rfl el_53 h13 p13 h14 D14 rfl (fun v s13 he hv hp hq => fun a12 hd' hf hz hd1 => ?_)); have f15' : ∀ g, sb (a12.get 15) = some g → s0.w.heap.size ≤ g := by
  intro g hg; rw [hd'] at hg; rcases hq g hg with h | h
  ·have h1 := f13 g h; exact h1
  ·have h2 := E.size; exact (by omega)
 have hd := hd1.trans hd; have h1 := V_at h1 he (hf 1 rfl); have E := Chg.chg E he (fun b e h => absurd h (Nat.not_lt.2 (f13 b e))); have h15 := V_eq hd' hv; have p15 := Sp_at hp (Chg.refl (fun _ => False) _) (fun _ _ hf => hf) hd'; have f15 := f15'; refine sq_blk [⟨5, _, []⟩] [0] hz rfl ⟨(fun a s he hf hz => opw rfl (op_assign rfl (f := Fact.own _ _ _ _ _) (own_at h15 p15 f15 he (hf 15 rfl)))), trivial⟩ ?_; intro a16 s17 he hf hz hd1 k5; have hd := hd1.trans hd; have h1 := V_at h1 he (hf 1 rfl); have E := E.trans he; have h5 := k5.1; have p5 := k5.2.1; have f5 := k5.2.2; refine wp_sr ?_; refine sq_blk [⟨16, _, []⟩, ⟨17, _, [0]⟩, ⟨6, _, [1]⟩] [2] hz rfl ⟨mvs rfl rfl h1 rfl, (fun a s he hf hz q0 => opw rfl (op_call rfl rfl (ref02_follow.ct q0))), avq rfl rfl, trivial⟩ ?_; intro a18 s19 he hf hz hd1 h6; have ⟨hd, E⟩ := hdE hd1 hd E he; have p5 := pa he p5 (hf 5 rfl); have f5 := sb_at f5 (hf 5 rfl); obtain ⟨h1, h5⟩ := va2 he hf h1 h5 rfl; refine wp_sr ?_; refine sq_blk [⟨7, _, []⟩] [0] hz rfl ⟨(fun a s he hf hz => av rfl rfl (lit_i (k := .u8) (n := 0) (by decide))), trivial⟩ ?_
 intro a20 s21 he hf hz hd1 h7; have ⟨hd, E⟩ := hdE hd1 hd E he; have p5 := pa he p5 (hf 5 rfl); have f5 := sb_at f5 (hf 5 rfl); obtain ⟨h1, h5, h6⟩ := va3 he hf h1 h5 h6 rfl; refine wp_seq ?_; refine wp_sr ?_; refine sq_blk [⟨8, _, []⟩] [0] hz rfl ⟨(fun a s he hf hz => av rfl rfl i0), trivial⟩ ?_; intro a22 s23 he hf hz hd1 h8; have ⟨hd, E⟩ := hdE hd1 hd E he; have p5 := pa he p5 (hf 5 rfl); have f5 := sb_at f5 (hf 5 rfl); obtain ⟨h1, h5, h6, h7⟩ := va4 he hf h1 h5 h6 h7 rfl; refine wp_block ?_; refine wp_loop (k := k) (fun m28 a s => ∃ (y26 : Int) (y27 : Int), ref02_Number.l0 m28 x0 x1 y26 y27 = some r ∧ m28 ≤ k ∧ Ext s0 s ∧ a.tmps.size = 55 ∧ a.defers = [] ∧ (kI .u64).V s (a.get 1) x1 ∧ (kSl kY).V s (a.get 5) (([] : List UInt8) ++ x0) ∧ Sp s (a.get 5) 5 1 ∧ (∀ g, sb (a.get 5) = some g → s0.w.heap.size ≤ g) ∧ (kI .i64).V s (a.get 6) (wire_extra x1) ∧ (kI .u8).V s (a.get 7) y26 ∧ (kI .i64).V s (a.get 8) y27) ⟨_, _, h, Nat.le_refl _, E, hz, hd, h1, h5, p5, f5, h6, h7, h8⟩ ?_; rintro m28 a25 s24 ⟨y26, y27, h, hkm28, E, hz, hd, h1, h5, p5, f5, h6, h7, h8⟩
 obtain _ | m28 := m28
 ·cases h
 refine wp_seq ?_; refine wp_sr ?_; refine sq_blk [⟨18, _, []⟩, ⟨19, _, []⟩, ⟨20, _, [0, 1]⟩] [2] hz rfl ⟨mvs rfl rfl h8 rfl, mvs rfl rfl h6 rfl, (fun a s he hf hz q0 q1 => ls rfl rfl q0 q1), trivial⟩ ?_; intro a29 s30 he hf hz hd1 h20; have ⟨hd, E⟩ := hdE hd1 hd E he; have p5 := pa he p5 (hf 5 rfl); have f5 := sb_at f5 (hf 5 rfl); obtain ⟨h1, h5, h6, h7, h8⟩ := va5 he hf h1 h5 h6 h7 h8 rfl; refine wp_condV h20 (fun hb => ?_) (fun hb => ?_)
 ·have h := ite_t hb h; refine wp_skip ?_; refine wp_seq ?_; refine wp_block ?_; refine wp_region ?_; obtain ⟨D31, h⟩ := need h; refine sq_blk [⟨23, _, []⟩, ⟨24, _, []⟩, ⟨25, _, [1]⟩, ⟨26, _, [0, 2]⟩] [3] hz rfl ⟨mvs rfl rfl h7 rfl, mvs rfl rfl h8 rfl, (fun a s he hf hz q1 => opw rfl (op_shr rfl (lit_i (k := .u8) (n := 128) (by decide)) q1 D31)), (fun a s he hf hz q0 q2 => opw rfl (op_or rfl q0 q2)), trivial⟩ ?_; intro a32 s33 he hf hz hd1 h26; have ⟨hd, E⟩ := hdE hd1 hd E he; have p5 := pa he p5 (hf 5 rfl); have f5 := sb_at f5 (hf 5 rfl); obtain ⟨h1, h5, h6, h8⟩ := va4 he hf h1 h5 h6 h8 rfl; refine sq_blk [⟨7, _, []⟩] [0] hz rfl ⟨avs rfl rfl h26 rfl, trivial⟩ ?_; intro a34 s35 he hf hz hd1 h7; have ⟨hd, E⟩ := hdE hd1 hd E he; have p5 := pa he p5 (hf 5 rfl); have f5 := sb_at f5 (hf 5 rfl); obtain ⟨h1, h5, h6, h8⟩ := va4 he hf h1 h5 h6 h8 rfl; refine wp_region ?_; refine sq_blk [⟨21, _, []⟩, ⟨22, _, [0]⟩] [1] hz rfl ⟨mvs rfl rfl h8 rfl, (fun a s he hf hz q0 => ad rfl rfl q0 i1), trivial⟩ ?_; intro a36 s37 he hf hz hd1 h22; have hd := hd1.trans hd; have p5 := pa he p5 (hf 5 rfl)
  have f5 := sb_at f5 (hf 5 rfl); obtain ⟨h1, h5, h6, h7⟩ := va4 he hf h1 h5 h6 h7 rfl; have E := E.trans he; refine sq_blk [⟨8, _, []⟩] [0] hz rfl ⟨avs rfl rfl h22 rfl, trivial⟩ ?_; intro a38 s39 he hf hz hd1 h8; have ⟨hd, E⟩ := hdE hd1 hd E he; have p5 := pa he p5 (hf 5 rfl); have f5 := sb_at f5 (hf 5 rfl); obtain ⟨h1, h5, h6, h7⟩ := va4 he hf h1 h5 h6 h7 rfl; exact ⟨_, (by omega : m28 < m28 + 1), _, _, h, by omega, E, hz, hd, h1, h5, p5, (fun g hg => (f5 g hg)), h6, h7, h8⟩
 ·have h := ite_f hb h; refine wp_exit ?_; refine then_exit ?_; refine then_exit ?_; refine inBlock_hit ?_; refine wp_seq ?_; refine wp_sr ?_; refine sq_blk [⟨27, _, []⟩, ⟨28, _, [0]⟩] [1] hz rfl ⟨mvs rfl rfl h6 rfl, (fun a s he hf hz q0 => ls rfl rfl q0 (lit_i (k := .i64) (n := 8) (by decide))), trivial⟩ ?_; intro a40 s41 he hf hz hd1 h28; have ⟨hd, E⟩ := hdE hd1 hd E he; have p5 := pa he p5 (hf 5 rfl); have f5 := sb_at f5 (hf 5 rfl); obtain ⟨h1, h5, h6, h7⟩ := va4 he hf h1 h5 h6 h7 rfl; refine wp_condJ (I := fun a s => ∃ (m49 : Nat) (y48 : Int), ref02_Number.l1 m49 x0 x1 y48 = some r ∧ m49 ≤ m28 ∧ Ext s0 s ∧ a.tmps.size = 55 ∧ a.defers = [] ∧ (kI .u64).V s (a.get 1) x1 ∧ (kSl kY).V s (a.get 5) (([] : List UInt8) ++ x0) ∧ Sp s (a.get 5) 5 1 ∧ (∀ g, sb (a.get 5) = some g → s0.w.heap.size ≤ g) ∧ (kI .i64).V s (a.get 6) (wire_extra x1) ∧ (kI .u8).V s (a.get 7) y48) h28 (fun J hb => ?_) (fun J hb => ?_) ?_
  ·have h := ite_t hb h; refine wp_region ?_; obtain ⟨D42, h⟩ := need h; refine sq_blk [⟨29, _, []⟩, ⟨30, _, []⟩, ⟨31, _, []⟩, ⟨32, _, [2]⟩, ⟨33, _, [1, 3]⟩, ⟨34, _, [4]⟩, ⟨35, _, [0, 5]⟩] [6] hz rfl ⟨mvs rfl rfl h7 rfl, mvs rfl rfl h1 rfl, mvs rfl rfl h6 rfl, (fun a s he hf hz q2 => opw rfl (op_mul rfl (lit_i (k := .i64) (n := 8) (by decide)) q2)), (fun a s he hf hz q1 q3 => opw rfl (op_shr rfl q1 q3 D42)), (fun a s he hf hz q4 => cv rfl rfl u_89 u_5 q4), (fun a s he hf hz q0 q5 => opw rfl (op_or rfl q0 q5)), trivial⟩ ?_; intro a43 s44 he hf hz hd1 h35; have ⟨hd, E⟩ := hdE hd1 hd E he; have p5 := pa he p5 (hf 5 rfl); have f5 := sb_at f5 (hf 5 rfl); obtain ⟨h1, h5, h6⟩ := va3 he hf h1 h5 h6 rfl; refine sq_blk [⟨7, _, []⟩] [0] hz rfl ⟨avs rfl rfl h35 rfl, trivial⟩ ?_; intro a45 s46 he hf hz hd1 h7; have ⟨hd, E⟩ := hdE hd1 hd E he; have p5 := pa he p5 (hf 5 rfl); have f5 := sb_at f5 (hf 5 rfl); obtain ⟨h1, h5, h6⟩ := va3 he hf h1 h5 h6 rfl; exact J _ _ ⟨_, _, h, by omega, E, hz, hd, h1, h5, p5, (fun g hg => (f5 g hg)), h6, h7⟩
  ·have h := ite_f hb h; refine wp_skip ?_; exact J _ _ ⟨_, _, h, by omega, E, hz, hd, h1, h5, p5, (fun g hg => (f5 g hg)), h6, h7⟩
  rintro a50 s51 ⟨m49, y48, h, hkm49, E, hz, hd, h1, h5, p5, f5, h6, h7⟩
  obtain _ | m49 := m49
  ·cases h
  refine wp_sr ?_; refine sq_blk [⟨36, _, []⟩, ⟨37, _, []⟩, ⟨38, _, [1]⟩] [0, 2] hz rfl ⟨(fun a s he hf hz => opw rfl (op_move rfl (f := Fact.own _ _ _ _ _) (own_at h5 p5 f5 he (hf 5 rfl)))), mvs rfl rfl h7 rfl, (fun a s he hf hz q1 => opw rfl (op_lit_o (Q := fun g => s0.w.heap.size ≤ g) (d := kY) rfl lt_53 (zc := [.int .u8 0]) (by kernel_rfl) (ps := [(0, [(a.get 37)])]) ⟨rfl, V_cells1 (s := s) rfl (V_i2y q1), trivial⟩ rfl (by decide) (ys := ([UInt8.ofNat (y48).toNat] : List UInt8)) rfl (by decide) rfl (lit_rows1 (V_one rfl (V_i2y q1))))), trivial⟩ ?_; intro a53 s54 he hf hz hd1 k36 k38; have ⟨hd, E⟩ := hdE hd1 hd E he; obtain ⟨h1, h6⟩ := va2 he hf h1 h6 rfl; have h36 := k36.1; have p36 := k36.2.1; have f36 := k36.2.2; have h38 := k38.1; obtain ⟨D57, h⟩ := need h; refine sq_set hz rfl rfl rfl (op_append2 rfl el_53 h36 p36 h38 D57 rfl (fun v s56 he hv hp hq => fun a55 hd' hf hz hd1 => ?_)); have f39' : ∀ g, sb (a55.get 39) = some g → s0.w.heap.size ≤ g := by
   intro g hg; rw [hd'] at hg; rcases hq g hg with h | h
   ·have h1 := f36 g h; exact h1
   ·have h2 := E.size; exact (by omega)
  have hd := hd1.trans hd; obtain ⟨h1, h6⟩ := va2 he hf h1 h6 rfl; have E := Chg.chg E he (fun b e h => absurd h (Nat.not_lt.2 (f36 b e))); have h39 := V_eq hd' hv; have p39 := Sp_at hp (Chg.refl (fun _ => False) _) (fun _ _ hf => hf) hd'; have f39 := f39'; refine sq_blk [⟨5, _, []⟩] [0] hz rfl ⟨(fun a s he hf hz => opw rfl (op_assign rfl (f := Fact.own _ _ _ _ _) (own_at h39 p39 f39 he (hf 39 rfl)))), trivial⟩ ?_; intro a59 s60 he hf hz hd1 k5; have hd := hd1.trans hd; obtain ⟨h1, h6⟩ := va2 he hf h1 h6 rfl; have E := E.trans he; have h5 := k5.1; have p5 := k5.2.1; have f5 := k5.2.2; refine wp_seq ?_; refine wp_sr ?_; refine sq_blk [⟨40, _, []⟩, ⟨41, _, [0]⟩, ⟨9, _, [1]⟩] [2] hz rfl ⟨mvs rfl rfl h6 rfl, (fun a s he hf hz q0 => opw rfl (op_sub rfl q0 i1)), avq rfl rfl, trivial⟩ ?_; intro a61 s62 he hf hz hd1 h9; have ⟨hd, E⟩ := hdE hd1 hd E he; have p5 := pa he p5 (hf 5 rfl); have f5 := sb_at f5 (hf 5 rfl); obtain ⟨h1, h5⟩ := va2 he hf h1 h5 rfl; refine wp_block ?_
  refine wp_loop (k := m49) (fun m68 a s => ∃ (y65 : (List UInt8)) (y67 : Int), ref02_Number.l2 m68 x1 y65 y67 = some r ∧ m68 ≤ m49 ∧ Ext s0 s ∧ a.tmps.size = 55 ∧ a.defers = [] ∧ (kI .u64).V s (a.get 1) x1 ∧ (kSl kY).V s (a.get 5) y65 ∧ Sp s (a.get 5) 5 1 ∧ (∀ g, sb (a.get 5) = some g → s0.w.heap.size ≤ g) ∧ (kI .i64).V s (a.get 9) y67) ⟨_, _, h, Nat.le_refl _, E, hz, hd, h1, h5, p5, f5, h9⟩ ?_; rintro m68 a64 s63 ⟨y65, y67, h, hkm68, E, hz, hd, h1, h5, p5, f5, h9⟩; obtain _ | m68 := m68
  ·cases h
  refine wp_seq ?_; refine wp_sr ?_; refine sq_blk [⟨42, _, []⟩, ⟨43, _, [0]⟩] [1] hz rfl ⟨mvs rfl rfl h9 rfl, (fun a s he hf hz q0 => opw rfl (op_geq rfl q0 i0)), trivial⟩ ?_; intro a69 s70 he hf hz hd1 h43; have ⟨hd, E⟩ := hdE hd1 hd E he; have p5 := pa he p5 (hf 5 rfl); have f5 := sb_at f5 (hf 5 rfl); obtain ⟨h1, h5, h9⟩ := va3 he hf h1 h5 h9 rfl; refine wp_condV h43 (fun hb => ?_) (fun hb => ?_)
  ·have h := ite_t hb h; refine wp_skip ?_; refine wp_seq ?_; refine wp_block ?_; refine wp_region ?_; obtain ⟨D71, h⟩ := need h; refine sq_blk [⟨46, _, []⟩, ⟨47, _, []⟩, ⟨48, _, []⟩, ⟨49, _, [2]⟩, ⟨50, _, [1, 3]⟩, ⟨51, _, [4]⟩, ⟨52, _, [5]⟩] [0, 6] hz rfl ⟨(fun a s he hf hz => opw rfl (op_move rfl (f := Fact.own _ _ _ _ _) (own_at h5 p5 f5 he (hf 5 rfl)))), mvs rfl rfl h1 rfl, mvs rfl rfl h9 rfl, (fun a s he hf hz q2 => opw rfl (op_mul rfl (lit_i (k := .i64) (n := 8) (by decide)) q2)), (fun a s he hf hz q1 q3 => opw rfl (op_shr rfl q1 q3 D71)), (fun a s he hf hz q4 => cv rfl rfl u_89 u_5 q4), (fun a s he hf hz q5 => opw rfl (op_lit_o (Q := fun g => s0.w.heap.size ≤ g) (d := kY) rfl lt_53 (zc := [.int .u8 0]) (by kernel_rfl) (ps := [(0, [(a.get 51)])]) ⟨rfl, V_cells1 (s := s) rfl (V_i2y q5), trivial⟩ rfl (by decide) (ys := ([UInt8.ofNat (IntKind.wrap .u8 (sShr .u64 x1 (IntKind.wrap .i64 (8 * y67)))).toNat] : List UInt8)) rfl (by decide) rfl (lit_rows1 (V_one rfl (V_i2y q5))))), trivial⟩ ?_; intro a73 s74 he hf hz hd1 k46 k52; have ⟨hd, E⟩ := hdE hd1 hd E he; obtain ⟨h1, h9⟩ := va2 he hf h1 h9 rfl; have h46 := k46.1; have p46 := k46.2.1; have f46 := k46.2.2
   have h52 := k52.1; obtain ⟨D77, h⟩ := need h; refine sq_set hz rfl rfl rfl (op_append2 rfl el_53 h46 p46 h52 D77 rfl (fun v s76 he hv hp hq => fun a75 hd' hf hz hd1 => ?_)); have f53' : ∀ g, sb (a75.get 53) = some g → s0.w.heap.size ≤ g := by
    intro g hg; rw [hd'] at hg; rcases hq g hg with h | h
    ·have h1 := f46 g h; exact h1
    ·have h2 := E.size; exact (by omega)
   have hd := hd1.trans hd; obtain ⟨h1, h9⟩ := va2 he hf h1 h9 rfl; have E := Chg.chg E he (fun b e h => absurd h (Nat.not_lt.2 (f46 b e))); have h53 := V_eq hd' hv; have p53 := Sp_at hp (Chg.refl (fun _ => False) _) (fun _ _ hf => hf) hd'; have f53 := f53'; refine sq_blk [⟨5, _, []⟩] [0] hz rfl ⟨(fun a s he hf hz => opw rfl (op_assign rfl (f := Fact.own _ _ _ _ _) (own_at h53 p53 f53 he (hf 53 rfl)))), trivial⟩ ?_; intro a79 s80 he hf hz hd1 k5; have hd := hd1.trans hd; obtain ⟨h1, h9⟩ := va2 he hf h1 h9 rfl; have E := E.trans he; have h5 := k5.1; have p5 := k5.2.1; have f5 := k5.2.2; refine wp_region ?_; refine sq_blk [⟨44, _, []⟩, ⟨45, _, [0]⟩] [1] hz rfl ⟨mvs rfl rfl h9 rfl, (fun a s he hf hz q0 => opw rfl (op_sub rfl q0 i1)), trivial⟩ ?_; intro a81 s82 he hf hz hd1 h45; have ⟨hd, E⟩ := hdE hd1 hd E he; have p5 := pa he p5 (hf 5 rfl); have f5 := sb_at f5 (hf 5 rfl); obtain ⟨h1, h5⟩ := va2 he hf h1 h5 rfl; refine sq_blk [⟨9, _, []⟩] [0] hz rfl ⟨avs rfl rfl h45 rfl, trivial⟩ ?_; intro a83 s84 he hf hz hd1 h9; have hd := hd1.trans hd; have p5 := pa he p5 (hf 5 rfl); have f5 := sb_at f5 (hf 5 rfl)
   obtain ⟨h1, h5⟩ := va2 he hf h1 h5 rfl; have E := E.trans he; exact ⟨_, (by omega : m68 < m68 + 1), _, _, h, by omega, E, hz, hd, h1, h5, p5, (fun g hg => (f5 g hg)), h9⟩
  ·have h := ite_f hb h; refine wp_exit ?_; refine then_exit ?_; refine then_exit ?_; refine inBlock_hit ?_; refine wp_sr ?_; refine sq_blk [⟨54, _, []⟩, ⟨4, _, [0]⟩] [1] hz rfl ⟨(fun a s he hf hz => opw rfl (op_move rfl (f := Fact.own _ _ _ _ _) (own_at h5 p5 f5 he (hf 5 rfl)))), (fun a s he hf hz q0 => opw rfl (op_assign rfl (f := Fact.own _ _ _ _ _) q0)), trivial⟩ ?_; intro a85 s86 he hf hz hd1 k4; have ⟨hd, E⟩ := hdE hd1 hd E he; have h4 := k4.1; have p4 := k4.2.1; have f4 := k4.2.2; refine wp_ret ?_; cases h
   exact ⟨hd, _, results_tmp rfl _ _ _, E, ⟨h4, p4, fun g hg => (f4 g hg)⟩⟩
theorem ref02_Number.loop (n : Nat) (hn : n < 18446744073709551616) : ∀ (j : Nat) (acc : Str), j ≤ 8 → acc.length + j ≤ 140737488355328 → ∃ k, ref02_Number.l2 k (n : Int) acc ((j : Int) - 1) = some (acc ++ tailB n j) := by
 intro j
 induction j with
 | zero =>
  intro acc _ _
  refine ⟨1, ?_⟩
  simp only [ref02_Number.l2]
  simp [tailB]
 | succ j ih =>
  intro acc hj hl
  obtain ⟨k, hk⟩ := ih (acc ++ [UInt8.ofNat (n / 2 ^ (8 * j))]) (by omega) (by simp; omega)
  refine ⟨k + 1, ?_⟩
  have e0 : (((j + 1 : Nat) : Int) - 1) = (j : Int) := by omega
  rw [e0]
  have e3 : IntKind.wrap .i64 (8 * (j : Int)) = ((8 * j : Nat) : Int) := by rw [w64 (by omega) (by omega)]; omega
  have e4 : IntKind.wrap .i64 ((j : Int) - 1) = (j : Int) - 1 := w64 (by omega) (by omega)
  have h1 : (0 : Int) ≤ (j : Int) := by omega
  simp only [ref02_Number.l2, h1, decide_true, if_true, e3, s64 _ hn, u8_of, e4]
  rw [if_pos (by omega), if_pos (by simp; omega), hk]
  simp [tailB]
theorem ref02_Number.nice (x0 : Str) (x1 : Int) (b0 : (kSl kY).bd x0) (b1 : (kI .u64).bd x1) (hl : x0.length + 9 ≤ 140737488355328) : ∃ k, ref02_Number.f k x0 x1 = some (number x0 x1) := by
 obtain ⟨h0, h1⟩ := inKu64 b1
 obtain ⟨n, rfl⟩ := Int.eq_ofNat_of_zero_le h0
 have hn : n < 18446744073709551616 := by omega
 have he := ext_le8 n
 have ee : wire_extra (n : Int) = (ext n : Int) := by rw [wire_extra_eq (x := (n : Int)) (by omega) (by omega), Int.toNat_natCast]
 have e1 : IntKind.wrap .i64 ((ext n : Int) - 1) = (ext n : Int) - 1 := w64 (by omega) (by omega)
 have e2 : IntKind.wrap .i64 (8 * (ext n : Int)) = ((8 * ext n : Nat) : Int) := by rw [w64 (by omega) (by omega)]; omega
 have fin : ∀ y : Nat, y < 256 → UInt8.ofNat y = UInt8.ofNat (firstN n) → ∃ k, ref02_Number.l1 k x0 (n : Int) (y : Int) = some (number x0 (n : Int)) := fun y hy hf => by
  obtain ⟨k, hk⟩ := ref02_Number.loop n hn (ext n) (([] ++ x0) ++ [UInt8.ofNat (firstN n)]) he (by simp; omega)
  refine ⟨k + 1, ?_⟩
  simp only [ref02_Number.l1, Int.toNat_natCast, hf, ee, e1]
  rw [if_pos (show ((([] : Str) ++ x0).length + [UInt8.ofNat (firstN n)].length) * 1 ≤ 140737488355328 by simp; omega)]
  refine hk.trans ?_
  simp [number, numB]
 have key : ∀ y, y ≤ ext n → ∃ k, ref02_Number.l0 k x0 (n : Int) ((oneN y : Nat) : Int) (y : Int) = some (number x0 (n : Int)) := by
  refine rounds (ext n) ?_ fun y hy ⟨k, hk⟩ => ?_
  ·by_cases h8 : ext n < 8
   ·have h8' : (ext n : Int) < 8 := by omega
    have hp : n / 2 ^ (8 * ext n) % 256 < 256 := Nat.mod_lt _ (by omega)
    have eo : bOr .u8 ((oneN (ext n) : Nat) : Int) ((n / 2 ^ (8 * ext n) % 256 : Nat) : Int) = ((firstN n : Nat) : Int) := by
     rw [bOr_nat rfl (one_lt _) hp]; simp only [firstN, if_pos h8]
    have hfl : firstN n < 256 := by
     have : (oneN (ext n) ||| (n / 2 ^ (8 * ext n) % 256)) < 2 ^ 8 := Nat.or_lt_two_pow (one_lt _) hp
     simp only [firstN, if_pos h8]; exact this
    obtain ⟨k, hk⟩ := fin _ hfl rfl
    refine ⟨k + 1, ?_⟩
    simp only [ref02_Number.l0, ee, Int.lt_irrefl, decide_false, Bool.false_eq_true, if_false, h8', decide_true, if_true, e2, s64 _ hn, wrap_u8, eo]
    rw [if_pos (by omega)]
    exact hk
   ·have h8' : ¬ (ext n : Int) < 8 := by omega
    have : ext n = 8 := by omega
    obtain ⟨k, hk⟩ := fin (oneN (ext n)) (one_lt _) (by rw [this]; simp [firstN, this, oneN])
    refine ⟨k + 1, ?_⟩
    simp only [ref02_Number.l0, ee, Int.lt_irrefl, decide_false, Bool.false_eq_true, if_false, h8']
    exact hk
  ·push_cast at hk
   refine ⟨k + 1, ?_⟩
   have h1 : (y : Int) < (ext n : Int) := by omega
   have e3 : sShr .u8 128 (y : Int) = ((128 / 2 ^ y : Nat) : Int) := sShr_nat (k := .u8) 128 y (by decide)
   have hq : 128 / 2 ^ y < 2 ^ 8 := Nat.lt_of_le_of_lt (Nat.div_le_self _ _) (by decide)
   simp only [ref02_Number.l0, ee, h1, decide_true, if_true, e3]
   rw [if_pos (by omega), bOr_nat rfl (one_lt _) hq, one_or y (by omega), w64s (by omega)]
   exact hk
 obtain ⟨k, hk⟩ := key 0 (Nat.zero_le _)
 refine ⟨k, ?_⟩
 unfold ref02_Number.f
 rw [w64 (n := (x0.length : Int) + 9) (by omega) (by omega), if_pos (by omega), if_pos (by simp; omega)]
 exact hk
theorem ref02_Number.ct {s0 : St} {v0 : Value} {x0 : (List UInt8)} {v1 : Value} {x1 : Int} (k0 : (kSl kY).V s0 v0 x0) (k1 : (kI .u64).V s0 v1 x1) (hpre : x0.length + 9 ≤ 140737488355328) : Cl Try.prog 75 #[v0, v1] s0 (Okf s0 (Fact.own (kSl kY) 5 1 (fun g => s0.w.heap.size ≤ g) (number x0 x1))) := by
 obtain ⟨k, h⟩ := ref02_Number.nice x0 x1 (Kn.V_bd k0) (Kn.V_bd k1) hpre
 exact ref02_Number.ok k0 k1 h
end
section
attribute [local irreducible] Kn.V PtrV
def flat (x : List Str) : Str := x.flatten
end
section
attribute [local irreducible] Kn.V PtrV
def crcS (c : Int) : Int := if decide (bAnd .u32 c 1 = 1) = true then bXor .u32 (sShr .u32 c 1) 3988292384 else sShr .u32 c 1
def crcN : Nat → Int → Int
 | 0, c => c
 | j + 1, c => crcN j (crcS c)
def crcB (c : Int) (b : UInt8) : Int := crcN 8 (bXor .u32 c (IntKind.wrap .u32 (b.toNat : Int)))
def crcL (c : Int) (x : Str) : Int := x.foldl crcB c
theorem and_one (c : Int) : bAnd .u32 c 1 = 0 ∨ bAnd .u32 c 1 = 1 := by
 unfold bAnd
 rw [BitVec.toNat_and, show (BitVec.ofInt IntKind.u32.bits 1).toNat = 1 from rfl, Nat.and_one_is_mod, wrap_u32]
 omega
theorem crcL_cons (c : Int) (b : UInt8) (l : Str) : crcL c (b :: l) = crcL (crcB c b) l := rfl
theorem crcL_append (c : Int) (x y : Str) : crcL c (x ++ y) = crcL (crcL c x) y := List.foldl_append
def crcW (c : Int) (x : List Str) : Int := crcL c (flat x)
mutual
def wire_add.l2 : Nat → Int → (List (List UInt8)) → Int → Int → Int → Int → Int → Option (Int)
 | 0, _, _, _, _, _, _, _ => none
 | m37 + 1, x0, x1, y7, y8, y20, y35, y36 => (if decide (0 < y36) = true then (if decide ((bAnd .u32 y35 1) = 0) = true then (wire_add.l2 m37 x0 x1 y7 y8 y20 (sShr .u32 y35 1) (IntKind.wrap .i64 (y36 - 1))) else (wire_add.l2 m37 x0 x1 y7 y8 y20 (bXor .u32 (sShr .u32 y35 1) 3988292384) (IntKind.wrap .i64 (y36 - 1)))) else (wire_add.l1 m37 x0 x1 y7 y8 y35 (IntKind.wrap .i64 (y20 + 1))))
def wire_add.l1 : Nat → Int → (List (List UInt8)) → Int → Int → Int → Int → Option (Int)
 | 0, _, _, _, _, _, _ => none
 | m21 + 1, x0, x1, y7, y8, y19, y20 => (if decide (y20 < ((List.getD x1 (y8).toNat default).length : Int)) = true then (if (0 ≤ y20 ∧ y20 < ((List.getD x1 (y8).toNat default).length : Int)) then (wire_add.l2 m21 x0 x1 y7 y8 y20 (bXor .u32 y19 (IntKind.wrap .u32 ((List.getD (List.getD x1 (y8).toNat default) (y20).toNat default).toNat : Int))) 8) else none) else (wire_add.l0 m21 x0 x1 y19 (IntKind.wrap .i64 (y8 + 1))))
def wire_add.l0 : Nat → Int → (List (List UInt8)) → Int → Int → Option (Int)
 | 0, _, _, _, _ => none
 | m9 + 1, x0, x1, y7, y8 => (if decide (y8 < (x1.length : Int)) = true then (if (0 ≤ y8 ∧ y8 < (x1.length : Int)) then (wire_add.l1 m9 x0 x1 y7 y8 y7 0) else none) else (some y7))
end
def wire_add.f (k : Nat) (x0 : Int) (x1 : (List (List UInt8))) : Option (Int) := (wire_add.l0 k x0 x1 x0 0)
theorem wire_add.ok {s0 : St} {v0 : Value} {x0 : Int} {v1 : Value} {x1 : (List (List UInt8))} {k : Nat} {r : Int} (k0 : (kI .u32).V s0 v0 x0) (k1 : (kSl (kSl kY)).V s0 v1 x1) (h : wire_add.f k x0 x1 = some r) : Cl Try.prog 132 #[v0, v1] s0 (Okf s0 (Fact.v (kI .u32) r)) := by
 unfold wire_add.f at h
 refine cl_of_wp Try.func132 rfl en_132 fun a hz hd hp => ?_; have hz : a.tmps.size = 41 := hz; have E := Chg.refl (fun _ => False) s0; have h0 := V_at k0 E (hp 0 v0 rfl); have h1 := V_at k1 E (hp 1 v1 rfl); refine wp_sr ?_; refine sq_blk [⟨4, _, []⟩] [] hz rfl ⟨(fun a s he hf hz => av rfl rfl (lit_i (k := .u32) (n := 0) (by decide))), trivial⟩ ?_; intro a1 s2 he hf hz hd1; have ⟨hd, E⟩ := hdE hd1 hd E he; obtain ⟨h0, h1⟩ := va2 he hf h0 h1 rfl; refine wp_seq ?_; refine wp_sr ?_; refine sq_blk [⟨10, _, []⟩, ⟨11, _, [0]⟩, ⟨12, _, []⟩] [0, 1, 2] hz rfl ⟨mvs rfl rfl h1 rfl, (fun a s he hf hz q0 => le_ rfl rfl u_165 q0), (fun a s he hf hz => mv rfl rfl i0), trivial⟩ ?_; intro a3 s4 he hf hz hd1 h10 h11 h12; have ⟨hd, E⟩ := hdE hd1 hd E he; have h0 := V_at h0 he (hf 0 rfl); refine wp_block ?_
 refine wp_loop (k := k) (fun m9 a s => ∃ (y7 : Int) (y8 : Int), wire_add.l0 m9 x0 x1 y7 y8 = some r ∧ m9 ≤ k ∧ Ext s0 s ∧ a.tmps.size = 41 ∧ a.defers = [] ∧ (kI .u32).V s (a.get 0) y7 ∧ (kSl (kSl kY)).V s (a.get 10) x1 ∧ (kI .i64).V s (a.get 11) (x1.length : Int) ∧ (kI .i64).V s (a.get 12) y8) ⟨_, _, h, Nat.le_refl _, E, hz, hd, h0, h10, h11, h12⟩ ?_; rintro m9 a6 s5 ⟨y7, y8, h, hkm9, E, hz, hd, h0, h10, h11, h12⟩; obtain _ | m9 := m9
 ·cases h
 refine wp_sr ?_; refine sq_blk [⟨13, _, []⟩] [0] hz rfl ⟨(fun a s he hf hz => ls rfl rfl (V_at h12 he (hf 12 rfl)) (V_at h11 he (hf 11 rfl))), trivial⟩ ?_; intro a10 s11 he hf hz hd1 h13; have ⟨hd, E⟩ := hdE hd1 hd E he; obtain ⟨h0, h10, h11, h12⟩ := va4 he hf h0 h10 h11 h12 rfl; refine wp_seq ?_; refine wp_condV h13 (fun hb => ?_) (fun hb => ?_)
 ·have h := ite_t hb h; refine wp_skip ?_; refine wp_seq ?_; refine wp_block ?_; refine wp_sr ?_; obtain ⟨D12, h⟩ := need h; refine sq_blk [⟨14, _, []⟩, ⟨15, _, [0]⟩, ⟨6, _, [1]⟩] [2] hz rfl ⟨(fun a s he hf hz => ia rfl rfl sl_165 (V_at h10 he (hf 10 rfl)) (V_at h12 he (hf 12 rfl)) D12.1 D12.2), (fun a s he hf hz q0 => lp rfl rfl ty_53 (by decide) q0), avq rfl rfl, trivial⟩ ?_; intro a13 s14 he hf hz hd1 h6; have ⟨hd, E⟩ := hdE hd1 hd E he; obtain ⟨h0, h10, h11, h12⟩ := va4 he hf h0 h10 h11 h12 rfl; refine wp_sr ?_; refine sq_blk [⟨16, _, []⟩, ⟨17, _, [0]⟩, ⟨18, _, []⟩] [0, 1, 2] hz rfl ⟨mvs rfl rfl h6 rfl, (fun a s he hf hz q0 => le_ rfl rfl u_53 q0), (fun a s he hf hz => mv rfl rfl i0), trivial⟩ ?_; intro a15 s16 he hf hz hd1 h16 h17 h18; have ⟨hd, E⟩ := hdE hd1 hd E he; obtain ⟨h0, h10, h11, h12⟩ := va4 he hf h0 h10 h11 h12 rfl; refine wp_block ?_
  refine wp_loop (k := m9) (fun m21 a s => ∃ (y19 : Int) (y20 : Int), wire_add.l1 m21 x0 x1 y7 y8 y19 y20 = some r ∧ m21 ≤ m9 ∧ Ext s0 s ∧ a.tmps.size = 41 ∧ a.defers = [] ∧ (kI .u32).V s (a.get 0) y19 ∧ (kSl (kSl kY)).V s (a.get 10) x1 ∧ (kI .i64).V s (a.get 11) (x1.length : Int) ∧ (kI .i64).V s (a.get 12) y8 ∧ (kSl kY).V s (a.get 16) (List.getD x1 (y8).toNat default) ∧ (kI .i64).V s (a.get 17) ((List.getD x1 (y8).toNat default).length : Int) ∧ (kI .i64).V s (a.get 18) y20) ⟨_, _, h, Nat.le_refl _, E, hz, hd, h0, h10, h11, h12, h16, h17, h18⟩ ?_; rintro m21 a18 s17 ⟨y19, y20, h, hkm21, E, hz, hd, h0, h10, h11, h12, h16, h17, h18⟩; obtain _ | m21 := m21
  ·cases h
  refine wp_sr ?_; refine sq_blk [⟨19, _, []⟩] [0] hz rfl ⟨(fun a s he hf hz => ls rfl rfl (V_at h18 he (hf 18 rfl)) (V_at h17 he (hf 17 rfl))), trivial⟩ ?_; intro a22 s23 he hf hz hd1 h19; have ⟨hd, E⟩ := hdE hd1 hd E he; obtain ⟨h0, h10, h11, h12, h16, h17, h18⟩ := va7 he hf h0 h10 h11 h12 h16 h17 h18 rfl; refine wp_seq ?_; refine wp_condV h19 (fun hb => ?_) (fun hb => ?_)
  ·have h := ite_t hb h; refine wp_skip ?_; refine wp_seq ?_; refine wp_block ?_; refine wp_sr ?_; obtain ⟨D24, h⟩ := need h; refine sq_blk [⟨20, _, []⟩, ⟨21, _, [0]⟩, ⟨8, _, [1]⟩] [2] hz rfl ⟨(fun a s he hf hz => ia rfl rfl sl_53 (V_at h16 he (hf 16 rfl)) (V_at h18 he (hf 18 rfl)) D24.1 D24.2), (fun a s he hf hz q0 => lp rfl rfl ty_5 (by decide) q0), avq rfl rfl, trivial⟩ ?_; intro a25 s26 he hf hz hd1 h8; have ⟨hd, E⟩ := hdE hd1 hd E he; obtain ⟨h0, h10, h11, h12, h16, h17, h18⟩ := va7 he hf h0 h10 h11 h12 h16 h17 h18 rfl; refine wp_scope ?_; refine wp_sr ?_; refine sq_blk [⟨22, _, []⟩, ⟨23, _, []⟩, ⟨24, _, [1]⟩, ⟨25, _, [0, 2]⟩] [3] hz rfl ⟨mvs rfl rfl h0 rfl, mvs rfl rfl h8 rfl, (fun a s he hf hz q1 => cv rfl rfl u_5 u_151 (V_y2i q1)), (fun a s he hf hz q0 q2 => opw rfl (op_xor rfl q0 q2)), trivial⟩ ?_; intro a27 s28 he hf hz hd1 h25; have ⟨hd, E⟩ := hdE hd1 hd E he; obtain ⟨h10, h11, h12, h16, h17, h18⟩ := va6 he hf h10 h11 h12 h16 h17 h18 rfl; refine sq_blk [⟨0, _, []⟩] [0] hz rfl ⟨avs rfl rfl h25 rfl, trivial⟩ ?_; intro a29 s30 he hf hz hd1 h0; have hd := hd1.trans hd
   obtain ⟨h10, h11, h12, h16, h17, h18⟩ := va6 he hf h10 h11 h12 h16 h17 h18 rfl; have E := E.trans he; refine wp_sr ?_; refine sq_blk [⟨9, _, []⟩] [0] hz rfl ⟨(fun a s he hf hz => av rfl rfl (lit_i (k := .i64) (n := 8) (by decide))), trivial⟩ ?_; intro a31 s32 he hf hz hd1 h9; have ⟨hd, E⟩ := hdE hd1 hd E he; obtain ⟨h0, h10, h11, h12, h16, h17, h18⟩ := va7 he hf h0 h10 h11 h12 h16 h17 h18 rfl; refine wp_seq ?_; refine wp_label ?_; refine wp_block ?_; refine wp_loop (k := m21) (fun m37 a s => ∃ (y35 : Int) (y36 : Int), wire_add.l2 m37 x0 x1 y7 y8 y20 y35 y36 = some r ∧ m37 ≤ m21 ∧ Ext s0 s ∧ a.tmps.size = 41 ∧ a.defers = [] ∧ (kI .u32).V s (a.get 0) y35 ∧ (kI .i64).V s (a.get 9) y36 ∧ (kSl (kSl kY)).V s (a.get 10) x1 ∧ (kI .i64).V s (a.get 11) (x1.length : Int) ∧ (kI .i64).V s (a.get 12) y8 ∧ (kSl kY).V s (a.get 16) (List.getD x1 (y8).toNat default) ∧ (kI .i64).V s (a.get 17) ((List.getD x1 (y8).toNat default).length : Int) ∧ (kI .i64).V s (a.get 18) y20) ⟨_, _, h, Nat.le_refl _, E, hz, hd, h0, h9, h10, h11, h12, h16, h17, h18⟩ ?_; rintro m37 a34 s33 ⟨y35, y36, h, hkm37, E, hz, hd, h0, h9, h10, h11, h12, h16, h17, h18⟩
   obtain _ | m37 := m37
   ·cases h
   refine wp_seq ?_; refine wp_sr ?_; refine sq_blk [⟨26, _, []⟩, ⟨27, _, [0]⟩] [1] hz rfl ⟨mvs rfl rfl h9 rfl, (fun a s he hf hz q0 => gt_ rfl rfl q0 i0), trivial⟩ ?_; intro a38 s39 he hf hz hd1 h27; have ⟨hd, E⟩ := hdE hd1 hd E he; obtain ⟨h0, h9, h10, h11, h12, h16, h17, h18⟩ := va8 he hf h0 h9 h10 h11 h12 h16 h17 h18 rfl; refine wp_condV h27 (fun hb => ?_) (fun hb => ?_)
   ·have h := ite_t hb h; refine wp_skip ?_; refine wp_block ?_; refine wp_sr ?_; refine sq_blk [⟨28, _, []⟩, ⟨29, _, [0]⟩] [1] hz rfl ⟨mvs rfl rfl h9 rfl, (fun a s he hf hz q0 => opw rfl (op_sub rfl q0 i1)), trivial⟩ ?_; intro a40 s41 he hf hz hd1 h29; have ⟨hd, E⟩ := hdE hd1 hd E he; obtain ⟨h0, h10, h11, h12, h16, h17, h18⟩ := va7 he hf h0 h10 h11 h12 h16 h17 h18 rfl; refine sq_blk [⟨9, _, []⟩] [0] hz rfl ⟨avs rfl rfl h29 rfl, trivial⟩ ?_; intro a42 s43 he hf hz hd1 h9; have ⟨hd, E⟩ := hdE hd1 hd E he; obtain ⟨h0, h10, h11, h12, h16, h17, h18⟩ := va7 he hf h0 h10 h11 h12 h16 h17 h18 rfl; refine wp_seq ?_; refine wp_sr ?_; refine sq_blk [⟨30, _, []⟩, ⟨31, _, [0]⟩, ⟨32, _, [1]⟩] [2] hz rfl ⟨mvs rfl rfl h0 rfl, (fun a s he hf hz q0 => opw rfl (op_and rfl q0 (lit_i (k := .u32) (n := 1) (by decide)))), (fun a s he hf hz q1 => eq_ rfl rfl q1 (lit_i (k := .u32) (n := 0) (by decide))), trivial⟩ ?_; intro a44 s45 he hf hz hd1 h32; have hd := hd1.trans hd; obtain ⟨h0, h9, h10, h11, h12, h16, h17, h18⟩ := va8 he hf h0 h9 h10 h11 h12 h16 h17 h18 rfl
    have E := E.trans he; refine wp_condV h32 (fun hb => ?_) (fun hb => ?_)
    ·have h := ite_t hb h; refine wp_sr ?_; refine sq_blk [⟨33, _, []⟩, ⟨34, _, [0]⟩] [1] hz rfl ⟨mvs rfl rfl h0 rfl, (fun a s he hf hz q0 => opw rfl (op_shr rfl q0 (lit_i (k := .u64) (n := 1) (by decide)) (by decide))), trivial⟩ ?_; intro a46 s47 he hf hz hd1 h34; have ⟨hd, E⟩ := hdE hd1 hd E he; obtain ⟨h9, h10, h11, h12, h16, h17, h18⟩ := va7 he hf h9 h10 h11 h12 h16 h17 h18 rfl; refine sq_blk [⟨0, _, []⟩] [0] hz rfl ⟨avs rfl rfl h34 rfl, trivial⟩ ?_; intro a48 s49 he hf hz hd1 h0; have ⟨hd, E⟩ := hdE hd1 hd E he; obtain ⟨h9, h10, h11, h12, h16, h17, h18⟩ := va7 he hf h9 h10 h11 h12 h16 h17 h18 rfl; refine wp_exit ?_; refine then_exit ?_; refine inBlock_hit ?_; exact ⟨_, (by omega : m37 < m37 + 1), _, _, h, by omega, E, hz, hd, h0, h9, h10, h11, h12, h16, h17, h18⟩
    ·have h := ite_f hb h; refine wp_skip ?_; refine wp_region ?_; refine sq_blk [⟨35, _, []⟩, ⟨36, _, [0]⟩, ⟨37, _, [1]⟩] [2] hz rfl ⟨mvs rfl rfl h0 rfl, (fun a s he hf hz q0 => opw rfl (op_shr rfl q0 (lit_i (k := .u64) (n := 1) (by decide)) (by decide))), (fun a s he hf hz q1 => opw rfl (op_xor rfl q1 (lit_i (k := .u32) (n := 3988292384) (by decide)))), trivial⟩ ?_; intro a50 s51 he hf hz hd1 h37; have ⟨hd, E⟩ := hdE hd1 hd E he; obtain ⟨h9, h10, h11, h12, h16, h17, h18⟩ := va7 he hf h9 h10 h11 h12 h16 h17 h18 rfl; refine sq_blk [⟨0, _, []⟩] [0] hz rfl ⟨avs rfl rfl h37 rfl, trivial⟩ ?_; intro a52 s53 he hf hz hd1 h0; have ⟨hd, E⟩ := hdE hd1 hd E he; obtain ⟨h9, h10, h11, h12, h16, h17, h18⟩ := va7 he hf h9 h10 h11 h12 h16 h17 h18 rfl; exact ⟨_, (by omega : m37 < m37 + 1), _, _, h, by omega, E, hz, hd, h0, h9, h10, h11, h12, h16, h17, h18⟩
   ·have h := ite_f hb h; refine wp_exit ?_; refine then_exit ?_; refine then_exit ?_; refine inBlock_hit ?_; refine wp_region ?_; refine sq_blk [⟨38, _, []⟩] [0] hz rfl ⟨(fun a s he hf hz => ad rfl rfl (V_at h18 he (hf 18 rfl)) i1), trivial⟩ ?_; intro a54 s55 he hf hz hd1 h38; have ⟨hd, E⟩ := hdE hd1 hd E he; obtain ⟨h0, h10, h11, h12, h16, h17⟩ := va6 he hf h0 h10 h11 h12 h16 h17 rfl; refine sq_blk [⟨18, _, []⟩] [0] hz rfl ⟨mvs rfl rfl h38 rfl, trivial⟩ ?_; intro a56 s57 he hf hz hd1 h18; have ⟨hd, E⟩ := hdE hd1 hd E he; obtain ⟨h0, h10, h11, h12, h16, h17⟩ := va6 he hf h0 h10 h11 h12 h16 h17 rfl; exact ⟨_, (by omega : m37 < m21 + 1), _, _, h, by omega, E, hz, hd, h0, h10, h11, h12, h16, h17, h18⟩
  ·have h := ite_f hb h; refine wp_exit ?_; refine then_exit ?_; refine then_exit ?_; refine inBlock_hit ?_; refine wp_region ?_; refine sq_blk [⟨39, _, []⟩] [0] hz rfl ⟨(fun a s he hf hz => ad rfl rfl (V_at h12 he (hf 12 rfl)) i1), trivial⟩ ?_; intro a58 s59 he hf hz hd1 h39; have ⟨hd, E⟩ := hdE hd1 hd E he; obtain ⟨h0, h10, h11⟩ := va3 he hf h0 h10 h11 rfl; refine sq_blk [⟨12, _, []⟩] [0] hz rfl ⟨mvs rfl rfl h39 rfl, trivial⟩ ?_; intro a60 s61 he hf hz hd1 h12; have ⟨hd, E⟩ := hdE hd1 hd E he; obtain ⟨h0, h10, h11⟩ := va3 he hf h0 h10 h11 rfl; exact ⟨_, (by omega : m21 < m9 + 1), _, _, h, by omega, E, hz, hd, h0, h10, h11, h12⟩
 ·have h := ite_f hb h; refine wp_exit ?_; refine then_exit ?_; refine then_exit ?_; refine inBlock_hit ?_; refine wp_sr ?_; refine sq_blk [⟨40, _, []⟩, ⟨4, _, [0]⟩] [1] hz rfl ⟨mvs rfl rfl h0 rfl, avq rfl rfl, trivial⟩ ?_; intro a62 s63 he hf hz hd1 h4; have ⟨hd, E⟩ := hdE hd1 hd E he; refine wp_ret ?_; cases h
  exact ⟨hd, _, results_tmp rfl _ _ _, E, h4⟩
theorem wire_add.e2 {x0 y7 y8 : Int} {x1 : List Str} {r : Int} {y20 : Nat} (hy : y20 < 9223372036854775807) : ∀ (j : Nat), j ≤ 8 → ∀ c : Int, (∃ k, wire_add.l1 k x0 x1 y7 y8 (crcN j c) ((y20 : Int) + 1) = some r) → ∃ k, wire_add.l2 k x0 x1 y7 y8 (y20 : Int) c (j : Int) = some r := by
 intro j
 induction j with
 | zero =>
  rintro _ c ⟨k, hk⟩
  refine ⟨k + 1, ?_⟩
  simp only [wire_add.l2]
  rw [w64s hy]
  simpa [crcN] using hk
 | succ j ih =>
  intro hj c hk
  obtain ⟨k, hk⟩ := ih (by omega) (crcS c) hk
  refine ⟨k + 1, ?_⟩
  have e : IntKind.wrap .i64 (((j + 1 : Nat) : Int) - 1) = (j : Int) := by rw [w64 (by omega) (by omega)]; omega
  have h0 : (0 : Int) < ((j + 1 : Nat) : Int) := by omega
  simp only [wire_add.l2, e, h0, decide_true, if_true]
  rcases and_one c with h | h
  ·simp only [crcS, h, show ((0 : Int) = 1) = False from by simp, decide_false, Bool.false_eq_true, if_false] at hk
   simp only [h, decide_true, if_true]; exact hk
  ·simp only [crcS, h, decide_true, if_true] at hk
   simp only [h, show ((1 : Int) = 0) = False from by simp, decide_false, Bool.false_eq_true, if_false]; exact hk
theorem wire_add.e1 {x0 y7 : Int} {x1 : List Str} {r : Int} {y8 : Nat} {part : Str} (hp : x1.getD y8 default = part) (hl : part.length ≤ maxLen) (h8 : y8 < 9223372036854775807) : ∀ y, y ≤ part.length → ∀ c : Int, (∃ k, wire_add.l0 k x0 x1 (crcL c (part.drop y)) ((y8 : Int) + 1) = some r) → ∃ k, wire_add.l1 k x0 x1 y7 (y8 : Int) c (y : Int) = some r := by
 have hm := maxLen_lt
 refine rounds part.length (fun c ⟨k, hk⟩ => ⟨k + 1, ?_⟩) fun y hy ih c hk => ?_
 ·simp only [wire_add.l1, Int.toNat_natCast, hp]
  rw [w64s h8]
  simpa [crcL] using hk
 ·rw [drop_at default hy, crcL_cons] at hk
  obtain ⟨k, hk⟩ := wire_add.e2 (x0 := x0) (y7 := y7) (x1 := x1) (r := r) (y8 := (y8 : Int)) (y20 := y) (by omega) 8 (Nat.le_refl _) (bXor .u32 c (IntKind.wrap .u32 ((part.getD y default).toNat : Int))) (by
   obtain ⟨k, hk⟩ := ih (crcB c (part.getD y default)) hk
   push_cast at hk
   exact ⟨k, hk⟩)
  refine ⟨k + 1, ?_⟩
  have hr : (0 : Int) ≤ y ∧ (y : Int) < part.length := ⟨by omega, by omega⟩
  simp only [wire_add.l1, Int.toNat_natCast, hp, hr, and_self, decide_true, if_true]
  exact hk
theorem wire_add.nice (x0 : Int) (x1 : List Str) (b0 : (kI .u32).bd x0) (b1 : (kSl (kSl kY)).bd x1) : ∃ k, wire_add.f k x0 x1 = some (crcW x0 x1) := by
 have hb : x1.length ≤ maxLen := b1.1
 have hm := maxLen_lt
 have : ∀ y, y ≤ x1.length → ∀ c : Int, ∃ k, wire_add.l0 k x0 x1 c (y : Int) = some (crcW c (x1.drop y)) := by
  refine rounds x1.length (fun c => ⟨1, ?_⟩) fun y hy ih c => ?_
  ·simp only [wire_add.l0, List.drop_length]; simp [crcW, flat, crcL]
  ·have hpl : (x1.getD y default).length ≤ maxLen := by
    rw [getD_at hy]; exact (b1.2 _ (List.getElem_mem hy)).1
   obtain ⟨k, hk⟩ := wire_add.e1 (x0 := x0) (y7 := c) (x1 := x1) (y8 := y) rfl hpl (by omega) 0 (Nat.zero_le _) c (by
    obtain ⟨k, hk⟩ := ih (crcL c (x1.getD y default))
    push_cast at hk
    exact ⟨k, hk⟩)
   refine ⟨k + 1, ?_⟩
   have hr : (0 : Int) ≤ y ∧ (y : Int) < x1.length := ⟨by omega, by omega⟩
   simp only [wire_add.l0, hr, and_self, decide_true, if_true]
   refine hk.trans ?_
   rw [drop_at (xs := x1) default hy]
   simp [crcW, flat, crcL_append]
 obtain ⟨k, hk⟩ := this 0 (Nat.zero_le _) x0
 exact ⟨k, by unfold wire_add.f; exact hk⟩
theorem wire_add.ct {s0 : St} {v0 : Value} {x0 : Int} {v1 : Value} {x1 : (List (List UInt8))} (k0 : (kI .u32).V s0 v0 x0) (k1 : (kSl (kSl kY)).V s0 v1 x1) : Cl Try.prog 132 #[v0, v1] s0 (Okf s0 (Fact.v (kI .u32) (crcW x0 x1))) := by
 obtain ⟨k, h⟩ := wire_add.nice x0 x1 (Kn.V_bd k0) (Kn.V_bd k1)
 exact wire_add.ok k0 k1 h
mutual
def ref02_Sum.l1 : Nat → (List UInt8) → Int → Int → Int → Option (Int)
 | 0, _, _, _, _ => none
 | m25 + 1, x0, y10, y23, y24 => (if decide (y24 < 8) = true then (if decide ((bAnd .u32 y23 1) = 1) = true then (ref02_Sum.l1 m25 x0 y10 (bXor .u32 (sShr .u32 y23 1) 3988292384) (IntKind.wrap .i64 (y24 + 1))) else (ref02_Sum.l1 m25 x0 y10 (sShr .u32 y23 1) (IntKind.wrap .i64 (y24 + 1)))) else (ref02_Sum.l0 m25 x0 y23 (IntKind.wrap .i64 (y10 + 1))))
def ref02_Sum.l0 : Nat → (List UInt8) → Int → Int → Option (Int)
 | 0, _, _, _ => none
 | m11 + 1, x0, y9, y10 => (if decide (y10 < (x0.length : Int)) = true then (if (0 ≤ y10 ∧ y10 < (x0.length : Int)) then (ref02_Sum.l1 m11 x0 y10 (bXor .u32 y9 (IntKind.wrap .u32 ((List.getD x0 (y10).toNat default).toNat : Int))) 0) else none) else (some (bXor .u32 y9 4294967295)))
end
def ref02_Sum.f (k : Nat) (x0 : (List UInt8)) : Option (Int) := (ref02_Sum.l0 k x0 4294967295 0)
theorem ref02_Sum.ok {s0 : St} {v0 : Value} {x0 : (List UInt8)} {k : Nat} {r : Int} (k0 : (kSl kY).V s0 v0 x0) (h : ref02_Sum.f k x0 = some r) : Cl Try.prog 117 #[v0] s0 (Okf s0 (Fact.v (kI .u32) r)) := by
 unfold ref02_Sum.f at h
 refine cl_of_wp Try.func117 rfl en_117 fun a hz hd hp => ?_; have hz : a.tmps.size = 33 := hz; have E := Chg.refl (fun _ => False) s0; have h0 := V_at k0 E (hp 0 v0 rfl); refine wp_sr ?_; refine sq_blk [⟨2, _, []⟩] [] hz rfl ⟨(fun a s he hf hz => av rfl rfl (lit_i (k := .u32) (n := 0) (by decide))), trivial⟩ ?_; intro a1 s2 he hf hz hd1; have ⟨hd, E⟩ := hdE hd1 hd E he; have h0 := V_at h0 he (hf 0 rfl); refine wp_sr ?_; refine sq_blk [⟨3, _, []⟩] [0] hz rfl ⟨(fun a s he hf hz => av rfl rfl (lit_i (k := .u32) (n := 4294967295) (by decide))), trivial⟩ ?_; intro a3 s4 he hf hz hd1 h3; have ⟨hd, E⟩ := hdE hd1 hd E he; have h0 := V_at h0 he (hf 0 rfl); refine wp_seq ?_; refine wp_sr ?_; refine sq_blk [⟨4, _, []⟩] [0] hz rfl ⟨(fun a s he hf hz => av rfl rfl i0), trivial⟩ ?_; intro a5 s6 he hf hz hd1 h4; have ⟨hd, E⟩ := hdE hd1 hd E he; obtain ⟨h0, h3⟩ := va2 he hf h0 h3 rfl; refine wp_block ?_
 refine wp_loop (k := k) (fun m11 a s => ∃ (y9 : Int) (y10 : Int), ref02_Sum.l0 m11 x0 y9 y10 = some r ∧ m11 ≤ k ∧ Ext s0 s ∧ a.tmps.size = 33 ∧ a.defers = [] ∧ (kSl kY).V s (a.get 0) x0 ∧ (kI .u32).V s (a.get 3) y9 ∧ (kI .i64).V s (a.get 4) y10) ⟨_, _, h, Nat.le_refl _, E, hz, hd, h0, h3, h4⟩ ?_; rintro m11 a8 s7 ⟨y9, y10, h, hkm11, E, hz, hd, h0, h3, h4⟩; obtain _ | m11 := m11
 ·cases h
 refine wp_seq ?_; refine wp_sr ?_; refine sq_blk [⟨6, _, []⟩, ⟨7, _, []⟩, ⟨8, _, [1]⟩, ⟨9, _, [0, 2]⟩] [3] hz rfl ⟨mvs rfl rfl h4 rfl, mvs rfl rfl h0 rfl, (fun a s he hf hz q1 => le_ rfl rfl u_53 q1), (fun a s he hf hz q0 q2 => ls rfl rfl q0 q2), trivial⟩ ?_; intro a12 s13 he hf hz hd1 h9; have ⟨hd, E⟩ := hdE hd1 hd E he; obtain ⟨h0, h3, h4⟩ := va3 he hf h0 h3 h4 rfl; refine wp_condV h9 (fun hb => ?_) (fun hb => ?_)
 ·have h := ite_t hb h; refine wp_skip ?_; refine wp_seq ?_; refine wp_block ?_; refine wp_sr ?_; obtain ⟨D14, h⟩ := need h; refine sq_blk [⟨12, _, []⟩, ⟨13, _, []⟩, ⟨14, _, []⟩, ⟨15, _, [1, 2]⟩, ⟨16, _, [3]⟩, ⟨17, _, [4]⟩, ⟨18, _, [0, 5]⟩] [6] hz rfl ⟨mvs rfl rfl h3 rfl, mvs rfl rfl h0 rfl, mvs rfl rfl h4 rfl, (fun a s he hf hz q1 q2 => ia rfl rfl sl_53 q1 q2 D14.1 D14.2), (fun a s he hf hz q3 => lp rfl rfl ty_5 (by decide) q3), (fun a s he hf hz q4 => cv rfl rfl u_5 u_151 (V_y2i q4)), (fun a s he hf hz q0 q5 => opw rfl (op_xor rfl q0 q5)), trivial⟩ ?_; intro a15 s16 he hf hz hd1 h18; have ⟨hd, E⟩ := hdE hd1 hd E he; obtain ⟨h0, h4⟩ := va2 he hf h0 h4 rfl; refine sq_blk [⟨3, _, []⟩] [0] hz rfl ⟨avs rfl rfl h18 rfl, trivial⟩ ?_; intro a17 s18 he hf hz hd1 h3; have ⟨hd, E⟩ := hdE hd1 hd E he; obtain ⟨h0, h4⟩ := va2 he hf h0 h4 rfl; refine wp_sr ?_; refine sq_blk [⟨5, _, []⟩] [0] hz rfl ⟨(fun a s he hf hz => av rfl rfl i0), trivial⟩ ?_; intro a19 s20 he hf hz hd1 h5; have hd := hd1.trans hd; obtain ⟨h0, h3, h4⟩ := va3 he hf h0 h3 h4 rfl
  have E := E.trans he; refine wp_block ?_; refine wp_loop (k := m11) (fun m25 a s => ∃ (y23 : Int) (y24 : Int), ref02_Sum.l1 m25 x0 y10 y23 y24 = some r ∧ m25 ≤ m11 ∧ Ext s0 s ∧ a.tmps.size = 33 ∧ a.defers = [] ∧ (kSl kY).V s (a.get 0) x0 ∧ (kI .u32).V s (a.get 3) y23 ∧ (kI .i64).V s (a.get 4) y10 ∧ (kI .i64).V s (a.get 5) y24) ⟨_, _, h, Nat.le_refl _, E, hz, hd, h0, h3, h4, h5⟩ ?_; rintro m25 a22 s21 ⟨y23, y24, h, hkm25, E, hz, hd, h0, h3, h4, h5⟩; obtain _ | m25 := m25
  ·cases h
  refine wp_seq ?_; refine wp_sr ?_; refine sq_blk [⟨19, _, []⟩, ⟨20, _, [0]⟩] [1] hz rfl ⟨mvs rfl rfl h5 rfl, (fun a s he hf hz q0 => ls rfl rfl q0 (lit_i (k := .i64) (n := 8) (by decide))), trivial⟩ ?_; intro a26 s27 he hf hz hd1 h20; have ⟨hd, E⟩ := hdE hd1 hd E he; obtain ⟨h0, h3, h4, h5⟩ := va4 he hf h0 h3 h4 h5 rfl; refine wp_condV h20 (fun hb => ?_) (fun hb => ?_)
  ·have h := ite_t hb h; refine wp_skip ?_; refine wp_seq ?_; refine wp_block ?_; refine wp_sr ?_; refine sq_blk [⟨23, _, []⟩, ⟨24, _, [0]⟩, ⟨25, _, [1]⟩] [2] hz rfl ⟨mvs rfl rfl h3 rfl, (fun a s he hf hz q0 => opw rfl (op_and rfl q0 (lit_i (k := .u32) (n := 1) (by decide)))), (fun a s he hf hz q1 => eq_ rfl rfl q1 (lit_i (k := .u32) (n := 1) (by decide))), trivial⟩ ?_; intro a28 s29 he hf hz hd1 h25; have ⟨hd, E⟩ := hdE hd1 hd E he; obtain ⟨h0, h3, h4, h5⟩ := va4 he hf h0 h3 h4 h5 rfl; refine wp_condV h25 (fun hb => ?_) (fun hb => ?_)
   ·have h := ite_t hb h; refine wp_region ?_; refine sq_blk [⟨26, _, []⟩, ⟨27, _, [0]⟩, ⟨28, _, [1]⟩] [2] hz rfl ⟨mvs rfl rfl h3 rfl, (fun a s he hf hz q0 => opw rfl (op_shr rfl q0 (lit_i (k := .u64) (n := 1) (by decide)) (by decide))), (fun a s he hf hz q1 => opw rfl (op_xor rfl q1 (lit_i (k := .u32) (n := 3988292384) (by decide)))), trivial⟩ ?_; intro a30 s31 he hf hz hd1 h28; have ⟨hd, E⟩ := hdE hd1 hd E he; obtain ⟨h0, h4, h5⟩ := va3 he hf h0 h4 h5 rfl; refine sq_blk [⟨3, _, []⟩] [0] hz rfl ⟨avs rfl rfl h28 rfl, trivial⟩ ?_; intro a32 s33 he hf hz hd1 h3; have ⟨hd, E⟩ := hdE hd1 hd E he; obtain ⟨h0, h4, h5⟩ := va3 he hf h0 h4 h5 rfl; refine wp_region ?_; refine sq_blk [⟨21, _, []⟩, ⟨22, _, [0]⟩] [1] hz rfl ⟨mvs rfl rfl h5 rfl, (fun a s he hf hz q0 => ad rfl rfl q0 i1), trivial⟩ ?_; intro a34 s35 he hf hz hd1 h22; have ⟨hd, E⟩ := hdE hd1 hd E he; obtain ⟨h0, h3, h4⟩ := va3 he hf h0 h3 h4 rfl; refine sq_blk [⟨5, _, []⟩] [0] hz rfl ⟨avs rfl rfl h22 rfl, trivial⟩ ?_; intro a36 s37 he hf hz hd1 h5; have hd := hd1.trans hd
    obtain ⟨h0, h3, h4⟩ := va3 he hf h0 h3 h4 rfl; have E := E.trans he; exact ⟨_, (by omega : m25 < m25 + 1), _, _, h, by omega, E, hz, hd, h0, h3, h4, h5⟩
   ·have h := ite_f hb h; refine wp_region ?_; refine sq_blk [⟨29, _, []⟩, ⟨30, _, [0]⟩] [1] hz rfl ⟨mvs rfl rfl h3 rfl, (fun a s he hf hz q0 => opw rfl (op_shr rfl q0 (lit_i (k := .u64) (n := 1) (by decide)) (by decide))), trivial⟩ ?_; intro a38 s39 he hf hz hd1 h30; have ⟨hd, E⟩ := hdE hd1 hd E he; obtain ⟨h0, h4, h5⟩ := va3 he hf h0 h4 h5 rfl; refine sq_blk [⟨3, _, []⟩] [0] hz rfl ⟨avs rfl rfl h30 rfl, trivial⟩ ?_; intro a40 s41 he hf hz hd1 h3; have ⟨hd, E⟩ := hdE hd1 hd E he; obtain ⟨h0, h4, h5⟩ := va3 he hf h0 h4 h5 rfl; refine wp_region ?_; refine sq_blk [⟨21, _, []⟩, ⟨22, _, [0]⟩] [1] hz rfl ⟨mvs rfl rfl h5 rfl, (fun a s he hf hz q0 => ad rfl rfl q0 i1), trivial⟩ ?_; intro a42 s43 he hf hz hd1 h22; have ⟨hd, E⟩ := hdE hd1 hd E he; obtain ⟨h0, h3, h4⟩ := va3 he hf h0 h3 h4 rfl; refine sq_blk [⟨5, _, []⟩] [0] hz rfl ⟨avs rfl rfl h22 rfl, trivial⟩ ?_; intro a44 s45 he hf hz hd1 h5; have ⟨hd, E⟩ := hdE hd1 hd E he; obtain ⟨h0, h3, h4⟩ := va3 he hf h0 h3 h4 rfl; exact ⟨_, (by omega : m25 < m25 + 1), _, _, h, by omega, E, hz, hd, h0, h3, h4, h5⟩
  ·have h := ite_f hb h; refine wp_exit ?_; refine then_exit ?_; refine then_exit ?_; refine inBlock_hit ?_; refine wp_region ?_; refine sq_blk [⟨10, _, []⟩, ⟨11, _, [0]⟩] [1] hz rfl ⟨mvs rfl rfl h4 rfl, (fun a s he hf hz q0 => ad rfl rfl q0 i1), trivial⟩ ?_; intro a46 s47 he hf hz hd1 h11; have ⟨hd, E⟩ := hdE hd1 hd E he; obtain ⟨h0, h3⟩ := va2 he hf h0 h3 rfl; refine sq_blk [⟨4, _, []⟩] [0] hz rfl ⟨avs rfl rfl h11 rfl, trivial⟩ ?_; intro a48 s49 he hf hz hd1 h4; have ⟨hd, E⟩ := hdE hd1 hd E he; obtain ⟨h0, h3⟩ := va2 he hf h0 h3 rfl; exact ⟨_, (by omega : m25 < m11 + 1), _, _, h, by omega, E, hz, hd, h0, h3, h4⟩
 ·have h := ite_f hb h; refine wp_exit ?_; refine then_exit ?_; refine then_exit ?_; refine inBlock_hit ?_; refine wp_sr ?_; refine sq_blk [⟨31, _, []⟩, ⟨32, _, [0]⟩, ⟨2, _, [1]⟩] [2] hz rfl ⟨mvs rfl rfl h3 rfl, (fun a s he hf hz q0 => opw rfl (op_xor rfl q0 (lit_i (k := .u32) (n := 4294967295) (by decide)))), avq rfl rfl, trivial⟩ ?_; intro a50 s51 he hf hz hd1 h2; have ⟨hd, E⟩ := hdE hd1 hd E he; refine wp_ret ?_; cases h
  exact ⟨hd, _, results_tmp rfl _ _ _, E, h2⟩
def sumN (x : Str) : Int := bXor .u32 (crcL 4294967295 x) 4294967295
theorem ref02_Sum.e1 {x0 : Str} {r : Int} {y10 : Nat} (hy : y10 < 9223372036854775807) : ∀ (j : Nat), j ≤ 8 → ∀ c : Int, (∃ k, ref02_Sum.l0 k x0 (crcN j c) ((y10 : Int) + 1) = some r) → ∃ k, ref02_Sum.l1 k x0 (y10 : Int) c ((8 - j : Nat) : Int) = some r := by
 intro j
 induction j with
 | zero =>
  rintro _ c ⟨k, hk⟩
  refine ⟨k + 1, ?_⟩
  simp only [ref02_Sum.l1]
  rw [w64s hy]
  simpa [crcN] using hk
 | succ j ih =>
  intro hj c hk
  obtain ⟨k, hk⟩ := ih (by omega) (crcS c) hk
  refine ⟨k + 1, ?_⟩
  have e : IntKind.wrap .i64 (((8 - (j + 1) : Nat) : Int) + 1) = ((8 - j : Nat) : Int) := by rw [w64 (by omega) (by omega)]; omega
  have h0 : ((8 - (j + 1) : Nat) : Int) < 8 := by omega
  simp only [ref02_Sum.l1, e, h0, decide_true, if_true]
  unfold crcS at hk
  split at hk
  ·rename_i h; rw [if_pos h]; exact hk
  ·rename_i h; rw [if_neg h]; exact hk
theorem ref02_Sum.nice (x0 : Str) (b0 : (kSl kY).bd x0) : ∃ k, ref02_Sum.f k x0 = some (sumN x0) := by
 have hb : x0.length ≤ maxLen := b0.1
 have hm := maxLen_lt
 have : ∀ y, y ≤ x0.length → ∀ c : Int, ∃ k, ref02_Sum.l0 k x0 c (y : Int) = some (bXor .u32 (crcL c (x0.drop y)) 4294967295) := by
  refine rounds x0.length (fun c => ⟨1, ?_⟩) fun y hy ih c => ?_
  ·simp only [ref02_Sum.l0, List.drop_length]; simp [crcL]
  ·obtain ⟨k, hk⟩ := ref02_Sum.e1 (x0 := x0) (y10 := y) (by omega) 8 (Nat.le_refl _) (bXor .u32 c (IntKind.wrap .u32 ((x0.getD y default).toNat : Int))) (by
    obtain ⟨k, hk⟩ := ih (crcB c (x0.getD y default))
    push_cast at hk
    exact ⟨k, hk⟩)
   refine ⟨k + 1, ?_⟩
   have hr : (0 : Int) ≤ y ∧ (y : Int) < x0.length := ⟨by omega, by omega⟩
   simp only [ref02_Sum.l0, Int.toNat_natCast, hr, and_self, decide_true, if_true]
   refine hk.trans ?_
   rw [drop_at (xs := x0) default hy, crcL_cons]
 obtain ⟨k, hk⟩ := this 0 (Nat.zero_le _) 4294967295
 exact ⟨k, by unfold ref02_Sum.f; exact hk⟩
theorem ref02_Sum.ct {s0 : St} {v0 : Value} {x0 : (List UInt8)} (k0 : (kSl kY).V s0 v0 x0) : Cl Try.prog 117 #[v0] s0 (Okf s0 (Fact.v (kI .u32) (sumN x0))) := by
 obtain ⟨k, h⟩ := ref02_Sum.nice x0 (Kn.V_bd k0)
 exact ref02_Sum.ok k0 h
end
section
attribute [local irreducible] Kn.V PtrV
def lead (c : Nat) : Nat := 8 - bl (255 - c)
def frstN (c k : Nat) : Nat := c &&& (127 / 2 ^ k)
def valN (n : Nat) (l : Str) : Nat := l.foldl (fun n c => n * 256 + c.toNat) n
def readN : Str → Option (Nat × Str)
 | [] => none
 | c :: l => if l.length < lead c.toNat then none else if ext (valN (frstN c.toNat (lead c.toNat)) (l.take (lead c.toNat))) = lead c.toNat then some (valN (frstN c.toNat (lead c.toNat)) (l.take (lead c.toNat)), l.drop (lead c.toNat)) else none
def takeN (b : Str) (i : Int) : Int × Int × Int := if i < 0 then (0, 0, 20) else match readN (b.drop i.toNat) with
 | none => (0, 0, 20)
 | some (n, r) => ((n : Int), (b.length : Int) - r.length, 0)
theorem lead_le (c : Nat) : lead c ≤ 8 := by unfold lead; omega
theorem frstN_lt {c k : Nat} (h : k ≤ 8) : frstN c k < 2 ^ (8 - k) := by
 have h1 : frstN c k ≤ 127 / 2 ^ k := Nat.and_le_right
 have h2 : ∀ k, k ≤ 8 → 127 / 2 ^ k < 2 ^ (8 - k) := by decide
 exact Nat.lt_of_le_of_lt h1 (h2 k h)
theorem or_shl (n : Nat) {c : Nat} (h : c < 256) : (n * 256) ||| c = n * 256 + c := by
 have := Nat.shiftLeft_add_eq_or_of_lt (a := n) (b := c) (i := 8) h
 rw [Nat.shiftLeft_eq] at this
 exact this.symm
theorem step_u64 {n : Nat} (c : UInt8) (h : n < 72057594037927936) : bOr .u64 (sShl .u64 (n : Int) 8) (IntKind.wrap .u64 (c.toNat : Int)) = ((n * 256 + c.toNat : Nat) : Int) := by
 have hc := byte_nat c
 have e1 : sShl .u64 (n : Int) 8 = ((n * 256 : Nat) : Int) := by
  have : sShl .u64 (n : Int) ((8 : Nat) : Int) = _ := sShl_nat n 8 (by decide)
  rw [wrap_u64, show n * 2 ^ 8 = n * 256 from rfl, Nat.mod_eq_of_lt (by omega)] at this
  exact this
 rw [e1, wrap_u64, Nat.mod_eq_of_lt (by omega), bOr_nat rfl (by show n * 256 < 18446744073709551616; omega) (by show c.toNat < 18446744073709551616; omega), or_shl _ hc]
theorem pow_bound {k j : Nat} (hk : k ≤ 8) (hj : j < k) : 2 ^ (8 - k) * 256 ^ j ≤ 72057594037927936 := by
 have : (2 : Nat) ^ (8 - k) * 256 ^ j = 2 ^ (8 - k + 8 * j) := by rw [Nat.pow_add, Nat.pow_mul]
 rw [this]
 have : (2 : Nat) ^ (8 - k + 8 * j) ≤ 2 ^ 56 := Nat.pow_le_pow_right (by omega) (by omega)
 exact this
theorem readN_at {b : Str} {i : Nat} (h : i < b.length) : readN (b.drop i) = if b.length - i ≤ lead (b.getD i default).toNat then none else if ext (valN (frstN (b.getD i default).toNat (lead (b.getD i default).toNat)) ((b.drop (i + 1)).take (lead (b.getD i default).toNat))) = lead (b.getD i default).toNat then some (valN (frstN (b.getD i default).toNat (lead (b.getD i default).toNat)) ((b.drop (i + 1)).take (lead (b.getD i default).toNat)), (b.drop (i + 1)).drop (lead (b.getD i default).toNat)) else none := by
 rw [drop_at default h]
 simp only [readN, List.length_drop]
 by_cases h1 : b.length - i ≤ lead (b.getD i default).toNat
 ·rw [if_pos h1, if_pos (by omega)]
 ·rw [if_neg h1, if_neg (by omega)]
theorem takeN_fin {b : Str} {i : Nat} (h : i < b.length) {k : Nat} (hk : lead (b.getD i default).toNat = k) (hl : ¬ b.length - i ≤ k) :
  takeN b (i : Int) = if ext (valN (frstN (b.getD i default).toNat k) ((b.drop (i + 1)).take k)) = k then (((valN (frstN (b.getD i default).toNat k) ((b.drop (i + 1)).take k) : Nat) : Int), (i : Int) + 1 + k, 0) else (0, 0, 20) := by
 unfold takeN
 rw [if_neg (by omega), Int.toNat_natCast, readN_at h, hk, if_neg hl]
 by_cases hx : ext (valN (frstN (b.getD i default).toNat k) ((b.drop (i + 1)).take k)) = k
 ·rw [if_pos hx, if_pos hx]
  simp only [List.length_drop]
  congr 2; omega
 ·rw [if_neg hx, if_neg hx]
theorem takeN_short {b : Str} {i : Nat} (h : i < b.length) (hl : b.length - i ≤ lead (b.getD i default).toNat) : takeN b (i : Int) = (0, 0, 20) := by
 unfold takeN
 rw [if_neg (by omega), Int.toNat_natCast, readN_at h, if_pos hl]
theorem takeN_off {b : Str} {i : Int} (h : i < 0 ∨ (b.length : Int) ≤ i) : takeN b i = (0, 0, 20) := by
 unfold takeN
 by_cases h0 : i < 0
 ·rw [if_pos h0]
 ·rw [if_neg h0, List.drop_eq_nil_of_le (by omega)] <;> rfl
theorem valN_cons (n : Nat) (c : UInt8) (l : Str) : valN n (c :: l) = valN (n * 256 + c.toNat) l := rfl
theorem inv_u8 {c : Nat} (h : c < 256) : bInv .u8 (c : Int) = ((255 - c : Nat) : Int) := by
 have : ∀ c, c < 256 → 255 ^^^ c = 255 - c := by decide
 unfold bInv
 rw [show (if IntKind.u8.signed = true then (-1 : Int) else IntKind.u8.max) = ((255 : Nat) : Int) from rfl, bXor_nat rfl (by decide) h, this c h]
theorem lz_eq (c : UInt8) : math_bits_LeadingZeros8 (bInv .u8 (c.toNat : Int)) = ((lead c.toNat : Nat) : Int) := by
 have hc := byte_nat c
 unfold math_bits_LeadingZeros8 blI lead
 rw [inv_u8 hc, Int.toNat_natCast]
 have : bl (255 - c.toNat) ≤ 8 := bl_le.2 (by omega)
 rw [w64 (by omega) (by omega)]; omega
def wire_TakeNumber.l0 : Nat → (List UInt8) → Int → Int → Int → Option (Int × Int × Int)
 | 0, _, _, _, _ => none
 | m23 + 1, x0, x1, y21, y22 => (if decide (y22 < (math_bits_LeadingZeros8 (bInv .u8 ((List.getD x0 (x1).toNat default).toNat : Int)))) = true then (if (0 ≤ (IntKind.wrap .i64 ((IntKind.wrap .i64 (x1 + 1)) + y22)) ∧ (IntKind.wrap .i64 ((IntKind.wrap .i64 (x1 + 1)) + y22)) < (x0.length : Int)) then (wire_TakeNumber.l0 m23 x0 x1 (bOr .u64 (sShl .u64 y21 8) (IntKind.wrap .u64 ((List.getD x0 (IntKind.wrap .i64 ((IntKind.wrap .i64 (x1 + 1)) + y22)).toNat default).toNat : Int))) (IntKind.wrap .i64 (y22 + 1))) else none) else (if (!decide ((wire_extra y21) = (math_bits_LeadingZeros8 (bInv .u8 ((List.getD x0 (x1).toNat default).toNat : Int))))) = true then (some (0, 0, 20)) else (some (y21, IntKind.wrap .i64 ((IntKind.wrap .i64 (x1 + 1)) + (math_bits_LeadingZeros8 (bInv .u8 ((List.getD x0 (x1).toNat default).toNat : Int)))), 0))))
def wire_TakeNumber.f (k : Nat) (x0 : (List UInt8)) (x1 : Int) : Option (Int × Int × Int) := (if ((decide (x1 < 0)) || (decide ((x0.length : Int) ≤ x1))) = true then (some (0, 0, 20)) else (if (0 ≤ x1 ∧ x1 < (x0.length : Int)) then (if decide ((IntKind.wrap .i64 ((x0.length : Int) - x1)) ≤ (math_bits_LeadingZeros8 (bInv .u8 ((List.getD x0 (x1).toNat default).toNat : Int)))) = true then (some (0, 0, 20)) else (if 0 ≤ (math_bits_LeadingZeros8 (bInv .u8 ((List.getD x0 (x1).toNat default).toNat : Int))) then (wire_TakeNumber.l0 k x0 x1 (IntKind.wrap .u64 (bAnd .u8 ((List.getD x0 (x1).toNat default).toNat : Int) (sShr .u8 127 (math_bits_LeadingZeros8 (bInv .u8 ((List.getD x0 (x1).toNat default).toNat : Int)))))) 0) else none)) else none))
theorem wire_TakeNumber.ok {s0 : St} {v0 : Value} {x0 : (List UInt8)} {v1 : Value} {x1 : Int} {k : Nat} {r : Int × Int × Int} (k0 : (kSl kY).V s0 v0 x0) (k1 : (kI .i64).V s0 v1 x1) (h : wire_TakeNumber.f k x0 x1 = some r) : Cl Try.prog 61 #[v0, v1] s0 (Okf s0 (Fact.tup [Fact.v (kI .u64) r.1, Fact.v (kI .i64) r.2.1, Fact.v (kI .i64) r.2.2])) := by
 unfold wire_TakeNumber.f at h
 refine cl_of_wp Try.func61 rfl en_61 fun a hz hd hp => ?_; have hz : a.tmps.size = 63 := hz; have E := Chg.refl (fun _ => False) s0; have h0 := V_at k0 E (hp 0 v0 rfl); have h1 := V_at k1 E (hp 1 v1 rfl); refine wp_sr ?_; refine sq_blk [⟨4, _, []⟩, ⟨5, _, []⟩, ⟨6, _, []⟩] [] hz rfl ⟨(fun a s he hf hz => av rfl rfl (lit_i (k := .u64) (n := 0) (by decide))), (fun a s he hf hz => av rfl rfl i0), (fun a s he hf hz => av rfl rfl i0), trivial⟩ ?_; intro a1 s2 he hf hz hd1; have ⟨hd, E⟩ := hdE hd1 hd E he; obtain ⟨h0, h1⟩ := va2 he hf h0 h1 rfl; refine wp_seq ?_; refine wp_sr ?_; have hz0 := hz; refine sq_blk [⟨10, _, []⟩, ⟨11, _, [0]⟩, ⟨12, _, [1]⟩, ⟨13, _, [2]⟩, ⟨14, _, [2]⟩, ⟨15, _, [2, 4]⟩, ⟨16, _, [2, 3, 5]⟩, ⟨17, _, [2, 6]⟩] [7] hz rfl ⟨mvs rfl rfl h1 rfl, (fun a s he hf hz q0 => ls rfl rfl q0 i0), mvq rfl rfl, (fun a s he hf hz q2 => og rfl rfl rfl hz hz0 rfl q2 (fun g => op_move_v rfl (V_at h1 he (hf 1 rfl)))), (fun a s he hf hz q2 => og rfl rfl rfl hz hz0 rfl q2 (fun g => op_move_v rfl (V_at h0 he (hf 0 rfl)))), (fun a s he hf hz q2 q4 => og rfl rfl rfl hz hz0 rfl q2 (fun g => op_len rfl u_53 (q4.1 g))), (fun a s he hf hz q2 q3 q5 => og rfl rfl rfl hz hz0 rfl q2 (fun g => op_geq rfl (q3.1 g) (q5.1 g))), (fun a s he hf hz q2 q6 => oe rfl rfl q2 (q6.1)), trivial⟩ ?_
 intro a3 s4 he hf hz hd1 h17; have ⟨hd, E⟩ := hdE hd1 hd E he; obtain ⟨h0, h1⟩ := va2 he hf h0 h1 rfl; refine wp_condV h17 (fun hb => ?_) (fun hb => ?_)
 ·have h := ite_t hb h; refine wp_sr ?_; refine sq_blk [⟨4, _, []⟩, ⟨5, _, []⟩, ⟨6, _, []⟩] [0, 1, 2] hz rfl ⟨(fun a s he hf hz => av rfl rfl (lit_i (k := .u64) (n := 0) (by decide))), (fun a s he hf hz => av rfl rfl i0), (fun a s he hf hz => av rfl rfl (lit_i (k := .i64) (n := 20) (by decide))), trivial⟩ ?_; intro a5 s6 he hf hz hd1 h4 h5 h6; have ⟨hd, E⟩ := hdE hd1 hd E he; refine wp_ret ?_; cases h
  exact ⟨hd, _, results_tmp3' rfl _ _ _, E, tup3 h4 h5 h6⟩
 ·have h := ite_f hb h; refine wp_skip ?_; refine wp_sr ?_; obtain ⟨D7, h⟩ := need h; refine sq_blk [⟨18, _, []⟩, ⟨19, _, []⟩, ⟨20, _, [0, 1]⟩, ⟨21, _, [2]⟩, ⟨22, _, [3]⟩, ⟨23, _, [4]⟩, ⟨7, _, [5]⟩] [6] hz rfl ⟨mvs rfl rfl h0 rfl, mvs rfl rfl h1 rfl, (fun a s he hf hz q0 q1 => ia rfl rfl sl_53 q0 q1 D7.1 D7.2), (fun a s he hf hz q2 => lp rfl rfl ty_5 (by decide) q2), (fun a s he hf hz q3 => opw rfl (op_inv rfl (V_y2i q3))), (fun a s he hf hz q4 => opw rfl (op_call rfl rfl (math_bits_LeadingZeros8.ok q4))), avq rfl rfl, trivial⟩ ?_; intro a8 s9 he hf hz hd1 h7; have ⟨hd, E⟩ := hdE hd1 hd E he; obtain ⟨h0, h1⟩ := va2 he hf h0 h1 rfl; refine wp_seq ?_; refine wp_sr ?_; refine sq_blk [⟨24, _, []⟩, ⟨25, _, []⟩, ⟨26, _, [1]⟩, ⟨27, _, []⟩, ⟨28, _, [2, 3]⟩, ⟨29, _, [0, 4]⟩] [5] hz rfl ⟨mvs rfl rfl h7 rfl, mvs rfl rfl h0 rfl, (fun a s he hf hz q1 => le_ rfl rfl u_53 q1), mvs rfl rfl h1 rfl, (fun a s he hf hz q2 q3 => opw rfl (op_sub rfl q2 q3)), (fun a s he hf hz q0 q4 => opw rfl (op_geq rfl q0 q4)), trivial⟩ ?_; intro a10 s11 he hf hz hd1 h29; have hd := hd1.trans hd; obtain ⟨h0, h1, h7⟩ := va3 he hf h0 h1 h7 rfl
  have E := E.trans he; refine wp_condV h29 (fun hb => ?_) (fun hb => ?_)
  ·have h := ite_t hb h; refine wp_sr ?_; refine sq_blk [⟨4, _, []⟩, ⟨5, _, []⟩, ⟨6, _, []⟩] [0, 1, 2] hz rfl ⟨(fun a s he hf hz => av rfl rfl (lit_i (k := .u64) (n := 0) (by decide))), (fun a s he hf hz => av rfl rfl i0), (fun a s he hf hz => av rfl rfl (lit_i (k := .i64) (n := 20) (by decide))), trivial⟩ ?_; intro a12 s13 he hf hz hd1 h4 h5 h6; have ⟨hd, E⟩ := hdE hd1 hd E he; refine wp_ret ?_; cases h
   exact ⟨hd, _, results_tmp3' rfl _ _ _, E, tup3 h4 h5 h6⟩
  ·have h := ite_f hb h; refine wp_skip ?_; refine wp_seq ?_; obtain ⟨D14, h⟩ := need h; refine wp_draw [⟨30, _, []⟩, ⟨31, _, []⟩, ⟨32, _, [0, 1]⟩, ⟨33, _, [2]⟩, ⟨34, _, []⟩, ⟨35, _, [4]⟩, ⟨36, _, [3, 5]⟩, ⟨37, _, [6]⟩, ⟨8, _, [7]⟩] [8] mo hz (by kernel_rfl) ⟨mvs rfl rfl h0 rfl, mvs rfl rfl h1 rfl, (fun a s he hf hz q0 q1 => ia rfl rfl sl_53 q0 q1 D7.1 D7.2), (fun a s he hf hz q2 => lp rfl rfl ty_5 (by decide) q2), mvs rfl rfl h7 rfl, (fun a s he hf hz q4 => opw rfl (op_shr rfl (lit_i (k := .u8) (n := 127) (by decide)) q4 D14)), (fun a s he hf hz q3 q5 => opw rfl (op_and rfl (V_y2i q3) q5)), (fun a s he hf hz q6 => cv rfl rfl u_5 u_89 q6), avq rfl rfl, trivial⟩ ?_; intro a15 s16 he hf hz hd1 h8; have ⟨hd, E⟩ := hdE hd1 hd E he; obtain ⟨h0, h1, h7⟩ := va3 he hf h0 h1 h7 rfl; refine wp_seq ?_; refine wp_sr ?_; refine sq_blk [⟨38, _, []⟩, ⟨39, _, []⟩] [0, 1] hz rfl ⟨mvs rfl rfl h7 rfl, (fun a s he hf hz => mv rfl rfl i0), trivial⟩ ?_; intro a17 s18 he hf hz hd1 h38 h39; have ⟨hd, E⟩ := hdE hd1 hd E he; obtain ⟨h0, h1, h7, h8⟩ := va4 he hf h0 h1 h7 h8 rfl; refine wp_block ?_
   refine wp_loop (k := k) (fun m23 a s => ∃ (y21 : Int) (y22 : Int), wire_TakeNumber.l0 m23 x0 x1 y21 y22 = some r ∧ m23 ≤ k ∧ Ext s0 s ∧ a.tmps.size = 63 ∧ a.defers = [] ∧ (kSl kY).V s (a.get 0) x0 ∧ (kI .i64).V s (a.get 1) x1 ∧ (kI .i64).V s (a.get 7) (math_bits_LeadingZeros8 (bInv .u8 ((List.getD x0 (x1).toNat default).toNat : Int))) ∧ (kI .u64).V s (a.get 8) y21 ∧ (kI .i64).V s (a.get 38) (math_bits_LeadingZeros8 (bInv .u8 ((List.getD x0 (x1).toNat default).toNat : Int))) ∧ (kI .i64).V s (a.get 39) y22) ⟨_, _, h, Nat.le_refl _, E, hz, hd, h0, h1, h7, h8, h38, h39⟩ ?_; rintro m23 a20 s19 ⟨y21, y22, h, hkm23, E, hz, hd, h0, h1, h7, h8, h38, h39⟩; obtain _ | m23 := m23
   ·cases h
   refine wp_sr ?_; refine sq_blk [⟨40, _, []⟩] [0] hz rfl ⟨(fun a s he hf hz => ls rfl rfl (V_at h39 he (hf 39 rfl)) (V_at h38 he (hf 38 rfl))), trivial⟩ ?_; intro a24 s25 he hf hz hd1 h40; have ⟨hd, E⟩ := hdE hd1 hd E he; obtain ⟨h0, h1, h7, h8, h38, h39⟩ := va6 he hf h0 h1 h7 h8 h38 h39 rfl; refine wp_seq ?_; refine wp_condV h40 (fun hb => ?_) (fun hb => ?_)
   ·have h := ite_t hb h; refine wp_skip ?_; refine wp_seq ?_; refine wp_block ?_; refine wp_sr ?_; refine sq_blk [⟨41, _, []⟩, ⟨9, _, [0]⟩] [1] hz rfl ⟨mvs rfl rfl h39 rfl, avq rfl rfl, trivial⟩ ?_; intro a26 s27 he hf hz hd1 h9; have ⟨hd, E⟩ := hdE hd1 hd E he; obtain ⟨h0, h1, h7, h8, h38, h39⟩ := va6 he hf h0 h1 h7 h8 h38 h39 rfl; refine wp_region ?_; obtain ⟨D28, h⟩ := need h; refine sq_blk [⟨42, _, []⟩, ⟨43, _, [0]⟩, ⟨44, _, []⟩, ⟨45, _, []⟩, ⟨46, _, [3]⟩, ⟨47, _, []⟩, ⟨48, _, [4, 5]⟩, ⟨49, _, [2, 6]⟩, ⟨50, _, [7]⟩, ⟨51, _, [8]⟩, ⟨52, _, [1, 9]⟩] [10] hz rfl ⟨mvs rfl rfl h8 rfl, (fun a s he hf hz q0 => opw rfl (op_shl rfl q0 (lit_i (k := .u64) (n := 8) (by decide)) (by decide))), mvs rfl rfl h0 rfl, mvs rfl rfl h1 rfl, (fun a s he hf hz q3 => ad rfl rfl q3 i1), mvs rfl rfl h9 rfl, (fun a s he hf hz q4 q5 => ad rfl rfl q4 q5), (fun a s he hf hz q2 q6 => ia rfl rfl sl_53 q2 q6 D28.1 D28.2), (fun a s he hf hz q7 => lp rfl rfl ty_5 (by decide) q7), (fun a s he hf hz q8 => cv rfl rfl u_5 u_89 (V_y2i q8)), (fun a s he hf hz q1 q9 => opw rfl (op_or rfl q1 q9)), trivial⟩ ?_
    intro a29 s30 he hf hz hd1 h52; have ⟨hd, E⟩ := hdE hd1 hd E he; obtain ⟨h0, h1, h7, h38, h39⟩ := va5 he hf h0 h1 h7 h38 h39 rfl; refine sq_blk [⟨8, _, []⟩] [0] hz rfl ⟨avs rfl rfl h52 rfl, trivial⟩ ?_; intro a31 s32 he hf hz hd1 h8; have ⟨hd, E⟩ := hdE hd1 hd E he; obtain ⟨h0, h1, h7, h38, h39⟩ := va5 he hf h0 h1 h7 h38 h39 rfl; refine wp_region ?_; refine sq_blk [⟨53, _, []⟩] [0] hz rfl ⟨(fun a s he hf hz => ad rfl rfl (V_at h39 he (hf 39 rfl)) i1), trivial⟩ ?_; intro a33 s34 he hf hz hd1 h53; have ⟨hd, E⟩ := hdE hd1 hd E he; obtain ⟨h0, h1, h7, h8, h38⟩ := va5 he hf h0 h1 h7 h8 h38 rfl; refine sq_blk [⟨39, _, []⟩] [0] hz rfl ⟨mvs rfl rfl h53 rfl, trivial⟩ ?_; intro a35 s36 he hf hz hd1 h39; have ⟨hd, E⟩ := hdE hd1 hd E he; obtain ⟨h0, h1, h7, h8, h38⟩ := va5 he hf h0 h1 h7 h8 h38 rfl; exact ⟨_, (by omega : m23 < m23 + 1), _, _, h, by omega, E, hz, hd, h0, h1, h7, h8, h38, h39⟩
   ·have h := ite_f hb h; refine wp_exit ?_; refine then_exit ?_; refine then_exit ?_; refine inBlock_hit ?_; refine wp_seq ?_; refine wp_sr ?_; refine sq_blk [⟨54, _, []⟩, ⟨55, _, [0]⟩, ⟨56, _, []⟩, ⟨57, _, [1, 2]⟩] [3] hz rfl ⟨mvs rfl rfl h8 rfl, (fun a s he hf hz q0 => opw rfl (op_call rfl rfl (wire_extra.ok q0))), mvs rfl rfl h7 rfl, (fun a s he hf hz q1 q2 => ne_ rfl rfl q1 q2), trivial⟩ ?_; intro a37 s38 he hf hz hd1 h57; have ⟨hd, E⟩ := hdE hd1 hd E he; obtain ⟨h1, h7, h8⟩ := va3 he hf h1 h7 h8 rfl; refine wp_condV h57 (fun hb => ?_) (fun hb => ?_)
    ·have h := ite_t hb h; refine wp_sr ?_; refine sq_blk [⟨4, _, []⟩, ⟨5, _, []⟩, ⟨6, _, []⟩] [0, 1, 2] hz rfl ⟨(fun a s he hf hz => av rfl rfl (lit_i (k := .u64) (n := 0) (by decide))), (fun a s he hf hz => av rfl rfl i0), (fun a s he hf hz => av rfl rfl (lit_i (k := .i64) (n := 20) (by decide))), trivial⟩ ?_; intro a39 s40 he hf hz hd1 h4 h5 h6; have ⟨hd, E⟩ := hdE hd1 hd E he; refine wp_ret ?_; cases h
     exact ⟨hd, _, results_tmp3' rfl _ _ _, E, tup3 h4 h5 h6⟩
    ·have h := ite_f hb h; refine wp_skip ?_; refine wp_sr ?_; refine sq_blk [⟨58, _, []⟩, ⟨59, _, []⟩, ⟨60, _, [1]⟩, ⟨61, _, []⟩, ⟨62, _, [2, 3]⟩, ⟨4, _, [0]⟩, ⟨5, _, [4]⟩, ⟨6, _, []⟩] [5, 6, 7] hz rfl ⟨mvs rfl rfl h8 rfl, mvs rfl rfl h1 rfl, (fun a s he hf hz q1 => ad rfl rfl q1 i1), mvs rfl rfl h7 rfl, (fun a s he hf hz q2 q3 => ad rfl rfl q2 q3), avq rfl rfl, avq rfl rfl, (fun a s he hf hz => av rfl rfl i0), trivial⟩ ?_; intro a41 s42 he hf hz hd1 h4 h5 h6; have ⟨hd, E⟩ := hdE hd1 hd E he; refine wp_ret ?_; cases h
     exact ⟨hd, _, results_tmp3' rfl _ _ _, E, tup3 h4 h5 h6⟩
theorem wire_TakeNumber.e0 {b : Str} {i k : Nat} (hb : b.length ≤ maxLen) (hi : i < b.length) (hk : lead (b.getD i default).toNat = k) (hl : ¬ b.length - i ≤ k) : ∀ j, j ≤ k → ∀ n : Nat, n < 2 ^ (8 - k) * 256 ^ (k - j) → ∃ f, wire_TakeNumber.l0 f b (i : Int) (n : Int) ((k - j : Nat) : Int) = some (if ext (valN n ((b.drop (i + 1 + (k - j))).take j)) = k then (((valN n ((b.drop (i + 1 + (k - j))).take j) : Nat) : Int), (i : Int) + 1 + k, 0) else (0, 0, 20)) := by
 have hm := maxLen_lt
 have hk8 : k ≤ 8 := by rw [← hk]; exact lead_le _
 have e1 : IntKind.wrap .i64 ((i : Int) + 1) = (i : Int) + 1 := w64s (by omega)
 intro j
 induction j with
 | zero =>
  intro _ n hn
  refine ⟨1, ?_⟩
  have hn64 : n < 18446744073709551616 := by
   rw [Nat.sub_zero] at hn
   have : (2 : Nat) ^ (8 - k) * 256 ^ k = 2 ^ (8 - k + 8 * k) := by rw [Nat.pow_add, Nat.pow_mul]
   rw [this] at hn
   exact Nat.lt_of_lt_of_le hn (Nat.pow_le_pow_right (by omega) (show 8 - k + 8 * k ≤ 64 by omega))
  have ee : wire_extra (n : Int) = (ext n : Int) := by rw [wire_extra_eq (x := (n : Int)) (by omega) (by omega), Int.toNat_natCast]
  have e3 : IntKind.wrap .i64 ((i : Int) + 1 + (k : Int)) = (i : Int) + 1 + k := w64 (by omega) (by omega)
  simp only [wire_TakeNumber.l0, Int.toNat_natCast, lz_eq, hk, e1, ee, e3, Nat.sub_zero, Int.lt_irrefl, decide_false, Bool.false_eq_true, if_false, List.take_zero, valN, List.foldl_nil]
  by_cases h : ext n = k
  ·simp [h]
  ·have : ¬ (ext n : Int) = k := by omega
   simp [h, this]
 | succ j ih =>
  intro hj n hn
  have hn56 : n < 72057594037927936 := Nat.lt_of_lt_of_le hn (pow_bound hk8 (by omega))
  have hlt : i + 1 + (k - (j + 1)) < b.length := by omega
  have hc := byte_nat (b.getD (i + 1 + (k - (j + 1))) default)
  obtain ⟨f, hf⟩ := ih (by omega) (n * 256 + (b.getD (i + 1 + (k - (j + 1))) default).toNat) (by
   rw [show k - j = (k - (j + 1)) + 1 from by omega, Nat.pow_succ, ← Nat.mul_assoc]; omega)
  refine ⟨f + 1, ?_⟩
  have e4 : IntKind.wrap .i64 ((i : Int) + 1 + ((k - (j + 1) : Nat) : Int)) = ((i + 1 + (k - (j + 1)) : Nat) : Int) := by rw [w64 (by omega) (by omega)]; omega
  have e5 : IntKind.wrap .i64 (((k - (j + 1) : Nat) : Int) + 1) = ((k - j : Nat) : Int) := by rw [w64 (by omega) (by omega)]; omega
  have h1 : ((k - (j + 1) : Nat) : Int) < (k : Int) := by omega
  simp only [wire_TakeNumber.l0, Int.toNat_natCast, lz_eq, hk, e1, e4, e5, h1, decide_true, if_true, step_u64 _ hn56]
  rw [if_pos ⟨by omega, by omega⟩, hf, drop_at (xs := b) (y := i + 1 + (k - (j + 1))) default hlt, List.take_succ_cons, valN_cons, show i + 1 + (k - (j + 1)) + 1 = i + 1 + (k - j) from by omega]
theorem wire_TakeNumber.nice (x0 : Str) (x1 : Int) (b0 : (kSl kY).bd x0) (b1 : (kI .i64).bd x1) : ∃ k, wire_TakeNumber.f k x0 x1 = some (takeN x0 x1) := by
 have hb : x0.length ≤ maxLen := b0.1
 have hm := maxLen_lt
 by_cases h : x1 < 0 ∨ (x0.length : Int) ≤ x1
 ·refine ⟨0, ?_⟩
  rw [takeN_off h]
  unfold wire_TakeNumber.f
  rw [if_pos (by simpa using h)]
 ·obtain ⟨i, rfl⟩ := Int.eq_ofNat_of_zero_le (show 0 ≤ x1 by omega)
  have hi : i < x0.length := by omega
  have hr : (0 : Int) ≤ i ∧ (i : Int) < x0.length := ⟨by omega, by omega⟩
  have hg : ¬ ((decide ((i : Int) < 0) || decide ((x0.length : Int) ≤ (i : Int))) = true) := by simpa using h
  have e0 : IntKind.wrap .i64 ((x0.length : Int) - i) = ((x0.length - i : Nat) : Int) := by rw [w64 (by omega) (by omega)]; omega
  unfold wire_TakeNumber.f
  simp only [if_neg hg, hr, and_self, if_true, Int.toNat_natCast, lz_eq, e0]
  by_cases hl : x0.length - i ≤ lead (x0.getD i default).toNat
  ·refine ⟨0, ?_⟩
   have : ((x0.length - i : Nat) : Int) ≤ ((lead (x0.getD i default).toNat : Nat) : Int) := by omega
   simp only [this, decide_true, if_true, takeN_short hi hl]
  ·have hn : ¬ ((x0.length - i : Nat) : Int) ≤ ((lead (x0.getD i default).toNat : Nat) : Int) := by omega
   have hc := byte_nat (x0.getD i default)
   have hk8 := lead_le (x0.getD i default).toNat
   have e1 : sShr .u8 127 ((lead (x0.getD i default).toNat : Nat) : Int) = ((127 / 2 ^ lead (x0.getD i default).toNat : Nat) : Int) := sShr_nat (k := .u8) 127 _ (by decide)
   have hq : 127 / 2 ^ lead (x0.getD i default).toNat < 2 ^ 8 := Nat.lt_of_le_of_lt (Nat.div_le_self _ _) (by decide)
   have hfr := frstN_lt (c := (x0.getD i default).toNat) hk8
   have e2 : IntKind.wrap .u64 (bAnd .u8 ((x0.getD i default).toNat : Int) ((127 / 2 ^ lead (x0.getD i default).toNat : Nat) : Int)) = ((frstN (x0.getD i default).toNat (lead (x0.getD i default).toNat) : Nat) : Int) := by
    rw [bAnd_nat rfl hc hq, wrap_u64, Nat.mod_eq_of_lt]
    ·rfl
    ·have : (2 : Nat) ^ (8 - lead (x0.getD i default).toNat) ≤ 2 ^ 8 := Nat.pow_le_pow_right (by omega) (by omega)
     have h3 : frstN (x0.getD i default).toNat (lead (x0.getD i default).toNat) < 2 ^ 8 := Nat.lt_of_lt_of_le hfr this
     unfold frstN at h3; omega
   obtain ⟨f, hf⟩ := wire_TakeNumber.e0 hb hi rfl hl _ (Nat.le_refl _) _ (by rw [Nat.sub_self]; simpa using hfr)
   refine ⟨f, ?_⟩
   simp only [hn, decide_false, Bool.false_eq_true, if_false, e1, e2]
   rw [if_pos (by omega), takeN_fin hi rfl hl]
   rw [Nat.sub_self, Nat.add_zero] at hf
   exact hf
theorem wire_TakeNumber.ct {s0 : St} {v0 : Value} {x0 : (List UInt8)} {v1 : Value} {x1 : Int} (k0 : (kSl kY).V s0 v0 x0) (k1 : (kI .i64).V s0 v1 x1) : Cl Try.prog 61 #[v0, v1] s0 (Okf s0 (Fact.tup [Fact.v (kI .u64) ((takeN x0 x1).1), Fact.v (kI .i64) ((takeN x0 x1).2.1), Fact.v (kI .i64) ((takeN x0 x1).2.2)])) := by
 obtain ⟨k, h⟩ := wire_TakeNumber.nice x0 x1 (Kn.V_bd k0) (Kn.V_bd k1)
 exact wire_TakeNumber.ok k0 k1 h
mutual
def ref02_TakeNumber.l2 : Nat → (List UInt8) → Int → Int → Int → Int → Option (Int × Int × Int)
 | 0, _, _, _, _, _ => none
 | m43 + 1, x0, x1, y11, y41, y42 => (if decide (y42 ≤ y11) = true then (if (0 ≤ (IntKind.wrap .i64 (x1 + y42)) ∧ (IntKind.wrap .i64 (x1 + y42)) < (x0.length : Int)) then (ref02_TakeNumber.l2 m43 x0 x1 y11 (bOr .u64 (sShl .u64 y41 8) (IntKind.wrap .u64 ((List.getD x0 (IntKind.wrap .i64 (x1 + y42)).toNat default).toNat : Int))) (IntKind.wrap .i64 (y42 + 1))) else none) else (if (!decide ((wire_extra y41) = y11)) = true then (some (0, 0, 20)) else (some (y41, IntKind.wrap .i64 ((IntKind.wrap .i64 (x1 + y11)) + 1), 0))))
def ref02_TakeNumber.l1 : Nat → (List UInt8) → Int → Int → Int → Option (Int × Int × Int)
 | 0, _, _, _, _ => none
 | m34 + 1, x0, x1, y11, y33 => (ref02_TakeNumber.l2 m34 x0 x1 y11 y33 1)
def ref02_TakeNumber.l0 : Nat → (List UInt8) → Int → Int → Option (Int × Int × Int)
 | 0, _, _, _ => none
 | m12 + 1, x0, x1, y11 => (if ((decide (y11 < 8)) = true → (0 ≤ x1 ∧ x1 < (x0.length : Int))) then (if ((decide (y11 < 8)) = true → 0 ≤ (IntKind.wrap .i64 (7 - y11))) then (if ((decide (y11 < 8)) && (decide ((bAnd .u8 (sShr .u8 ((List.getD x0 (x1).toNat default).toNat : Int) (IntKind.wrap .i64 (7 - y11))) 1) = 1))) = true then (ref02_TakeNumber.l0 m12 x0 x1 (IntKind.wrap .i64 (y11 + 1))) else (if decide ((IntKind.wrap .i64 ((x0.length : Int) - x1)) < (IntKind.wrap .i64 (y11 + 1))) = true then (some (0, 0, 20)) else (if decide (y11 < 7) = true then (if (0 ≤ x1 ∧ x1 < (x0.length : Int)) then (if 0 ≤ (IntKind.wrap .i64 (7 - y11)) then (ref02_TakeNumber.l1 m12 x0 x1 y11 (bAnd .u64 (IntKind.wrap .u64 ((List.getD x0 (x1).toNat default).toNat : Int)) (IntKind.wrap .u64 ((sShl .u64 1 (IntKind.wrap .i64 (7 - y11))) - 1)))) else none) else none) else (ref02_TakeNumber.l1 m12 x0 x1 y11 0)))) else none) else none)
end
def ref02_TakeNumber.f (k : Nat) (x0 : (List UInt8)) (x1 : Int) : Option (Int × Int × Int) := (if ((decide (x1 < 0)) || (decide ((x0.length : Int) ≤ x1))) = true then (some (0, 0, 20)) else (ref02_TakeNumber.l0 k x0 x1 0))
theorem ref02_TakeNumber.ok {s0 : St} {v0 : Value} {x0 : (List UInt8)} {v1 : Value} {x1 : Int} {k : Nat} {r : Int × Int × Int} (k0 : (kSl kY).V s0 v0 x0) (k1 : (kI .i64).V s0 v1 x1) (h : ref02_TakeNumber.f k x0 x1 = some r) : Cl Try.prog 90 #[v0, v1] s0 (Okf s0 (Fact.tup [Fact.v (kI .u64) r.1, Fact.v (kI .i64) r.2.1, Fact.v (kI .i64) r.2.2])) := by
 unfold ref02_TakeNumber.f at h
 refine cl_of_wp Try.func90 rfl en_90 fun a hz hd hp => ?_; have hz : a.tmps.size = 76 := hz; have E := Chg.refl (fun _ => False) s0; have h0 := V_at k0 E (hp 0 v0 rfl); have h1 := V_at k1 E (hp 1 v1 rfl); refine wp_sr ?_; refine sq_blk [⟨4, _, []⟩, ⟨5, _, []⟩, ⟨6, _, []⟩] [] hz rfl ⟨(fun a s he hf hz => av rfl rfl (lit_i (k := .u64) (n := 0) (by decide))), (fun a s he hf hz => av rfl rfl i0), (fun a s he hf hz => av rfl rfl i0), trivial⟩ ?_; intro a1 s2 he hf hz hd1; have ⟨hd, E⟩ := hdE hd1 hd E he; obtain ⟨h0, h1⟩ := va2 he hf h0 h1 rfl; refine wp_seq ?_; refine wp_sr ?_; have hz0 := hz; refine sq_blk [⟨10, _, []⟩, ⟨11, _, [0]⟩, ⟨12, _, [1]⟩, ⟨13, _, [2]⟩, ⟨14, _, [2]⟩, ⟨15, _, [2, 4]⟩, ⟨16, _, [2, 3, 5]⟩, ⟨17, _, [2, 6]⟩] [7] hz rfl ⟨mvs rfl rfl h1 rfl, (fun a s he hf hz q0 => ls rfl rfl q0 i0), mvq rfl rfl, (fun a s he hf hz q2 => og rfl rfl rfl hz hz0 rfl q2 (fun g => op_move_v rfl (V_at h1 he (hf 1 rfl)))), (fun a s he hf hz q2 => og rfl rfl rfl hz hz0 rfl q2 (fun g => op_move_v rfl (V_at h0 he (hf 0 rfl)))), (fun a s he hf hz q2 q4 => og rfl rfl rfl hz hz0 rfl q2 (fun g => op_len rfl u_53 (q4.1 g))), (fun a s he hf hz q2 q3 q5 => og rfl rfl rfl hz hz0 rfl q2 (fun g => op_geq rfl (q3.1 g) (q5.1 g))), (fun a s he hf hz q2 q6 => oe rfl rfl q2 (q6.1)), trivial⟩ ?_
 intro a3 s4 he hf hz hd1 h17; have ⟨hd, E⟩ := hdE hd1 hd E he; obtain ⟨h0, h1⟩ := va2 he hf h0 h1 rfl; refine wp_condV h17 (fun hb => ?_) (fun hb => ?_)
 ·have h := ite_t hb h; refine wp_sr ?_; refine sq_blk [⟨4, _, []⟩, ⟨5, _, []⟩, ⟨6, _, []⟩] [0, 1, 2] hz rfl ⟨(fun a s he hf hz => av rfl rfl (lit_i (k := .u64) (n := 0) (by decide))), (fun a s he hf hz => av rfl rfl i0), (fun a s he hf hz => av rfl rfl (lit_i (k := .i64) (n := 20) (by decide))), trivial⟩ ?_; intro a5 s6 he hf hz hd1 h4 h5 h6; have ⟨hd, E⟩ := hdE hd1 hd E he; refine wp_ret ?_; cases h
  exact ⟨hd, _, results_tmp3' rfl _ _ _, E, tup3 h4 h5 h6⟩
 ·have h := ite_f hb h; refine wp_skip ?_; refine wp_sr ?_; refine sq_blk [⟨7, _, []⟩] [0] hz rfl ⟨(fun a s he hf hz => av rfl rfl i0), trivial⟩ ?_; intro a7 s8 he hf hz hd1 h7; have ⟨hd, E⟩ := hdE hd1 hd E he; obtain ⟨h0, h1⟩ := va2 he hf h0 h1 rfl; refine wp_seq ?_; refine wp_block ?_; refine wp_loop (k := k) (fun m12 a s => ∃ (y11 : Int), ref02_TakeNumber.l0 m12 x0 x1 y11 = some r ∧ m12 ≤ k ∧ Ext s0 s ∧ a.tmps.size = 76 ∧ a.defers = [] ∧ (kSl kY).V s (a.get 0) x0 ∧ (kI .i64).V s (a.get 1) x1 ∧ (kI .i64).V s (a.get 7) y11) ⟨_, h, Nat.le_refl _, E, hz, hd, h0, h1, h7⟩ ?_; rintro m12 a10 s9 ⟨y11, h, hkm12, E, hz, hd, h0, h1, h7⟩; obtain _ | m12 := m12
  ·cases h
  refine wp_seq ?_; refine wp_sr ?_; obtain ⟨D13, h⟩ := need h; obtain ⟨D14, h⟩ := need h; have hz0 := hz; refine sq_blk [⟨18, _, []⟩, ⟨19, _, [0]⟩, ⟨20, _, [1]⟩, ⟨21, _, [2]⟩, ⟨22, _, [2]⟩, ⟨23, _, [2, 3, 4]⟩, ⟨24, _, [2, 5]⟩, ⟨25, _, [2]⟩, ⟨26, _, [2, 7]⟩, ⟨27, _, [2, 6, 8]⟩, ⟨28, _, [2, 9]⟩, ⟨29, _, [2, 10]⟩, ⟨30, _, [2, 11]⟩] [12] hz rfl ⟨mvs rfl rfl h7 rfl, (fun a s he hf hz q0 => ls rfl rfl q0 (lit_i (k := .i64) (n := 8) (by decide))), mvq rfl rfl, (fun a s he hf hz q2 => og rfl rfl rfl hz hz0 rfl q2 (fun g => op_move_v rfl (V_at h0 he (hf 0 rfl)))), (fun a s he hf hz q2 => og rfl rfl rfl hz hz0 rfl q2 (fun g => op_move_v rfl (V_at h1 he (hf 1 rfl)))), (fun a s he hf hz q2 q3 q4 => og rfl rfl rfl hz hz0 rfl q2 (fun g => op_iaddr rfl sl_53 (q3.1 g) (q4.1 g) (D13 g).1 (D13 g).2)), (fun a s he hf hz q2 q5 => og rfl rfl rfl hz hz0 rfl q2 (fun g => op_load_p rfl ty_5 (by decide) (q5.1 g))), (fun a s he hf hz q2 => og rfl rfl rfl hz hz0 rfl q2 (fun g => op_move_v rfl (V_at h7 he (hf 7 rfl)))), (fun a s he hf hz q2 q7 => og rfl rfl rfl hz hz0 rfl q2 (fun g => op_sub rfl (lit_i (k := .i64) (n := 7) (by decide)) (q7.1 g))), (fun a s he hf hz q2 q6 q8 => og rfl rfl rfl hz hz0 rfl q2 (fun g => op_shr rfl (V_y2i (q6.1 g)) (q8.1 g) (D14 g))), (fun a s he hf hz q2 q9 => og rfl rfl rfl hz hz0 rfl q2 (fun g => op_and rfl (q9.1 g) (lit_i (k := .u8) (n := 1) (by decide)))), (fun a s he hf hz q2 q10 => og rfl rfl rfl hz hz0 rfl q2 (fun g => op_eql rfl (q10.1 g) (lit_i (k := .u8) (n := 1) (by decide)))), (fun a s he hf hz q2 q11 => an rfl rfl q2 (q11.1)), trivial⟩ ?_
  intro a15 s16 he hf hz hd1 h30; have ⟨hd, E⟩ := hdE hd1 hd E he; obtain ⟨h0, h1, h7⟩ := va3 he hf h0 h1 h7 rfl; refine wp_condV h30 (fun hb => ?_) (fun hb => ?_)
  ·have h := ite_t hb h; refine wp_skip ?_; refine wp_block ?_; refine wp_region ?_; refine sq_blk [⟨31, _, []⟩, ⟨32, _, [0]⟩] [1] hz rfl ⟨mvs rfl rfl h7 rfl, (fun a s he hf hz q0 => ad rfl rfl q0 i1), trivial⟩ ?_; intro a17 s18 he hf hz hd1 h32; have ⟨hd, E⟩ := hdE hd1 hd E he; obtain ⟨h0, h1⟩ := va2 he hf h0 h1 rfl; refine sq_blk [⟨7, _, []⟩] [0] hz rfl ⟨avs rfl rfl h32 rfl, trivial⟩ ?_; intro a19 s20 he hf hz hd1 h7; have ⟨hd, E⟩ := hdE hd1 hd E he; obtain ⟨h0, h1⟩ := va2 he hf h0 h1 rfl; exact ⟨_, (by omega : m12 < m12 + 1), _, h, by omega, E, hz, hd, h0, h1, h7⟩
  ·have h := ite_f hb h; refine wp_exit ?_; refine then_exit ?_; refine then_exit ?_; refine inBlock_hit ?_; refine wp_seq ?_; refine wp_sr ?_; refine sq_blk [⟨33, _, []⟩, ⟨34, _, [0]⟩, ⟨35, _, []⟩, ⟨36, _, [1, 2]⟩, ⟨37, _, []⟩, ⟨38, _, [4]⟩, ⟨39, _, [3, 5]⟩] [6] hz rfl ⟨mvs rfl rfl h0 rfl, (fun a s he hf hz q0 => le_ rfl rfl u_53 q0), mvs rfl rfl h1 rfl, (fun a s he hf hz q1 q2 => opw rfl (op_sub rfl q1 q2)), mvs rfl rfl h7 rfl, (fun a s he hf hz q4 => ad rfl rfl q4 i1), (fun a s he hf hz q3 q5 => ls rfl rfl q3 q5), trivial⟩ ?_; intro a21 s22 he hf hz hd1 h39; have ⟨hd, E⟩ := hdE hd1 hd E he; obtain ⟨h0, h1, h7⟩ := va3 he hf h0 h1 h7 rfl; refine wp_condV h39 (fun hb => ?_) (fun hb => ?_)
   ·have h := ite_t hb h; refine wp_sr ?_; refine sq_blk [⟨4, _, []⟩, ⟨5, _, []⟩, ⟨6, _, []⟩] [0, 1, 2] hz rfl ⟨(fun a s he hf hz => av rfl rfl (lit_i (k := .u64) (n := 0) (by decide))), (fun a s he hf hz => av rfl rfl i0), (fun a s he hf hz => av rfl rfl (lit_i (k := .i64) (n := 20) (by decide))), trivial⟩ ?_; intro a23 s24 he hf hz hd1 h4 h5 h6; have ⟨hd, E⟩ := hdE hd1 hd E he; refine wp_ret ?_; cases h
    exact ⟨hd, _, results_tmp3' rfl _ _ _, E, tup3 h4 h5 h6⟩
   ·have h := ite_f hb h; refine wp_skip ?_; refine wp_sr ?_; refine sq_blk [⟨8, _, []⟩] [0] hz rfl ⟨(fun a s he hf hz => av rfl rfl (lit_i (k := .u64) (n := 0) (by decide))), trivial⟩ ?_; intro a25 s26 he hf hz hd1 h8; have ⟨hd, E⟩ := hdE hd1 hd E he; obtain ⟨h0, h1, h7⟩ := va3 he hf h0 h1 h7 rfl; refine wp_seq ?_; refine wp_sr ?_; refine sq_blk [⟨40, _, []⟩, ⟨41, _, [0]⟩] [1] hz rfl ⟨mvs rfl rfl h7 rfl, (fun a s he hf hz q0 => ls rfl rfl q0 (lit_i (k := .i64) (n := 7) (by decide))), trivial⟩ ?_; intro a27 s28 he hf hz hd1 h41; have ⟨hd, E⟩ := hdE hd1 hd E he; obtain ⟨h0, h1, h7, h8⟩ := va4 he hf h0 h1 h7 h8 rfl; refine wp_condJ (I := fun a s => ∃ (m34 : Nat) (y33 : Int), ref02_TakeNumber.l1 m34 x0 x1 y11 y33 = some r ∧ m34 ≤ m12 ∧ Ext s0 s ∧ a.tmps.size = 76 ∧ a.defers = [] ∧ (kSl kY).V s (a.get 0) x0 ∧ (kI .i64).V s (a.get 1) x1 ∧ (kI .i64).V s (a.get 7) y11 ∧ (kI .u64).V s (a.get 8) y33) h41 (fun J hb => ?_) (fun J hb => ?_) ?_
    ·have h := ite_t hb h; obtain ⟨D29, h⟩ := need h; obtain ⟨D30, h⟩ := need h; refine wp_draw [⟨42, _, []⟩, ⟨43, _, []⟩, ⟨44, _, [0, 1]⟩, ⟨45, _, [2]⟩, ⟨46, _, [3]⟩, ⟨47, _, []⟩, ⟨48, _, [5]⟩, ⟨49, _, [6]⟩, ⟨50, _, [7]⟩, ⟨51, _, [4, 8]⟩, ⟨8, _, [9]⟩] [10] mo hz (by kernel_rfl) ⟨mvs rfl rfl h0 rfl, mvs rfl rfl h1 rfl, (fun a s he hf hz q0 q1 => ia rfl rfl sl_53 q0 q1 D29.1 D29.2), (fun a s he hf hz q2 => lp rfl rfl ty_5 (by decide) q2), (fun a s he hf hz q3 => cv rfl rfl u_5 u_89 (V_y2i q3)), mvs rfl rfl h7 rfl, (fun a s he hf hz q5 => opw rfl (op_sub rfl (lit_i (k := .i64) (n := 7) (by decide)) q5)), (fun a s he hf hz q6 => opw rfl (op_shl rfl (lit_i (k := .u64) (n := 1) (by decide)) q6 D30)), (fun a s he hf hz q7 => opw rfl (op_sub rfl q7 (lit_i (k := .u64) (n := 1) (by decide)))), (fun a s he hf hz q4 q8 => opw rfl (op_and rfl q4 q8)), avq rfl rfl, trivial⟩ ?_; intro a31 s32 he hf hz hd1 h8; have ⟨hd, E⟩ := hdE hd1 hd E he; obtain ⟨h0, h1, h7⟩ := va3 he hf h0 h1 h7 rfl; exact J _ _ ⟨_, _, h, by omega, E, hz, hd, h0, h1, h7, h8⟩
    ·have h := ite_f hb h; refine wp_skip ?_; exact J _ _ ⟨_, _, h, by omega, E, hz, hd, h0, h1, h7, h8⟩
    rintro a35 s36 ⟨m34, y33, h, hkm34, E, hz, hd, h0, h1, h7, h8⟩
    obtain _ | m34 := m34
    ·cases h
    refine wp_seq ?_; refine wp_sr ?_; refine sq_blk [⟨9, _, []⟩] [0] hz rfl ⟨(fun a s he hf hz => av rfl rfl i1), trivial⟩ ?_; intro a37 s38 he hf hz hd1 h9; have ⟨hd, E⟩ := hdE hd1 hd E he; obtain ⟨h0, h1, h7, h8⟩ := va4 he hf h0 h1 h7 h8 rfl; refine wp_block ?_; refine wp_loop (k := m34) (fun m43 a s => ∃ (y41 : Int) (y42 : Int), ref02_TakeNumber.l2 m43 x0 x1 y11 y41 y42 = some r ∧ m43 ≤ m34 ∧ Ext s0 s ∧ a.tmps.size = 76 ∧ a.defers = [] ∧ (kSl kY).V s (a.get 0) x0 ∧ (kI .i64).V s (a.get 1) x1 ∧ (kI .i64).V s (a.get 7) y11 ∧ (kI .u64).V s (a.get 8) y41 ∧ (kI .i64).V s (a.get 9) y42) ⟨_, _, h, Nat.le_refl _, E, hz, hd, h0, h1, h7, h8, h9⟩ ?_; rintro m43 a40 s39 ⟨y41, y42, h, hkm43, E, hz, hd, h0, h1, h7, h8, h9⟩; obtain _ | m43 := m43
    ·cases h
    refine wp_seq ?_; refine wp_sr ?_; refine sq_blk [⟨52, _, []⟩, ⟨53, _, []⟩, ⟨54, _, [0, 1]⟩] [2] hz rfl ⟨mvs rfl rfl h9 rfl, mvs rfl rfl h7 rfl, (fun a s he hf hz q0 q1 => lq_ rfl rfl q0 q1), trivial⟩ ?_; intro a44 s45 he hf hz hd1 h54; have ⟨hd, E⟩ := hdE hd1 hd E he; obtain ⟨h0, h1, h7, h8, h9⟩ := va5 he hf h0 h1 h7 h8 h9 rfl; refine wp_condV h54 (fun hb => ?_) (fun hb => ?_)
    ·have h := ite_t hb h; refine wp_skip ?_; refine wp_seq ?_; refine wp_block ?_; refine wp_region ?_; obtain ⟨D46, h⟩ := need h; refine sq_blk [⟨57, _, []⟩, ⟨58, _, [0]⟩, ⟨59, _, []⟩, ⟨60, _, []⟩, ⟨61, _, []⟩, ⟨62, _, [3, 4]⟩, ⟨63, _, [2, 5]⟩, ⟨64, _, [6]⟩, ⟨65, _, [7]⟩, ⟨66, _, [1, 8]⟩] [9] hz rfl ⟨mvs rfl rfl h8 rfl, (fun a s he hf hz q0 => opw rfl (op_shl rfl q0 (lit_i (k := .u64) (n := 8) (by decide)) (by decide))), mvs rfl rfl h0 rfl, mvs rfl rfl h1 rfl, mvs rfl rfl h9 rfl, (fun a s he hf hz q3 q4 => ad rfl rfl q3 q4), (fun a s he hf hz q2 q5 => ia rfl rfl sl_53 q2 q5 D46.1 D46.2), (fun a s he hf hz q6 => lp rfl rfl ty_5 (by decide) q6), (fun a s he hf hz q7 => cv rfl rfl u_5 u_89 (V_y2i q7)), (fun a s he hf hz q1 q8 => opw rfl (op_or rfl q1 q8)), trivial⟩ ?_; intro a47 s48 he hf hz hd1 h66; have ⟨hd, E⟩ := hdE hd1 hd E he; obtain ⟨h0, h1, h7, h9⟩ := va4 he hf h0 h1 h7 h9 rfl; refine sq_blk [⟨8, _, []⟩] [0] hz rfl ⟨avs rfl rfl h66 rfl, trivial⟩ ?_; intro a49 s50 he hf hz hd1 h8; have ⟨hd, E⟩ := hdE hd1 hd E he; obtain ⟨h0, h1, h7, h9⟩ := va4 he hf h0 h1 h7 h9 rfl; refine wp_region ?_
     refine sq_blk [⟨55, _, []⟩, ⟨56, _, [0]⟩] [1] hz rfl ⟨mvs rfl rfl h9 rfl, (fun a s he hf hz q0 => ad rfl rfl q0 i1), trivial⟩ ?_; intro a51 s52 he hf hz hd1 h56; have ⟨hd, E⟩ := hdE hd1 hd E he; obtain ⟨h0, h1, h7, h8⟩ := va4 he hf h0 h1 h7 h8 rfl; refine sq_blk [⟨9, _, []⟩] [0] hz rfl ⟨avs rfl rfl h56 rfl, trivial⟩ ?_; intro a53 s54 he hf hz hd1 h9; have ⟨hd, E⟩ := hdE hd1 hd E he; obtain ⟨h0, h1, h7, h8⟩ := va4 he hf h0 h1 h7 h8 rfl; exact ⟨_, (by omega : m43 < m43 + 1), _, _, h, by omega, E, hz, hd, h0, h1, h7, h8, h9⟩
    ·have h := ite_f hb h; refine wp_exit ?_; refine then_exit ?_; refine then_exit ?_; refine inBlock_hit ?_; refine wp_seq ?_; refine wp_sr ?_; refine sq_blk [⟨67, _, []⟩, ⟨68, _, [0]⟩, ⟨69, _, []⟩, ⟨70, _, [1, 2]⟩] [3] hz rfl ⟨mvs rfl rfl h8 rfl, (fun a s he hf hz q0 => opw rfl (op_call rfl rfl (ref02_follow.ct q0))), mvs rfl rfl h7 rfl, (fun a s he hf hz q1 q2 => ne_ rfl rfl q1 q2), trivial⟩ ?_; intro a55 s56 he hf hz hd1 h70; have ⟨hd, E⟩ := hdE hd1 hd E he; obtain ⟨h1, h7, h8⟩ := va3 he hf h1 h7 h8 rfl; refine wp_condV h70 (fun hb => ?_) (fun hb => ?_)
     ·have h := ite_t hb h; refine wp_sr ?_; refine sq_blk [⟨4, _, []⟩, ⟨5, _, []⟩, ⟨6, _, []⟩] [0, 1, 2] hz rfl ⟨(fun a s he hf hz => av rfl rfl (lit_i (k := .u64) (n := 0) (by decide))), (fun a s he hf hz => av rfl rfl i0), (fun a s he hf hz => av rfl rfl (lit_i (k := .i64) (n := 20) (by decide))), trivial⟩ ?_; intro a57 s58 he hf hz hd1 h4 h5 h6; have ⟨hd, E⟩ := hdE hd1 hd E he; refine wp_ret ?_; cases h
      exact ⟨hd, _, results_tmp3' rfl _ _ _, E, tup3 h4 h5 h6⟩
     ·have h := ite_f hb h; refine wp_skip ?_; refine wp_sr ?_; refine sq_blk [⟨71, _, []⟩, ⟨72, _, []⟩, ⟨73, _, []⟩, ⟨74, _, [1, 2]⟩, ⟨75, _, [3]⟩, ⟨4, _, [0]⟩, ⟨5, _, [4]⟩, ⟨6, _, []⟩] [5, 6, 7] hz rfl ⟨mvs rfl rfl h8 rfl, mvs rfl rfl h1 rfl, mvs rfl rfl h7 rfl, (fun a s he hf hz q1 q2 => ad rfl rfl q1 q2), (fun a s he hf hz q3 => ad rfl rfl q3 i1), avq rfl rfl, avq rfl rfl, (fun a s he hf hz => av rfl rfl i0), trivial⟩ ?_; intro a59 s60 he hf hz hd1 h4 h5 h6; have ⟨hd, E⟩ := hdE hd1 hd E he; refine wp_ret ?_; cases h
      exact ⟨hd, _, results_tmp3' rfl _ _ _, E, tup3 h4 h5 h6⟩
theorem lead_one : ∀ c, c < 256 → ∀ k, k < lead c → (c / 2 ^ (7 - k)) &&& 1 = 1 := by decide
theorem lead_zero : ∀ c, c < 256 → lead c < 8 → (c / 2 ^ (7 - lead c)) &&& 1 = 0 := by decide
theorem ref02_TakeNumber.e2 {b : Str} {i k : Nat} (hb : b.length ≤ maxLen) (hi : i < b.length) (hk8 : k ≤ 8) (hl : ¬ b.length - i ≤ k) : ∀ j, j ≤ k → ∀ n : Nat, n < 2 ^ (8 - k) * 256 ^ (k - j) → ∃ f, ref02_TakeNumber.l2 f b (i : Int) (k : Int) (n : Int) ((k - j : Nat) + 1 : Int) = some (if ext (valN n ((b.drop (i + 1 + (k - j))).take j)) = k then (((valN n ((b.drop (i + 1 + (k - j))).take j) : Nat) : Int), (i : Int) + 1 + k, 0) else (0, 0, 20)) := by
 have hm := maxLen_lt
 intro j
 induction j with
 | zero =>
  intro _ n hn
  refine ⟨1, ?_⟩
  have hn64 : n < 18446744073709551616 := by
   rw [Nat.sub_zero] at hn
   have : (2 : Nat) ^ (8 - k) * 256 ^ k = 2 ^ (8 - k + 8 * k) := by rw [Nat.pow_add, Nat.pow_mul]
   rw [this] at hn
   exact Nat.lt_of_lt_of_le hn (Nat.pow_le_pow_right (by omega) (show 8 - k + 8 * k ≤ 64 by omega))
  have ee : wire_extra (n : Int) = (ext n : Int) := by rw [wire_extra_eq (x := (n : Int)) (by omega) (by omega), Int.toNat_natCast]
  have e3 : IntKind.wrap .i64 (IntKind.wrap .i64 ((i : Int) + (k : Int)) + 1) = (i : Int) + 1 + k := by rw [w64 (n := (i : Int) + k) (by omega) (by omega), w64 (by omega) (by omega)]; omega
  have h0 : ¬ ((k : Int) + 1 ≤ (k : Int)) := by omega
  simp only [ref02_TakeNumber.l2, ee, e3, Nat.sub_zero, h0, decide_false, Bool.false_eq_true, if_false, List.take_zero, valN, List.foldl_nil]
  by_cases h : ext n = k
  ·simp [h]
  ·have : ¬ (ext n : Int) = k := by omega
   simp [h, this]
 | succ j ih =>
  intro hj n hn
  have hn56 : n < 72057594037927936 := Nat.lt_of_lt_of_le hn (pow_bound hk8 (by omega))
  have hlt : i + 1 + (k - (j + 1)) < b.length := by omega
  have hc := byte_nat (b.getD (i + 1 + (k - (j + 1))) default)
  obtain ⟨f, hf⟩ := ih (by omega) (n * 256 + (b.getD (i + 1 + (k - (j + 1))) default).toNat) (by
   rw [show k - j = (k - (j + 1)) + 1 from by omega, Nat.pow_succ, ← Nat.mul_assoc]; omega)
  refine ⟨f + 1, ?_⟩
  have e4 : IntKind.wrap .i64 ((i : Int) + ((k - (j + 1) : Nat) + 1 : Int)) = ((i + 1 + (k - (j + 1)) : Nat) : Int) := by rw [w64 (by omega) (by omega)]; omega
  have e5 : IntKind.wrap .i64 (((k - (j + 1) : Nat) + 1 : Int) + 1) = ((k - j : Nat) + 1 : Int) := by rw [w64 (by omega) (by omega)]; omega
  have h1 : ((k - (j + 1) : Nat) + 1 : Int) ≤ (k : Int) := by omega
  simp only [ref02_TakeNumber.l2, e4, e5, h1, decide_true, if_true, Int.toNat_natCast, step_u64 _ hn56]
  rw [if_pos ⟨by omega, by omega⟩, hf, drop_at (xs := b) (y := i + 1 + (k - (j + 1))) default hlt, List.take_succ_cons, valN_cons, show i + 1 + (k - (j + 1)) + 1 = i + 1 + (k - j) from by omega]
theorem ref02_TakeNumber.nice (x0 : Str) (x1 : Int) (b0 : (kSl kY).bd x0) (b1 : (kI .i64).bd x1) : ∃ k, ref02_TakeNumber.f k x0 x1 = some (takeN x0 x1) := by
 have hb : x0.length ≤ maxLen := b0.1
 have hm := maxLen_lt
 by_cases h : x1 < 0 ∨ (x0.length : Int) ≤ x1
 ·refine ⟨0, ?_⟩
  rw [takeN_off h]
  unfold ref02_TakeNumber.f
  rw [if_pos (by simpa using h)]
 ·obtain ⟨i, rfl⟩ := Int.eq_ofNat_of_zero_le (show 0 ≤ x1 by omega)
  have hi : i < x0.length := by omega
  have hr : (0 : Int) ≤ i ∧ (i : Int) < x0.length := ⟨by omega, by omega⟩
  have hg : ¬ ((decide ((i : Int) < 0) || decide ((x0.length : Int) ≤ (i : Int))) = true) := by simpa using h
  have e0 : IntKind.wrap .i64 ((x0.length : Int) - i) = ((x0.length - i : Nat) : Int) := by rw [w64 (by omega) (by omega)]; omega
  obtain ⟨c, hcd⟩ : ∃ c, (x0.getD i default).toNat = c := ⟨_, rfl⟩
  have hc : c < 256 := by rw [← hcd]; exact byte_nat _
  have hk8 := lead_le c
  have bit : ∀ y, y ≤ lead c → y < 8 → bAnd .u8 (sShr .u8 (c : Int) (IntKind.wrap .i64 (7 - (y : Int)))) 1 = (((c / 2 ^ (7 - y)) &&& 1 : Nat) : Int) := fun y _ hy => by
   have e : IntKind.wrap .i64 (7 - (y : Int)) = ((7 - y : Nat) : Int) := by rw [w64 (by omega) (by omega)]; omega
   rw [e, sShr_nat (k := .u8) c (7 - y) hc]
   exact bAnd_nat (k := .u8) rfl (m := c / 2 ^ (7 - y)) (n := 1) (Nat.lt_of_le_of_lt (Nat.div_le_self _ _) hc) (by decide)
  have e7 : ∀ y : Nat, y ≤ 8 → y < 8 → 0 ≤ IntKind.wrap .i64 (7 - (y : Int)) := fun y _ hy => by rw [w64 (by omega) (by omega)]; omega
  have key : ∀ y, y ≤ lead c → ∃ f, ref02_TakeNumber.l0 f x0 (i : Int) (y : Int) = some (takeN x0 (i : Int)) := by
   refine rounds (lead c) ?_ fun y hy ⟨k, hk⟩ => ?_
   ·have stop : ¬ ((decide (((lead c : Nat) : Int) < 8) && decide (bAnd .u8 (sShr .u8 (c : Int) (IntKind.wrap .i64 (7 - ((lead c : Nat) : Int)))) 1 = 1)) = true) := by
     intro hx
     simp only [Bool.and_eq_true, decide_eq_true_eq] at hx
     have h8 : lead c < 8 := by omega
     rw [bit _ (Nat.le_refl _) h8, lead_zero c hc h8] at hx
     omega
    have e8 : IntKind.wrap .i64 (((lead c : Nat) : Int) + 1) = ((lead c : Nat) : Int) + 1 := w64 (by omega) (by omega)
    by_cases hl : x0.length - i ≤ lead c
    ·refine ⟨1, ?_⟩
     have : ((x0.length - i : Nat) : Int) < ((lead c : Nat) : Int) + 1 := by omega
     simp only [ref02_TakeNumber.l0, Int.toNat_natCast, hcd, hr, and_self, implies_true, if_true, if_neg stop, e0, e8, this, decide_true]
     rw [if_pos (fun hx => e7 _ hk8 (by simp at hx; omega)), takeN_short hi (by rw [hcd]; exact hl)]
    ·have hn : ¬ ((x0.length - i : Nat) : Int) < ((lead c : Nat) : Int) + 1 := by omega
     have hfr := frstN_lt (c := c) hk8
     obtain ⟨f, hf⟩ := ref02_TakeNumber.e2 hb hi hk8 hl _ (Nat.le_refl _) _ (by rw [Nat.sub_self]; simpa using hfr)
     rw [Nat.sub_self, Nat.add_zero] at hf
     rw [takeN_fin hi (by rw [hcd]) hl, hcd]
     refine ⟨f + 1 + 1, ?_⟩
     simp only [ref02_TakeNumber.l0, Int.toNat_natCast, hcd, hr, and_self, implies_true, if_true, if_neg stop, e0, e8, hn, decide_false, Bool.false_eq_true, if_false]
     rw [if_pos (fun hx => e7 _ hk8 (by simp at hx; omega))]
     by_cases h7 : lead c < 7
     ·have h7' : ((lead c : Nat) : Int) < 7 := by omega
      have e9 : IntKind.wrap .i64 (7 - ((lead c : Nat) : Int)) = ((7 - lead c : Nat) : Int) := by rw [w64 (by omega) (by omega)]; omega
      have tb : ∀ k, k < 7 → 1 * 2 ^ (7 - k) - 1 = 127 / 2 ^ k ∧ 1 * 2 ^ (7 - k) < 256 ∧ 1 ≤ 1 * 2 ^ (7 - k) := by decide
      obtain ⟨t1, t2, t3⟩ := tb _ h7
      have e10 : IntKind.wrap .u64 (sShl .u64 1 ((7 - lead c : Nat) : Int) - 1) = ((127 / 2 ^ lead c : Nat) : Int) := by
       have : sShl .u64 ((1 : Nat) : Int) ((7 - lead c : Nat) : Int) = _ := sShl_nat 1 (7 - lead c) (by show 7 - lead c ≤ 64; omega)
       rw [wrap_u64, Nat.mod_eq_of_lt (by omega)] at this
       rw [show (1 : Int) = ((1 : Nat) : Int) from rfl, this, show ((1 * 2 ^ (7 - lead c) : Nat) : Int) - ((1 : Nat) : Int) = ((1 * 2 ^ (7 - lead c) - 1 : Nat) : Int) from by omega, wrap_u64, t1, Nat.mod_eq_of_lt (by omega)]
      have e11 : bAnd .u64 (IntKind.wrap .u64 (c : Int)) ((127 / 2 ^ lead c : Nat) : Int) = ((frstN c (lead c) : Nat) : Int) := by
       rw [wrap_u64, Nat.mod_eq_of_lt (by omega), bAnd_nat rfl (by show c < 18446744073709551616; omega) (by show 127 / 2 ^ lead c < 18446744073709551616; omega)]
       rfl
      simp only [h7', decide_true, if_true, e9, e10, e11]
      rw [if_pos (by omega)]
      simp only [ref02_TakeNumber.l1]
      exact hf
     ·have h7' : ¬ ((lead c : Nat) : Int) < 7 := by omega
      have z : frstN c (lead c) = 0 := by
       have : lead c = 7 ∨ lead c = 8 := by omega
       unfold frstN
       rcases this with e | e <;> rw [e]
       ·exact Nat.and_zero _
       ·exact Nat.and_zero _
      rw [z] at hf ⊢
      simp only [h7', decide_false, Bool.false_eq_true, if_false, ref02_TakeNumber.l1]
      exact hf
   ·push_cast at hk
    refine ⟨k + 1, ?_⟩
    have hy8 : y < 8 := by omega
    have go : (decide ((y : Int) < 8) && decide (bAnd .u8 (sShr .u8 (c : Int) (IntKind.wrap .i64 (7 - (y : Int)))) 1 = 1)) = true := by
     rw [bit y (by omega) hy8, lead_one c hc y hy]
     simp; omega
    simp only [ref02_TakeNumber.l0, Int.toNat_natCast, hcd, hr, and_self, implies_true, if_true, if_pos go]
    rw [if_pos (fun hx => e7 _ (by omega) hy8), w64s (by omega)]
    exact hk
  obtain ⟨f, hf⟩ := key 0 (Nat.zero_le _)
  refine ⟨f, ?_⟩
  unfold ref02_TakeNumber.f
  rw [if_neg hg]
  exact hf
theorem ref02_TakeNumber.ct {s0 : St} {v0 : Value} {x0 : (List UInt8)} {v1 : Value} {x1 : Int} (k0 : (kSl kY).V s0 v0 x0) (k1 : (kI .i64).V s0 v1 x1) : Cl Try.prog 90 #[v0, v1] s0 (Okf s0 (Fact.tup [Fact.v (kI .u64) ((takeN x0 x1).1), Fact.v (kI .i64) ((takeN x0 x1).2.1), Fact.v (kI .i64) ((takeN x0 x1).2.2)])) := by
 obtain ⟨k, h⟩ := ref02_TakeNumber.nice x0 x1 (Kn.V_bd k0) (Kn.V_bd k1)
 exact ref02_TakeNumber.ok k0 k1 h
end
section
attribute [local irreducible] Kn.V PtrV
theorem valN_div (l : Str) : ∀ n, valN n l / 256 ^ l.length = n := by
 induction l with
 | nil => intro n; simp [valN]
 | cons c l ih =>
  intro n
  have hc := byte_nat c
  rw [valN_cons, List.length_cons, Nat.pow_succ, ← Nat.div_div_eq_div_mul, ih]
  omega
theorem tailB_valN (l : Str) : ∀ n, tailB (valN n l) l.length = l := by
 induction l with
 | nil => intro n; rfl
 | cons c l ih =>
  intro n
  have hd := valN_div l (n * 256 + c.toNat)
  rw [valN_cons, List.length_cons]
  show UInt8.ofNat (valN (n * 256 + c.toNat) l / 2 ^ (8 * l.length)) :: tailB (valN (n * 256 + c.toNat) l) l.length = c :: l
  rw [ih, show (2 : Nat) ^ (8 * l.length) = 256 ^ l.length from by rw [Nat.pow_mul], hd]
  congr 1
  apply UInt8.toNat_inj.1
  have hc := byte_nat c
  simp
theorem head_bits : ∀ c, c < 256 → lead c < 8 → oneN (lead c) ||| (c &&& (127 / 2 ^ lead c)) = c := by decide
theorem head_full : ∀ c, c < 256 → lead c = 8 → c = 255 := by decide
theorem readN_lays {x r : Str} {n : Nat} (h : readN x = some (n, r)) : x = numB n ++ r ∧ n < 18446744073709551616 := by
 cases x with
 | nil => cases h
 | cons c l =>
  have hc := byte_nat c
  simp only [readN] at h
  split at h
  ·cases h
  ·rename_i h1
   split at h
   ·rename_i h2
    cases h
    have hk8 := lead_le c.toNat
    have hlen : (l.take (lead c.toNat)).length = lead c.toNat := by rw [List.length_take]; omega
    have hdiv := valN_div (l.take (lead c.toNat)) (frstN c.toNat (lead c.toNat))
    have htl := tailB_valN (l.take (lead c.toNat)) (frstN c.toNat (lead c.toNat))
    rw [hlen] at hdiv htl
    generalize hv : valN (frstN c.toNat (lead c.toNat)) (l.take (lead c.toNat)) = v at *
    have hfr := frstN_lt (c := c.toNat) hk8
    have hv64 : v < 18446744073709551616 := by
     have h256 : (0 : Nat) < 256 ^ lead c.toNat := Nat.pow_pos (by omega)
     have : v < 2 ^ (8 - lead c.toNat) * 256 ^ lead c.toNat := by
      rw [← Nat.div_lt_iff_lt_mul h256, hdiv]; exact hfr
     rw [show (256 : Nat) ^ lead c.toNat = 2 ^ (8 * lead c.toNat) from by rw [Nat.pow_mul], ← Nat.pow_add] at this
     exact Nat.lt_of_lt_of_le this (Nat.pow_le_pow_right (by omega) (show 8 - lead c.toNat + 8 * lead c.toNat ≤ 64 by omega))
    refine ⟨?_, hv64⟩
    have hf : UInt8.ofNat (firstN v) = c := by
     apply UInt8.toNat_inj.1
     unfold firstN
     rw [h2]
     by_cases h8 : lead c.toNat < 8
     ·have hsm : frstN c.toNat (lead c.toNat) < 256 := Nat.lt_of_lt_of_le hfr (show 2 ^ (8 - lead c.toNat) ≤ 2 ^ 8 from Nat.pow_le_pow_right (by omega) (by omega))
      rw [if_pos h8, show (2 : Nat) ^ (8 * lead c.toNat) = 256 ^ lead c.toNat from by rw [Nat.pow_mul], hdiv, Nat.mod_eq_of_lt hsm]
      have := head_bits c.toNat hc h8
      unfold frstN
      rw [this]; simp
     ·rw [if_neg h8]
      have := head_full c.toNat hc (by omega)
      rw [this] <;> rfl
    show c :: l = (UInt8.ofNat (firstN v) :: tailB v (ext v)) ++ l.drop (lead c.toNat)
    rw [hf, h2, htl, List.cons_append, List.take_append_drop]
   ·cases h
theorem readN_len {x r : Str} {n : Nat} (h : readN x = some (n, r)) : x.length = ext n + 1 + r.length ∧ n < 18446744073709551616 ∧ r = x.drop (x.length - r.length) := by
 obtain ⟨h1, h2⟩ := readN_lays h
 subst h1
 refine ⟨by rw [List.length_append, numB_len], h2, ?_⟩
 rw [List.length_append, Nat.add_sub_cancel, List.drop_left]
def readT (most : Int) (x : Str) : Option (Str × Str) := match readN x with
 | none => none
 | some (n, r) => if most < (n : Int) ∨ r.length < n then none else some (r.take n, r.drop n)
def takeT (b : Str) (i most : Int) : Str × Int × Int := if i < 0 then ([], 0, 20) else match readT most (b.drop i.toNat) with
 | none => ([], 0, 20)
 | some (x, r) => (x, (b.length : Int) - r.length, 0)
theorem inK64m {n : Int} (h : (kI .i64).bd n) : -9223372036854775808 ≤ n ∧ n ≤ 9223372036854775807 := inK64 h
theorem takeT_nice (x0 : Str) (x1 x2 : Int) (b0 : (kSl kY).bd x0) (b1 : (kI .i64).bd x1) (b2 : (kI .i64).bd x2) :
  (if ((((!decide (((takeN x0 x1).2.2) = 0)) || (decide (x2 < 0))) || (decide ((IntKind.wrap .u64 x2) < ((takeN x0 x1).1)))) || (decide ((IntKind.wrap .u64 (IntKind.wrap .i64 ((x0.length : Int) - ((takeN x0 x1).2.1)))) < ((takeN x0 x1).1)))) = true then (some (([] : Str), (0 : Int), (20 : Int))) else (if (0 ≤ ((takeN x0 x1).2.1) ∧ ((takeN x0 x1).2.1) ≤ (IntKind.wrap .i64 (((takeN x0 x1).2.1) + (IntKind.wrap .i64 ((takeN x0 x1).1)))) ∧ (IntKind.wrap .i64 (((takeN x0 x1).2.1) + (IntKind.wrap .i64 ((takeN x0 x1).1)))) ≤ (x0.length : Int)) then (some (sub x0 ((takeN x0 x1).2.1) (IntKind.wrap .i64 (((takeN x0 x1).2.1) + (IntKind.wrap .i64 ((takeN x0 x1).1)))), IntKind.wrap .i64 (((takeN x0 x1).2.1) + (IntKind.wrap .i64 ((takeN x0 x1).1))), 0)) else none)) = some (takeT x0 x1 x2) := by
 have hb : x0.length ≤ maxLen := b0.1
 have hm := maxLen_lt
 obtain ⟨c0, c1⟩ := inK64m b2
 unfold takeN takeT
 by_cases h0 : x1 < 0
 ·simp [h0]
 ·simp only [if_neg h0]
  unfold readT
  cases hr : readN (x0.drop x1.toNat) with
  | none => simp
  | some nr =>
   obtain ⟨n, r⟩ := nr
   obtain ⟨l1, l2, l3⟩ := readN_len hr
   rw [List.length_drop] at l1 l3
   simp only [decide_true, Bool.not_true, Bool.false_or]
   have hrl : r.length ≤ x0.length := by omega
   have e1 : IntKind.wrap .u64 (IntKind.wrap .i64 ((x0.length : Int) - ((x0.length : Int) - r.length))) = (r.length : Int) := by
    rw [w64 (by omega) (by omega), show (x0.length : Int) - ((x0.length : Int) - r.length) = (r.length : Int) from by omega, wrap_u64, Nat.mod_eq_of_lt (by omega)]
   rw [e1]
   by_cases hneg : x2 < 0
   ·have : x2 < (n : Int) ∨ r.length < n := .inl (by omega)
    simp [hneg, this]
   ·have e2 : IntKind.wrap .u64 x2 = x2 := by
     obtain ⟨q, rfl⟩ := Int.eq_ofNat_of_zero_le (show 0 ≤ x2 by omega)
     rw [wrap_u64, Nat.mod_eq_of_lt (by omega)]
    rw [e2]
    by_cases hc : x2 < (n : Int) ∨ r.length < n
    ·have hc' : (decide (x2 < (n : Int)) || decide ((r.length : Int) < (n : Int))) = true := by
      rcases hc with h | h
      ·simp [h]
      ·simp [show (r.length : Int) < (n : Int) from by omega]
     rw [if_pos hc]
     rw [Bool.or_eq_true] at hc'
     have : ((decide (x2 < 0) || decide (x2 < (n : Int))) || decide ((r.length : Int) < (n : Int))) = true := by
      rcases hc' with h | h <;> rw [h] <;> simp
     rw [if_pos this]
    ·rw [if_neg hc]
     have h1 : ¬ x2 < (n : Int) := fun h => hc (.inl h)
     have h2 : ¬ r.length < n := fun h => hc (.inr h)
     have h2' : ¬ (r.length : Int) < (n : Int) := by omega
     have e3 : IntKind.wrap .i64 (n : Int) = (n : Int) := w64 (by omega) (by omega)
     have e4 : IntKind.wrap .i64 ((x0.length : Int) - r.length + (n : Int)) = (x0.length : Int) - r.length + n := w64 (by omega) (by omega)
     have hd : x0.drop (x0.length - r.length) = r := by
      conv => rhs; rw [l3]
      rw [List.drop_drop]; congr 1; omega
     simp only [hneg, h1, h2', decide_true, decide_false, Bool.not_true, Bool.or_self, Bool.false_eq_true, if_false, e3, e4]
     rw [if_pos ⟨by omega, by omega, by omega⟩]
     have es : sub x0 ((x0.length : Int) - r.length) ((x0.length : Int) - r.length + n) = r.take n := by
      unfold sub
      rw [show ((x0.length : Int) - r.length).toNat = x0.length - r.length from by omega, hd]
      congr 1; omega
     rw [es, List.length_drop]
     congr 3; omega
def wire_TakeText.f (k : Nat) (x0 : (List UInt8)) (x1 : Int) (x2 : Int) : Option (Str × Int × Int) := (if ((((!decide (((takeN x0 x1).2.2) = 0)) || (decide (x2 < 0))) || (decide ((IntKind.wrap .u64 x2) < ((takeN x0 x1).1)))) || (decide ((IntKind.wrap .u64 (IntKind.wrap .i64 ((x0.length : Int) - ((takeN x0 x1).2.1)))) < ((takeN x0 x1).1)))) = true then (some (([] : Str), 0, 20)) else (if (0 ≤ ((takeN x0 x1).2.1) ∧ ((takeN x0 x1).2.1) ≤ (IntKind.wrap .i64 (((takeN x0 x1).2.1) + (IntKind.wrap .i64 ((takeN x0 x1).1)))) ∧ (IntKind.wrap .i64 (((takeN x0 x1).2.1) + (IntKind.wrap .i64 ((takeN x0 x1).1)))) ≤ (x0.length : Int)) then (some (sub x0 ((takeN x0 x1).2.1) (IntKind.wrap .i64 (((takeN x0 x1).2.1) + (IntKind.wrap .i64 ((takeN x0 x1).1)))), IntKind.wrap .i64 (((takeN x0 x1).2.1) + (IntKind.wrap .i64 ((takeN x0 x1).1))), 0)) else none))
theorem wire_TakeText.ok {s0 : St} {v0 : Value} {x0 : (List UInt8)} {v1 : Value} {x1 : Int} {v2 : Value} {x2 : Int} {k : Nat} {r : Str × Int × Int} (k0 : (kSl kY).V s0 v0 x0) (k1 : (kI .i64).V s0 v1 x1) (k2 : (kI .i64).V s0 v2 x2) (h : wire_TakeText.f k x0 x1 x2 = some r) : Cl Try.prog 59 #[v0, v1, v2] s0 (Okf s0 (Fact.tup [Fact.v kS r.1, Fact.v (kI .i64) r.2.1, Fact.v (kI .i64) r.2.2])) := by
 unfold wire_TakeText.f at h
 refine cl_of_wp Try.func59 rfl en_59 fun a hz hd hp => ?_; have hz : a.tmps.size = 50 := hz; have E := Chg.refl (fun _ => False) s0; have h0 := V_at k0 E (hp 0 v0 rfl); have h1 := V_at k1 E (hp 1 v1 rfl); have h2 := V_at k2 E (hp 2 v2 rfl); refine wp_sr ?_; refine sq_blk [⟨6, _, []⟩, ⟨7, _, []⟩, ⟨8, _, []⟩] [] hz rfl ⟨(fun a s he hf hz => av rfl rfl s_0), (fun a s he hf hz => av rfl rfl i0), (fun a s he hf hz => av rfl rfl i0), trivial⟩ ?_; intro a1 s2 he hf hz hd1; have ⟨hd, E⟩ := hdE hd1 hd E he; obtain ⟨h0, h1, h2⟩ := va3 he hf h0 h1 h2 rfl; refine wp_sr ?_; refine sq_blk [⟨13, _, []⟩, ⟨14, _, []⟩, ⟨15, _, [0, 1]⟩, ⟨12, _, [2]⟩, ⟨16, _, [3]⟩, ⟨17, _, [3]⟩, ⟨18, _, [3]⟩, ⟨9, _, [4]⟩] [5, 6, 7] hz rfl ⟨mvs rfl rfl h0 rfl, mvs rfl rfl h1 rfl, (fun a s he hf hz q0 q1 => opw rfl (op_call rfl rfl (wire_TakeNumber.ct q0 q1))), (fun a s he hf hz q2 => opw rfl (op_move rfl (f := Fact.tup _) q2)), (fun a s he hf hz q3 => opw rfl (op_extract (f := Fact.v _ _) rfl q3 rfl)), (fun a s he hf hz q3 => opw rfl (op_extract (f := Fact.v _ _) rfl q3 rfl)), (fun a s he hf hz q3 => opw rfl (op_extract (f := Fact.v _ _) rfl q3 rfl)), avq rfl rfl, trivial⟩ ?_
 intro a3 s4 he hf hz hd1 h17 h18 h9; have ⟨hd, E⟩ := hdE hd1 hd E he; obtain ⟨h0, h2⟩ := va2 he hf h0 h2 rfl; refine sq_blk [⟨1, _, []⟩, ⟨10, _, []⟩] [0, 1] hz rfl ⟨avs rfl rfl h17 rfl, avs rfl rfl h18 rfl, trivial⟩ ?_; intro a5 s6 he hf hz hd1 h1 h10; have ⟨hd, E⟩ := hdE hd1 hd E he; obtain ⟨h0, h2, h9⟩ := va3 he hf h0 h2 h9 rfl; refine wp_seq ?_; refine wp_sr ?_; have hz0 := hz; refine sq_blk [⟨19, _, []⟩, ⟨20, _, [0]⟩, ⟨21, _, [1]⟩, ⟨22, _, [2]⟩, ⟨23, _, [2, 3]⟩, ⟨24, _, [2, 4]⟩, ⟨25, _, [5]⟩, ⟨26, _, [6]⟩, ⟨27, _, [6]⟩, ⟨28, _, [6, 8]⟩, ⟨29, _, [6, 7, 9]⟩, ⟨30, _, [6, 10]⟩, ⟨31, _, [11]⟩, ⟨32, _, [12]⟩, ⟨33, _, [12]⟩, ⟨34, _, [12, 14]⟩, ⟨35, _, [12]⟩, ⟨36, _, [12, 15, 16]⟩, ⟨37, _, [12, 17]⟩, ⟨38, _, [12, 13, 18]⟩, ⟨39, _, [12, 19]⟩] [20] hz rfl ⟨mvs rfl rfl h10 rfl, (fun a s he hf hz q0 => ne_ rfl rfl q0 i0), mvq rfl rfl, (fun a s he hf hz q2 => og rfl rfl rfl hz hz0 rfl q2 (fun g => op_move_v rfl (V_at h2 he (hf 2 rfl)))), (fun a s he hf hz q2 q3 => og rfl rfl rfl hz hz0 rfl q2 (fun g => op_lss rfl (q3.1 g) i0)), (fun a s he hf hz q2 q4 => oe rfl rfl q2 (q4.1)), mvq rfl rfl, (fun a s he hf hz q6 => og rfl rfl rfl hz hz0 rfl q6 (fun g => op_move_v rfl (V_at h9 he (hf 9 rfl)))), (fun a s he hf hz q6 => og rfl rfl rfl hz hz0 rfl q6 (fun g => op_move_v rfl (V_at h2 he (hf 2 rfl)))), (fun a s he hf hz q6 q8 => og rfl rfl rfl hz hz0 rfl q6 (fun g => op_conv rfl u_3 u_89 (q8.1 g))), (fun a s he hf hz q6 q7 q9 => og rfl rfl rfl hz hz0 rfl q6 (fun g => op_gtr rfl (q7.1 g) (q9.1 g))), (fun a s he hf hz q6 q10 => oe rfl rfl q6 (q10.1)), mvq rfl rfl, (fun a s he hf hz q12 => og rfl rfl rfl hz hz0 rfl q12 (fun g => op_move_v rfl (V_at h9 he (hf 9 rfl)))), (fun a s he hf hz q12 => og rfl rfl rfl hz hz0 rfl q12 (fun g => op_move_v rfl (V_at h0 he (hf 0 rfl)))), (fun a s he hf hz q12 q14 => og rfl rfl rfl hz hz0 rfl q12 (fun g => op_len rfl u_53 (q14.1 g))), (fun a s he hf hz q12 => og rfl rfl rfl hz hz0 rfl q12 (fun g => op_move_v rfl (V_at h1 he (hf 1 rfl)))), (fun a s he hf hz q12 q15 q16 => og rfl rfl rfl hz hz0 rfl q12 (fun g => op_sub rfl (q15.1 g) (q16.1 g))), (fun a s he hf hz q12 q17 => og rfl rfl rfl hz hz0 rfl q12 (fun g => op_conv rfl u_3 u_89 (q17.1 g))), (fun a s he hf hz q12 q13 q18 => og rfl rfl rfl hz hz0 rfl q12 (fun g => op_gtr rfl (q13.1 g) (q18.1 g))), (fun a s he hf hz q12 q19 => oe rfl rfl q12 (q19.1)), trivial⟩ ?_
 intro a7 s8 he hf hz hd1 h39; have ⟨hd, E⟩ := hdE hd1 hd E he; obtain ⟨h0, h1, h9⟩ := va3 he hf h0 h1 h9 rfl; refine wp_condV h39 (fun hb => ?_) (fun hb => ?_)
 ·have h := ite_t hb h; refine wp_sr ?_; refine sq_blk [⟨6, _, []⟩, ⟨7, _, []⟩, ⟨8, _, []⟩] [0, 1, 2] hz rfl ⟨(fun a s he hf hz => av rfl rfl s_0), (fun a s he hf hz => av rfl rfl i0), (fun a s he hf hz => av rfl rfl (lit_i (k := .i64) (n := 20) (by decide))), trivial⟩ ?_; intro a9 s10 he hf hz hd1 h6 h7 h8; have ⟨hd, E⟩ := hdE hd1 hd E he; refine wp_ret ?_; cases h
  exact ⟨hd, _, results_tmp3' rfl _ _ _, E, tup3 h6 h7 h8⟩
 ·have h := ite_f hb h; refine wp_skip ?_; refine wp_sr ?_; refine sq_blk [⟨40, _, []⟩, ⟨41, _, []⟩, ⟨42, _, [1]⟩, ⟨43, _, [0, 2]⟩, ⟨11, _, [3]⟩] [4] hz rfl ⟨mvs rfl rfl h1 rfl, mvs rfl rfl h9 rfl, (fun a s he hf hz q1 => cv rfl rfl u_89 u_3 q1), (fun a s he hf hz q0 q2 => ad rfl rfl q0 q2), avq rfl rfl, trivial⟩ ?_; intro a11 s12 he hf hz hd1 h11; have ⟨hd, E⟩ := hdE hd1 hd E he; obtain ⟨h0, h1⟩ := va2 he hf h0 h1 rfl; refine wp_sr ?_; obtain ⟨D13, h⟩ := need h; refine sq_blk [⟨44, _, []⟩, ⟨45, _, []⟩, ⟨46, _, []⟩, ⟨47, _, [0, 1, 2]⟩, ⟨48, _, [3]⟩, ⟨49, _, []⟩, ⟨6, _, [4]⟩, ⟨7, _, [5]⟩, ⟨8, _, []⟩] [6, 7, 8] hz rfl ⟨mvs rfl rfl h0 rfl, mvs rfl rfl h1 rfl, mvs rfl rfl h11 rfl, (fun a s he hf hz q0 q1 q2 => opw rfl (op_cut_lh rfl sl_53 q0 q1 q2 D13.1 D13.2.1 D13.2.2)), (fun a s he hf hz q3 => opw rfl (op_tostr rfl u_53 u_5 u_9 q3)), mvs rfl rfl h11 rfl, avq rfl rfl, avq rfl rfl, (fun a s he hf hz => av rfl rfl i0), trivial⟩ ?_; intro a14 s15 he hf hz hd1 h6 h7 h8; have ⟨hd, E⟩ := hdE hd1 hd E he; refine wp_ret ?_; cases h
  exact ⟨hd, _, results_tmp3' rfl _ _ _, E, tup3 h6 h7 h8⟩
theorem wire_TakeText.nice (x0 : Str) (x1 x2 : Int) (b0 : (kSl kY).bd x0) (b1 : (kI .i64).bd x1) (b2 : (kI .i64).bd x2) : ∃ k, wire_TakeText.f k x0 x1 x2 = some (takeT x0 x1 x2) :=
 ⟨0, by unfold wire_TakeText.f; exact takeT_nice x0 x1 x2 b0 b1 b2⟩
theorem wire_TakeText.ct {s0 : St} {v0 : Value} {x0 : (List UInt8)} {v1 : Value} {x1 : Int} {v2 : Value} {x2 : Int} (k0 : (kSl kY).V s0 v0 x0) (k1 : (kI .i64).V s0 v1 x1) (k2 : (kI .i64).V s0 v2 x2) : Cl Try.prog 59 #[v0, v1, v2] s0 (Okf s0 (Fact.tup [Fact.v kS ((takeT x0 x1 x2).1), Fact.v (kI .i64) ((takeT x0 x1 x2).2.1), Fact.v (kI .i64) ((takeT x0 x1 x2).2.2)])) := by
 obtain ⟨k, h⟩ := wire_TakeText.nice x0 x1 x2 (Kn.V_bd k0) (Kn.V_bd k1) (Kn.V_bd k2)
 exact wire_TakeText.ok k0 k1 k2 h
def ref02_TakeText.f (k : Nat) (x0 : (List UInt8)) (x1 : Int) (x2 : Int) : Option (Str × Int × Int) := (if ((((!decide (((takeN x0 x1).2.2) = 0)) || (decide (x2 < 0))) || (decide ((IntKind.wrap .u64 x2) < ((takeN x0 x1).1)))) || (decide ((IntKind.wrap .u64 (IntKind.wrap .i64 ((x0.length : Int) - ((takeN x0 x1).2.1)))) < ((takeN x0 x1).1)))) = true then (some (([] : Str), 0, 20)) else (if (0 ≤ ((takeN x0 x1).2.1) ∧ ((takeN x0 x1).2.1) ≤ (IntKind.wrap .i64 (((takeN x0 x1).2.1) + (IntKind.wrap .i64 ((takeN x0 x1).1)))) ∧ (IntKind.wrap .i64 (((takeN x0 x1).2.1) + (IntKind.wrap .i64 ((takeN x0 x1).1)))) ≤ (x0.length : Int)) then (some (sub x0 ((takeN x0 x1).2.1) (IntKind.wrap .i64 (((takeN x0 x1).2.1) + (IntKind.wrap .i64 ((takeN x0 x1).1)))), IntKind.wrap .i64 (((takeN x0 x1).2.1) + (IntKind.wrap .i64 ((takeN x0 x1).1))), 0)) else none))
theorem ref02_TakeText.ok {s0 : St} {v0 : Value} {x0 : (List UInt8)} {v1 : Value} {x1 : Int} {v2 : Value} {x2 : Int} {k : Nat} {r : Str × Int × Int} (k0 : (kSl kY).V s0 v0 x0) (k1 : (kI .i64).V s0 v1 x1) (k2 : (kI .i64).V s0 v2 x2) (h : ref02_TakeText.f k x0 x1 x2 = some r) : Cl Try.prog 89 #[v0, v1, v2] s0 (Okf s0 (Fact.tup [Fact.v kS r.1, Fact.v (kI .i64) r.2.1, Fact.v (kI .i64) r.2.2])) := by
 unfold ref02_TakeText.f at h
 refine cl_of_wp Try.func89 rfl en_89 fun a hz hd hp => ?_; have hz : a.tmps.size = 52 := hz; have E := Chg.refl (fun _ => False) s0; have h0 := V_at k0 E (hp 0 v0 rfl); have h1 := V_at k1 E (hp 1 v1 rfl); have h2 := V_at k2 E (hp 2 v2 rfl); refine wp_sr ?_; refine sq_blk [⟨6, _, []⟩, ⟨7, _, []⟩, ⟨8, _, []⟩] [] hz rfl ⟨(fun a s he hf hz => av rfl rfl s_0), (fun a s he hf hz => av rfl rfl i0), (fun a s he hf hz => av rfl rfl i0), trivial⟩ ?_; intro a1 s2 he hf hz hd1; have ⟨hd, E⟩ := hdE hd1 hd E he; obtain ⟨h0, h1, h2⟩ := va3 he hf h0 h1 h2 rfl; refine wp_sr ?_; refine sq_blk [⟨13, _, []⟩, ⟨14, _, []⟩, ⟨15, _, [0, 1]⟩, ⟨12, _, [2]⟩, ⟨16, _, [3]⟩, ⟨17, _, [3]⟩, ⟨18, _, [3]⟩, ⟨9, _, [4]⟩, ⟨10, _, [5]⟩, ⟨11, _, [6]⟩] [7, 8, 9] hz rfl ⟨mvs rfl rfl h0 rfl, mvs rfl rfl h1 rfl, (fun a s he hf hz q0 q1 => opw rfl (op_call rfl rfl (ref02_TakeNumber.ct q0 q1))), (fun a s he hf hz q2 => opw rfl (op_move rfl (f := Fact.tup _) q2)), (fun a s he hf hz q3 => opw rfl (op_extract (f := Fact.v _ _) rfl q3 rfl)), (fun a s he hf hz q3 => opw rfl (op_extract (f := Fact.v _ _) rfl q3 rfl)), (fun a s he hf hz q3 => opw rfl (op_extract (f := Fact.v _ _) rfl q3 rfl)), avq rfl rfl, avq rfl rfl, avq rfl rfl, trivial⟩ ?_
 intro a3 s4 he hf hz hd1 h9 h10 h11; have ⟨hd, E⟩ := hdE hd1 hd E he; obtain ⟨h0, h2⟩ := va2 he hf h0 h2 rfl; refine wp_seq ?_; refine wp_sr ?_; have hz0 := hz; refine sq_blk [⟨19, _, []⟩, ⟨20, _, [0]⟩, ⟨21, _, [1]⟩, ⟨22, _, [2]⟩, ⟨23, _, [2, 3]⟩, ⟨24, _, [2, 4]⟩, ⟨25, _, [5]⟩, ⟨26, _, [6]⟩, ⟨27, _, [6]⟩, ⟨28, _, [6, 8]⟩, ⟨29, _, [6, 7, 9]⟩, ⟨30, _, [6, 10]⟩, ⟨31, _, [11]⟩, ⟨32, _, [12]⟩, ⟨33, _, [12]⟩, ⟨34, _, [12, 14]⟩, ⟨35, _, [12]⟩, ⟨36, _, [12, 15, 16]⟩, ⟨37, _, [12, 17]⟩, ⟨38, _, [12, 13, 18]⟩, ⟨39, _, [12, 19]⟩] [20] hz rfl ⟨mvs rfl rfl h11 rfl, (fun a s he hf hz q0 => ne_ rfl rfl q0 i0), mvq rfl rfl, (fun a s he hf hz q2 => og rfl rfl rfl hz hz0 rfl q2 (fun g => op_move_v rfl (V_at h2 he (hf 2 rfl)))), (fun a s he hf hz q2 q3 => og rfl rfl rfl hz hz0 rfl q2 (fun g => op_lss rfl (q3.1 g) i0)), (fun a s he hf hz q2 q4 => oe rfl rfl q2 (q4.1)), mvq rfl rfl, (fun a s he hf hz q6 => og rfl rfl rfl hz hz0 rfl q6 (fun g => op_move_v rfl (V_at h9 he (hf 9 rfl)))), (fun a s he hf hz q6 => og rfl rfl rfl hz hz0 rfl q6 (fun g => op_move_v rfl (V_at h2 he (hf 2 rfl)))), (fun a s he hf hz q6 q8 => og rfl rfl rfl hz hz0 rfl q6 (fun g => op_conv rfl u_3 u_89 (q8.1 g))), (fun a s he hf hz q6 q7 q9 => og rfl rfl rfl hz hz0 rfl q6 (fun g => op_gtr rfl (q7.1 g) (q9.1 g))), (fun a s he hf hz q6 q10 => oe rfl rfl q6 (q10.1)), mvq rfl rfl, (fun a s he hf hz q12 => og rfl rfl rfl hz hz0 rfl q12 (fun g => op_move_v rfl (V_at h9 he (hf 9 rfl)))), (fun a s he hf hz q12 => og rfl rfl rfl hz hz0 rfl q12 (fun g => op_move_v rfl (V_at h0 he (hf 0 rfl)))), (fun a s he hf hz q12 q14 => og rfl rfl rfl hz hz0 rfl q12 (fun g => op_len rfl u_53 (q14.1 g))), (fun a s he hf hz q12 => og rfl rfl rfl hz hz0 rfl q12 (fun g => op_move_v rfl (V_at h10 he (hf 10 rfl)))), (fun a s he hf hz q12 q15 q16 => og rfl rfl rfl hz hz0 rfl q12 (fun g => op_sub rfl (q15.1 g) (q16.1 g))), (fun a s he hf hz q12 q17 => og rfl rfl rfl hz hz0 rfl q12 (fun g => op_conv rfl u_3 u_89 (q17.1 g))), (fun a s he hf hz q12 q13 q18 => og rfl rfl rfl hz hz0 rfl q12 (fun g => op_gtr rfl (q13.1 g) (q18.1 g))), (fun a s he hf hz q12 q19 => oe rfl rfl q12 (q19.1)), trivial⟩ ?_
 intro a5 s6 he hf hz hd1 h39; have ⟨hd, E⟩ := hdE hd1 hd E he; obtain ⟨h0, h9, h10⟩ := va3 he hf h0 h9 h10 rfl; refine wp_condV h39 (fun hb => ?_) (fun hb => ?_)
 ·have h := ite_t hb h; refine wp_sr ?_; refine sq_blk [⟨6, _, []⟩, ⟨7, _, []⟩, ⟨8, _, []⟩] [0, 1, 2] hz rfl ⟨(fun a s he hf hz => av rfl rfl s_0), (fun a s he hf hz => av rfl rfl i0), (fun a s he hf hz => av rfl rfl (lit_i (k := .i64) (n := 20) (by decide))), trivial⟩ ?_; intro a7 s8 he hf hz hd1 h6 h7 h8; have ⟨hd, E⟩ := hdE hd1 hd E he; refine wp_ret ?_; cases h
  exact ⟨hd, _, results_tmp3' rfl _ _ _, E, tup3 h6 h7 h8⟩
 ·have h := ite_f hb h; refine wp_skip ?_; refine wp_sr ?_; obtain ⟨D9, h⟩ := need h; refine sq_blk [⟨40, _, []⟩, ⟨41, _, []⟩, ⟨42, _, []⟩, ⟨43, _, []⟩, ⟨44, _, [3]⟩, ⟨45, _, [2, 4]⟩, ⟨46, _, [0, 1, 5]⟩, ⟨47, _, [6]⟩, ⟨48, _, []⟩, ⟨49, _, []⟩, ⟨50, _, [9]⟩, ⟨51, _, [8, 10]⟩, ⟨6, _, [7]⟩, ⟨7, _, [11]⟩, ⟨8, _, []⟩] [12, 13, 14] hz rfl ⟨mvs rfl rfl h0 rfl, mvs rfl rfl h10 rfl, mvs rfl rfl h10 rfl, mvs rfl rfl h9 rfl, (fun a s he hf hz q3 => cv rfl rfl u_89 u_3 q3), (fun a s he hf hz q2 q4 => ad rfl rfl q2 q4), (fun a s he hf hz q0 q1 q5 => opw rfl (op_cut_lh rfl sl_53 q0 q1 q5 D9.1 D9.2.1 D9.2.2)), (fun a s he hf hz q6 => opw rfl (op_tostr rfl u_53 u_5 u_9 q6)), mvs rfl rfl h10 rfl, mvs rfl rfl h9 rfl, (fun a s he hf hz q9 => cv rfl rfl u_89 u_3 q9), (fun a s he hf hz q8 q10 => ad rfl rfl q8 q10), avq rfl rfl, avq rfl rfl, (fun a s he hf hz => av rfl rfl i0), trivial⟩ ?_; intro a10 s11 he hf hz hd1 h6 h7 h8; have ⟨hd, E⟩ := hdE hd1 hd E he; refine wp_ret ?_; cases h
  exact ⟨hd, _, results_tmp3' rfl _ _ _, E, tup3 h6 h7 h8⟩
theorem ref02_TakeText.nice (x0 : Str) (x1 x2 : Int) (b0 : (kSl kY).bd x0) (b1 : (kI .i64).bd x1) (b2 : (kI .i64).bd x2) : ∃ k, ref02_TakeText.f k x0 x1 x2 = some (takeT x0 x1 x2) :=
 ⟨0, by unfold ref02_TakeText.f; exact takeT_nice x0 x1 x2 b0 b1 b2⟩
theorem ref02_TakeText.ct {s0 : St} {v0 : Value} {x0 : (List UInt8)} {v1 : Value} {x1 : Int} {v2 : Value} {x2 : Int} (k0 : (kSl kY).V s0 v0 x0) (k1 : (kI .i64).V s0 v1 x1) (k2 : (kI .i64).V s0 v2 x2) : Cl Try.prog 89 #[v0, v1, v2] s0 (Okf s0 (Fact.tup [Fact.v kS ((takeT x0 x1 x2).1), Fact.v (kI .i64) ((takeT x0 x1 x2).2.1), Fact.v (kI .i64) ((takeT x0 x1 x2).2.2)])) := by
 obtain ⟨k, h⟩ := ref02_TakeText.nice x0 x1 x2 (Kn.V_bd k0) (Kn.V_bd k1) (Kn.V_bd k2)
 exact ref02_TakeText.ok k0 k1 k2 h
end
section
attribute [local irreducible] Kn.V PtrV
theorem readT_lays {x y r : Str} {most : Int} (h : readT most x = some (y, r)) : x = numB y.length ++ y ++ r ∧ (y.length : Int) ≤ most ∧ y.length < 18446744073709551616 := by
 unfold readT at h
 cases hr : readN x with
 | none => rw [hr] at h; cases h
 | some nr =>
  obtain ⟨n, q⟩ := nr
  rw [hr] at h
  simp only [] at h
  split at h
  ·cases h
  ·rename_i hc
   cases h
   obtain ⟨h1, h2⟩ := readN_lays hr
   have hl : (q.take n).length = n := by rw [List.length_take]; omega
   rw [hl, List.append_assoc, List.take_append_drop]
   exact ⟨h1, by omega, h2⟩
theorem takeT_at {b : Str} {i : Nat} {most : Int} : takeT b (i : Int) most = match readT most (b.drop i) with
 | none => ([], 0, 20)
 | some (x, r) => (x, (b.length : Int) - r.length, 0) := by
 unfold takeT; rw [if_neg (by omega), Int.toNat_natCast] <;> rfl
end
section
attribute [local irreducible] Kn.V PtrV
theorem okRune_eq (r : Int) : (((((decide (r < 97)) || (decide (122 < r))) && ((decide (r < 48)) || (decide (57 < r)))) && (!decide (r = 46)))) = !((decide (97 ≤ r) && decide (r ≤ 122)) || (decide (48 ≤ r) && decide (r ≤ 57)) || decide (r = 46)) := by
 by_cases h1 : (97 : Int) ≤ r <;> by_cases h2 : r ≤ 122 <;> by_cases h3 : (48 : Int) ≤ r <;> by_cases h4 : r ≤ 57 <;> by_cases h5 : r = 46 <;>
  simp [h1, h2, h3, h4, h5] <;> omega
theorem okByte_high {c : UInt8} (h : 128 ≤ c.toNat) : okByte c = false := by
 unfold okByte
 have h1 : ¬ (c.toNat : Int) ≤ 122 := by omega
 have h2 : ¬ (c.toNat : Int) ≤ 57 := by omega
 have h3 : ¬ (c.toNat : Int) = 46 := by omega
 simp [h1, h2, h3]
theorem all_take_succ {p : UInt8 → Bool} {x : Str} {y : Nat} {d : UInt8} (h : y < x.length) (h1 : (x.take y).all p = true) (h2 : p (x.getD y d) = true) : (x.take (y + 1)).all p = true := by
 rw [List.take_add_one, List.all_append, h1, List.getElem?_eq_getElem h]
 rw [getD_at h] at h2
 simp [h2]
theorem vector_IsName.ct {s0 : St} {v0 : Value} {x0 : Str} (k0 : kS.V s0 v0 x0) : Cl Try.prog 43 #[v0] s0 (Okf s0 (Fact.v kB (isName x0))) := by
 have hlen : x0.length ≤ maxLen := Kn.V_bd k0
 refine cl_of_wp Try.func43 rfl en_43 fun a hz hd hp => ?_
 have hz : a.tmps.size = 35 := hz
 have E := Chg.refl (fun _ => False) s0
 have h0 := V_at k0 E (hp 0 v0 rfl)
 refine wp_seq ?_
 refine wp_region ?_
 have hz0 := hz
 refine sq_blk [⟨2, _, []⟩] [] hz rfl ⟨(fun a s he hf hz => opw rfl (op_assign_v rfl (lit_b (b := false)))), trivial⟩ ?_
 intro a1 s1 he hf hz hd1
 have hd := hd1.trans hd
 have h0 := V_at h0 he (hf 0 rfl)
 have E := E.trans he
 refine wp_seq ?_
 refine wp_seq ?_
 refine wp_region ?_
 have hz0 := hz
 refine sq_blk [⟨5, _, []⟩] [0] hz rfl ⟨(fun a s he hf hz => opw rfl (op_move_v rfl (V_at h0 he (hf 0 rfl)))), trivial⟩ ?_
 intro a2 s2 he hf hz hd1 h5
 have hd := hd1.trans hd
 have h0 := V_at h0 he (hf 0 rfl)
 have E := E.trans he
 refine sq_set hz rfl rfl rfl (op_range_s rfl u_9 h5 (fun s3 he I => fun a3 h6 hf hz hd1 => ?_))
 obtain ⟨b, hb⟩ : ∃ b, b = s2.w.heap.size := ⟨_, rfl⟩
 rw [← hb] at I h6
 have lb : s0.w.heap.size ≤ b := by have := E.size; omega
 have hd := hd1.trans hd
 have h0 := V_at h0 he (hf 0 rfl)
 have E := E.trans he
 refine wp_block ?_
 refine wp_loop (k := x0.length) (fun k a s => ∃ y, y ≤ x0.length ∧ k = x0.length - y ∧ (x0.take y).all okByte = true ∧ Ext s0 s ∧ a.tmps.size = 35 ∧ a.defers = [] ∧ kS.V s (a.get 0) x0 ∧ a.get 6 = .pointer (some ⟨b, 0, none⟩) ∧ Ob s b (.stringIter ⟨x0.toArray⟩ y)) ⟨0, Nat.zero_le _, rfl, rfl, E, hz, hd, h0, h6, I⟩ ?_
 rintro k a4 s4 ⟨y, hy, rfl, hall, E, hz, hd, h0, h6, I⟩
 refine wp_seq ?_
 refine wp_region ?_
 rcases Nat.lt_or_ge y x0.length with hlt | hge
 ·refine sq_set hz rfl rfl rfl (op_next_more rfl h6 I hlt (fun s5 he I => fun a5 h7 hf hz hd1 => ?_))
  obtain ⟨r1, r2, r3⟩ := rune_at hlt
  obtain ⟨r, hr⟩ : ∃ r, r = ((Utf8.decode ⟨x0.toArray⟩ y).1 : Int) := ⟨_, rfl⟩
  rw [← hr] at h7 r3
  have hd := hd1.trans hd
  have h0 := V_at h0 he (hf 0 rfl)
  have h6 := (hf 6 rfl).trans h6
  have E := Chg.chg E he (fun b e h => absurd h (by cases e; exact Nat.not_lt.2 lb))
  have h7 : (Fact.tup [Fact.v kB true, Fact.v (kI .i64) (y : Int), Fact.v (kI .i32) r]).φ s5 (a5.get 7) := by
   rw [h7]; exact tup3 (lit_b (b := true)) (lit_i (by have := maxLen_lt; simp [inK, IntKind.min, IntKind.max, IntKind.signed, IntKind.bits]; omega)) (lit_i r3)
  have hz0 := hz
  refine sq_blk [⟨8, _, []⟩] [0] hz rfl ⟨(fun a s he hf hz => opw rfl (op_extract (f := Fact.v kB true) rfl (fact_at h7 he (hf 7 rfl)) rfl)), trivial⟩ ?_
  intro a6 s6 he hf hz hd1 h8
  have hd := hd1.trans hd
  have h0 := V_at h0 he (hf 0 rfl)
  have h6 := (hf 6 rfl).trans h6
  have h7 := fact_at h7 he (hf 7 rfl)
  have I := I.ext he
  have E := E.trans he
  refine wp_seq ?_
  refine wp_condV h8 (fun _ => ?_) (fun e => by cases e)
  refine wp_skip ?_
  refine wp_block ?_
  refine wp_seq ?_
  refine wp_region ?_
  have hz0 := hz
  refine sq_blk [⟨9, _, []⟩, ⟨4, _, [0]⟩] [1] hz rfl ⟨(fun a s he hf hz => opw rfl (op_extract (f := Fact.v (kI .i32) r) rfl (fact_at h7 he (hf 7 rfl)) rfl)), (fun a s he hf hz q0 => opw rfl (op_assign_v rfl q0)), trivial⟩ ?_
  intro a9 s9 he hf hz hd1 h4
  have hd := hd1.trans hd
  have h0 := V_at h0 he (hf 0 rfl)
  have h6 := (hf 6 rfl).trans h6
  have I := I.ext he
  have E := E.trans he
  have keep6 := h6
  have keepI := I
  refine wp_seq ?_
  refine wp_region ?_
  have hz0 := hz
  refine sq_blk [⟨10, _, []⟩, ⟨11, _, [0]⟩, ⟨12, _, [1]⟩, ⟨13, _, [2]⟩, ⟨14, _, [2, 3]⟩, ⟨15, _, [2, 4]⟩, ⟨16, _, [5]⟩, ⟨17, _, [6]⟩, ⟨18, _, [6, 7]⟩, ⟨19, _, [6, 8]⟩, ⟨20, _, [9]⟩, ⟨21, _, [9, 10]⟩, ⟨22, _, [6, 9, 11]⟩, ⟨23, _, [6, 12]⟩, ⟨24, _, [13]⟩, ⟨25, _, [14]⟩, ⟨26, _, [14, 15]⟩, ⟨27, _, [14, 16]⟩] [17] hz rfl ⟨
   (fun a s he hf hz => opw rfl (op_move_v rfl (V_at h4 he (hf 4 rfl)))),
   (fun a s he hf hz q0 => opw rfl (op_lss rfl q0 (lit_i (k := .i32) (n := 97) (by decide)))),
   mvq rfl rfl,
   (fun a s he hf hz q2 => og rfl rfl rfl hz hz0 rfl q2 (fun g => op_move_v rfl (V_at h4 he (hf 4 rfl)))),
   (fun a s he hf hz q2 q3 => og rfl rfl rfl hz hz0 rfl q2 (fun g => op_gtr rfl (q3.1 g) (lit_i (k := .i32) (n := 122) (by decide)))),
   (fun a s he hf hz q2 q4 => opw rfl (op_or_else rfl q2 (q4.1))),
   mvq rfl rfl,
   (fun a s he hf hz q6 => og rfl rfl rfl hz hz0 rfl q6 (fun g => op_move_v rfl (V_at h4 he (hf 4 rfl)))),
   (fun a s he hf hz q6 q7 => og rfl rfl rfl hz hz0 rfl q6 (fun g => op_lss rfl (q7.1 g) (lit_i (k := .i32) (n := 48) (by decide)))),
   (fun a s he hf hz q6 q8 => og rfl rfl rfl hz hz0 rfl q6 (fun g => op_move_v rfl (q8.1 g))),
   (fun a s he hf hz q9 => ogg rfl rfl rfl hz hz0 rfl q9 (fun g => op_move_v rfl (V_at h4 he (hf 4 rfl)))),
   (fun a s he hf hz q9 q10 => ogg rfl rfl rfl hz hz0 rfl q9 (fun g => op_gtr rfl (q10.1 g) (lit_i (k := .i32) (n := 57) (by decide)))),
   (fun a s he hf hz q6 q9 q11 => og rfl rfl rfl hz hz0 rfl q6 (fun g => op_or_else rfl (q9.1 g) (fun e => q11.1 ⟨g, e⟩))),
   (fun a s he hf hz q6 q12 => opw rfl (op_and_then rfl q6 (q12.1))),
   mvq rfl rfl,
   (fun a s he hf hz q14 => og rfl rfl rfl hz hz0 rfl q14 (fun g => op_move_v rfl (V_at h4 he (hf 4 rfl)))),
   (fun a s he hf hz q14 q15 => og rfl rfl rfl hz hz0 rfl q14 (fun g => op_neq rfl (q15.1 g) (lit_i (k := .i32) (n := 46) (by decide)))),
   (fun a s he hf hz q14 q16 => opw rfl (op_and_then rfl q14 (q16.1))),
   trivial⟩ ?_
  intro a51 s52 he hf hz hd1 h27
  have hd := hd1.trans hd
  have h0 := V_at h0 he (hf 0 rfl)
  have E := E.trans he
  have I6 := keepI.ext he
  have h66 := (hf 6 rfl).trans keep6
  have htest := okRune_eq r
  refine wp_condV h27 (fun hb => ?_) (fun hb => ?_)
  ·have hno : okByte (x0.getD y default) = false := by
    rw [htest] at hb
    rcases Nat.lt_or_ge (x0.getD y default).toNat 128 with hc | hc
    ·rw [r1 hc] at hr
     subst hr
     have hb : (!okByte (x0.getD y default)) = true := hb
     cases e : okByte (x0.getD y default)
     ·rfl
     ·rw [e] at hb; cases hb
    ·exact okByte_high hc
   have hres : isName x0 = false := by
    unfold isName
    have : x0.all okByte = false := by
     rw [← List.take_append_drop y x0, List.all_append, drop_at default hlt, List.all_cons, hno]; simp
    rw [this] <;> rfl
   refine wp_seq ?_
   refine wp_region ?_
   have hz0 := hz
   refine sq_blk [⟨2, _, []⟩] [0] hz rfl ⟨(fun a s he hf hz => opw rfl (op_assign_v rfl (lit_b (b := false)))), trivial⟩ ?_
   intro a20 s20 he hf hz hd1 h2
   have hd := hd1.trans hd
   have E := E.trans he
   refine wp_ret ?_
   rw [hres]
   exact ⟨hd, _, results_tmp rfl _ _ _, E, h2⟩
  ·refine wp_skip ?_
   have hyes : okByte (x0.getD y default) = true ∧ Utf8.decode ⟨x0.toArray⟩ y = ((x0.getD y default).toNat, 1) := by
    rw [htest] at hb
    rcases Nat.lt_or_ge (x0.getD y default).toNat 128 with hc | hc
    ·refine ⟨?_, r1 hc⟩
     rw [r1 hc] at hr
     subst hr
     have hb : (!okByte (x0.getD y default)) = false := hb
     cases e : okByte (x0.getD y default)
     ·rw [e] at hb; cases hb
     ·rfl
    ·exfalso
     have := r2 hc
     have hbig : (128 : Int) ≤ r := by omega
     simp at hb; omega
   rw [hyes.2] at I6
   exact ⟨x0.length - (y + 1), by omega, y + 1, hlt, rfl, all_take_succ hlt hall hyes.1, E, hz, hd, h0, h66, I6⟩
 ·have hye : y = x0.length := by omega
  subst hye
  rw [List.take_length] at hall
  refine sq_set hz rfl rfl rfl (op_next_end rfl h6 I (Nat.le_refl _) (fun a5 h7 hf hz hd1 => ?_))
  have hd := hd1.trans hd
  have h0 := V_at h0 (Chg.refl (fun _ => False) _) (hf 0 rfl)
  have h7 : (Fact.tup [Fact.v kB false]).φ s4 (a5.get 7) := by rw [h7]; exact tup1 (lit_b (b := false))
  have hz0 := hz
  refine sq_blk [⟨8, _, []⟩] [0] hz rfl ⟨(fun a s he hf hz => opw rfl (op_extract (f := Fact.v kB false) rfl (fact_at h7 he (hf 7 rfl)) rfl)), trivial⟩ ?_
  intro a9 s9 he hf hz hd1 h8
  have hd := hd1.trans hd
  have h0 := V_at h0 he (hf 0 rfl)
  have E := E.trans he
  refine wp_seq ?_
  refine wp_condV h8 (fun e => by cases e) (fun _ => ?_)
  refine wp_exit ?_
  refine then_exit ?_
  refine then_exit ?_
  refine inBlock_hit ?_
  refine wp_seq ?_
  refine wp_region ?_
  have hz0 := hz
  refine sq_blk [⟨28, _, []⟩, ⟨29, _, [0]⟩, ⟨30, _, [1]⟩, ⟨31, _, [2]⟩, ⟨32, _, [2, 3]⟩, ⟨33, _, [2, 4]⟩, ⟨34, _, [2, 5]⟩, ⟨2, _, [6]⟩] [7] hz rfl ⟨
   (fun a s he hf hz => opw rfl (op_move_v rfl (V_at h0 he (hf 0 rfl)))),
   (fun a s he hf hz q0 => opw rfl (op_sneq rfl q0 (lit_s (x := []) (by decide)))),
   mvq rfl rfl,
   (fun a s he hf hz q2 => og rfl rfl rfl hz hz0 rfl q2 (fun g => op_move_v rfl (V_at h0 he (hf 0 rfl)))),
   (fun a s he hf hz q2 q3 => og rfl rfl rfl hz hz0 rfl q2 (fun g => op_len_s rfl u_9 (q3.1 g))),
   (fun a s he hf hz q2 q4 => og rfl rfl rfl hz hz0 rfl q2 (fun g => op_leq rfl (q4.1 g) (lit_i (k := .i64) (n := 24) (by decide)))),
   (fun a s he hf hz q2 q5 => opw rfl (op_and_then rfl q2 (q5.1))),
   avq rfl rfl,
   trivial⟩ ?_
  intro a103 s104 he hf hz hd1 h2
  have hd := hd1.trans hd
  have E := E.trans he
  refine wp_ret ?_
  have hres : isName x0 = (((!decide (x0 = ([] : Str))) && (decide ((x0.length : Int) ≤ 24)))) := by
   unfold isName
   rw [hall]
   by_cases h : x0 = []
   ·subst h; rfl
   ·have hp : 0 < x0.length := List.length_pos_iff.2 h
    rw [show decide (1 ≤ x0.length) = true from decide_eq_true hp]
    simp only [h, decide_false, Bool.not_false, Bool.true_and]
    rw [decide_eq_decide]; omega
  rw [hres]
  exact ⟨hd, _, results_tmp rfl _ _ _, E, h2⟩
def internal_bytealg_CompareString (x0 : Str) (x1 : Str) : Int := (Lib.compareBytes x0 x1)
theorem internal_bytealg_CompareString.ok {s0 : St} {v0 : Value} {x0 : Str} {v1 : Value} {x1 : Str} (k0 : kS.V s0 v0 x0) (k1 : kS.V s0 v1 x1) : Cl Try.prog 146 #[v0, v1] s0 (Okf s0 (Fact.v (kI .i64) (internal_bytealg_CompareString x0 x1))) := by
 obtain ⟨r, h⟩ : ∃ r, some (internal_bytealg_CompareString x0 x1) = some r := ⟨_, rfl⟩
 rw [Option.some.inj h]
 have h : (some (Lib.compareBytes x0 x1)) = some r := by rw [← h]; unfold internal_bytealg_CompareString; first | rfl | simp only [apply_ite some] | (repeat' (first | rfl | split))
 refine cl_of_wp Try.func146 rfl en_146 fun a hz hd hp => ?_; have hz : a.tmps.size = 8 := hz; have E := Chg.refl (fun _ => False) s0; have h0 := V_at k0 E (hp 0 v0 rfl); have h1 := V_at k1 E (hp 1 v1 rfl); refine wp_sr ?_; refine sq_blk [⟨4, _, []⟩] [] hz rfl ⟨(fun a s he hf hz => av rfl rfl i0), trivial⟩ ?_; intro a1 s2 he hf hz hd1; have ⟨hd, E⟩ := hdE hd1 hd E he; obtain ⟨h0, h1⟩ := va2 he hf h0 h1 rfl; refine wp_sr ?_; refine sq_blk [⟨5, _, []⟩, ⟨6, _, []⟩, ⟨7, _, [0, 1]⟩, ⟨4, _, [2]⟩] [3] hz rfl ⟨mvs rfl rfl h0 rfl, mvs rfl rfl h1 rfl, (fun a s he hf hz q0 q1 => opw rfl (op_cmp rfl cmp_153 q0 q1)), avq rfl rfl, trivial⟩ ?_; intro a3 s4 he hf hz hd1 h4; have ⟨hd, E⟩ := hdE hd1 hd E he; refine wp_ret ?_; cases h
 exact ⟨hd, _, results_tmp rfl _ _ _, E, h4⟩
def strings_Compare (x0 : Str) (x1 : Str) : Int := (internal_bytealg_CompareString x0 x1)
theorem strings_Compare.ok {s0 : St} {v0 : Value} {x0 : Str} {v1 : Value} {x1 : Str} (k0 : kS.V s0 v0 x0) (k1 : kS.V s0 v1 x1) : Cl Try.prog 129 #[v0, v1] s0 (Okf s0 (Fact.v (kI .i64) (strings_Compare x0 x1))) := by
 obtain ⟨r, h⟩ : ∃ r, some (strings_Compare x0 x1) = some r := ⟨_, rfl⟩
 rw [Option.some.inj h]
 have h : (some (internal_bytealg_CompareString x0 x1)) = some r := by rw [← h]; unfold strings_Compare; first | rfl | simp only [apply_ite some] | (repeat' (first | rfl | split))
 refine cl_of_wp Try.func129 rfl en_129 fun a hz hd hp => ?_; have hz : a.tmps.size = 8 := hz; have E := Chg.refl (fun _ => False) s0; have h0 := V_at k0 E (hp 0 v0 rfl); have h1 := V_at k1 E (hp 1 v1 rfl); refine wp_sr ?_; refine sq_blk [⟨4, _, []⟩] [] hz rfl ⟨(fun a s he hf hz => av rfl rfl i0), trivial⟩ ?_; intro a1 s2 he hf hz hd1; have ⟨hd, E⟩ := hdE hd1 hd E he; obtain ⟨h0, h1⟩ := va2 he hf h0 h1 rfl; refine wp_sr ?_; refine sq_blk [⟨5, _, []⟩, ⟨6, _, []⟩, ⟨7, _, [0, 1]⟩, ⟨4, _, [2]⟩] [3] hz rfl ⟨mvs rfl rfl h0 rfl, mvs rfl rfl h1 rfl, (fun a s he hf hz q0 q1 => opw rfl (op_call rfl rfl (internal_bytealg_CompareString.ok q0 q1))), avq rfl rfl, trivial⟩ ?_; intro a3 s4 he hf hz hd1 h4; have ⟨hd, E⟩ := hdE hd1 hd E he; refine wp_ret ?_; cases h
 exact ⟨hd, _, results_tmp rfl _ _ _, E, h4⟩
def vector_isDot (x0 : Dot) : Bool := (((isName x0.who) && (decide (1 ≤ x0.n))) && (decide (x0.n ≤ 4611686018427387904)))
theorem vector_isDot.ok {s0 : St} {v0 : Value} {x0 : Dot} (k0 : kDot.V s0 v0 x0) : Cl Try.prog 118 #[v0] s0 (Okf s0 (Fact.v kB (vector_isDot x0))) := by
 obtain ⟨r, h⟩ : ∃ r, some (vector_isDot x0) = some r := ⟨_, rfl⟩
 rw [Option.some.inj h]
 have h : (some (((isName x0.who) && (decide (1 ≤ x0.n))) && (decide (x0.n ≤ 4611686018427387904)))) = some r := by rw [← h]; unfold vector_isDot; first | rfl | simp only [apply_ite some] | (repeat' (first | rfl | split))
 refine cl_of_wp Try.func118 rfl en_118 fun a hz hd hp => ?_; have hz : a.tmps.size = 16 := hz; have E := Chg.refl (fun _ => False) s0; have h0 := V_at k0 E (hp 0 v0 rfl); refine wp_sr ?_; refine sq_set hz rfl rfl rfl (op_boxn rfl rfl h0 (fun s2 e4 he BB3 r5 => fun a1 h1 hf hz hd1 => ?_)); obtain ⟨b10, hb10⟩ : ∃ b, b = s0.w.heap.size := ⟨_, rfl⟩; rw [← hb10] at BB3 h1; have B10 := BB3; have l10 : s0.w.heap.size ≤ b10 := by have := E.size; omega
 have ⟨hd, E⟩ := hdE hd1 hd E he; obtain ⟨u6, u7, rfl, c8, c9⟩ := kDot_open r5; refine sq_blk [⟨2, _, []⟩] [] hz rfl ⟨(fun a s he hf hz => av rfl rfl b_f), trivial⟩ ?_; intro a11 s12 he hf hz hd1; have ⟨hd, E⟩ := hdE hd1 hd E he; have h1 := (hf 1 rfl).trans h1; have B10 := B10.ext he; obtain ⟨c8, c9⟩ := vm2 he c8 c9; refine wp_sr ?_; have hz0 := hz; refine sq_blk [⟨3, _, []⟩, ⟨4, _, [0]⟩, ⟨5, _, [1]⟩, ⟨6, _, [2]⟩, ⟨7, _, [3]⟩, ⟨8, _, [3, 4]⟩, ⟨9, _, [3, 5]⟩, ⟨10, _, [3, 6]⟩, ⟨11, _, [7]⟩, ⟨12, _, [8]⟩, ⟨13, _, [8, 9]⟩, ⟨14, _, [8, 10]⟩, ⟨15, _, [8, 11]⟩, ⟨2, _, [12]⟩] [13] hz rfl ⟨(fun a s he hf hz => fb rfl rfl fa_70_0 ((hf 1 rfl).trans h1)), (fun a s he hf hz q0 => lo rfl rfl ty_9 q0 (B10.ext he) rfl (vm he c8)), (fun a s he hf hz q1 => opw rfl (op_call rfl rfl (vector_IsName.ct q1))), mvq rfl rfl, (fun a s he hf hz q3 => og rfl rfl rfl hz hz0 rfl q3 (fun g => op_faddr_b rfl fa_70_1 ((hf 1 rfl).trans h1))), (fun a s he hf hz q3 q4 => og rfl rfl rfl hz hz0 rfl q3 (fun g => op_load1 rfl ty_2 (q4.1 g) (B10.ext he) rfl (vm he c9))), (fun a s he hf hz q3 q5 => og rfl rfl rfl hz hz0 rfl q3 (fun g => op_geq rfl (q5.1 g) i1)), (fun a s he hf hz q3 q6 => an rfl rfl q3 (q6.1)), mvq rfl rfl, (fun a s he hf hz q8 => og rfl rfl rfl hz hz0 rfl q8 (fun g => op_faddr_b rfl fa_70_1 ((hf 1 rfl).trans h1))), (fun a s he hf hz q8 q9 => og rfl rfl rfl hz hz0 rfl q8 (fun g => op_load1 rfl ty_2 (q9.1 g) (B10.ext he) rfl (vm he c9))), (fun a s he hf hz q8 q10 => og rfl rfl rfl hz hz0 rfl q8 (fun g => op_leq rfl (q10.1 g) (lit_i (k := .i64) (n := 4611686018427387904) (by decide)))), (fun a s he hf hz q8 q11 => an rfl rfl q8 (q11.1)), avq rfl rfl, trivial⟩ ?_
 intro a13 s14 he hf hz hd1 h2; have ⟨hd, E⟩ := hdE hd1 hd E he; refine wp_ret ?_; cases h
 exact ⟨hd, _, results_tmp rfl _ _ _, E, h2⟩
def ref07_IsDot (x0 : Dot) : Bool := (((isName x0.who) && (decide (1 ≤ x0.n))) && (decide (x0.n ≤ 4611686018427387904)))
theorem ref07_IsDot.ok {s0 : St} {v0 : Value} {x0 : Dot} (k0 : kDot.V s0 v0 x0) : Cl Try.prog 99 #[v0] s0 (Okf s0 (Fact.v kB (ref07_IsDot x0))) := by
 obtain ⟨r, h⟩ : ∃ r, some (ref07_IsDot x0) = some r := ⟨_, rfl⟩
 rw [Option.some.inj h]
 have h : (some (((isName x0.who) && (decide (1 ≤ x0.n))) && (decide (x0.n ≤ 4611686018427387904)))) = some r := by rw [← h]; unfold ref07_IsDot; first | rfl | simp only [apply_ite some] | (repeat' (first | rfl | split))
 refine cl_of_wp Try.func99 rfl en_99 fun a hz hd hp => ?_; have hz : a.tmps.size = 18 := hz; have E := Chg.refl (fun _ => False) s0; have h0 := V_at k0 E (hp 0 v0 rfl); refine wp_sr ?_; refine sq_set hz rfl rfl rfl (op_boxn rfl rfl h0 (fun s2 e4 he BB3 r5 => fun a1 h1 hf hz hd1 => ?_)); obtain ⟨b10, hb10⟩ : ∃ b, b = s0.w.heap.size := ⟨_, rfl⟩; rw [← hb10] at BB3 h1; have B10 := BB3; have l10 : s0.w.heap.size ≤ b10 := by have := E.size; omega
 have ⟨hd, E⟩ := hdE hd1 hd E he; obtain ⟨u6, u7, rfl, c8, c9⟩ := kDot_open r5; refine sq_blk [⟨2, _, []⟩] [] hz rfl ⟨(fun a s he hf hz => av rfl rfl b_f), trivial⟩ ?_; intro a11 s12 he hf hz hd1; have ⟨hd, E⟩ := hdE hd1 hd E he; have h1 := (hf 1 rfl).trans h1; have B10 := B10.ext he; obtain ⟨c8, c9⟩ := vm2 he c8 c9; refine wp_sr ?_; refine sq_blk [⟨4, _, []⟩, ⟨5, _, [0]⟩, ⟨6, _, [1]⟩, ⟨3, _, [2]⟩] [3] hz rfl ⟨(fun a s he hf hz => fb rfl rfl fa_70_0 ((hf 1 rfl).trans h1)), (fun a s he hf hz q0 => lo rfl rfl ty_9 q0 (B10.ext he) rfl (vm he c8)), (fun a s he hf hz q1 => opw rfl (op_call rfl rfl (ref07_IsName.ct q1))), avq rfl rfl, trivial⟩ ?_; intro a13 s14 he hf hz hd1 h3; have ⟨hd, E⟩ := hdE hd1 hd E he; have h1 := (hf 1 rfl).trans h1; have B10 := B10.ext he; have c9 := vm he c9; refine wp_sr ?_; have hz0 := hz; refine sq_blk [⟨7, _, []⟩, ⟨8, _, [0]⟩, ⟨9, _, [1]⟩, ⟨10, _, [1, 2]⟩, ⟨11, _, [1, 3]⟩, ⟨12, _, [1, 4]⟩, ⟨13, _, [5]⟩, ⟨14, _, [6]⟩, ⟨15, _, [6, 7]⟩, ⟨16, _, [6, 8]⟩, ⟨17, _, [6, 9]⟩, ⟨2, _, [10]⟩] [11] hz rfl ⟨mvs rfl rfl h3 rfl, mvq rfl rfl, (fun a s he hf hz q1 => og rfl rfl rfl hz hz0 rfl q1 (fun g => op_faddr_b rfl fa_70_1 ((hf 1 rfl).trans h1))), (fun a s he hf hz q1 q2 => og rfl rfl rfl hz hz0 rfl q1 (fun g => op_load1 rfl ty_2 (q2.1 g) (B10.ext he) rfl (vm he c9))), (fun a s he hf hz q1 q3 => og rfl rfl rfl hz hz0 rfl q1 (fun g => op_geq rfl (q3.1 g) i1)), (fun a s he hf hz q1 q4 => an rfl rfl q1 (q4.1)), mvq rfl rfl, (fun a s he hf hz q6 => og rfl rfl rfl hz hz0 rfl q6 (fun g => op_faddr_b rfl fa_70_1 ((hf 1 rfl).trans h1))), (fun a s he hf hz q6 q7 => og rfl rfl rfl hz hz0 rfl q6 (fun g => op_load1 rfl ty_2 (q7.1 g) (B10.ext he) rfl (vm he c9))), (fun a s he hf hz q6 q8 => og rfl rfl rfl hz hz0 rfl q6 (fun g => op_leq rfl (q8.1 g) (lit_i (k := .i64) (n := 4611686018427387904) (by decide)))), (fun a s he hf hz q6 q9 => an rfl rfl q6 (q9.1)), avq rfl rfl, trivial⟩ ?_
 intro a15 s16 he hf hz hd1 h2; have ⟨hd, E⟩ := hdE hd1 hd E he; refine wp_ret ?_; cases h
 exact ⟨hd, _, results_tmp rfl _ _ _, E, h2⟩
theorem sLt_tri (x y : Str) : (sLt x y || decide (x = y)) = !sLt y x := by
 unfold sLt
 induction x generalizing y with
 | nil => cases y <;> simp [Op.bytesLess]
 | cons a x ih =>
  cases y with
  | nil => simp [Op.bytesLess]
  | cons b y =>
   have := ih y
   simp only [Op.bytesLess, List.cons.injEq]
   rcases Nat.lt_trichotomy a.toNat b.toNat with h | h | h
   ·have h1 : a < b := UInt8.lt_iff_toNat_lt.2 h
    have h2 : ¬ b < a := fun h' => by have := UInt8.lt_iff_toNat_lt.1 h'; omega
    have h3 : ¬ b = a := fun h' => by rw [h'] at h; omega
    simp [h1, h2, h3]
   ·have h0 : a = b := UInt8.toNat_inj.1 h
    subst h0
    have h2 : ¬ a < a := fun h' => by have := UInt8.lt_iff_toNat_lt.1 h'; omega
    simp [h2, this]
   ·have h1 : b < a := UInt8.lt_iff_toNat_lt.2 h
    have h2 : ¬ a < b := fun h' => by have := UInt8.lt_iff_toNat_lt.1 h'; omega
    have h3 : ¬ a = b := fun h' => by rw [h'] at h; omega
    have h4 : ¬ b = a := fun h' => h3 h'.symm
    simp [h1, h2, h3, h4]
def chainP (p : Str) : List Dot → Bool
 | [] => true
 | d :: l => vector_isDot d && sLt p d.who && chainP d.who l
def chainV : List Dot → Bool
 | [] => true
 | d :: l => vector_isDot d && chainP d.who l
def rightV (x : List Dot) : Bool := decide (x.length ≤ 64) && chainV x
theorem isName_ne {x : Str} (h : isName x = true) : ¬ x = [] := fun e => by subst e; simp [isName] at h
theorem chainP_nil (x : List Dot) : chainP [] x = chainV x := by
 cases x with
 | nil => rfl
 | cons d l =>
  simp only [chainP, chainV]
  cases h : vector_isDot d
  ·rfl
  ·have : isName d.who = true := by
    unfold vector_isDot at h; simp only [Bool.and_eq_true] at h; exact h.1.1
   have hn := isName_ne this
   have : sLt [] d.who = true := by
    cases e : d.who with
    | nil => exact absurd e hn
    | cons c w => rfl
   rw [this] <;> rfl
def vector_Right.l0 : Nat → (List Dot) → Str → Bool → Int → Option (Bool)
 | 0, _, _, _, _ => none
 | m12 + 1, x0, y9, y10, y11 => (if decide (y11 < (x0.length : Int)) = true then (if (0 ≤ y11 ∧ y11 < (x0.length : Int)) then (if (((!y10) || (!(vector_isDot (List.getD x0 (y11).toNat default)))) || (sLt ((List.getD x0 (y11).toNat default).who) y9 || decide (((List.getD x0 (y11).toNat default).who) = y9))) = true then (some false) else (vector_Right.l0 m12 x0 ((List.getD x0 (y11).toNat default).who) y10 (IntKind.wrap .i64 (y11 + 1)))) else none) else (some y10))
def vector_Right.f (k : Nat) (x0 : (List Dot)) : Option (Bool) := (vector_Right.l0 k x0 ([] : Str) (decide ((x0.length : Int) ≤ 64)) 0)
theorem vector_Right.ok {s0 : St} {v0 : Value} {x0 : (List Dot)} {k : Nat} {r : Bool} (k0 : (kSl kDot).V s0 v0 x0) (h : vector_Right.f k x0 = some r) : Cl Try.prog 80 #[v0] s0 (Okf s0 (Fact.v kB r)) := by
 unfold vector_Right.f at h
 refine cl_of_wp Try.func80 rfl en_80 fun a hz hd hp => ?_; have hz : a.tmps.size = 33 := hz; have E := Chg.refl (fun _ => False) s0; have h0 := V_at k0 E (hp 0 v0 rfl); refine wp_sr ?_; refine sq_blk [⟨2, _, []⟩] [] hz rfl ⟨(fun a s he hf hz => av rfl rfl b_f), trivial⟩ ?_; intro a1 s2 he hf hz hd1; have ⟨hd, E⟩ := hdE hd1 hd E he; have h0 := V_at h0 he (hf 0 rfl); refine wp_scope ?_; refine wp_sr ?_; refine sq_blk [⟨7, _, []⟩, ⟨8, _, [0]⟩, ⟨9, _, [1]⟩, ⟨3, _, []⟩, ⟨4, _, [2]⟩] [3, 4] hz rfl ⟨mvs rfl rfl h0 rfl, (fun a s he hf hz q0 => le_ rfl rfl u_32 q0), (fun a s he hf hz q1 => lq_ rfl rfl q1 (lit_i (k := .i64) (n := 64) (by decide))), (fun a s he hf hz => av rfl rfl s_0), avq rfl rfl, trivial⟩ ?_; intro a3 s4 he hf hz hd1 h3 h4; have ⟨hd, E⟩ := hdE hd1 hd E he; have h0 := V_at h0 he (hf 0 rfl); refine wp_seq ?_; refine wp_label ?_; refine wp_seq ?_; refine wp_sr ?_; refine sq_blk [⟨10, _, []⟩, ⟨11, _, [0]⟩, ⟨12, _, []⟩] [0, 1, 2] hz rfl ⟨mvs rfl rfl h0 rfl, (fun a s he hf hz q0 => le_ rfl rfl u_32 q0), (fun a s he hf hz => mv rfl rfl i0), trivial⟩ ?_
 intro a5 s6 he hf hz hd1 h10 h11 h12; have ⟨hd, E⟩ := hdE hd1 hd E he; obtain ⟨h3, h4⟩ := va2 he hf h3 h4 rfl; refine wp_block ?_; refine wp_loop (k := k) (fun m12 a s => ∃ (y9 : Str) (y10 : Bool) (y11 : Int), vector_Right.l0 m12 x0 y9 y10 y11 = some r ∧ m12 ≤ k ∧ Ext s0 s ∧ a.tmps.size = 33 ∧ a.defers = [] ∧ kS.V s (a.get 3) y9 ∧ kB.V s (a.get 4) y10 ∧ (kSl kDot).V s (a.get 10) x0 ∧ (kI .i64).V s (a.get 11) (x0.length : Int) ∧ (kI .i64).V s (a.get 12) y11) ⟨_, _, _, h, Nat.le_refl _, E, hz, hd, h3, h4, h10, h11, h12⟩ ?_; rintro m12 a8 s7 ⟨y9, y10, y11, h, hkm12, E, hz, hd, h3, h4, h10, h11, h12⟩; obtain _ | m12 := m12
 ·cases h
 refine wp_sr ?_; refine sq_blk [⟨13, _, []⟩] [0] hz rfl ⟨(fun a s he hf hz => ls rfl rfl (V_at h12 he (hf 12 rfl)) (V_at h11 he (hf 11 rfl))), trivial⟩ ?_; intro a13 s14 he hf hz hd1 h13; have ⟨hd, E⟩ := hdE hd1 hd E he; obtain ⟨h3, h4, h10, h11, h12⟩ := va5 he hf h3 h4 h10 h11 h12 rfl; refine wp_seq ?_; refine wp_condV h13 (fun hb => ?_) (fun hb => ?_)
 ·have h := ite_t hb h; refine wp_skip ?_; refine wp_seq ?_; refine wp_block ?_; refine wp_sr ?_; obtain ⟨D15, h⟩ := need h; refine sq_blk [⟨14, _, []⟩, ⟨15, _, [0]⟩] [1] hz rfl ⟨(fun a s he hf hz => ia rfl rfl sl_32 (V_at h10 he (hf 10 rfl)) (V_at h12 he (hf 12 rfl)) D15.1 D15.2), (fun a s he hf hz q0 => lp rfl rfl ty_70 (by decide) q0), trivial⟩ ?_; intro a16 s17 he hf hz hd1 h15; have ⟨hd, E⟩ := hdE hd1 hd E he; obtain ⟨h3, h4, h10, h11, h12⟩ := va5 he hf h3 h4 h10 h11 h12 rfl; refine sq_set hz rfl rfl rfl (op_alloc (cs := [.string ⟨#[]⟩, .int .i64 0]) rfl zv_70 rfl (fun s19 he BB20 => fun a18 h6 hf hz hd1 => ?_)); obtain ⟨b23, hb23⟩ : ∃ b, b = s17.w.heap.size := ⟨_, rfl⟩; rw [← hb23] at BB20 h6; have B23 := BB20; have l23 : s0.w.heap.size ≤ b23 := by have := E.size; omega
  have ⟨hd, E⟩ := hdE hd1 hd E he; obtain ⟨h3, h4, h10, h11, h12, h15⟩ := va6 he hf h3 h4 h10 h11 h12 h15 rfl; have c21 : kS.V s19 (.string ⟨#[]⟩) ([] : Str) := s_0; have c22 : (kI .i64).V s19 (.int .i64 0) 0 := i0; refine sq_do rfl rfl (op_storen rfl ty_70 rfl h6 B23 h15 rfl (fun s25 e26 he B23n r27 => ?_)); obtain ⟨h3, h4, h10, h11, h12⟩ := vm5 he h3 h4 h10 h11 h12; have E := Chg.chg E he (fun b e h => (fun e => absurd h (by cases e; exact Nat.not_lt.2 l23)) e); obtain ⟨u28, u29, rfl, c30, c31⟩ := kDot_open r27; have B23 : Bx s25 b23 70 [u28, u29] := B23n; refine wp_seq ?_; refine wp_sr ?_; have hz0 := hz; refine sq_blk [⟨16, _, []⟩, ⟨17, _, [0]⟩, ⟨18, _, [1]⟩, ⟨19, _, [2]⟩, ⟨20, _, [2, 3]⟩, ⟨21, _, [2, 4]⟩, ⟨22, _, [2, 5]⟩, ⟨23, _, [6]⟩, ⟨24, _, [7]⟩, ⟨25, _, [7, 8]⟩, ⟨26, _, [7]⟩, ⟨27, _, [7, 9, 10]⟩, ⟨28, _, [7, 11]⟩] [12] hz rfl ⟨mvs rfl rfl h4 rfl, (fun a s he hf hz q0 => no_ rfl rfl q0), mvq rfl rfl, (fun a s he hf hz q2 => og rfl rfl rfl hz hz0 rfl q2 (fun g => op_loadn rfl ty_70 rfl ((hf 6 rfl).trans h6) (B23.ext he) rfl (kDot_eta (x := (List.getD x0 (y11).toNat default)) (vm he c30) (vm he c31)))), (fun a s he hf hz q2 q3 => og rfl rfl rfl hz hz0 rfl q2 (fun g => op_call rfl rfl (vector_isDot.ok (q3.1 g)))), (fun a s he hf hz q2 q4 => og rfl rfl rfl hz hz0 rfl q2 (fun g => op_not rfl (q4.1 g))), (fun a s he hf hz q2 q5 => oe rfl rfl q2 (q5.1)), mvq rfl rfl, (fun a s he hf hz q7 => og rfl rfl rfl hz hz0 rfl q7 (fun g => op_faddr_b rfl fa_70_0 ((hf 6 rfl).trans h6))), (fun a s he hf hz q7 q8 => og rfl rfl rfl hz hz0 rfl q7 (fun g => op_load1 rfl ty_9 (q8.1 g) (B23.ext he) rfl (vm he c30))), (fun a s he hf hz q7 => og rfl rfl rfl hz hz0 rfl q7 (fun g => op_move_v rfl (V_at h3 he (hf 3 rfl)))), (fun a s he hf hz q7 q9 q10 => og rfl rfl rfl hz hz0 rfl q7 (fun g => op_sleq rfl (q9.1 g) (q10.1 g))), (fun a s he hf hz q7 q11 => oe rfl rfl q7 (q11.1)), trivial⟩ ?_
  intro a32 s33 he hf hz hd1 h28; have ⟨hd, E⟩ := hdE hd1 hd E he; obtain ⟨h4, h10, h11, h12⟩ := va4 he hf h4 h10 h11 h12 rfl; have h6 := (hf 6 rfl).trans h6; have B23 := B23.ext he; have c30 := vm he c30; refine wp_condV h28 (fun hb => ?_) (fun hb => ?_)
  ·have h := ite_t hb h; refine wp_sr ?_; refine sq_blk [⟨4, _, []⟩] [0] hz rfl ⟨(fun a s he hf hz => av rfl rfl b_f), trivial⟩ ?_; intro a34 s35 he hf hz hd1 h4; have ⟨hd, E⟩ := hdE hd1 hd E he; refine wp_exit ?_; refine then_exit ?_; refine inBlock_pass rfl ?_; refine then_exit ?_; refine then_exit ?_; refine inBlock_hit ?_; refine wp_sr ?_; refine sq_blk [⟨32, _, []⟩, ⟨2, _, [0]⟩] [1] hz rfl ⟨mvs rfl rfl h4 rfl, avq rfl rfl, trivial⟩ ?_; intro a36 s37 he hf hz hd1 h2; have ⟨hd, E⟩ := hdE hd1 hd E he; refine wp_ret ?_; cases h
   exact ⟨hd, _, results_tmp rfl _ _ _, E, h2⟩
  ·have h := ite_f hb h; refine wp_skip ?_; refine wp_region ?_; refine sq_blk [⟨29, _, []⟩, ⟨30, _, [0]⟩, ⟨3, _, [1]⟩] [2] hz rfl ⟨(fun a s he hf hz => fb rfl rfl fa_70_0 ((hf 6 rfl).trans h6)), (fun a s he hf hz q0 => lo rfl rfl ty_9 q0 (B23.ext he) rfl (vm he c30)), avq rfl rfl, trivial⟩ ?_; intro a38 s39 he hf hz hd1 h3; have ⟨hd, E⟩ := hdE hd1 hd E he; obtain ⟨h4, h10, h11, h12⟩ := va4 he hf h4 h10 h11 h12 rfl; refine wp_region ?_; refine sq_blk [⟨31, _, []⟩] [0] hz rfl ⟨(fun a s he hf hz => ad rfl rfl (V_at h12 he (hf 12 rfl)) i1), trivial⟩ ?_; intro a40 s41 he hf hz hd1 h31; have ⟨hd, E⟩ := hdE hd1 hd E he; obtain ⟨h3, h4, h10, h11⟩ := va4 he hf h3 h4 h10 h11 rfl; refine sq_blk [⟨12, _, []⟩] [0] hz rfl ⟨mvs rfl rfl h31 rfl, trivial⟩ ?_; intro a42 s43 he hf hz hd1 h12; have ⟨hd, E⟩ := hdE hd1 hd E he; obtain ⟨h3, h4, h10, h11⟩ := va4 he hf h3 h4 h10 h11 rfl; exact ⟨_, (by omega : m12 < m12 + 1), _, _, _, h, by omega, E, hz, hd, h3, h4, h10, h11, h12⟩
 ·have h := ite_f hb h; refine wp_exit ?_; refine then_exit ?_; refine then_exit ?_; refine inBlock_hit ?_; refine wp_sr ?_; refine sq_blk [⟨32, _, []⟩, ⟨2, _, [0]⟩] [1] hz rfl ⟨mvs rfl rfl h4 rfl, avq rfl rfl, trivial⟩ ?_; intro a44 s45 he hf hz hd1 h2; have ⟨hd, E⟩ := hdE hd1 hd E he; refine wp_ret ?_; cases h
  exact ⟨hd, _, results_tmp rfl _ _ _, E, h2⟩
theorem vector_Right.nice (x0 : List Dot) (b0 : (kSl kDot).bd x0) : ∃ k, vector_Right.f k x0 = some (rightV x0) := by
 have hb : x0.length ≤ maxLen := b0.1
 have hm := maxLen_lt
 have : ∀ y, y ≤ x0.length → ∀ (p : Str) (ok : Bool), ∃ k, vector_Right.l0 k x0 p ok (y : Int) = some (ok && chainP p (x0.drop y)) := by
  refine rounds x0.length (fun p ok => ⟨1, ?_⟩) fun y hy ih p ok => ?_
  ·simp only [vector_Right.l0, List.drop_length]; simp [chainP]
  ·obtain ⟨k, hk⟩ := ih (x0.getD y default).who ok
   push_cast at hk
   have hr : (0 : Int) ≤ y ∧ (y : Int) < x0.length := ⟨by omega, by omega⟩
   refine ⟨k + 1, ?_⟩
   rw [drop_at default hy]
   simp only [vector_Right.l0, Int.toNat_natCast, hr, and_self, decide_true, if_true, sLt_tri, chainP]
   rw [w64s (show y < 9223372036854775807 by omega)]
   generalize x0.getD y default = d at *
   cases ok <;> cases h1 : vector_isDot d <;> cases h2 : sLt p d.who <;> simp [hk]
 obtain ⟨k, hk⟩ := this 0 (Nat.zero_le _) [] (decide ((x0.length : Int) ≤ 64))
 refine ⟨k, ?_⟩
 unfold vector_Right.f rightV
 refine hk.trans ?_
 rw [List.drop_zero, chainP_nil]
 congr 2
 rw [decide_eq_decide]; omega
theorem vector_Right.ct {s0 : St} {v0 : Value} {x0 : (List Dot)} (k0 : (kSl kDot).V s0 v0 x0) : Cl Try.prog 80 #[v0] s0 (Okf s0 (Fact.v kB (rightV x0))) := by
 obtain ⟨k, h⟩ := vector_Right.nice x0 (Kn.V_bd k0)
 exact vector_Right.ok k0 h
def ref07_Right.l0 : Nat → (List Dot) → Int → Option (Bool)
 | 0, _, _ => none
 | m12 + 1, x0, y11 => (if decide (y11 < (x0.length : Int)) = true then (if (0 ≤ y11 ∧ y11 < (x0.length : Int)) then (if (((!(vector_isDot (List.getD x0 (y11).toNat default))) = false ∧ (decide (0 < y11)) = true) → (0 ≤ (IntKind.wrap .i64 (y11 - 1)) ∧ (IntKind.wrap .i64 (y11 - 1)) < (x0.length : Int))) then (if ((!(vector_isDot (List.getD x0 (y11).toNat default))) || ((decide (0 < y11)) && (!sLt ((List.getD x0 (IntKind.wrap .i64 (y11 - 1)).toNat default).who) ((List.getD x0 (y11).toNat default).who)))) = true then (some false) else (ref07_Right.l0 m12 x0 (IntKind.wrap .i64 (y11 + 1)))) else none) else none) else (some true))
def ref07_Right.f (k : Nat) (x0 : (List Dot)) : Option (Bool) := (if decide (64 < (x0.length : Int)) = true then (some false) else (ref07_Right.l0 k x0 0))
theorem ref07_Right.ok {s0 : St} {v0 : Value} {x0 : (List Dot)} {k : Nat} {r : Bool} (k0 : (kSl kDot).V s0 v0 x0) (h : ref07_Right.f k x0 = some r) : Cl Try.prog 82 #[v0] s0 (Okf s0 (Fact.v kB r)) := by
 unfold ref07_Right.f at h
 refine cl_of_wp Try.func82 rfl en_82 fun a hz hd hp => ?_; have hz : a.tmps.size = 39 := hz; have E := Chg.refl (fun _ => False) s0; have h0 := V_at k0 E (hp 0 v0 rfl); refine wp_sr ?_; refine sq_blk [⟨2, _, []⟩] [] hz rfl ⟨(fun a s he hf hz => av rfl rfl b_f), trivial⟩ ?_; intro a1 s2 he hf hz hd1; have ⟨hd, E⟩ := hdE hd1 hd E he; have h0 := V_at h0 he (hf 0 rfl); refine wp_seq ?_; refine wp_sr ?_; refine sq_blk [⟨5, _, []⟩, ⟨6, _, [0]⟩, ⟨7, _, [1]⟩] [2] hz rfl ⟨mvs rfl rfl h0 rfl, (fun a s he hf hz q0 => le_ rfl rfl u_32 q0), (fun a s he hf hz q1 => gt_ rfl rfl q1 (lit_i (k := .i64) (n := 64) (by decide))), trivial⟩ ?_; intro a3 s4 he hf hz hd1 h7; have ⟨hd, E⟩ := hdE hd1 hd E he; have h0 := V_at h0 he (hf 0 rfl); refine wp_condV h7 (fun hb => ?_) (fun hb => ?_)
 ·have h := ite_t hb h; refine wp_sr ?_; refine sq_blk [⟨2, _, []⟩] [0] hz rfl ⟨(fun a s he hf hz => av rfl rfl b_f), trivial⟩ ?_; intro a5 s6 he hf hz hd1 h2; have ⟨hd, E⟩ := hdE hd1 hd E he; refine wp_ret ?_; cases h
  exact ⟨hd, _, results_tmp rfl _ _ _, E, h2⟩
 ·have h := ite_f hb h; refine wp_skip ?_; refine wp_seq ?_; refine wp_sr ?_; refine sq_blk [⟨3, _, []⟩] [0] hz rfl ⟨(fun a s he hf hz => av rfl rfl i0), trivial⟩ ?_; intro a7 s8 he hf hz hd1 h3; have ⟨hd, E⟩ := hdE hd1 hd E he; have h0 := V_at h0 he (hf 0 rfl); refine wp_block ?_; refine wp_loop (k := k) (fun m12 a s => ∃ (y11 : Int), ref07_Right.l0 m12 x0 y11 = some r ∧ m12 ≤ k ∧ Ext s0 s ∧ a.tmps.size = 39 ∧ a.defers = [] ∧ (kSl kDot).V s (a.get 0) x0 ∧ (kI .i64).V s (a.get 3) y11) ⟨_, h, Nat.le_refl _, E, hz, hd, h0, h3⟩ ?_; rintro m12 a10 s9 ⟨y11, h, hkm12, E, hz, hd, h0, h3⟩; obtain _ | m12 := m12
  ·cases h
  refine wp_seq ?_; refine wp_sr ?_; refine sq_blk [⟨8, _, []⟩, ⟨9, _, []⟩, ⟨10, _, [1]⟩, ⟨11, _, [0, 2]⟩] [3] hz rfl ⟨mvs rfl rfl h3 rfl, mvs rfl rfl h0 rfl, (fun a s he hf hz q1 => le_ rfl rfl u_32 q1), (fun a s he hf hz q0 q2 => ls rfl rfl q0 q2), trivial⟩ ?_; intro a13 s14 he hf hz hd1 h11; have ⟨hd, E⟩ := hdE hd1 hd E he; obtain ⟨h0, h3⟩ := va2 he hf h0 h3 rfl; refine wp_condV h11 (fun hb => ?_) (fun hb => ?_)
  ·have h := ite_t hb h; refine wp_skip ?_; refine wp_seq ?_; refine wp_block ?_; refine wp_sr ?_; obtain ⟨D15, h⟩ := need h; refine sq_blk [⟨14, _, []⟩, ⟨15, _, []⟩, ⟨16, _, [0, 1]⟩, ⟨17, _, [2]⟩, ⟨18, _, [3]⟩, ⟨4, _, [4]⟩] [5] hz rfl ⟨mvs rfl rfl h0 rfl, mvs rfl rfl h3 rfl, (fun a s he hf hz q0 q1 => ia rfl rfl sl_32 q0 q1 D15.1 D15.2), (fun a s he hf hz q2 => lp rfl rfl ty_70 (by decide) q2), (fun a s he hf hz q3 => opw rfl (op_call rfl rfl (ref07_IsDot.ok q3))), avq rfl rfl, trivial⟩ ?_; intro a16 s17 he hf hz hd1 h4; have ⟨hd, E⟩ := hdE hd1 hd E he; obtain ⟨h0, h3⟩ := va2 he hf h0 h3 rfl; refine wp_seq ?_; obtain ⟨D18, h⟩ := need h; have hz0 := hz; refine wp_draw [⟨19, _, []⟩, ⟨20, _, [0]⟩, ⟨21, _, [1]⟩, ⟨22, _, [2]⟩, ⟨23, _, [2, 3]⟩, ⟨24, _, [2, 4]⟩, ⟨25, _, [5]⟩, ⟨26, _, [5]⟩, ⟨27, _, [5, 7]⟩, ⟨28, _, [5, 6, 8]⟩, ⟨29, _, [5, 9]⟩, ⟨30, _, [5, 10]⟩, ⟨31, _, [5]⟩, ⟨32, _, [5]⟩, ⟨33, _, [5, 12, 13]⟩, ⟨34, _, [5, 14]⟩, ⟨35, _, [5, 15]⟩, ⟨36, _, [5, 11, 16]⟩, ⟨37, _, [2, 5, 17]⟩, ⟨38, _, [2, 18]⟩] [19] mo hz (by kernel_rfl) ⟨mvs rfl rfl h4 rfl, (fun a s he hf hz q0 => no_ rfl rfl q0), mvq rfl rfl, (fun a s he hf hz q2 => og rfl rfl rfl hz hz0 rfl q2 (fun g => op_move_v rfl (V_at h3 he (hf 3 rfl)))), (fun a s he hf hz q2 q3 => og rfl rfl rfl hz hz0 rfl q2 (fun g => op_gtr rfl (q3.1 g) i0)), (fun a s he hf hz q2 q4 => og rfl rfl rfl hz hz0 rfl q2 (fun g => op_move_v rfl (q4.1 g))), (fun a s he hf hz q5 => ogg rfl rfl rfl hz hz0 rfl q5 (fun g => op_move_v rfl (V_at h0 he (hf 0 rfl)))), (fun a s he hf hz q5 => ogg rfl rfl rfl hz hz0 rfl q5 (fun g => op_move_v rfl (V_at h3 he (hf 3 rfl)))), (fun a s he hf hz q5 q7 => ogg rfl rfl rfl hz hz0 rfl q5 (fun g => op_sub rfl (q7.1 g) i1)), (fun a s he hf hz q5 q6 q8 => ogg rfl rfl rfl hz hz0 rfl q5 (fun g => op_iaddr rfl sl_32 (q6.1 g) (q8.1 g) (D18 g).1 (D18 g).2)), (fun a s he hf hz q5 q9 => ogg rfl rfl rfl hz hz0 rfl q5 (fun g => op_faddr_p rfl fa_70_0 kDot_s0 (q9.1 g))), (fun a s he hf hz q5 q10 => ogg rfl rfl rfl hz hz0 rfl q5 (fun g => op_load_p rfl ty_9 (by decide) (q10.1 g))), (fun a s he hf hz q5 => ogg rfl rfl rfl hz hz0 rfl q5 (fun g => op_move_v rfl (V_at h0 he (hf 0 rfl)))), (fun a s he hf hz q5 => ogg rfl rfl rfl hz hz0 rfl q5 (fun g => op_move_v rfl (V_at h3 he (hf 3 rfl)))), (fun a s he hf hz q5 q12 q13 => ogg rfl rfl rfl hz hz0 rfl q5 (fun g => op_iaddr rfl sl_32 (q12.1 g) (q13.1 g) D15.1 D15.2)), (fun a s he hf hz q5 q14 => ogg rfl rfl rfl hz hz0 rfl q5 (fun g => op_faddr_p rfl fa_70_0 kDot_s0 (q14.1 g))), (fun a s he hf hz q5 q15 => ogg rfl rfl rfl hz hz0 rfl q5 (fun g => op_load_p rfl ty_9 (by decide) (q15.1 g))), (fun a s he hf hz q5 q11 q16 => ogg rfl rfl rfl hz hz0 rfl q5 (fun g => op_sgeq rfl (q11.1 g) (q16.1 g))), (fun a s he hf hz q2 q5 q17 => og rfl rfl rfl hz hz0 rfl q2 (fun g => op_and_then rfl (q5.1 g) (fun e => q17.1 ⟨g, e⟩))), (fun a s he hf hz q2 q18 => oe rfl rfl q2 (q18.1)), trivial⟩ ?_
   intro a19 s20 he hf hz hd1 h38; have ⟨hd, E⟩ := hdE hd1 hd E he; obtain ⟨h0, h3⟩ := va2 he hf h0 h3 rfl; refine wp_condV h38 (fun hb => ?_) (fun hb => ?_)
   ·have h := ite_t hb h; refine wp_sr ?_; refine sq_blk [⟨2, _, []⟩] [0] hz rfl ⟨(fun a s he hf hz => av rfl rfl b_f), trivial⟩ ?_; intro a21 s22 he hf hz hd1 h2; have ⟨hd, E⟩ := hdE hd1 hd E he; refine wp_ret ?_; cases h
    exact ⟨hd, _, results_tmp rfl _ _ _, E, h2⟩
   ·have h := ite_f hb h; refine wp_skip ?_; refine wp_region ?_; refine sq_blk [⟨12, _, []⟩, ⟨13, _, [0]⟩] [1] hz rfl ⟨mvs rfl rfl h3 rfl, (fun a s he hf hz q0 => ad rfl rfl q0 i1), trivial⟩ ?_; intro a23 s24 he hf hz hd1 h13; have ⟨hd, E⟩ := hdE hd1 hd E he; have h0 := V_at h0 he (hf 0 rfl); refine sq_blk [⟨3, _, []⟩] [0] hz rfl ⟨avs rfl rfl h13 rfl, trivial⟩ ?_; intro a25 s26 he hf hz hd1 h3; have ⟨hd, E⟩ := hdE hd1 hd E he; have h0 := V_at h0 he (hf 0 rfl); exact ⟨_, (by omega : m12 < m12 + 1), _, h, by omega, E, hz, hd, h0, h3⟩
  ·have h := ite_f hb h; refine wp_exit ?_; refine then_exit ?_; refine then_exit ?_; refine inBlock_hit ?_; refine wp_sr ?_; refine sq_blk [⟨2, _, []⟩] [0] hz rfl ⟨(fun a s he hf hz => av rfl rfl b_t), trivial⟩ ?_; intro a27 s28 he hf hz hd1 h2; have ⟨hd, E⟩ := hdE hd1 hd E he; refine wp_ret ?_; cases h
   exact ⟨hd, _, results_tmp rfl _ _ _, E, h2⟩
theorem ref07_Right.nice (x0 : List Dot) (b0 : (kSl kDot).bd x0) : ∃ k, ref07_Right.f k x0 = some (rightV x0) := by
 have hb : x0.length ≤ maxLen := b0.1
 have hm := maxLen_lt
 unfold ref07_Right.f rightV
 by_cases h64 : x0.length ≤ 64
 ·have h64' : ¬ (64 : Int) < x0.length := by omega
  have : ∀ y, y ≤ x0.length → ∃ k, ref07_Right.l0 k x0 (y : Int) = some (if y = 0 then chainV x0 else chainP (x0.getD (y - 1) default).who (x0.drop y)) := by
   refine rounds x0.length ⟨1, ?_⟩ fun y hy ⟨k, hk⟩ => ?_
   ·simp only [ref07_Right.l0, List.drop_length]
    by_cases h : x0.length = 0
    ·rw [if_pos h, List.length_eq_zero_iff.1 h]; simp [chainV]
    ·rw [if_neg h]; simp [chainP]
   ·rw [if_neg (by omega), Nat.add_sub_cancel] at hk
    push_cast at hk
    have hr : (0 : Int) ≤ y ∧ (y : Int) < x0.length := ⟨by omega, by omega⟩
    refine ⟨k + 1, ?_⟩
    by_cases h0 : y = 0
    ·subst h0
     rw [if_pos rfl]
     have hd := drop_at (xs := x0) (y := 0) default hy
     rw [List.drop_zero] at hd
     simp only [ref07_Right.l0, Int.toNat_natCast, hr, and_self, decide_true, if_true]
     rw [if_pos (by intro h; simp at h)]
     conv => rhs; rw [hd]
     simp only [chainV]
     rw [w64s (show 0 < 9223372036854775807 by omega)]
     have hz : decide ((0 : Int) < ((0 : Nat) : Int)) = false := by decide
     by_cases h1 : vector_isDot (x0.getD 0 default) = true
     ·rw [if_neg (by rw [h1, hz]; simp)]
      refine hk.trans ?_
      rw [h1] <;> rfl
     ·rw [Bool.not_eq_true] at h1; rw [if_pos (by rw [h1]; rfl), h1] <;> rfl
    ·rw [if_neg h0, drop_at default hy]
     have e1 : IntKind.wrap .i64 ((y : Int) - 1) = ((y - 1 : Nat) : Int) := by rw [w64 (by omega) (by omega)]; omega
     have h0' : (0 : Int) < y := by omega
     simp only [ref07_Right.l0, Int.toNat_natCast, hr, and_self, decide_true, if_true, e1, h0', chainP]
     rw [if_pos (fun _ => ⟨by omega, by omega⟩), w64s (show y < 9223372036854775807 by omega)]
     generalize x0.getD y default = d at *
     cases h1 : vector_isDot d <;> cases h2 : sLt (x0.getD (y - 1) default).who d.who <;> simp [hk]
  obtain ⟨k, hk⟩ := this 0 (Nat.zero_le _)
  refine ⟨k, ?_⟩
  rw [if_pos rfl] at hk
  simp only [h64', decide_false, Bool.false_eq_true, if_false, h64, decide_true, Bool.true_and]
  exact hk
 ·have h64' : (64 : Int) < x0.length := by omega
  exact ⟨0, by simp [h64', h64]⟩
theorem ref07_Right.ct {s0 : St} {v0 : Value} {x0 : (List Dot)} (k0 : (kSl kDot).V s0 v0 x0) : Cl Try.prog 82 #[v0] s0 (Okf s0 (Fact.v kB (rightV x0))) := by
 obtain ⟨k, h⟩ := ref07_Right.nice x0 (Kn.V_bd k0)
 exact ref07_Right.ok k0 h
end
section
attribute [local irreducible] Kn.V PtrV
def vector_find_1 (x0 : Dot) (x1 : Str) : Int := (strings_Compare x0.who x1)
theorem vector_find_1.ok {s0 : St} {v0 : Value} {x0 : Dot} {v1 : Value} {x1 : Str} (k0 : kDot.V s0 v0 x0) (k1 : kS.V s0 v1 x1) : Cl Try.prog 152 #[v0, v1] s0 (Okf s0 (Fact.v (kI .i64) (vector_find_1 x0 x1))) := by
 obtain ⟨r, h⟩ : ∃ r, some (vector_find_1 x0 x1) = some r := ⟨_, rfl⟩
 rw [Option.some.inj h]
 have h : (some (strings_Compare x0.who x1)) = some r := by rw [← h]; unfold vector_find_1; first | rfl | simp only [apply_ite some] | (repeat' (first | rfl | split))
 refine cl_of_wp Try.func152 rfl en_152 fun a hz hd hp => ?_; have hz : a.tmps.size = 9 := hz; have E := Chg.refl (fun _ => False) s0; have h0 := V_at k0 E (hp 0 v0 rfl); have h1 := V_at k1 E (hp 1 v1 rfl); refine wp_sr ?_; refine sq_set hz rfl rfl rfl (op_boxn rfl rfl h0 (fun s2 e4 he BB3 r5 => fun a1 h2 hf hz hd1 => ?_)); obtain ⟨b10, hb10⟩ : ∃ b, b = s0.w.heap.size := ⟨_, rfl⟩; rw [← hb10] at BB3 h2; have B10 := BB3; have l10 : s0.w.heap.size ≤ b10 := by have := E.size; omega
 have ⟨hd, E⟩ := hdE hd1 hd E he; have h1 := V_at h1 he (hf 1 rfl); obtain ⟨u6, u7, rfl, c8, c9⟩ := kDot_open r5; refine sq_blk [⟨4, _, []⟩] [] hz rfl ⟨(fun a s he hf hz => av rfl rfl i0), trivial⟩ ?_; intro a11 s12 he hf hz hd1; have ⟨hd, E⟩ := hdE hd1 hd E he; have h1 := V_at h1 he (hf 1 rfl); have h2 := (hf 2 rfl).trans h2; have B10 := B10.ext he; have c8 := vm he c8; refine wp_sr ?_; refine sq_blk [⟨5, _, []⟩, ⟨6, _, [0]⟩, ⟨7, _, []⟩, ⟨8, _, [1, 2]⟩, ⟨4, _, [3]⟩] [4] hz rfl ⟨(fun a s he hf hz => fb rfl rfl fa_70_0 ((hf 2 rfl).trans h2)), (fun a s he hf hz q0 => lo rfl rfl ty_9 q0 (B10.ext he) rfl (vm he c8)), mvs rfl rfl h1 rfl, (fun a s he hf hz q1 q2 => opw rfl (op_call rfl rfl (strings_Compare.ok q1 q2))), avq rfl rfl, trivial⟩ ?_; intro a13 s14 he hf hz hd1 h4; have ⟨hd, E⟩ := hdE hd1 hd E he; refine wp_ret ?_; cases h
 exact ⟨hd, _, results_tmp rfl _ _ _, E, h4⟩
def slices_BinarySearchFunc_api_Dot_api_Dot_string.l0 : Nat → (List Dot) → Str → (Dot → Str → Int) → Int → Int → Option (Int × Bool)
 | 0, _, _, _, _, _ => none
 | m11 + 1, x0, x1, φ2, y9, y10 => (if decide (y9 < y10) = true then (if (0 ≤ (IntKind.wrap .i64 (sShr .u64 (IntKind.wrap .u64 (IntKind.wrap .i64 (y9 + y10))) 1)) ∧ (IntKind.wrap .i64 (sShr .u64 (IntKind.wrap .u64 (IntKind.wrap .i64 (y9 + y10))) 1)) < (x0.length : Int)) then (if decide ((φ2 (List.getD x0 (IntKind.wrap .i64 (sShr .u64 (IntKind.wrap .u64 (IntKind.wrap .i64 (y9 + y10))) 1)).toNat default) x1) < 0) = true then (slices_BinarySearchFunc_api_Dot_api_Dot_string.l0 m11 x0 x1 φ2 (IntKind.wrap .i64 ((IntKind.wrap .i64 (sShr .u64 (IntKind.wrap .u64 (IntKind.wrap .i64 (y9 + y10))) 1)) + 1)) y10) else (slices_BinarySearchFunc_api_Dot_api_Dot_string.l0 m11 x0 x1 φ2 y9 (IntKind.wrap .i64 (sShr .u64 (IntKind.wrap .u64 (IntKind.wrap .i64 (y9 + y10))) 1)))) else none) else (if ((decide (y9 < (x0.length : Int))) = true → (0 ≤ y9 ∧ y9 < (x0.length : Int))) then (some (y9, ((decide (y9 < (x0.length : Int))) && (decide ((φ2 (List.getD x0 (y9).toNat default) x1) = 0))))) else none))
def slices_BinarySearchFunc_api_Dot_api_Dot_string.f (k : Nat) (x0 : (List Dot)) (x1 : Str) (φ2 : Dot → Str → Int) : Option (Int × Bool) := (slices_BinarySearchFunc_api_Dot_api_Dot_string.l0 k x0 x1 φ2 0 (x0.length : Int))
theorem slices_BinarySearchFunc_api_Dot_api_Dot_string.ok {s0 : St} {v0 : Value} {x0 : (List Dot)} {v1 : Value} {x1 : Str} {v2 : Value} {g2 : FuncId} {caps2 : List Value} {φ2 : Dot → Str → Int} {k : Nat} {r : Int × Bool} (k0 : (kSl kDot).V s0 v0 x0) (k1 : kS.V s0 v1 x1) (e2 : v2 = .func (.func g2) #[] caps2.toArray) (F2 : ∀ {s : St} {w0 : Value} {y0 : Dot} {w1 : Value} {y1 : Str}, Ext s0 s → kDot.V s w0 y0 → kS.V s w1 y1 → Cl Try.prog g2 ([w0, w1] ++ caps2).toArray s (Okf s (Fact.v (kI .i64) (φ2 y0 y1)))) (h : slices_BinarySearchFunc_api_Dot_api_Dot_string.f k x0 x1 φ2 = some r) : Cl Try.prog 151 #[v0, v1, v2] s0 (Okf s0 (Fact.tup [Fact.v (kI .i64) r.1, Fact.v kB r.2])) := by
 unfold slices_BinarySearchFunc_api_Dot_api_Dot_string.f at h
 refine cl_of_wp Try.func151 rfl en_151 fun a hz hd hp => ?_; have hz : a.tmps.size = 49 := hz; have E := Chg.refl (fun _ => False) s0; have h0 := V_at k0 E (hp 0 v0 rfl); have h1 := V_at k1 E (hp 1 v1 rfl); have h2 := (hp 2 v2 rfl).trans e2; refine wp_sr ?_; refine sq_blk [⟨6, _, []⟩, ⟨7, _, []⟩] [] hz rfl ⟨(fun a s he hf hz => av rfl rfl i0), (fun a s he hf hz => av rfl rfl b_f), trivial⟩ ?_; intro a1 s2 he hf hz hd1; have ⟨hd, E⟩ := hdE hd1 hd E he; obtain ⟨h0, h1⟩ := va2 he hf h0 h1 rfl; have h2 := (hf 2 rfl).trans h2; refine wp_sr ?_; refine sq_blk [⟨12, _, []⟩, ⟨13, _, [0]⟩, ⟨8, _, [1]⟩] [2] hz rfl ⟨mvs rfl rfl h0 rfl, (fun a s he hf hz q0 => le_ rfl rfl u_32 q0), avq rfl rfl, trivial⟩ ?_; intro a3 s4 he hf hz hd1 h8; have ⟨hd, E⟩ := hdE hd1 hd E he; obtain ⟨h0, h1⟩ := va2 he hf h0 h1 rfl; have h2 := (hf 2 rfl).trans h2; refine wp_sr ?_; refine sq_blk [⟨14, _, []⟩, ⟨9, _, []⟩, ⟨10, _, [0]⟩] [1, 2] hz rfl ⟨mvs rfl rfl h8 rfl, (fun a s he hf hz => av rfl rfl i0), avq rfl rfl, trivial⟩ ?_
 intro a5 s6 he hf hz hd1 h9 h10; have ⟨hd, E⟩ := hdE hd1 hd E he; obtain ⟨h0, h1, h8⟩ := va3 he hf h0 h1 h8 rfl; have h2 := (hf 2 rfl).trans h2; refine wp_seq ?_; refine wp_block ?_; refine wp_loop (k := k) (fun m11 a s => ∃ (y9 : Int) (y10 : Int), slices_BinarySearchFunc_api_Dot_api_Dot_string.l0 m11 x0 x1 φ2 y9 y10 = some r ∧ m11 ≤ k ∧ Ext s0 s ∧ a.tmps.size = 49 ∧ a.defers = [] ∧ (kSl kDot).V s (a.get 0) x0 ∧ kS.V s (a.get 1) x1 ∧ a.get 2 = .func (.func g2) #[] caps2.toArray ∧ (kI .i64).V s (a.get 8) (x0.length : Int) ∧ (kI .i64).V s (a.get 9) y9 ∧ (kI .i64).V s (a.get 10) y10) ⟨_, _, h, Nat.le_refl _, E, hz, hd, h0, h1, h2, h8, h9, h10⟩ ?_; rintro m11 a8 s7 ⟨y9, y10, h, hkm11, E, hz, hd, h0, h1, h2, h8, h9, h10⟩; obtain _ | m11 := m11
 ·cases h
 refine wp_seq ?_; refine wp_sr ?_; refine sq_blk [⟨15, _, []⟩, ⟨16, _, []⟩, ⟨17, _, [0, 1]⟩] [2] hz rfl ⟨mvs rfl rfl h9 rfl, mvs rfl rfl h10 rfl, (fun a s he hf hz q0 q1 => ls rfl rfl q0 q1), trivial⟩ ?_; intro a12 s13 he hf hz hd1 h17; have ⟨hd, E⟩ := hdE hd1 hd E he; obtain ⟨h0, h1, h8, h9, h10⟩ := va5 he hf h0 h1 h8 h9 h10 rfl; have h2 := (hf 2 rfl).trans h2; refine wp_condV h17 (fun hb => ?_) (fun hb => ?_)
 ·have h := ite_t hb h; refine wp_skip ?_; refine wp_block ?_; refine wp_sr ?_; refine sq_blk [⟨18, _, []⟩, ⟨19, _, []⟩, ⟨20, _, [0, 1]⟩, ⟨21, _, [2]⟩, ⟨22, _, [3]⟩, ⟨23, _, [4]⟩, ⟨11, _, [5]⟩] [6] hz rfl ⟨mvs rfl rfl h9 rfl, mvs rfl rfl h10 rfl, (fun a s he hf hz q0 q1 => ad rfl rfl q0 q1), (fun a s he hf hz q2 => cv rfl rfl u_3 u_143 q2), (fun a s he hf hz q3 => opw rfl (op_shr rfl q3 (lit_i (k := .u64) (n := 1) (by decide)) (by decide))), (fun a s he hf hz q4 => cv rfl rfl u_143 u_3 q4), avq rfl rfl, trivial⟩ ?_; intro a14 s15 he hf hz hd1 h11; have ⟨hd, E⟩ := hdE hd1 hd E he; obtain ⟨h0, h1, h8, h9, h10⟩ := va5 he hf h0 h1 h8 h9 h10 rfl; have h2 := (hf 2 rfl).trans h2; refine wp_sr ?_; obtain ⟨D16, h⟩ := need h; refine sq_blk [⟨24, _, []⟩, ⟨25, _, []⟩, ⟨26, _, []⟩, ⟨27, _, [1, 2]⟩, ⟨28, _, [3]⟩, ⟨29, _, []⟩, ⟨30, _, [0, 4, 5]⟩, ⟨31, _, [6]⟩] [7] hz rfl ⟨mes rfl rfl h2 rfl, mvs rfl rfl h0 rfl, mvs rfl rfl h11 rfl, (fun a s he hf hz q1 q2 => ia rfl rfl sl_32 q1 q2 D16.1 D16.2), (fun a s he hf hz q3 => lp rfl rfl ty_70 (by decide) q3), mvs rfl rfl h1 rfl, (fun a s he hf hz q0 q4 q5 => opw rfl (op_callv rfl q0 rfl (F2 (E.trans he) q4 q5))), (fun a s he hf hz q6 => ls rfl rfl q6 i0), trivial⟩ ?_
  intro a17 s18 he hf hz hd1 h31; have ⟨hd, E⟩ := hdE hd1 hd E he; obtain ⟨h0, h1, h8, h9, h10, h11⟩ := va6 he hf h0 h1 h8 h9 h10 h11 rfl; have h2 := (hf 2 rfl).trans h2; refine wp_condV h31 (fun hb => ?_) (fun hb => ?_)
  ·have h := ite_t hb h; refine wp_region ?_; refine sq_blk [⟨32, _, []⟩, ⟨33, _, [0]⟩, ⟨9, _, [1]⟩] [2] hz rfl ⟨mvs rfl rfl h11 rfl, (fun a s he hf hz q0 => ad rfl rfl q0 i1), avq rfl rfl, trivial⟩ ?_; intro a19 s20 he hf hz hd1 h9; have ⟨hd, E⟩ := hdE hd1 hd E he; obtain ⟨h0, h1, h8, h10⟩ := va4 he hf h0 h1 h8 h10 rfl; have h2 := (hf 2 rfl).trans h2; exact ⟨_, (by omega : m11 < m11 + 1), _, _, h, by omega, E, hz, hd, h0, h1, h2, h8, h9, h10⟩
  ·have h := ite_f hb h; refine wp_region ?_; refine sq_blk [⟨34, _, []⟩, ⟨10, _, [0]⟩] [1] hz rfl ⟨mvs rfl rfl h11 rfl, avq rfl rfl, trivial⟩ ?_; intro a21 s22 he hf hz hd1 h10; have ⟨hd, E⟩ := hdE hd1 hd E he; obtain ⟨h0, h1, h8, h9⟩ := va4 he hf h0 h1 h8 h9 rfl; have h2 := (hf 2 rfl).trans h2; exact ⟨_, (by omega : m11 < m11 + 1), _, _, h, by omega, E, hz, hd, h0, h1, h2, h8, h9, h10⟩
 ·have h := ite_f hb h; refine wp_exit ?_; refine then_exit ?_; refine then_exit ?_; refine inBlock_hit ?_; refine wp_sr ?_; obtain ⟨D23, h⟩ := need h; have hz0 := hz; refine sq_blk [⟨35, _, []⟩, ⟨36, _, []⟩, ⟨37, _, []⟩, ⟨38, _, [1, 2]⟩, ⟨39, _, [3]⟩, ⟨40, _, [4]⟩, ⟨41, _, [4]⟩, ⟨42, _, [4]⟩, ⟨43, _, [4, 6, 7]⟩, ⟨44, _, [4, 8]⟩, ⟨45, _, [4]⟩, ⟨46, _, [4, 5, 9, 10]⟩, ⟨47, _, [4, 11]⟩, ⟨48, _, [4, 12]⟩, ⟨6, _, [0]⟩, ⟨7, _, [13]⟩] [14, 15] hz rfl ⟨mvs rfl rfl h9 rfl, mvs rfl rfl h9 rfl, mvs rfl rfl h8 rfl, (fun a s he hf hz q1 q2 => ls rfl rfl q1 q2), mvq rfl rfl, (fun a s he hf hz q4 => og rfl rfl rfl hz hz0 rfl q4 (fun g => op_move_e rfl ((hf 2 rfl).trans h2))), (fun a s he hf hz q4 => og rfl rfl rfl hz hz0 rfl q4 (fun g => op_move_v rfl (V_at h0 he (hf 0 rfl)))), (fun a s he hf hz q4 => og rfl rfl rfl hz hz0 rfl q4 (fun g => op_move_v rfl (V_at h9 he (hf 9 rfl)))), (fun a s he hf hz q4 q6 q7 => og rfl rfl rfl hz hz0 rfl q4 (fun g => op_iaddr rfl sl_32 (q6.1 g) (q7.1 g) (D23 g).1 (D23 g).2)), (fun a s he hf hz q4 q8 => og rfl rfl rfl hz hz0 rfl q4 (fun g => op_load_p rfl ty_70 (by decide) (q8.1 g))), (fun a s he hf hz q4 => og rfl rfl rfl hz hz0 rfl q4 (fun g => op_move_v rfl (V_at h1 he (hf 1 rfl)))), (fun a s he hf hz q4 q5 q9 q10 => og rfl rfl rfl hz hz0 rfl q4 (fun g => op_callv rfl (q5.1 g) rfl (F2 (E.trans he) (q9.1 g) (q10.1 g)))), (fun a s he hf hz q4 q11 => og rfl rfl rfl hz hz0 rfl q4 (fun g => op_eql rfl (q11.1 g) i0)), (fun a s he hf hz q4 q12 => an rfl rfl q4 (q12.1)), avq rfl rfl, avq rfl rfl, trivial⟩ ?_
  intro a24 s25 he hf hz hd1 h6 h7; have ⟨hd, E⟩ := hdE hd1 hd E he; refine wp_ret ?_; cases h
  exact ⟨hd, _, results_tmp2 rfl _ _ _, E, tup2 h6 h7⟩
def bsGo (c : Dot → Int) (x : List Dot) : Nat → Nat → Nat → Nat
 | 0, lo, _ => lo
 | f + 1, lo, hi => if lo < hi then if c (x.getD ((lo + hi) / 2) default) < 0 then bsGo c x f ((lo + hi) / 2 + 1) hi else bsGo c x f lo ((lo + hi) / 2) else lo
def bsD (x : List Dot) (w : Str) (φ : Dot → Str → Int) : Int × Bool :=
 (((bsGo (fun d => φ d w) x x.length 0 x.length : Nat) : Int), decide (((bsGo (fun d => φ d w) x x.length 0 x.length : Nat) : Int) < (x.length : Int)) && decide (φ (x.getD (bsGo (fun d => φ d w) x x.length 0 x.length) default) w = 0))
theorem half_eq {a b : Nat} (ha : a < 9223372036854775808) (hb : b < 9223372036854775808) : IntKind.wrap .i64 (sShr .u64 (IntKind.wrap .u64 (IntKind.wrap .i64 ((a : Int) + (b : Int)))) 1) = (((a + b) / 2 : Nat) : Int) := by
 have e1 : IntKind.wrap .u64 (IntKind.wrap .i64 ((a : Int) + (b : Int))) = ((a + b : Nat) : Int) := by
  simp [IntKind.wrap, IntKind.signed, IntKind.bits]; omega
 have e2 : sShr .u64 ((a + b : Nat) : Int) 1 = (((a + b) / 2 : Nat) : Int) := s64 1 (by omega)
 rw [e1, e2, w64 (by omega) (by omega)]
theorem slices_BinarySearchFunc_api_Dot_api_Dot_string.nice (x0 : List Dot) (x1 : Str) (φ2 : Dot → Str → Int) (b0 : (kSl kDot).bd x0) (b1 : kS.bd x1) : ∃ k, slices_BinarySearchFunc_api_Dot_api_Dot_string.f k x0 x1 φ2 = some (bsD x0 x1 φ2) := by
 have hb : x0.length ≤ maxLen := b0.1
 have hm := maxLen_lt
 have go : ∀ f lo hi : Nat, hi - lo ≤ f → lo ≤ hi → hi ≤ x0.length → ∃ k, slices_BinarySearchFunc_api_Dot_api_Dot_string.l0 k x0 x1 φ2 (lo : Int) (hi : Int) =
   some (((bsGo (fun d => φ2 d x1) x0 f lo hi : Nat) : Int), decide (((bsGo (fun d => φ2 d x1) x0 f lo hi : Nat) : Int) < (x0.length : Int)) && decide (φ2 (x0.getD (bsGo (fun d => φ2 d x1) x0 f lo hi) default) x1 = 0)) := by
  intro f
  induction f with
  | zero =>
   intro lo hi h1 h2 h3
   have : lo = hi := by omega
   subst this
   refine ⟨1, ?_⟩
   simp only [slices_BinarySearchFunc_api_Dot_api_Dot_string.l0, Int.lt_irrefl, decide_false, Bool.false_eq_true, if_false, bsGo, Int.toNat_natCast]
   exact if_pos (fun h => ⟨by omega, by simpa using h⟩)
  | succ f ih =>
   intro lo hi h1 h2 h3
   by_cases hlt : lo < hi
   ·have hlt' : (lo : Int) < (hi : Int) := by omega
    have hr : (0 : Int) ≤ (((lo + hi) / 2 : Nat) : Int) ∧ (((lo + hi) / 2 : Nat) : Int) < (x0.length : Int) := ⟨by omega, by omega⟩
    have e1 : IntKind.wrap .i64 ((((lo + hi) / 2 : Nat) : Int) + 1) = (((lo + hi) / 2 + 1 : Nat) : Int) := by rw [w64 (by omega) (by omega)]; omega
    by_cases hc : φ2 (x0.getD ((lo + hi) / 2) default) x1 < 0
    ·obtain ⟨k, hk⟩ := ih ((lo + hi) / 2 + 1) hi (by omega) (by omega) h3
     refine ⟨k + 1, ?_⟩
     simp only [slices_BinarySearchFunc_api_Dot_api_Dot_string.l0, hlt', decide_true, if_true, half_eq (show lo < 9223372036854775808 by omega) (show hi < 9223372036854775808 by omega), hr, and_self, Int.toNat_natCast, hc, e1, bsGo, hlt]
     exact hk
    ·obtain ⟨k, hk⟩ := ih lo ((lo + hi) / 2) (by omega) (by omega) (by omega)
     refine ⟨k + 1, ?_⟩
     simp only [slices_BinarySearchFunc_api_Dot_api_Dot_string.l0, hlt', decide_true, if_true, half_eq (show lo < 9223372036854775808 by omega) (show hi < 9223372036854775808 by omega), hr, and_self, Int.toNat_natCast, hc, decide_false, Bool.false_eq_true, if_false, bsGo, hlt]
     exact hk
   ·have : lo = hi := by omega
    subst this
    refine ⟨1, ?_⟩
    simp only [slices_BinarySearchFunc_api_Dot_api_Dot_string.l0, Int.lt_irrefl, decide_false, Bool.false_eq_true, if_false, bsGo, Nat.lt_irrefl, Int.toNat_natCast]
    rw [if_pos (fun h => ⟨by omega, by simpa using h⟩)]
 obtain ⟨k, hk⟩ := go x0.length 0 x0.length (by omega) (by omega) (Nat.le_refl _)
 exact ⟨k, by unfold slices_BinarySearchFunc_api_Dot_api_Dot_string.f; exact hk⟩
theorem slices_BinarySearchFunc_api_Dot_api_Dot_string.ct {s0 : St} {v0 : Value} {x0 : (List Dot)} {v1 : Value} {x1 : Str} {v2 : Value} {g2 : FuncId} {caps2 : List Value} {φ2 : Dot → Str → Int} (k0 : (kSl kDot).V s0 v0 x0) (k1 : kS.V s0 v1 x1) (e2 : v2 = .func (.func g2) #[] caps2.toArray) (F2 : ∀ {s : St} {w0 : Value} {y0 : Dot} {w1 : Value} {y1 : Str}, Ext s0 s → kDot.V s w0 y0 → kS.V s w1 y1 → Cl Try.prog g2 ([w0, w1] ++ caps2).toArray s (Okf s (Fact.v (kI .i64) (φ2 y0 y1)))) : Cl Try.prog 151 #[v0, v1, v2] s0 (Okf s0 (Fact.tup [Fact.v (kI .i64) ((bsD x0 x1 φ2).1), Fact.v kB ((bsD x0 x1 φ2).2)])) := by
 obtain ⟨k, h⟩ := slices_BinarySearchFunc_api_Dot_api_Dot_string.nice x0 x1 φ2 (Kn.V_bd k0) (Kn.V_bd k1)
 exact slices_BinarySearchFunc_api_Dot_api_Dot_string.ok k0 k1 e2 F2 h
def vector_find (x0 : (List Dot)) (x1 : Str) : Int × Bool := ((bsD x0 x1 (fun y0 y1 => (vector_find_1 y0 y1))).1, (bsD x0 x1 (fun y0 y1 => (vector_find_1 y0 y1))).2)
theorem vector_find.ok {s0 : St} {v0 : Value} {x0 : (List Dot)} {v1 : Value} {x1 : Str} (k0 : (kSl kDot).V s0 v0 x0) (k1 : kS.V s0 v1 x1) : Cl Try.prog 145 #[v0, v1] s0 (Okf s0 (Fact.tup [Fact.v (kI .i64) ((vector_find x0 x1).1), Fact.v kB ((vector_find x0 x1).2)])) := by
 obtain ⟨r, h⟩ : ∃ r, some (vector_find x0 x1) = some r := ⟨_, rfl⟩
 rw [Option.some.inj h]
 have h : (some ((bsD x0 x1 (fun y0 y1 => (vector_find_1 y0 y1))).1, (bsD x0 x1 (fun y0 y1 => (vector_find_1 y0 y1))).2)) = some r := by rw [← h]; unfold vector_find; first | rfl | simp only [apply_ite some] | (repeat' (first | rfl | split))
 refine cl_of_wp Try.func145 rfl en_145 fun a hz hd hp => ?_; have hz : a.tmps.size = 11 := hz; have E := Chg.refl (fun _ => False) s0; have h0 := V_at k0 E (hp 0 v0 rfl); have h1 := V_at k1 E (hp 1 v1 rfl); refine wp_sr ?_; refine sq_blk [⟨4, _, []⟩, ⟨5, _, []⟩] [] hz rfl ⟨(fun a s he hf hz => av rfl rfl i0), (fun a s he hf hz => av rfl rfl b_f), trivial⟩ ?_; intro a1 s2 he hf hz hd1; have ⟨hd, E⟩ := hdE hd1 hd E he; obtain ⟨h0, h1⟩ := va2 he hf h0 h1 rfl; refine wp_sr ?_; refine sq_blk [⟨6, _, []⟩, ⟨7, _, []⟩, ⟨8, _, [0, 1]⟩, ⟨9, _, [2]⟩, ⟨10, _, [2]⟩, ⟨4, _, [3]⟩, ⟨5, _, [4]⟩] [5, 6] hz rfl ⟨mvs rfl rfl h0 rfl, mvs rfl rfl h1 rfl, (fun a s he hf hz q0 q1 => opw rfl (op_call rfl (argc rfl (argc rfl (argc rfl rfl))) (slices_BinarySearchFunc_api_Dot_api_Dot_string.ct q0 q1 rfl (φ2 := (fun y0 y1 => (vector_find_1 y0 y1))) (fun he' hv0 hv1 => vector_find_1.ok hv0 hv1)))), (fun a s he hf hz q2 => opw rfl (op_extract (f := Fact.v _ _) rfl q2 rfl)), (fun a s he hf hz q2 => opw rfl (op_extract (f := Fact.v _ _) rfl q2 rfl)), avq rfl rfl, avq rfl rfl, trivial⟩ ?_
 intro a3 s4 he hf hz hd1 h4 h5; have ⟨hd, E⟩ := hdE hd1 hd E he; refine wp_ret ?_; cases h
 exact ⟨hd, _, results_tmp2 rfl _ _ _, E, tup2 h4 h5⟩
def vector_at.f (k : Nat) (x0 : (List Dot)) (x1 : Str) : Option (Int) := (if (vector_find x0 x1).2 = true then (if (0 ≤ ((vector_find x0 x1).1) ∧ ((vector_find x0 x1).1) < (x0.length : Int)) then (some ((List.getD x0 ((vector_find x0 x1).1).toNat default).n)) else none) else (some 0))
theorem vector_at.ok {s0 : St} {v0 : Value} {x0 : (List Dot)} {v1 : Value} {x1 : Str} {k : Nat} {r : Int} (k0 : (kSl kDot).V s0 v0 x0) (k1 : kS.V s0 v1 x1) (h : vector_at.f k x0 x1 = some r) : Cl Try.prog 128 #[v0, v1] s0 (Okf s0 (Fact.v (kI .i64) r)) := by
 unfold vector_at.f at h
 refine cl_of_wp Try.func128 rfl en_128 fun a hz hd hp => ?_; have hz : a.tmps.size = 19 := hz; have E := Chg.refl (fun _ => False) s0; have h0 := V_at k0 E (hp 0 v0 rfl); have h1 := V_at k1 E (hp 1 v1 rfl); refine wp_sr ?_; refine sq_blk [⟨4, _, []⟩] [] hz rfl ⟨(fun a s he hf hz => av rfl rfl i0), trivial⟩ ?_; intro a1 s2 he hf hz hd1; have ⟨hd, E⟩ := hdE hd1 hd E he; obtain ⟨h0, h1⟩ := va2 he hf h0 h1 rfl; refine wp_seq ?_; refine wp_sr ?_; refine sq_blk [⟨8, _, []⟩, ⟨9, _, []⟩, ⟨10, _, [0, 1]⟩, ⟨7, _, [2]⟩, ⟨11, _, [3]⟩, ⟨12, _, [3]⟩, ⟨5, _, [4]⟩, ⟨6, _, [5]⟩] [6, 7] hz rfl ⟨mvs rfl rfl h0 rfl, mvs rfl rfl h1 rfl, (fun a s he hf hz q0 q1 => opw rfl (op_call rfl rfl (vector_find.ok q0 q1))), (fun a s he hf hz q2 => opw rfl (op_move rfl (f := Fact.tup _) q2)), (fun a s he hf hz q3 => opw rfl (op_extract (f := Fact.v _ _) rfl q3 rfl)), (fun a s he hf hz q3 => opw rfl (op_extract (f := Fact.v _ _) rfl q3 rfl)), avq rfl rfl, avq rfl rfl, trivial⟩ ?_; intro a3 s4 he hf hz hd1 h5 h6; have ⟨hd, E⟩ := hdE hd1 hd E he; have h0 := V_at h0 he (hf 0 rfl)
 refine wp_sr ?_; refine sq_blk [⟨13, _, []⟩] [0] hz rfl ⟨mvs rfl rfl h6 rfl, trivial⟩ ?_; intro a5 s6 he hf hz hd1 h13; have ⟨hd, E⟩ := hdE hd1 hd E he; obtain ⟨h0, h5⟩ := va2 he hf h0 h5 rfl; refine wp_condV h13 (fun hb => ?_) (fun hb => ?_)
 ·have h := ite_t hb h; refine wp_sr ?_; obtain ⟨D7, h⟩ := need h; refine sq_blk [⟨14, _, []⟩, ⟨15, _, []⟩, ⟨16, _, [0, 1]⟩, ⟨17, _, [2]⟩, ⟨18, _, [3]⟩, ⟨4, _, [4]⟩] [5] hz rfl ⟨mvs rfl rfl h0 rfl, mvs rfl rfl h5 rfl, (fun a s he hf hz q0 q1 => ia rfl rfl sl_32 q0 q1 D7.1 D7.2), (fun a s he hf hz q2 => opw rfl (op_faddr_p rfl fa_70_1 kDot_s1 q2)), (fun a s he hf hz q3 => lp rfl rfl ty_2 (by decide) q3), avq rfl rfl, trivial⟩ ?_; intro a8 s9 he hf hz hd1 h4; have ⟨hd, E⟩ := hdE hd1 hd E he; refine wp_ret ?_; cases h
  exact ⟨hd, _, results_tmp rfl _ _ _, E, h4⟩
 ·have h := ite_f hb h; refine wp_skip ?_; refine wp_sr ?_; refine sq_blk [⟨4, _, []⟩] [0] hz rfl ⟨(fun a s he hf hz => av rfl rfl i0), trivial⟩ ?_; intro a10 s11 he hf hz hd1 h4; have ⟨hd, E⟩ := hdE hd1 hd E he; refine wp_ret ?_; cases h
  exact ⟨hd, _, results_tmp rfl _ _ _, E, h4⟩
def atB (x : List Dot) (w : Str) : Int := if (vector_find x w).2 = true then (x.getD (vector_find x w).1.toNat default).n else 0
theorem vector_at.nice (x0 : List Dot) (x1 : Str) (b0 : (kSl kDot).bd x0) (b1 : kS.bd x1) : ∃ k, vector_at.f k x0 x1 = some (atB x0 x1) := by
 refine ⟨0, ?_⟩
 unfold vector_at.f atB
 cases h : (vector_find x0 x1).2
 ·rfl
 ·have h' := h
  simp only [vector_find, bsD, Bool.and_eq_true, decide_eq_true_eq] at h'
  rw [if_pos rfl, if_pos rfl, if_pos]
  exact ⟨by simp only [vector_find, bsD]; omega, by simp only [vector_find, bsD]; exact h'.1⟩
theorem vector_at.ct {s0 : St} {v0 : Value} {x0 : (List Dot)} {v1 : Value} {x1 : Str} (k0 : (kSl kDot).V s0 v0 x0) (k1 : kS.V s0 v1 x1) : Cl Try.prog 128 #[v0, v1] s0 (Okf s0 (Fact.v (kI .i64) (atB x0 x1))) := by
 obtain ⟨k, h⟩ := vector_at.nice x0 x1 (Kn.V_bd k0) (Kn.V_bd k1)
 exact vector_at.ok k0 k1 h
def vector_Has (x0 : (List Dot)) (x1 : Dot) : Bool := (((rightV x0) && (vector_isDot x1)) && (decide (x1.n ≤ (atB x0 x1.who))))
theorem vector_Has.ok {s0 : St} {v0 : Value} {x0 : (List Dot)} {v1 : Value} {x1 : Dot} (k0 : (kSl kDot).V s0 v0 x0) (k1 : kDot.V s0 v1 x1) : Cl Try.prog 95 #[v0, v1] s0 (Okf s0 (Fact.v kB (vector_Has x0 x1))) := by
 obtain ⟨r, h⟩ : ∃ r, some (vector_Has x0 x1) = some r := ⟨_, rfl⟩
 rw [Option.some.inj h]
 have h : (some (((rightV x0) && (vector_isDot x1)) && (decide (x1.n ≤ (atB x0 x1.who))))) = some r := by rw [← h]; unfold vector_Has; first | rfl | simp only [apply_ite some] | (repeat' (first | rfl | split))
 refine cl_of_wp Try.func95 rfl en_95 fun a hz hd hp => ?_; have hz : a.tmps.size = 20 := hz; have E := Chg.refl (fun _ => False) s0; have h0 := V_at k0 E (hp 0 v0 rfl); have h1 := V_at k1 E (hp 1 v1 rfl); refine wp_sr ?_; refine sq_set hz rfl rfl rfl (op_boxn rfl rfl h1 (fun s2 e4 he BB3 r5 => fun a1 h3 hf hz hd1 => ?_)); obtain ⟨b10, hb10⟩ : ∃ b, b = s0.w.heap.size := ⟨_, rfl⟩; rw [← hb10] at BB3 h3; have B10 := BB3; have l10 : s0.w.heap.size ≤ b10 := by have := E.size; omega
 have ⟨hd, E⟩ := hdE hd1 hd E he; have h0 := V_at h0 he (hf 0 rfl); obtain ⟨u6, u7, rfl, c8, c9⟩ := kDot_open r5; refine sq_blk [⟨4, _, []⟩] [] hz rfl ⟨(fun a s he hf hz => av rfl rfl b_f), trivial⟩ ?_; intro a11 s12 he hf hz hd1; have ⟨hd, E⟩ := hdE hd1 hd E he; have h0 := V_at h0 he (hf 0 rfl); have h3 := (hf 3 rfl).trans h3; have B10 := B10.ext he; obtain ⟨c8, c9⟩ := vm2 he c8 c9; refine wp_seq ?_; have hz0 := hz; refine wp_draw [⟨5, _, []⟩, ⟨6, _, [0]⟩, ⟨7, _, [1]⟩, ⟨8, _, [2]⟩, ⟨9, _, [2, 3]⟩, ⟨10, _, [2, 4]⟩, ⟨11, _, [5]⟩, ⟨12, _, [6]⟩, ⟨13, _, [6, 7]⟩, ⟨14, _, [6]⟩, ⟨15, _, [6]⟩, ⟨16, _, [6, 10]⟩, ⟨17, _, [6, 9, 11]⟩, ⟨18, _, [6, 8, 12]⟩, ⟨19, _, [6, 13]⟩, ⟨4, _, [14]⟩] [15] mo hz (by kernel_rfl) ⟨mvs rfl rfl h0 rfl, (fun a s he hf hz q0 => opw rfl (op_call rfl rfl (vector_Right.ct q0))), mvq rfl rfl, (fun a s he hf hz q2 => og rfl rfl rfl hz hz0 rfl q2 (fun g => op_loadn rfl ty_70 rfl ((hf 3 rfl).trans h3) (B10.ext he) rfl (kDot_eta (x := x1) (vm he c8) (vm he c9)))), (fun a s he hf hz q2 q3 => og rfl rfl rfl hz hz0 rfl q2 (fun g => op_call rfl rfl (vector_isDot.ok (q3.1 g)))), (fun a s he hf hz q2 q4 => an rfl rfl q2 (q4.1)), mvq rfl rfl, (fun a s he hf hz q6 => og rfl rfl rfl hz hz0 rfl q6 (fun g => op_faddr_b rfl fa_70_1 ((hf 3 rfl).trans h3))), (fun a s he hf hz q6 q7 => og rfl rfl rfl hz hz0 rfl q6 (fun g => op_load1 rfl ty_2 (q7.1 g) (B10.ext he) rfl (vm he c9))), (fun a s he hf hz q6 => og rfl rfl rfl hz hz0 rfl q6 (fun g => op_move_v rfl (V_at h0 he (hf 0 rfl)))), (fun a s he hf hz q6 => og rfl rfl rfl hz hz0 rfl q6 (fun g => op_faddr_b rfl fa_70_0 ((hf 3 rfl).trans h3))), (fun a s he hf hz q6 q10 => og rfl rfl rfl hz hz0 rfl q6 (fun g => op_load1 rfl ty_9 (q10.1 g) (B10.ext he) rfl (vm he c8))), (fun a s he hf hz q6 q9 q11 => og rfl rfl rfl hz hz0 rfl q6 (fun g => op_call rfl rfl (vector_at.ct (q9.1 g) (q11.1 g)))), (fun a s he hf hz q6 q8 q12 => og rfl rfl rfl hz hz0 rfl q6 (fun g => op_leq rfl (q8.1 g) (q12.1 g))), (fun a s he hf hz q6 q13 => an rfl rfl q6 (q13.1)), avq rfl rfl, trivial⟩ ?_
 intro a13 s14 he hf hz hd1 h4; have ⟨hd, E⟩ := hdE hd1 hd E he; refine wp_ret ?_; cases h
 exact ⟨hd, _, results_tmp rfl _ _ _, E, h4⟩
theorem cmp_lt (x y : Str) : Lib.compareBytes x y < 0 ↔ sLt x y = true := by
 unfold sLt
 induction x generalizing y with
 | nil => cases y <;> simp [Lib.compareBytes, Op.bytesLess]
 | cons a x ih =>
  cases y with
  | nil => simp [Lib.compareBytes, Op.bytesLess]
  | cons b y =>
   simp only [Lib.compareBytes, Op.bytesLess]
   rcases Nat.lt_trichotomy a.toNat b.toNat with h | h | h
   ·have h1 : a < b := UInt8.lt_iff_toNat_lt.2 h
    simp [h1]
   ·have h0 : a = b := UInt8.toNat_inj.1 h
    subst h0
    have h2 : ¬ a < a := fun h' => by have := UInt8.lt_iff_toNat_lt.1 h'; omega
    simp [h2, ih y]
   ·have h1 : b < a := UInt8.lt_iff_toNat_lt.2 h
    have h2 : ¬ a < b := fun h' => by have := UInt8.lt_iff_toNat_lt.1 h'; omega
    have h3 : ¬ a = b := fun h' => by rw [h'] at h; omega
    simp [h1, h2, h3]
theorem cmp_eq (x y : Str) : Lib.compareBytes x y = 0 ↔ x = y := by
 induction x generalizing y with
 | nil => cases y <;> simp [Lib.compareBytes]
 | cons a x ih =>
  cases y with
  | nil => simp [Lib.compareBytes]
  | cons b y =>
   simp only [Lib.compareBytes]
   rcases Nat.lt_trichotomy a.toNat b.toNat with h | h | h
   ·have h1 : a < b := UInt8.lt_iff_toNat_lt.2 h
    have h3 : ¬ a = b := fun h' => by rw [h'] at h; omega
    simp [h1, h3]
   ·have h0 : a = b := UInt8.toNat_inj.1 h
    subst h0
    have h2 : ¬ a < a := fun h' => by have := UInt8.lt_iff_toNat_lt.1 h'; omega
    simp [h2, ih y]
   ·have h1 : b < a := UInt8.lt_iff_toNat_lt.2 h
    have h2 : ¬ a < b := fun h' => by have := UInt8.lt_iff_toNat_lt.1 h'; omega
    have h3 : ¬ a = b := fun h' => by rw [h'] at h; omega
    simp [h1, h2, h3]
theorem sLt_irrefl (x : Str) : sLt x x = false := by
 have := sLt_tri x x
 cases h : sLt x x
 ·rfl
 ·rw [h] at this; simp at this
theorem sLt_ne {x y : Str} (h : sLt x y = true) : ¬ x = y := fun e => by subst e; rw [sLt_irrefl] at h; cases h
theorem sLt_trans {x y z : Str} (h1 : sLt x y = true) (h2 : sLt y z = true) : sLt x z = true := by
 unfold sLt at *
 induction x generalizing y z with
 | nil => cases z with
  | nil => cases y <;> simp [Op.bytesLess] at h2
  | cons c z => simp [Op.bytesLess]
 | cons a x ih =>
  cases y with
  | nil => simp [Op.bytesLess] at h1
  | cons b y =>
   cases z with
   | nil => simp [Op.bytesLess] at h2
   | cons c z =>
    simp only [Op.bytesLess, Bool.or_eq_true, Bool.and_eq_true, decide_eq_true_eq, beq_iff_eq] at h1 h2 ⊢
    rcases h1 with h1 | ⟨rfl, h1⟩ <;> rcases h2 with h2 | ⟨rfl, h2⟩
    ·exact .inl (UInt8.lt_iff_toNat_lt.2 (Nat.lt_trans (UInt8.lt_iff_toNat_lt.1 h1) (UInt8.lt_iff_toNat_lt.1 h2)))
    ·exact .inl h1
    ·exact .inl h2
    ·exact .inr ⟨rfl, ih h1 h2⟩
theorem sLt_not {x y : Str} (h1 : sLt x y = false) (h2 : ¬ x = y) : sLt y x = true := by
 have := sLt_tri x y
 rw [h1] at this
 simp only [h2, decide_false, Bool.or_self] at this
 cases h : sLt y x
 ·rw [h] at this; cases this
 ·rfl
theorem chainP_all : ∀ (l : List Dot) (p : Str), chainP p l = true → ∀ d ∈ l, sLt p d.who = true
 | [], _, _, _, h => by simp at h
 | e :: l, p, hc, d, hd => by
  simp only [chainP, Bool.and_eq_true] at hc
  rcases List.mem_cons.1 hd with rfl | hd
  ·exact hc.1.2
  ·exact sLt_trans hc.1.2 (chainP_all l e.who hc.2 d hd)
theorem chainV_lt : ∀ (l : List Dot), chainV l = true → ∀ (i j : Nat) (d e : Dot), i < j → l[i]? = some d → l[j]? = some e → sLt d.who e.who = true
 | [], _, _, _, _, _, _, h, _ => by simp at h
 | c :: l, hc, i, j, d, e, hij, hi, hj => by
  simp only [chainV, Bool.and_eq_true] at hc
  cases j with
  | zero => omega
  | succ j =>
   have hj : l[j]? = some e := by simpa using hj
   cases i with
   | zero =>
    have : c = d := by simpa using hi
    subst this
    exact chainP_all l c.who hc.2 e (List.mem_of_getElem? hj)
   | succ i =>
    have hi : l[i]? = some d := by simpa using hi
    refine chainV_lt l ?_ i j d e (by omega) hi hj
    cases l with
    | nil => rfl
    | cons f l => have h2 := hc.2; simp only [chainP, Bool.and_eq_true] at h2; simp only [chainV, Bool.and_eq_true]; exact ⟨h2.1.1, h2.2⟩
theorem bsGo_split (x : List Dot) (w : Str) (hs : ∀ (i j : Nat) (d e : Dot), i < j → x[i]? = some d → x[j]? = some e → sLt d.who e.who = true) : ∀ f lo hi : Nat, hi - lo ≤ f → lo ≤ hi → hi ≤ x.length → (∀ i d, i < lo → x[i]? = some d → sLt d.who w = true) → (∀ i d, hi ≤ i → x[i]? = some d → sLt d.who w = false) →
    (∀ i d, i < bsGo (fun d => Lib.compareBytes d.who w) x f lo hi → x[i]? = some d → sLt d.who w = true) ∧ (∀ i d, bsGo (fun d => Lib.compareBytes d.who w) x f lo hi ≤ i → x[i]? = some d → sLt d.who w = false) := by
  intro f
  induction f with
  | zero => intro lo hi h1 h2 h3 hl hh; have : lo = hi := by omega
            subst this; exact ⟨hl, hh⟩
  | succ f ih =>
    intro lo hi h1 h2 h3 hl hh
    unfold bsGo
    split
    · rename_i hlt
      have hm : (lo + hi) / 2 < x.length := by omega
      have hx : x[(lo + hi) / 2]? = some (x.getD ((lo + hi) / 2) default) := by rw [getD_at hm]; exact List.getElem?_eq_getElem hm
      split
      · rename_i hc
        have hc := (cmp_lt _ _).1 hc
        refine ih _ _ (by omega) (by omega) h3 (fun i d hi' hd => ?_) hh
        rcases Nat.lt_or_ge i ((lo + hi) / 2) with h | h
        · exact sLt_trans (hs i _ d _ h hd hx) hc
        · have : i = (lo + hi) / 2 := by omega
          subst this
          rw [hx] at hd; cases hd; exact hc
      · rename_i hc
        have hc : sLt (x.getD ((lo + hi) / 2) default).who w = false := by
          cases h : sLt (x.getD ((lo + hi) / 2) default).who w
          · rfl
          · exact absurd ((cmp_lt _ _).2 h) hc
        refine ih _ _ (by omega) (by omega) (by omega) hl (fun i d hi' hd => ?_)
        rcases Nat.lt_or_ge ((lo + hi) / 2) i with h | h
        · cases h' : sLt d.who w
          · rfl
          · have := sLt_trans (hs _ i _ d h hx hd) h'
            rw [hc] at this; cases this
        · have : i = (lo + hi) / 2 := by omega
          subst this
          rw [hx] at hd; cases hd; exact hc
    · have : lo = hi := by omega
      subst this; exact ⟨hl, hh⟩
theorem at_found {x : List Dot} {w : Str} {r : Nat} (hr : r < x.length) (he : (x.getD r default).who = w) (hlt : ∀ i d, i < r → x[i]? = some d → ¬ d.who = w) : at_ x w = (x.getD r default).n := by
 have : x.find? (fun d => decide (d.who = w)) = some (x.getD r default) := by
  rw [List.find?_eq_some_iff_getElem]
  refine ⟨decide_eq_true he, r, hr, (getD_at hr).symm, fun j hj => ?_⟩
  have := hlt j x[j] hj (List.getElem?_eq_getElem (by omega))
  simpa using this
 unfold at_; rw [this]
theorem at_none {x : List Dot} {w : Str} (h : ∀ d ∈ x, ¬ d.who = w) : at_ x w = 0 := by
 have : x.find? (fun d => decide (d.who = w)) = none := List.find?_eq_none.2 fun d hd => by simpa using h d hd
 unfold at_; rw [this]
theorem atB_eq {x : List Dot} (w : Str) (h : chainV x = true) : atB x w = at_ x w := by
 have hs := chainV_lt x h
 obtain ⟨h1, h2⟩ := bsGo_split x w hs x.length 0 x.length (by omega) (by omega) (Nat.le_refl _) (fun i d hi => by omega) (fun i d hi hd => by have := (List.getElem?_eq_some_iff.1 hd).1; omega)
 have hf : vector_find x w = (((bsGo (fun d => Lib.compareBytes d.who w) x x.length 0 x.length : Nat) : Int), decide (((bsGo (fun d => Lib.compareBytes d.who w) x x.length 0 x.length : Nat) : Int) < (x.length : Int)) && decide (Lib.compareBytes (x.getD (bsGo (fun d => Lib.compareBytes d.who w) x x.length 0 x.length) default).who w = 0)) := rfl
 unfold atB
 rw [hf]
 generalize bsGo (fun d => Lib.compareBytes d.who w) x x.length 0 x.length = r at *
 show (if (decide ((r : Int) < (x.length : Int)) && decide (Lib.compareBytes (x.getD r default).who w = 0)) = true then (x.getD ((r : Nat) : Int).toNat default).n else 0) = _
 by_cases hc : (decide ((r : Int) < (x.length : Int)) && decide (Lib.compareBytes (x.getD r default).who w = 0)) = true
 ·rw [if_pos hc, Int.toNat_natCast]
  simp only [Bool.and_eq_true, decide_eq_true_eq, cmp_eq] at hc
  exact (at_found (by omega) hc.2 fun i d hi hd => sLt_ne (h1 i d hi hd)).symm
 ·rw [if_neg hc]
  refine (at_none fun d hd e => ?_).symm
  obtain ⟨i, hi⟩ := List.getElem?_of_mem hd
  rcases Nat.lt_or_ge i r with h' | h'
  ·exact sLt_ne (h1 i d h' hi) e
  ·have hil := (List.getElem?_eq_some_iff.1 hi).1
   have hrl : r < x.length := by omega
   have hx : x[r]? = some (x.getD r default) := by rw [getD_at hrl]; exact List.getElem?_eq_getElem hrl
   have hn : ¬ (x.getD r default).who = w := fun e' => hc (by simp only [Bool.and_eq_true, decide_eq_true_eq, cmp_eq]; exact ⟨by omega, e'⟩)
   have hgt := sLt_not (h2 r _ (Nat.le_refl _) hx) hn
   rcases Nat.lt_or_ge r i with h3 | h3
   ·have := sLt_trans hgt (hs r i _ d h3 hx hi)
    rw [e, sLt_irrefl] at this; cases this
   ·have : i = r := by omega
    subst this
    rw [hx] at hi; cases hi; exact hn e
def hasV (x : List Dot) (d : Dot) : Bool := rightV x && vector_isDot d && decide (d.n ≤ at_ x d.who)
theorem vector_Has_eq (x : List Dot) (d : Dot) : vector_Has x d = hasV x d := by
 unfold vector_Has hasV
 cases h : rightV x
 ·rfl
 ·have : chainV x = true := by unfold rightV at h; simp only [Bool.and_eq_true] at h; exact h.2
  rw [atB_eq _ this]
theorem vector_Has.ct {s0 : St} {v0 : Value} {x0 : List Dot} {v1 : Value} {x1 : Dot} (k0 : (kSl kDot).V s0 v0 x0) (k1 : kDot.V s0 v1 x1) : Cl Try.prog 95 #[v0, v1] s0 (Okf s0 (Fact.v kB (hasV x0 x1))) := by
 rw [← vector_Has_eq]; exact vector_Has.ok k0 k1
end
end Go.Proofs.Ytfaenhhiogcacaa.Px
