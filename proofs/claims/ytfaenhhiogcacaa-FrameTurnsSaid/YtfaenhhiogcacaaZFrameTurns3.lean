/-
  PARTS OF ONE PROOF: W9 W10 W11 W12 W13 PxJ PxQ W14 W15 W16. CONDITIONS: none of their own; each line names its own.
-/
import Derived.Test.YtfaenhhiogcacaaZFrameTurns2
import Derived.Test.YtfaenhhiogcacaaZFrameTurns1
import Derived.Test.YtfaenhhiogcacaaProg
import Derived.KernelRfl
import Derived.RangeFuncLeaves
import Derived.RangeFuncRecord
import Derived.RangeFuncSeq
set_option linter.unusedSimpArgs false
set_option linter.unusedVariables false
set_option maxRecDepth 4000
set_option maxHeartbeats 1000000
namespace Go.Proofs.Ytfaenhhiogcacaa.Px
open Go Go.RowKit
section
attribute [local irreducible] Kn.V PtrV
theorem okRune_eq (r : Int) : (((((decide (r < 97)) || (decide (122 < r))) && ((decide (r < 48)) || (decide (57 < r)))) && (!decide (r = 46)))) = !((decide (97 ≤ r) && decide (r ≤ 122)) || (decide (48 ≤ r) && decide (r ≤ 57)) || decide (r = 46)) := by
 by_cases h1 : (97 : Int) ≤ r <;> by_cases h2 : r ≤ 122 <;> by_cases h3 : (48 : Int) ≤ r <;> by_cases h4 : r ≤ 57 <;> by_cases h5 : r = 46 <;>
  simp [h1, h2, h3, h4, h5] <;> omega
theorem okByte_high {c : UInt8} (h : 128 ≤ c.toNat) : okByte c = false := by
 unfold okByte
 have h1 : ¬ (c.toNat : Int) ≤ 122 := by omega
 have h2 : ¬ (c.toNat : Int) ≤ 57 := by omega
 have h3 : ¬ (c.toNat : Int) = 46 := by omega
 simp [h1, h2, h3]
theorem all_take_succ {p : UInt8 → Bool} {x : Str} {y : Nat} {d : UInt8} (h : y < x.length) (h1 : (x.take y).all p = true) (h2 : p (x.getD y d) = true) : (x.take (y + 1)).all p = true := by
 rw [List.take_add_one, List.all_append, h1, List.getElem?_eq_getElem h]
 rw [getD_at h] at h2
 simp [h2]
theorem vector_IsName.ct {s0 : St} {v0 : Value} {x0 : Str} (k0 : kS.V s0 v0 x0) : Cl Try.prog 43 #[v0] s0 (Okf s0 (Fact.v kB (isName x0))) := by
 have hlen : x0.length ≤ maxLen := Kn.V_bd k0
 refine cl_of_wp Try.func43 rfl en_43 fun a hz hd hp => ?_
 have hz : a.tmps.size = 35 := hz
 have E := Chg.refl (fun _ => False) s0
 have h0 := V_at k0 E (hp 0 v0 rfl)
 refine wp_seq ?_
 refine wp_region ?_
 have hz0 := hz
 refine sq_blk (its := [⟨2, _, []⟩]) [] hz rfl ⟨(fun a s he hf hz => opw rfl (op_assign_v rfl (lit_b (b := false)))), trivial⟩ ?_
 intro a1 s1 he hf hz hd1
 have hd := hd1.trans hd
 have h0 := V_at h0 he (hf 0 rfl)
 have E := E.trans he
 refine wp_seq ?_
 refine wp_seq ?_
 refine wp_region ?_
 have hz0 := hz
 refine sq_blk (its := [⟨5, _, []⟩]) [0] hz rfl ⟨(fun a s he hf hz => opw rfl (op_move_v rfl (V_at h0 he (hf 0 rfl)))), trivial⟩ ?_
 intro a2 s2 he hf hz hd1 h5
 have hd := hd1.trans hd
 have h0 := V_at h0 he (hf 0 rfl)
 have E := E.trans he
 refine sq_set hz rfl rfl rfl (op_range_s rfl u_9 h5 (fun s3 he I => fun a3 h6 hf hz hd1 => ?_))
 obtain ⟨b, hb⟩ : ∃ b, b = s2.w.heap.size := ⟨_, rfl⟩
 rw [← hb] at I h6
 have lb : s0.w.heap.size ≤ b := by have := E.size; omega
 have hd := hd1.trans hd
 have h0 := V_at h0 he (hf 0 rfl)
 have E := E.trans he
 refine wp_block ?_
 refine wp_loop (k := x0.length) (fun k a s => ∃ y, y ≤ x0.length ∧ k = x0.length - y ∧ (x0.take y).all okByte = true ∧ Ext s0 s ∧ a.tmps.size = 35 ∧ a.defers = [] ∧ kS.V s (a.get 0) x0 ∧ a.get 6 = .pointer (some ⟨b, 0, none⟩) ∧ Ob s b (.stringIter ⟨x0.toArray⟩ y)) ⟨0, Nat.zero_le _, rfl, rfl, E, hz, hd, h0, h6, I⟩ ?_
 rintro k a4 s4 ⟨y, hy, rfl, hall, E, hz, hd, h0, h6, I⟩
 refine wp_seq ?_
 refine wp_region ?_
 rcases Nat.lt_or_ge y x0.length with hlt | hge
 ·refine sq_set hz rfl rfl rfl (op_next_more rfl h6 I hlt (fun s5 he I => fun a5 h7 hf hz hd1 => ?_))
  obtain ⟨r1, r2, r3⟩ := rune_at hlt
  obtain ⟨r, hr⟩ : ∃ r, r = ((Utf8.decode ⟨x0.toArray⟩ y).1 : Int) := ⟨_, rfl⟩
  rw [← hr] at h7 r3
  have hd := hd1.trans hd
  have h0 := V_at h0 he (hf 0 rfl)
  have h6 := (hf 6 rfl).trans h6
  have E := Chg.chg E he (fun b e h => absurd h (by cases e; exact Nat.not_lt.2 lb))
  have h7 : (Fact.tup [Fact.v kB true, Fact.v (kI .i64) (y : Int), Fact.v (kI .i32) r]).φ s5 (a5.get 7) := by
   rw [h7]; exact tup3 (lit_b (b := true)) (lit_i (by have := maxLen_lt; simp [inK, IntKind.min, IntKind.max, IntKind.signed, IntKind.bits]; omega)) (lit_i r3)
  have hz0 := hz
  refine sq_blk (its := [⟨8, _, []⟩]) [0] hz rfl ⟨(fun a s he hf hz => opw rfl (op_extract (f := Fact.v kB true) rfl (fact_at h7 he (hf 7 rfl)) rfl)), trivial⟩ ?_
  intro a6 s6 he hf hz hd1 h8
  have hd := hd1.trans hd
  have h0 := V_at h0 he (hf 0 rfl)
  have h6 := (hf 6 rfl).trans h6
  have h7 := fact_at h7 he (hf 7 rfl)
  have I := I.ext he
  have E := E.trans he
  refine wp_seq ?_
  refine wp_condV h8 (fun _ => ?_) (fun e => by cases e)
  refine wp_skip ?_
  refine wp_block ?_
  refine wp_seq ?_
  refine wp_region ?_
  have hz0 := hz
  refine sq_blk (its := [⟨9, _, []⟩, ⟨4, _, [0]⟩]) [1] hz rfl ⟨(fun a s he hf hz => opw rfl (op_extract (f := Fact.v (kI .i32) r) rfl (fact_at h7 he (hf 7 rfl)) rfl)), (fun a s he hf hz q0 => opw rfl (op_assign_v rfl q0)), trivial⟩ ?_
  intro a9 s9 he hf hz hd1 h4
  have hd := hd1.trans hd
  have h0 := V_at h0 he (hf 0 rfl)
  have h6 := (hf 6 rfl).trans h6
  have I := I.ext he
  have E := E.trans he
  have keep6 := h6
  have keepI := I
  refine wp_seq ?_
  refine wp_region ?_
  have hz0 := hz
  refine sq_blk (its := [⟨10, _, []⟩, ⟨11, _, [0]⟩, ⟨12, _, [1]⟩, ⟨13, _, [2]⟩, ⟨14, _, [2, 3]⟩, ⟨15, _, [2, 4]⟩, ⟨16, _, [5]⟩, ⟨17, _, [6]⟩, ⟨18, _, [6, 7]⟩, ⟨19, _, [6, 8]⟩, ⟨20, _, [9]⟩, ⟨21, _, [9, 10]⟩, ⟨22, _, [6, 9, 11]⟩, ⟨23, _, [6, 12]⟩, ⟨24, _, [13]⟩, ⟨25, _, [14]⟩, ⟨26, _, [14, 15]⟩, ⟨27, _, [14, 16]⟩]) [17] hz rfl ⟨
   (fun a s he hf hz => opw rfl (op_move_v rfl (V_at h4 he (hf 4 rfl)))),
   (fun a s he hf hz q0 => opw rfl (op_lss rfl q0 (lit_i (k := .i32) (n := 97) (by decide)))),
   mvq rfl rfl,
   (fun a s he hf hz q2 => og rfl rfl rfl hz hz0 rfl q2 (fun g => op_move_v rfl (V_at h4 he (hf 4 rfl)))),
   (fun a s he hf hz q2 q3 => og rfl rfl rfl hz hz0 rfl q2 (fun g => op_gtr rfl (q3.1 g) (lit_i (k := .i32) (n := 122) (by decide)))),
   (fun a s he hf hz q2 q4 => opw rfl (op_or_else rfl q2 (q4.1))),
   mvq rfl rfl,
   (fun a s he hf hz q6 => og rfl rfl rfl hz hz0 rfl q6 (fun g => op_move_v rfl (V_at h4 he (hf 4 rfl)))),
   (fun a s he hf hz q6 q7 => og rfl rfl rfl hz hz0 rfl q6 (fun g => op_lss rfl (q7.1 g) (lit_i (k := .i32) (n := 48) (by decide)))),
   (fun a s he hf hz q6 q8 => og rfl rfl rfl hz hz0 rfl q6 (fun g => op_move_v rfl (q8.1 g))),
   (fun a s he hf hz q9 => ogg rfl rfl rfl hz hz0 rfl q9 (fun g => op_move_v rfl (V_at h4 he (hf 4 rfl)))),
   (fun a s he hf hz q9 q10 => ogg rfl rfl rfl hz hz0 rfl q9 (fun g => op_gtr rfl (q10.1 g) (lit_i (k := .i32) (n := 57) (by decide)))),
   (fun a s he hf hz q6 q9 q11 => og rfl rfl rfl hz hz0 rfl q6 (fun g => op_or_else rfl (q9.1 g) (fun e => q11.1 ⟨g, e⟩))),
   (fun a s he hf hz q6 q12 => opw rfl (op_and_then rfl q6 (q12.1))),
   mvq rfl rfl,
   (fun a s he hf hz q14 => og rfl rfl rfl hz hz0 rfl q14 (fun g => op_move_v rfl (V_at h4 he (hf 4 rfl)))),
   (fun a s he hf hz q14 q15 => og rfl rfl rfl hz hz0 rfl q14 (fun g => op_neq rfl (q15.1 g) (lit_i (k := .i32) (n := 46) (by decide)))),
   (fun a s he hf hz q14 q16 => opw rfl (op_and_then rfl q14 (q16.1))),
   trivial⟩ ?_
  intro a51 s52 he hf hz hd1 h27
  have hd := hd1.trans hd
  have h0 := V_at h0 he (hf 0 rfl)
  have E := E.trans he
  have I6 := keepI.ext he
  have h66 := (hf 6 rfl).trans keep6
  have htest := okRune_eq r
  refine wp_condV h27 (fun hb => ?_) (fun hb => ?_)
  ·have hno : okByte (x0.getD y default) = false := by
    rw [htest] at hb
    rcases Nat.lt_or_ge (x0.getD y default).toNat 128 with hc | hc
    ·rw [r1 hc] at hr
     subst hr
     have hb : (!okByte (x0.getD y default)) = true := hb
     cases e : okByte (x0.getD y default)
     ·rfl
     ·rw [e] at hb; cases hb
    ·exact okByte_high hc
   have hres : isName x0 = false := by
    unfold isName
    have : x0.all okByte = false := by
     rw [← List.take_append_drop y x0, List.all_append, drop_at default hlt, List.all_cons, hno]; simp
    rw [this] <;> rfl
   refine wp_seq ?_
   refine wp_region ?_
   have hz0 := hz
   refine sq_blk (its := [⟨2, _, []⟩]) [0] hz rfl ⟨(fun a s he hf hz => opw rfl (op_assign_v rfl (lit_b (b := false)))), trivial⟩ ?_
   intro a20 s20 he hf hz hd1 h2
   have hd := hd1.trans hd
   have E := E.trans he
   refine wp_ret ?_
   rw [hres]
   exact ⟨hd, _, results_tmp rfl _ _ _, E, h2⟩
  ·refine wp_skip ?_
   have hyes : okByte (x0.getD y default) = true ∧ Utf8.decode ⟨x0.toArray⟩ y = ((x0.getD y default).toNat, 1) := by
    rw [htest] at hb
    rcases Nat.lt_or_ge (x0.getD y default).toNat 128 with hc | hc
    ·refine ⟨?_, r1 hc⟩
     rw [r1 hc] at hr
     subst hr
     have hb : (!okByte (x0.getD y default)) = false := hb
     cases e : okByte (x0.getD y default)
     ·rw [e] at hb; cases hb
     ·rfl
    ·exfalso
     have := r2 hc
     have hbig : (128 : Int) ≤ r := by omega
     simp at hb; omega
   rw [hyes.2] at I6
   exact ⟨x0.length - (y + 1), by omega, y + 1, hlt, rfl, all_take_succ hlt hall hyes.1, E, hz, hd, h0, h66, I6⟩
 ·have hye : y = x0.length := by omega
  subst hye
  rw [List.take_length] at hall
  refine sq_set hz rfl rfl rfl (op_next_end rfl h6 I (Nat.le_refl _) (fun a5 h7 hf hz hd1 => ?_))
  have hd := hd1.trans hd
  have h0 := V_at h0 (Chg.refl (fun _ => False) _) (hf 0 rfl)
  have h7 : (Fact.tup [Fact.v kB false]).φ s4 (a5.get 7) := by rw [h7]; exact tup1 (lit_b (b := false))
  have hz0 := hz
  refine sq_blk (its := [⟨8, _, []⟩]) [0] hz rfl ⟨(fun a s he hf hz => opw rfl (op_extract (f := Fact.v kB false) rfl (fact_at h7 he (hf 7 rfl)) rfl)), trivial⟩ ?_
  intro a9 s9 he hf hz hd1 h8
  have hd := hd1.trans hd
  have h0 := V_at h0 he (hf 0 rfl)
  have E := E.trans he
  refine wp_seq ?_
  refine wp_condV h8 (fun e => by cases e) (fun _ => ?_)
  refine wp_exit ?_
  refine then_exit ?_
  refine then_exit ?_
  refine inBlock_hit ?_
  refine wp_seq ?_
  refine wp_region ?_
  have hz0 := hz
  refine sq_blk (its := [⟨28, _, []⟩, ⟨29, _, [0]⟩, ⟨30, _, [1]⟩, ⟨31, _, [2]⟩, ⟨32, _, [2, 3]⟩, ⟨33, _, [2, 4]⟩, ⟨34, _, [2, 5]⟩, ⟨2, _, [6]⟩]) [7] hz rfl ⟨
   (fun a s he hf hz => opw rfl (op_move_v rfl (V_at h0 he (hf 0 rfl)))),
   (fun a s he hf hz q0 => opw rfl (op_sneq rfl q0 (lit_s (x := []) (by decide)))),
   mvq rfl rfl,
   (fun a s he hf hz q2 => og rfl rfl rfl hz hz0 rfl q2 (fun g => op_move_v rfl (V_at h0 he (hf 0 rfl)))),
   (fun a s he hf hz q2 q3 => og rfl rfl rfl hz hz0 rfl q2 (fun g => op_len_s rfl u_9 (q3.1 g))),
   (fun a s he hf hz q2 q4 => og rfl rfl rfl hz hz0 rfl q2 (fun g => op_leq rfl (q4.1 g) (lit_i (k := .i64) (n := 24) (by decide)))),
   (fun a s he hf hz q2 q5 => opw rfl (op_and_then rfl q2 (q5.1))),
   avq rfl rfl,
   trivial⟩ ?_
  intro a103 s104 he hf hz hd1 h2
  have hd := hd1.trans hd
  have E := E.trans he
  refine wp_ret ?_
  have hres : isName x0 = (((!decide (x0 = ([] : Str))) && (decide ((x0.length : Int) ≤ 24)))) := by
   unfold isName
   rw [hall]
   by_cases h : x0 = []
   ·subst h; rfl
   ·have hp : 0 < x0.length := List.length_pos_iff.2 h
    rw [show decide (1 ≤ x0.length) = true from decide_eq_true hp]
    simp only [h, decide_false, Bool.not_false, Bool.true_and]
    rw [decide_eq_decide]; omega
  rw [hres]
  exact ⟨hd, _, results_tmp rfl _ _ _, E, h2⟩
def internal_bytealg_CompareString (x0 : Str) (x1 : Str) : Int := (Lib.compareBytes x0 x1)
theorem internal_bytealg_CompareString.ok {s0 : St} {v0 : Value} {x0 : Str} {v1 : Value} {x1 : Str} (k0 : kS.V s0 v0 x0) (k1 : kS.V s0 v1 x1) : Cl Try.prog 146 #[v0, v1] s0 (Okf s0 (Fact.v (kI .i64) (internal_bytealg_CompareString x0 x1))) := by
 obtain ⟨r, h⟩ : ∃ r, some (internal_bytealg_CompareString x0 x1) = some r := ⟨_, rfl⟩
 rw [Option.some.inj h]
 have h : (some (Lib.compareBytes x0 x1)) = some r := by rw [← h]; unfold internal_bytealg_CompareString; first | rfl | simp only [apply_ite some] | (repeat' (first | rfl | split))
 refine cl_of_wp Try.func146 rfl en_146 fun a hz hd hp => ?_; have hz : a.tmps.size = 8 := hz; have E := Chg.refl (fun _ => False) s0; have h0 := V_at k0 E (hp 0 v0 rfl); have h1 := V_at k1 E (hp 1 v1 rfl); refine wp_sr ?_; refine sq_blk (its := [⟨4, _, []⟩]) [] hz rfl ⟨(fun a s he hf hz => av rfl rfl i0), trivial⟩ ?_; intro a1 s2 he hf hz hd1; have ⟨hd, E⟩ := hdE hd1 hd E he; obtain ⟨h0, h1⟩ := va2 he hf h0 h1 rfl; refine wp_sr ?_; refine sq_blk (its := [⟨5, _, []⟩, ⟨6, _, []⟩, ⟨7, _, [0, 1]⟩, ⟨4, _, [2]⟩]) [3] hz rfl ⟨mvs rfl rfl h0 rfl, mvs rfl rfl h1 rfl, (fun a s he hf hz q0 q1 => opw rfl (op_cmp rfl cmp_153 q0 q1)), avq rfl rfl, trivial⟩ ?_; intro a3 s4 he hf hz hd1 h4; have ⟨hd, E⟩ := hdE hd1 hd E he; refine wp_ret ?_; cases h
 exact ⟨hd, _, results_tmp rfl _ _ _, E, h4⟩
def strings_Compare (x0 : Str) (x1 : Str) : Int := (internal_bytealg_CompareString x0 x1)
theorem strings_Compare.ok {s0 : St} {v0 : Value} {x0 : Str} {v1 : Value} {x1 : Str} (k0 : kS.V s0 v0 x0) (k1 : kS.V s0 v1 x1) : Cl Try.prog 129 #[v0, v1] s0 (Okf s0 (Fact.v (kI .i64) (strings_Compare x0 x1))) := by
 obtain ⟨r, h⟩ : ∃ r, some (strings_Compare x0 x1) = some r := ⟨_, rfl⟩
 rw [Option.some.inj h]
 have h : (some (internal_bytealg_CompareString x0 x1)) = some r := by rw [← h]; unfold strings_Compare; first | rfl | simp only [apply_ite some] | (repeat' (first | rfl | split))
 refine cl_of_wp Try.func129 rfl en_129 fun a hz hd hp => ?_; have hz : a.tmps.size = 8 := hz; have E := Chg.refl (fun _ => False) s0; have h0 := V_at k0 E (hp 0 v0 rfl); have h1 := V_at k1 E (hp 1 v1 rfl); refine wp_sr ?_; refine sq_blk (its := [⟨4, _, []⟩]) [] hz rfl ⟨(fun a s he hf hz => av rfl rfl i0), trivial⟩ ?_; intro a1 s2 he hf hz hd1; have ⟨hd, E⟩ := hdE hd1 hd E he; obtain ⟨h0, h1⟩ := va2 he hf h0 h1 rfl; refine wp_sr ?_; refine sq_blk (its := [⟨5, _, []⟩, ⟨6, _, []⟩, ⟨7, _, [0, 1]⟩, ⟨4, _, [2]⟩]) [3] hz rfl ⟨mvs rfl rfl h0 rfl, mvs rfl rfl h1 rfl, (fun a s he hf hz q0 q1 => opw rfl (op_call rfl rfl (internal_bytealg_CompareString.ok q0 q1))), avq rfl rfl, trivial⟩ ?_; intro a3 s4 he hf hz hd1 h4; have ⟨hd, E⟩ := hdE hd1 hd E he; refine wp_ret ?_; cases h
 exact ⟨hd, _, results_tmp rfl _ _ _, E, h4⟩
def vector_isDot (x0 : Dot) : Bool := (((isName x0.who) && (decide (1 ≤ x0.n))) && (decide (x0.n ≤ 4611686018427387904)))
theorem vector_isDot.ok {s0 : St} {v0 : Value} {x0 : Dot} (k0 : kDot.V s0 v0 x0) : Cl Try.prog 118 #[v0] s0 (Okf s0 (Fact.v kB (vector_isDot x0))) := by
 obtain ⟨r, h⟩ : ∃ r, some (vector_isDot x0) = some r := ⟨_, rfl⟩
 rw [Option.some.inj h]
 have h : (some (((isName x0.who) && (decide (1 ≤ x0.n))) && (decide (x0.n ≤ 4611686018427387904)))) = some r := by rw [← h]; unfold vector_isDot; first | rfl | simp only [apply_ite some] | (repeat' (first | rfl | split))
 refine cl_of_wp Try.func118 rfl en_118 fun a hz hd hp => ?_; have hz : a.tmps.size = 16 := hz; have E := Chg.refl (fun _ => False) s0; have h0 := V_at k0 E (hp 0 v0 rfl); refine wp_sr ?_; refine sq_set hz rfl rfl rfl (op_boxn rfl rfl h0 (fun s2 e4 he BB3 r5 => fun a1 h1 hf hz hd1 => ?_)); obtain ⟨b10, hb10⟩ : ∃ b, b = s0.w.heap.size := ⟨_, rfl⟩; rw [← hb10] at BB3 h1; have B10 := BB3; have l10 : s0.w.heap.size ≤ b10 := by have := E.size; omega
 have ⟨hd, E⟩ := hdE hd1 hd E he; obtain ⟨u6, u7, rfl, c8, c9⟩ := kDot_open r5; refine sq_blk (its := [⟨2, _, []⟩]) [] hz rfl ⟨(fun a s he hf hz => av rfl rfl b_f), trivial⟩ ?_; intro a11 s12 he hf hz hd1; have ⟨hd, E⟩ := hdE hd1 hd E he; have h1 := (hf 1 rfl).trans h1; have B10 := B10.ext he; obtain ⟨c8, c9⟩ := vm2 he c8 c9; refine wp_sr ?_; have hz0 := hz; refine sq_blk (its := [⟨3, _, []⟩, ⟨4, _, [0]⟩, ⟨5, _, [1]⟩, ⟨6, _, [2]⟩, ⟨7, _, [3]⟩, ⟨8, _, [3, 4]⟩, ⟨9, _, [3, 5]⟩, ⟨10, _, [3, 6]⟩, ⟨11, _, [7]⟩, ⟨12, _, [8]⟩, ⟨13, _, [8, 9]⟩, ⟨14, _, [8, 10]⟩, ⟨15, _, [8, 11]⟩, ⟨2, _, [12]⟩]) [13] hz rfl ⟨(fun a s he hf hz => fb rfl rfl fa_70_0 ((hf 1 rfl).trans h1)), (fun a s he hf hz q0 => lo rfl rfl ty_9 q0 (B10.ext he) rfl (vm he c8)), (fun a s he hf hz q1 => opw rfl (op_call rfl rfl (vector_IsName.ct q1))), mvq rfl rfl, (fun a s he hf hz q3 => og rfl rfl rfl hz hz0 rfl q3 (fun g => op_faddr_b rfl fa_70_1 ((hf 1 rfl).trans h1))), (fun a s he hf hz q3 q4 => og rfl rfl rfl hz hz0 rfl q3 (fun g => op_load1 rfl ty_2 (q4.1 g) (B10.ext he) rfl (vm he c9))), (fun a s he hf hz q3 q5 => og rfl rfl rfl hz hz0 rfl q3 (fun g => op_geq rfl (q5.1 g) i1)), (fun a s he hf hz q3 q6 => an rfl rfl q3 (q6.1)), mvq rfl rfl, (fun a s he hf hz q8 => og rfl rfl rfl hz hz0 rfl q8 (fun g => op_faddr_b rfl fa_70_1 ((hf 1 rfl).trans h1))), (fun a s he hf hz q8 q9 => og rfl rfl rfl hz hz0 rfl q8 (fun g => op_load1 rfl ty_2 (q9.1 g) (B10.ext he) rfl (vm he c9))), (fun a s he hf hz q8 q10 => og rfl rfl rfl hz hz0 rfl q8 (fun g => op_leq rfl (q10.1 g) (lit_i (k := .i64) (n := 4611686018427387904) (by decide)))), (fun a s he hf hz q8 q11 => an rfl rfl q8 (q11.1)), avq rfl rfl, trivial⟩ ?_
 intro a13 s14 he hf hz hd1 h2; have ⟨hd, E⟩ := hdE hd1 hd E he; refine wp_ret ?_; cases h
 exact ⟨hd, _, results_tmp rfl _ _ _, E, h2⟩
def ref07_IsDot (x0 : Dot) : Bool := (((isName x0.who) && (decide (1 ≤ x0.n))) && (decide (x0.n ≤ 4611686018427387904)))
theorem ref07_IsDot.ok {s0 : St} {v0 : Value} {x0 : Dot} (k0 : kDot.V s0 v0 x0) : Cl Try.prog 99 #[v0] s0 (Okf s0 (Fact.v kB (ref07_IsDot x0))) := by
 obtain ⟨r, h⟩ : ∃ r, some (ref07_IsDot x0) = some r := ⟨_, rfl⟩
 rw [Option.some.inj h]
 have h : (some (((isName x0.who) && (decide (1 ≤ x0.n))) && (decide (x0.n ≤ 4611686018427387904)))) = some r := by rw [← h]; unfold ref07_IsDot; first | rfl | simp only [apply_ite some] | (repeat' (first | rfl | split))
 refine cl_of_wp Try.func99 rfl en_99 fun a hz hd hp => ?_; have hz : a.tmps.size = 18 := hz; have E := Chg.refl (fun _ => False) s0; have h0 := V_at k0 E (hp 0 v0 rfl); refine wp_sr ?_; refine sq_set hz rfl rfl rfl (op_boxn rfl rfl h0 (fun s2 e4 he BB3 r5 => fun a1 h1 hf hz hd1 => ?_)); obtain ⟨b10, hb10⟩ : ∃ b, b = s0.w.heap.size := ⟨_, rfl⟩; rw [← hb10] at BB3 h1; have B10 := BB3; have l10 : s0.w.heap.size ≤ b10 := by have := E.size; omega
 have ⟨hd, E⟩ := hdE hd1 hd E he; obtain ⟨u6, u7, rfl, c8, c9⟩ := kDot_open r5; refine sq_blk (its := [⟨2, _, []⟩]) [] hz rfl ⟨(fun a s he hf hz => av rfl rfl b_f), trivial⟩ ?_; intro a11 s12 he hf hz hd1; have ⟨hd, E⟩ := hdE hd1 hd E he; have h1 := (hf 1 rfl).trans h1; have B10 := B10.ext he; obtain ⟨c8, c9⟩ := vm2 he c8 c9; refine wp_sr ?_; refine sq_blk (its := [⟨4, _, []⟩, ⟨5, _, [0]⟩, ⟨6, _, [1]⟩, ⟨3, _, [2]⟩]) [3] hz rfl ⟨(fun a s he hf hz => fb rfl rfl fa_70_0 ((hf 1 rfl).trans h1)), (fun a s he hf hz q0 => lo rfl rfl ty_9 q0 (B10.ext he) rfl (vm he c8)), (fun a s he hf hz q1 => opw rfl (op_call rfl rfl (ref07_IsName.ct q1))), avq rfl rfl, trivial⟩ ?_; intro a13 s14 he hf hz hd1 h3; have ⟨hd, E⟩ := hdE hd1 hd E he; have h1 := (hf 1 rfl).trans h1; have B10 := B10.ext he; have c9 := vm he c9; refine wp_sr ?_; have hz0 := hz; refine sq_blk (its := [⟨7, _, []⟩, ⟨8, _, [0]⟩, ⟨9, _, [1]⟩, ⟨10, _, [1, 2]⟩, ⟨11, _, [1, 3]⟩, ⟨12, _, [1, 4]⟩, ⟨13, _, [5]⟩, ⟨14, _, [6]⟩, ⟨15, _, [6, 7]⟩, ⟨16, _, [6, 8]⟩, ⟨17, _, [6, 9]⟩, ⟨2, _, [10]⟩]) [11] hz rfl ⟨mvs rfl rfl h3 rfl, mvq rfl rfl, (fun a s he hf hz q1 => og rfl rfl rfl hz hz0 rfl q1 (fun g => op_faddr_b rfl fa_70_1 ((hf 1 rfl).trans h1))), (fun a s he hf hz q1 q2 => og rfl rfl rfl hz hz0 rfl q1 (fun g => op_load1 rfl ty_2 (q2.1 g) (B10.ext he) rfl (vm he c9))), (fun a s he hf hz q1 q3 => og rfl rfl rfl hz hz0 rfl q1 (fun g => op_geq rfl (q3.1 g) i1)), (fun a s he hf hz q1 q4 => an rfl rfl q1 (q4.1)), mvq rfl rfl, (fun a s he hf hz q6 => og rfl rfl rfl hz hz0 rfl q6 (fun g => op_faddr_b rfl fa_70_1 ((hf 1 rfl).trans h1))), (fun a s he hf hz q6 q7 => og rfl rfl rfl hz hz0 rfl q6 (fun g => op_load1 rfl ty_2 (q7.1 g) (B10.ext he) rfl (vm he c9))), (fun a s he hf hz q6 q8 => og rfl rfl rfl hz hz0 rfl q6 (fun g => op_leq rfl (q8.1 g) (lit_i (k := .i64) (n := 4611686018427387904) (by decide)))), (fun a s he hf hz q6 q9 => an rfl rfl q6 (q9.1)), avq rfl rfl, trivial⟩ ?_
 intro a15 s16 he hf hz hd1 h2; have ⟨hd, E⟩ := hdE hd1 hd E he; refine wp_ret ?_; cases h
 exact ⟨hd, _, results_tmp rfl _ _ _, E, h2⟩
theorem sLt_tri (x y : Str) : (sLt x y || decide (x = y)) = !sLt y x := by
 unfold sLt
 induction x generalizing y with
 | nil => cases y <;> simp [Op.bytesLess]
 | cons a x ih =>
  cases y with
  | nil => simp [Op.bytesLess]
  | cons b y =>
   have := ih y
   simp only [Op.bytesLess, List.cons.injEq]
   rcases Nat.lt_trichotomy a.toNat b.toNat with h | h | h
   ·have h1 : a < b := UInt8.lt_iff_toNat_lt.2 h
    have h2 : ¬ b < a := fun h' => by have := UInt8.lt_iff_toNat_lt.1 h'; omega
    have h3 : ¬ b = a := fun h' => by rw [h'] at h; omega
    simp [h1, h2, h3]
   ·have h0 : a = b := UInt8.toNat_inj.1 h
    subst h0
    have h2 : ¬ a < a := fun h' => by have := UInt8.lt_iff_toNat_lt.1 h'; omega
    simp [h2, this]
   ·have h1 : b < a := UInt8.lt_iff_toNat_lt.2 h
    have h2 : ¬ a < b := fun h' => by have := UInt8.lt_iff_toNat_lt.1 h'; omega
    have h3 : ¬ a = b := fun h' => by rw [h'] at h; omega
    have h4 : ¬ b = a := fun h' => h3 h'.symm
    simp [h1, h2, h3, h4]
def chainP (p : Str) : List Dot → Bool
 | [] => true
 | d :: l => vector_isDot d && sLt p d.who && chainP d.who l
def chainV : List Dot → Bool
 | [] => true
 | d :: l => vector_isDot d && chainP d.who l
def rightV (x : List Dot) : Bool := decide (x.length ≤ 64) && chainV x
theorem isName_ne {x : Str} (h : isName x = true) : ¬ x = [] := fun e => by subst e; simp [isName] at h
theorem chainP_nil (x : List Dot) : chainP [] x = chainV x := by
 cases x with
 | nil => rfl
 | cons d l =>
  simp only [chainP, chainV]
  cases h : vector_isDot d
  ·rfl
  ·have : isName d.who = true := by
    unfold vector_isDot at h; simp only [Bool.and_eq_true] at h; exact h.1.1
   have hn := isName_ne this
   have : sLt [] d.who = true := by
    cases e : d.who with
    | nil => exact absurd e hn
    | cons c w => rfl
   rw [this] <;> rfl
def vector_Right.l0 : Nat → (List Dot) → Str → Bool → Int → Option (Bool)
 | 0, _, _, _, _ => none
 | m12 + 1, x0, y9, y10, y11 => (if decide (y11 < (x0.length : Int)) = true then (if (0 ≤ y11 ∧ y11 < (x0.length : Int)) then (if (((!y10) || (!(vector_isDot (List.getD x0 (y11).toNat default)))) || (sLt ((List.getD x0 (y11).toNat default).who) y9 || decide (((List.getD x0 (y11).toNat default).who) = y9))) = true then (some false) else (vector_Right.l0 m12 x0 ((List.getD x0 (y11).toNat default).who) y10 (IntKind.wrap .i64 (y11 + 1)))) else none) else (some y10))
def vector_Right.f (k : Nat) (x0 : (List Dot)) : Option (Bool) := (vector_Right.l0 k x0 ([] : Str) (decide ((x0.length : Int) ≤ 64)) 0)
theorem vector_Right.ok {s0 : St} {v0 : Value} {x0 : (List Dot)} {k : Nat} {r : Bool} (k0 : (kSl kDot).V s0 v0 x0) (h : vector_Right.f k x0 = some r) : Cl Try.prog 80 #[v0] s0 (Okf s0 (Fact.v kB r)) := by
 unfold vector_Right.f at h
 refine cl_of_wp Try.func80 rfl en_80 fun a hz hd hp => ?_; have hz : a.tmps.size = 33 := hz; have E := Chg.refl (fun _ => False) s0; have h0 := V_at k0 E (hp 0 v0 rfl); refine wp_sr ?_; refine sq_blk (its := [⟨2, _, []⟩]) [] hz rfl ⟨(fun a s he hf hz => av rfl rfl b_f), trivial⟩ ?_; intro a1 s2 he hf hz hd1; have ⟨hd, E⟩ := hdE hd1 hd E he; have h0 := V_at h0 he (hf 0 rfl); refine wp_scope ?_; refine wp_sr ?_; refine sq_blk (its := [⟨7, _, []⟩, ⟨8, _, [0]⟩, ⟨9, _, [1]⟩, ⟨3, _, []⟩, ⟨4, _, [2]⟩]) [3, 4] hz rfl ⟨mvs rfl rfl h0 rfl, (fun a s he hf hz q0 => le_ rfl rfl u_32 q0), (fun a s he hf hz q1 => lq_ rfl rfl q1 (lit_i (k := .i64) (n := 64) (by decide))), (fun a s he hf hz => av rfl rfl s_0), avq rfl rfl, trivial⟩ ?_; intro a3 s4 he hf hz hd1 h3 h4; have ⟨hd, E⟩ := hdE hd1 hd E he; have h0 := V_at h0 he (hf 0 rfl); refine wp_seq ?_; refine wp_label ?_; refine wp_seq ?_; refine wp_sr ?_; refine sq_blk (its := [⟨10, _, []⟩, ⟨11, _, [0]⟩, ⟨12, _, []⟩]) [0, 1, 2] hz rfl ⟨mvs rfl rfl h0 rfl, (fun a s he hf hz q0 => le_ rfl rfl u_32 q0), (fun a s he hf hz => mv rfl rfl i0), trivial⟩ ?_
 intro a5 s6 he hf hz hd1 h10 h11 h12; have ⟨hd, E⟩ := hdE hd1 hd E he; obtain ⟨h3, h4⟩ := va2 he hf h3 h4 rfl; refine wp_block ?_; refine wp_loop (k := k) (fun m12 a s => ∃ (y9 : Str) (y10 : Bool) (y11 : Int), vector_Right.l0 m12 x0 y9 y10 y11 = some r ∧ m12 ≤ k ∧ Ext s0 s ∧ a.tmps.size = 33 ∧ a.defers = [] ∧ kS.V s (a.get 3) y9 ∧ kB.V s (a.get 4) y10 ∧ (kSl kDot).V s (a.get 10) x0 ∧ (kI .i64).V s (a.get 11) (x0.length : Int) ∧ (kI .i64).V s (a.get 12) y11) ⟨_, _, _, h, Nat.le_refl _, E, hz, hd, h3, h4, h10, h11, h12⟩ ?_; rintro m12 a8 s7 ⟨y9, y10, y11, h, hkm12, E, hz, hd, h3, h4, h10, h11, h12⟩; obtain _ | m12 := m12
 ·cases h
 refine wp_sr ?_; refine sq_blk (its := [⟨13, _, []⟩]) [0] hz rfl ⟨(fun a s he hf hz => ls rfl rfl (V_at h12 he (hf 12 rfl)) (V_at h11 he (hf 11 rfl))), trivial⟩ ?_; intro a13 s14 he hf hz hd1 h13; have ⟨hd, E⟩ := hdE hd1 hd E he; obtain ⟨h3, h4, h10, h11, h12⟩ := va5 he hf h3 h4 h10 h11 h12 rfl; refine wp_seq ?_; refine wp_condV h13 (fun hb => ?_) (fun hb => ?_)
 ·have h := ite_t hb h; refine wp_skip ?_; refine wp_seq ?_; refine wp_block ?_; refine wp_sr ?_; obtain ⟨D15, h⟩ := need h; refine sq_blk (its := [⟨14, _, []⟩, ⟨15, _, [0]⟩]) [1] hz rfl ⟨(fun a s he hf hz => ia rfl rfl sl_32 (V_at h10 he (hf 10 rfl)) (V_at h12 he (hf 12 rfl)) D15.1 D15.2), (fun a s he hf hz q0 => lp rfl rfl ty_70 (by decide) q0), trivial⟩ ?_; intro a16 s17 he hf hz hd1 h15; have ⟨hd, E⟩ := hdE hd1 hd E he; obtain ⟨h3, h4, h10, h11, h12⟩ := va5 he hf h3 h4 h10 h11 h12 rfl; refine sq_set hz rfl rfl rfl (op_alloc (cs := [.string ⟨#[]⟩, .int .i64 0]) rfl zv_70 rfl (fun s19 he BB20 => fun a18 h6 hf hz hd1 => ?_)); obtain ⟨b23, hb23⟩ : ∃ b, b = s17.w.heap.size := ⟨_, rfl⟩; rw [← hb23] at BB20 h6; have B23 := BB20; have l23 : s0.w.heap.size ≤ b23 := by have := E.size; omega
  have ⟨hd, E⟩ := hdE hd1 hd E he; obtain ⟨h3, h4, h10, h11, h12, h15⟩ := va6 he hf h3 h4 h10 h11 h12 h15 rfl; have c21 : kS.V s19 (.string ⟨#[]⟩) ([] : Str) := s_0; have c22 : (kI .i64).V s19 (.int .i64 0) 0 := i0; refine sq_do rfl rfl (op_storen rfl ty_70 rfl h6 B23 h15 rfl (fun s25 e26 he B23n r27 => ?_)); obtain ⟨h3, h4, h10, h11, h12⟩ := vm5 he h3 h4 h10 h11 h12; have E := Chg.chg E he (fun b e h => (fun e => absurd h (by cases e; exact Nat.not_lt.2 l23)) e); obtain ⟨u28, u29, rfl, c30, c31⟩ := kDot_open r27; have B23 : Bx s25 b23 70 [u28, u29] := B23n; refine wp_seq ?_; refine wp_sr ?_; have hz0 := hz; refine sq_blk (its := [⟨16, _, []⟩, ⟨17, _, [0]⟩, ⟨18, _, [1]⟩, ⟨19, _, [2]⟩, ⟨20, _, [2, 3]⟩, ⟨21, _, [2, 4]⟩, ⟨22, _, [2, 5]⟩, ⟨23, _, [6]⟩, ⟨24, _, [7]⟩, ⟨25, _, [7, 8]⟩, ⟨26, _, [7]⟩, ⟨27, _, [7, 9, 10]⟩, ⟨28, _, [7, 11]⟩]) [12] hz rfl ⟨mvs rfl rfl h4 rfl, (fun a s he hf hz q0 => no_ rfl rfl q0), mvq rfl rfl, (fun a s he hf hz q2 => og rfl rfl rfl hz hz0 rfl q2 (fun g => op_loadn rfl ty_70 rfl ((hf 6 rfl).trans h6) (B23.ext he) rfl (kDot_eta (x := (List.getD x0 (y11).toNat default)) (vm he c30) (vm he c31)))), (fun a s he hf hz q2 q3 => og rfl rfl rfl hz hz0 rfl q2 (fun g => op_call rfl rfl (vector_isDot.ok (q3.1 g)))), (fun a s he hf hz q2 q4 => og rfl rfl rfl hz hz0 rfl q2 (fun g => op_not rfl (q4.1 g))), (fun a s he hf hz q2 q5 => oe rfl rfl q2 (q5.1)), mvq rfl rfl, (fun a s he hf hz q7 => og rfl rfl rfl hz hz0 rfl q7 (fun g => op_faddr_b rfl fa_70_0 ((hf 6 rfl).trans h6))), (fun a s he hf hz q7 q8 => og rfl rfl rfl hz hz0 rfl q7 (fun g => op_load1 rfl ty_9 (q8.1 g) (B23.ext he) rfl (vm he c30))), (fun a s he hf hz q7 => og rfl rfl rfl hz hz0 rfl q7 (fun g => op_move_v rfl (V_at h3 he (hf 3 rfl)))), (fun a s he hf hz q7 q9 q10 => og rfl rfl rfl hz hz0 rfl q7 (fun g => op_sleq rfl (q9.1 g) (q10.1 g))), (fun a s he hf hz q7 q11 => oe rfl rfl q7 (q11.1)), trivial⟩ ?_
  intro a32 s33 he hf hz hd1 h28; have ⟨hd, E⟩ := hdE hd1 hd E he; obtain ⟨h4, h10, h11, h12⟩ := va4 he hf h4 h10 h11 h12 rfl; have h6 := (hf 6 rfl).trans h6; have B23 := B23.ext he; have c30 := vm he c30; refine wp_condV h28 (fun hb => ?_) (fun hb => ?_)
  ·have h := ite_t hb h; refine wp_sr ?_; refine sq_blk (its := [⟨4, _, []⟩]) [0] hz rfl ⟨(fun a s he hf hz => av rfl rfl b_f), trivial⟩ ?_; intro a34 s35 he hf hz hd1 h4; have ⟨hd, E⟩ := hdE hd1 hd E he; refine wp_exit ?_; refine then_exit ?_; refine inBlock_pass rfl ?_; refine then_exit ?_; refine then_exit ?_; refine inBlock_hit ?_; refine wp_sr ?_; refine sq_blk (its := [⟨32, _, []⟩, ⟨2, _, [0]⟩]) [1] hz rfl ⟨mvs rfl rfl h4 rfl, avq rfl rfl, trivial⟩ ?_; intro a36 s37 he hf hz hd1 h2; have ⟨hd, E⟩ := hdE hd1 hd E he; refine wp_ret ?_; cases h
   exact ⟨hd, _, results_tmp rfl _ _ _, E, h2⟩
  ·have h := ite_f hb h; refine wp_skip ?_; refine wp_region ?_; refine sq_blk (its := [⟨29, _, []⟩, ⟨30, _, [0]⟩, ⟨3, _, [1]⟩]) [2] hz rfl ⟨(fun a s he hf hz => fb rfl rfl fa_70_0 ((hf 6 rfl).trans h6)), (fun a s he hf hz q0 => lo rfl rfl ty_9 q0 (B23.ext he) rfl (vm he c30)), avq rfl rfl, trivial⟩ ?_; intro a38 s39 he hf hz hd1 h3; have ⟨hd, E⟩ := hdE hd1 hd E he; obtain ⟨h4, h10, h11, h12⟩ := va4 he hf h4 h10 h11 h12 rfl; refine wp_region ?_; refine sq_blk (its := [⟨31, _, []⟩]) [0] hz rfl ⟨(fun a s he hf hz => ad rfl rfl (V_at h12 he (hf 12 rfl)) i1), trivial⟩ ?_; intro a40 s41 he hf hz hd1 h31; have ⟨hd, E⟩ := hdE hd1 hd E he; obtain ⟨h3, h4, h10, h11⟩ := va4 he hf h3 h4 h10 h11 rfl; refine sq_blk (its := [⟨12, _, []⟩]) [0] hz rfl ⟨mvs rfl rfl h31 rfl, trivial⟩ ?_; intro a42 s43 he hf hz hd1 h12; have ⟨hd, E⟩ := hdE hd1 hd E he; obtain ⟨h3, h4, h10, h11⟩ := va4 he hf h3 h4 h10 h11 rfl; exact ⟨_, (by omega : m12 < m12 + 1), _, _, _, h, by omega, E, hz, hd, h3, h4, h10, h11, h12⟩
 ·have h := ite_f hb h; refine wp_exit ?_; refine then_exit ?_; refine then_exit ?_; refine inBlock_hit ?_; refine wp_sr ?_; refine sq_blk (its := [⟨32, _, []⟩, ⟨2, _, [0]⟩]) [1] hz rfl ⟨mvs rfl rfl h4 rfl, avq rfl rfl, trivial⟩ ?_; intro a44 s45 he hf hz hd1 h2; have ⟨hd, E⟩ := hdE hd1 hd E he; refine wp_ret ?_; cases h
  exact ⟨hd, _, results_tmp rfl _ _ _, E, h2⟩
theorem vector_Right.nice (x0 : List Dot) (b0 : (kSl kDot).bd x0) : ∃ k, vector_Right.f k x0 = some (rightV x0) := by
 have hb : x0.length ≤ maxLen := b0.1
 have hm := maxLen_lt
 have : ∀ y, y ≤ x0.length → ∀ (p : Str) (ok : Bool), ∃ k, vector_Right.l0 k x0 p ok (y : Int) = some (ok && chainP p (x0.drop y)) := by
  refine rounds x0.length (fun p ok => ⟨1, ?_⟩) fun y hy ih p ok => ?_
  ·simp only [vector_Right.l0, List.drop_length]; simp [chainP]
  ·obtain ⟨k, hk⟩ := ih (x0.getD y default).who ok
   push_cast at hk
   have hr : (0 : Int) ≤ y ∧ (y : Int) < x0.length := ⟨by omega, by omega⟩
   refine ⟨k + 1, ?_⟩
   rw [drop_at default hy]
   simp only [vector_Right.l0, Int.toNat_natCast, hr, and_self, decide_true, if_true, sLt_tri, chainP]
   rw [w64s (show y < 9223372036854775807 by omega)]
   generalize x0.getD y default = d at *
   cases ok <;> cases h1 : vector_isDot d <;> cases h2 : sLt p d.who <;> simp [hk]
 obtain ⟨k, hk⟩ := this 0 (Nat.zero_le _) [] (decide ((x0.length : Int) ≤ 64))
 refine ⟨k, ?_⟩
 unfold vector_Right.f rightV
 refine hk.trans ?_
 rw [List.drop_zero, chainP_nil]
 congr 2
 rw [decide_eq_decide]; omega
theorem vector_Right.ct {s0 : St} {v0 : Value} {x0 : (List Dot)} (k0 : (kSl kDot).V s0 v0 x0) : Cl Try.prog 80 #[v0] s0 (Okf s0 (Fact.v kB (rightV x0))) := by
 obtain ⟨k, h⟩ := vector_Right.nice x0 (Kn.V_bd k0)
 exact vector_Right.ok k0 h
def ref07_Right.l0 : Nat → (List Dot) → Int → Option (Bool)
 | 0, _, _ => none
 | m12 + 1, x0, y11 => (if decide (y11 < (x0.length : Int)) = true then (if (0 ≤ y11 ∧ y11 < (x0.length : Int)) then (if (((!(vector_isDot (List.getD x0 (y11).toNat default))) = false ∧ (decide (0 < y11)) = true) → (0 ≤ (IntKind.wrap .i64 (y11 - 1)) ∧ (IntKind.wrap .i64 (y11 - 1)) < (x0.length : Int))) then (if ((!(vector_isDot (List.getD x0 (y11).toNat default))) || ((decide (0 < y11)) && (!sLt ((List.getD x0 (IntKind.wrap .i64 (y11 - 1)).toNat default).who) ((List.getD x0 (y11).toNat default).who)))) = true then (some false) else (ref07_Right.l0 m12 x0 (IntKind.wrap .i64 (y11 + 1)))) else none) else none) else (some true))
def ref07_Right.f (k : Nat) (x0 : (List Dot)) : Option (Bool) := (if decide (64 < (x0.length : Int)) = true then (some false) else (ref07_Right.l0 k x0 0))
theorem ref07_Right.ok {s0 : St} {v0 : Value} {x0 : (List Dot)} {k : Nat} {r : Bool} (k0 : (kSl kDot).V s0 v0 x0) (h : ref07_Right.f k x0 = some r) : Cl Try.prog 82 #[v0] s0 (Okf s0 (Fact.v kB r)) := by
 unfold ref07_Right.f at h
 refine cl_of_wp Try.func82 rfl en_82 fun a hz hd hp => ?_; have hz : a.tmps.size = 39 := hz; have E := Chg.refl (fun _ => False) s0; have h0 := V_at k0 E (hp 0 v0 rfl); refine wp_sr ?_; refine sq_blk (its := [⟨2, _, []⟩]) [] hz rfl ⟨(fun a s he hf hz => av rfl rfl b_f), trivial⟩ ?_; intro a1 s2 he hf hz hd1; have ⟨hd, E⟩ := hdE hd1 hd E he; have h0 := V_at h0 he (hf 0 rfl); refine wp_seq ?_; refine wp_sr ?_; refine sq_blk (its := [⟨5, _, []⟩, ⟨6, _, [0]⟩, ⟨7, _, [1]⟩]) [2] hz rfl ⟨mvs rfl rfl h0 rfl, (fun a s he hf hz q0 => le_ rfl rfl u_32 q0), (fun a s he hf hz q1 => gt_ rfl rfl q1 (lit_i (k := .i64) (n := 64) (by decide))), trivial⟩ ?_; intro a3 s4 he hf hz hd1 h7; have ⟨hd, E⟩ := hdE hd1 hd E he; have h0 := V_at h0 he (hf 0 rfl); refine wp_condV h7 (fun hb => ?_) (fun hb => ?_)
 ·have h := ite_t hb h; refine wp_sr ?_; refine sq_blk (its := [⟨2, _, []⟩]) [0] hz rfl ⟨(fun a s he hf hz => av rfl rfl b_f), trivial⟩ ?_; intro a5 s6 he hf hz hd1 h2; have ⟨hd, E⟩ := hdE hd1 hd E he; refine wp_ret ?_; cases h
  exact ⟨hd, _, results_tmp rfl _ _ _, E, h2⟩
 ·have h := ite_f hb h; refine wp_skip ?_; refine wp_seq ?_; refine wp_sr ?_; refine sq_blk (its := [⟨3, _, []⟩]) [0] hz rfl ⟨(fun a s he hf hz => av rfl rfl i0), trivial⟩ ?_; intro a7 s8 he hf hz hd1 h3; have ⟨hd, E⟩ := hdE hd1 hd E he; have h0 := V_at h0 he (hf 0 rfl); refine wp_block ?_; refine wp_loop (k := k) (fun m12 a s => ∃ (y11 : Int), ref07_Right.l0 m12 x0 y11 = some r ∧ m12 ≤ k ∧ Ext s0 s ∧ a.tmps.size = 39 ∧ a.defers = [] ∧ (kSl kDot).V s (a.get 0) x0 ∧ (kI .i64).V s (a.get 3) y11) ⟨_, h, Nat.le_refl _, E, hz, hd, h0, h3⟩ ?_; rintro m12 a10 s9 ⟨y11, h, hkm12, E, hz, hd, h0, h3⟩; obtain _ | m12 := m12
  ·cases h
  refine wp_seq ?_; refine wp_sr ?_; refine sq_blk (its := [⟨8, _, []⟩, ⟨9, _, []⟩, ⟨10, _, [1]⟩, ⟨11, _, [0, 2]⟩]) [3] hz rfl ⟨mvs rfl rfl h3 rfl, mvs rfl rfl h0 rfl, (fun a s he hf hz q1 => le_ rfl rfl u_32 q1), (fun a s he hf hz q0 q2 => ls rfl rfl q0 q2), trivial⟩ ?_; intro a13 s14 he hf hz hd1 h11; have ⟨hd, E⟩ := hdE hd1 hd E he; obtain ⟨h0, h3⟩ := va2 he hf h0 h3 rfl; refine wp_condV h11 (fun hb => ?_) (fun hb => ?_)
  ·have h := ite_t hb h; refine wp_skip ?_; refine wp_seq ?_; refine wp_block ?_; refine wp_sr ?_; obtain ⟨D15, h⟩ := need h; refine sq_blk (its := [⟨14, _, []⟩, ⟨15, _, []⟩, ⟨16, _, [0, 1]⟩, ⟨17, _, [2]⟩, ⟨18, _, [3]⟩, ⟨4, _, [4]⟩]) [5] hz rfl ⟨mvs rfl rfl h0 rfl, mvs rfl rfl h3 rfl, (fun a s he hf hz q0 q1 => ia rfl rfl sl_32 q0 q1 D15.1 D15.2), (fun a s he hf hz q2 => lp rfl rfl ty_70 (by decide) q2), (fun a s he hf hz q3 => opw rfl (op_call rfl rfl (ref07_IsDot.ok q3))), avq rfl rfl, trivial⟩ ?_; intro a16 s17 he hf hz hd1 h4; have ⟨hd, E⟩ := hdE hd1 hd E he; obtain ⟨h0, h3⟩ := va2 he hf h0 h3 rfl; refine wp_seq ?_; obtain ⟨D18, h⟩ := need h; have hz0 := hz; refine wp_draw (its := [⟨19, _, []⟩, ⟨20, _, [0]⟩, ⟨21, _, [1]⟩, ⟨22, _, [2]⟩, ⟨23, _, [2, 3]⟩, ⟨24, _, [2, 4]⟩, ⟨25, _, [5]⟩, ⟨26, _, [5]⟩, ⟨27, _, [5, 7]⟩, ⟨28, _, [5, 6, 8]⟩, ⟨29, _, [5, 9]⟩, ⟨30, _, [5, 10]⟩, ⟨31, _, [5]⟩, ⟨32, _, [5]⟩, ⟨33, _, [5, 12, 13]⟩, ⟨34, _, [5, 14]⟩, ⟨35, _, [5, 15]⟩, ⟨36, _, [5, 11, 16]⟩, ⟨37, _, [2, 5, 17]⟩, ⟨38, _, [2, 18]⟩]) [19] mo hz (by kernel_rfl) ⟨mvs rfl rfl h4 rfl, (fun a s he hf hz q0 => no_ rfl rfl q0), mvq rfl rfl, (fun a s he hf hz q2 => og rfl rfl rfl hz hz0 rfl q2 (fun g => op_move_v rfl (V_at h3 he (hf 3 rfl)))), (fun a s he hf hz q2 q3 => og rfl rfl rfl hz hz0 rfl q2 (fun g => op_gtr rfl (q3.1 g) i0)), (fun a s he hf hz q2 q4 => og rfl rfl rfl hz hz0 rfl q2 (fun g => op_move_v rfl (q4.1 g))), (fun a s he hf hz q5 => ogg rfl rfl rfl hz hz0 rfl q5 (fun g => op_move_v rfl (V_at h0 he (hf 0 rfl)))), (fun a s he hf hz q5 => ogg rfl rfl rfl hz hz0 rfl q5 (fun g => op_move_v rfl (V_at h3 he (hf 3 rfl)))), (fun a s he hf hz q5 q7 => ogg rfl rfl rfl hz hz0 rfl q5 (fun g => op_sub rfl (q7.1 g) i1)), (fun a s he hf hz q5 q6 q8 => ogg rfl rfl rfl hz hz0 rfl q5 (fun g => op_iaddr rfl sl_32 (q6.1 g) (q8.1 g) (D18 g).1 (D18 g).2)), (fun a s he hf hz q5 q9 => ogg rfl rfl rfl hz hz0 rfl q5 (fun g => op_faddr_p rfl fa_70_0 kDot_s0 (q9.1 g))), (fun a s he hf hz q5 q10 => ogg rfl rfl rfl hz hz0 rfl q5 (fun g => op_load_p rfl ty_9 (by decide) (q10.1 g))), (fun a s he hf hz q5 => ogg rfl rfl rfl hz hz0 rfl q5 (fun g => op_move_v rfl (V_at h0 he (hf 0 rfl)))), (fun a s he hf hz q5 => ogg rfl rfl rfl hz hz0 rfl q5 (fun g => op_move_v rfl (V_at h3 he (hf 3 rfl)))), (fun a s he hf hz q5 q12 q13 => ogg rfl rfl rfl hz hz0 rfl q5 (fun g => op_iaddr rfl sl_32 (q12.1 g) (q13.1 g) D15.1 D15.2)), (fun a s he hf hz q5 q14 => ogg rfl rfl rfl hz hz0 rfl q5 (fun g => op_faddr_p rfl fa_70_0 kDot_s0 (q14.1 g))), (fun a s he hf hz q5 q15 => ogg rfl rfl rfl hz hz0 rfl q5 (fun g => op_load_p rfl ty_9 (by decide) (q15.1 g))), (fun a s he hf hz q5 q11 q16 => ogg rfl rfl rfl hz hz0 rfl q5 (fun g => op_sgeq rfl (q11.1 g) (q16.1 g))), (fun a s he hf hz q2 q5 q17 => og rfl rfl rfl hz hz0 rfl q2 (fun g => op_and_then rfl (q5.1 g) (fun e => q17.1 ⟨g, e⟩))), (fun a s he hf hz q2 q18 => oe rfl rfl q2 (q18.1)), trivial⟩ ?_
   intro a19 s20 he hf hz hd1 h38; have ⟨hd, E⟩ := hdE hd1 hd E he; obtain ⟨h0, h3⟩ := va2 he hf h0 h3 rfl; refine wp_condV h38 (fun hb => ?_) (fun hb => ?_)
   ·have h := ite_t hb h; refine wp_sr ?_; refine sq_blk (its := [⟨2, _, []⟩]) [0] hz rfl ⟨(fun a s he hf hz => av rfl rfl b_f), trivial⟩ ?_; intro a21 s22 he hf hz hd1 h2; have ⟨hd, E⟩ := hdE hd1 hd E he; refine wp_ret ?_; cases h
    exact ⟨hd, _, results_tmp rfl _ _ _, E, h2⟩
   ·have h := ite_f hb h; refine wp_skip ?_; refine wp_region ?_; refine sq_blk (its := [⟨12, _, []⟩, ⟨13, _, [0]⟩]) [1] hz rfl ⟨mvs rfl rfl h3 rfl, (fun a s he hf hz q0 => ad rfl rfl q0 i1), trivial⟩ ?_; intro a23 s24 he hf hz hd1 h13; have ⟨hd, E⟩ := hdE hd1 hd E he; have h0 := V_at h0 he (hf 0 rfl); refine sq_blk (its := [⟨3, _, []⟩]) [0] hz rfl ⟨avs rfl rfl h13 rfl, trivial⟩ ?_; intro a25 s26 he hf hz hd1 h3; have ⟨hd, E⟩ := hdE hd1 hd E he; have h0 := V_at h0 he (hf 0 rfl); exact ⟨_, (by omega : m12 < m12 + 1), _, h, by omega, E, hz, hd, h0, h3⟩
  ·have h := ite_f hb h; refine wp_exit ?_; refine then_exit ?_; refine then_exit ?_; refine inBlock_hit ?_; refine wp_sr ?_; refine sq_blk (its := [⟨2, _, []⟩]) [0] hz rfl ⟨(fun a s he hf hz => av rfl rfl b_t), trivial⟩ ?_; intro a27 s28 he hf hz hd1 h2; have ⟨hd, E⟩ := hdE hd1 hd E he; refine wp_ret ?_; cases h
   exact ⟨hd, _, results_tmp rfl _ _ _, E, h2⟩
theorem ref07_Right.nice (x0 : List Dot) (b0 : (kSl kDot).bd x0) : ∃ k, ref07_Right.f k x0 = some (rightV x0) := by
 have hb : x0.length ≤ maxLen := b0.1
 have hm := maxLen_lt
 unfold ref07_Right.f rightV
 by_cases h64 : x0.length ≤ 64
 ·have h64' : ¬ (64 : Int) < x0.length := by omega
  have : ∀ y, y ≤ x0.length → ∃ k, ref07_Right.l0 k x0 (y : Int) = some (if y = 0 then chainV x0 else chainP (x0.getD (y - 1) default).who (x0.drop y)) := by
   refine rounds x0.length ⟨1, ?_⟩ fun y hy ⟨k, hk⟩ => ?_
   ·simp only [ref07_Right.l0, List.drop_length]
    by_cases h : x0.length = 0
    ·rw [if_pos h, List.length_eq_zero_iff.1 h]; simp [chainV]
    ·rw [if_neg h]; simp [chainP]
   ·rw [if_neg (by omega), Nat.add_sub_cancel] at hk
    push_cast at hk
    have hr : (0 : Int) ≤ y ∧ (y : Int) < x0.length := ⟨by omega, by omega⟩
    refine ⟨k + 1, ?_⟩
    by_cases h0 : y = 0
    ·subst h0
     rw [if_pos rfl]
     have hd := drop_at (xs := x0) (y := 0) default hy
     rw [List.drop_zero] at hd
     simp only [ref07_Right.l0, Int.toNat_natCast, hr, and_self, decide_true, if_true]
     rw [if_pos (by intro h; simp at h)]
     conv => rhs; rw [hd]
     simp only [chainV]
     rw [w64s (show 0 < 9223372036854775807 by omega)]
     have hz : decide ((0 : Int) < ((0 : Nat) : Int)) = false := by decide
     by_cases h1 : vector_isDot (x0.getD 0 default) = true
     ·rw [if_neg (by rw [h1, hz]; simp)]
      refine hk.trans ?_
      rw [h1] <;> rfl
     ·rw [Bool.not_eq_true] at h1; rw [if_pos (by rw [h1]; rfl), h1] <;> rfl
    ·rw [if_neg h0, drop_at default hy]
     have e1 : IntKind.wrap .i64 ((y : Int) - 1) = ((y - 1 : Nat) : Int) := by rw [w64 (by omega) (by omega)]; omega
     have h0' : (0 : Int) < y := by omega
     simp only [ref07_Right.l0, Int.toNat_natCast, hr, and_self, decide_true, if_true, e1, h0', chainP]
     rw [if_pos (fun _ => ⟨by omega, by omega⟩), w64s (show y < 9223372036854775807 by omega)]
     generalize x0.getD y default = d at *
     cases h1 : vector_isDot d <;> cases h2 : sLt (x0.getD (y - 1) default).who d.who <;> simp [hk]
  obtain ⟨k, hk⟩ := this 0 (Nat.zero_le _)
  refine ⟨k, ?_⟩
  rw [if_pos rfl] at hk
  simp only [h64', decide_false, Bool.false_eq_true, if_false, h64, decide_true, Bool.true_and]
  exact hk
 ·have h64' : (64 : Int) < x0.length := by omega
  exact ⟨0, by simp [h64', h64]⟩
theorem ref07_Right.ct {s0 : St} {v0 : Value} {x0 : (List Dot)} (k0 : (kSl kDot).V s0 v0 x0) : Cl Try.prog 82 #[v0] s0 (Okf s0 (Fact.v kB (rightV x0))) := by
 obtain ⟨k, h⟩ := ref07_Right.nice x0 (Kn.V_bd k0)
 exact ref07_Right.ok k0 h
end
section
attribute [local irreducible] Kn.V PtrV
def vector_find_1 (x0 : Dot) (x1 : Str) : Int := (strings_Compare x0.who x1)
theorem vector_find_1.ok {s0 : St} {v0 : Value} {x0 : Dot} {v1 : Value} {x1 : Str} (k0 : kDot.V s0 v0 x0) (k1 : kS.V s0 v1 x1) : Cl Try.prog 152 #[v0, v1] s0 (Okf s0 (Fact.v (kI .i64) (vector_find_1 x0 x1))) := by
 obtain ⟨r, h⟩ : ∃ r, some (vector_find_1 x0 x1) = some r := ⟨_, rfl⟩
 rw [Option.some.inj h]
 have h : (some (strings_Compare x0.who x1)) = some r := by rw [← h]; unfold vector_find_1; first | rfl | simp only [apply_ite some] | (repeat' (first | rfl | split))
 refine cl_of_wp Try.func152 rfl en_152 fun a hz hd hp => ?_; have hz : a.tmps.size = 9 := hz; have E := Chg.refl (fun _ => False) s0; have h0 := V_at k0 E (hp 0 v0 rfl); have h1 := V_at k1 E (hp 1 v1 rfl); refine wp_sr ?_; refine sq_set hz rfl rfl rfl (op_boxn rfl rfl h0 (fun s2 e4 he BB3 r5 => fun a1 h2 hf hz hd1 => ?_)); obtain ⟨b10, hb10⟩ : ∃ b, b = s0.w.heap.size := ⟨_, rfl⟩; rw [← hb10] at BB3 h2; have B10 := BB3; have l10 : s0.w.heap.size ≤ b10 := by have := E.size; omega
 have ⟨hd, E⟩ := hdE hd1 hd E he; have h1 := V_at h1 he (hf 1 rfl); obtain ⟨u6, u7, rfl, c8, c9⟩ := kDot_open r5; refine sq_blk (its := [⟨4, _, []⟩]) [] hz rfl ⟨(fun a s he hf hz => av rfl rfl i0), trivial⟩ ?_; intro a11 s12 he hf hz hd1; have ⟨hd, E⟩ := hdE hd1 hd E he; have h1 := V_at h1 he (hf 1 rfl); have h2 := (hf 2 rfl).trans h2; have B10 := B10.ext he; have c8 := vm he c8; refine wp_sr ?_; refine sq_blk (its := [⟨5, _, []⟩, ⟨6, _, [0]⟩, ⟨7, _, []⟩, ⟨8, _, [1, 2]⟩, ⟨4, _, [3]⟩]) [4] hz rfl ⟨(fun a s he hf hz => fb rfl rfl fa_70_0 ((hf 2 rfl).trans h2)), (fun a s he hf hz q0 => lo rfl rfl ty_9 q0 (B10.ext he) rfl (vm he c8)), mvs rfl rfl h1 rfl, (fun a s he hf hz q1 q2 => opw rfl (op_call rfl rfl (strings_Compare.ok q1 q2))), avq rfl rfl, trivial⟩ ?_; intro a13 s14 he hf hz hd1 h4; have ⟨hd, E⟩ := hdE hd1 hd E he; refine wp_ret ?_; cases h
 exact ⟨hd, _, results_tmp rfl _ _ _, E, h4⟩
def slices_BinarySearchFunc_api_Dot_api_Dot_string.l0 : Nat → (List Dot) → Str → (Dot → Str → Int) → Int → Int → Option (Int × Bool)
 | 0, _, _, _, _, _ => none
 | m11 + 1, x0, x1, φ2, y9, y10 => (if decide (y9 < y10) = true then (if (0 ≤ (IntKind.wrap .i64 (sShr .u64 (IntKind.wrap .u64 (IntKind.wrap .i64 (y9 + y10))) 1)) ∧ (IntKind.wrap .i64 (sShr .u64 (IntKind.wrap .u64 (IntKind.wrap .i64 (y9 + y10))) 1)) < (x0.length : Int)) then (if decide ((φ2 (List.getD x0 (IntKind.wrap .i64 (sShr .u64 (IntKind.wrap .u64 (IntKind.wrap .i64 (y9 + y10))) 1)).toNat default) x1) < 0) = true then (slices_BinarySearchFunc_api_Dot_api_Dot_string.l0 m11 x0 x1 φ2 (IntKind.wrap .i64 ((IntKind.wrap .i64 (sShr .u64 (IntKind.wrap .u64 (IntKind.wrap .i64 (y9 + y10))) 1)) + 1)) y10) else (slices_BinarySearchFunc_api_Dot_api_Dot_string.l0 m11 x0 x1 φ2 y9 (IntKind.wrap .i64 (sShr .u64 (IntKind.wrap .u64 (IntKind.wrap .i64 (y9 + y10))) 1)))) else none) else (if ((decide (y9 < (x0.length : Int))) = true → (0 ≤ y9 ∧ y9 < (x0.length : Int))) then (some (y9, ((decide (y9 < (x0.length : Int))) && (decide ((φ2 (List.getD x0 (y9).toNat default) x1) = 0))))) else none))
def slices_BinarySearchFunc_api_Dot_api_Dot_string.f (k : Nat) (x0 : (List Dot)) (x1 : Str) (φ2 : Dot → Str → Int) : Option (Int × Bool) := (slices_BinarySearchFunc_api_Dot_api_Dot_string.l0 k x0 x1 φ2 0 (x0.length : Int))
theorem slices_BinarySearchFunc_api_Dot_api_Dot_string.ok {s0 : St} {v0 : Value} {x0 : (List Dot)} {v1 : Value} {x1 : Str} {v2 : Value} {g2 : FuncId} {caps2 : List Value} {φ2 : Dot → Str → Int} {k : Nat} {r : Int × Bool} (k0 : (kSl kDot).V s0 v0 x0) (k1 : kS.V s0 v1 x1) (e2 : v2 = .func (.func g2) #[] caps2.toArray) (F2 : ∀ {s : St} {w0 : Value} {y0 : Dot} {w1 : Value} {y1 : Str}, Ext s0 s → kDot.V s w0 y0 → kS.V s w1 y1 → Cl Try.prog g2 ([w0, w1] ++ caps2).toArray s (Okf s (Fact.v (kI .i64) (φ2 y0 y1)))) (h : slices_BinarySearchFunc_api_Dot_api_Dot_string.f k x0 x1 φ2 = some r) : Cl Try.prog 151 #[v0, v1, v2] s0 (Okf s0 (Fact.tup [Fact.v (kI .i64) r.1, Fact.v kB r.2])) := by
 unfold slices_BinarySearchFunc_api_Dot_api_Dot_string.f at h
 refine cl_of_wp Try.func151 rfl en_151 fun a hz hd hp => ?_; have hz : a.tmps.size = 49 := hz; have E := Chg.refl (fun _ => False) s0; have h0 := V_at k0 E (hp 0 v0 rfl); have h1 := V_at k1 E (hp 1 v1 rfl); have h2 := (hp 2 v2 rfl).trans e2; refine wp_sr ?_; refine sq_blk (its := [⟨6, _, []⟩, ⟨7, _, []⟩]) [] hz rfl ⟨(fun a s he hf hz => av rfl rfl i0), (fun a s he hf hz => av rfl rfl b_f), trivial⟩ ?_; intro a1 s2 he hf hz hd1; have ⟨hd, E⟩ := hdE hd1 hd E he; obtain ⟨h0, h1⟩ := va2 he hf h0 h1 rfl; have h2 := (hf 2 rfl).trans h2; refine wp_sr ?_; refine sq_blk (its := [⟨12, _, []⟩, ⟨13, _, [0]⟩, ⟨8, _, [1]⟩]) [2] hz rfl ⟨mvs rfl rfl h0 rfl, (fun a s he hf hz q0 => le_ rfl rfl u_32 q0), avq rfl rfl, trivial⟩ ?_; intro a3 s4 he hf hz hd1 h8; have ⟨hd, E⟩ := hdE hd1 hd E he; obtain ⟨h0, h1⟩ := va2 he hf h0 h1 rfl; have h2 := (hf 2 rfl).trans h2; refine wp_sr ?_; refine sq_blk (its := [⟨14, _, []⟩, ⟨9, _, []⟩, ⟨10, _, [0]⟩]) [1, 2] hz rfl ⟨mvs rfl rfl h8 rfl, (fun a s he hf hz => av rfl rfl i0), avq rfl rfl, trivial⟩ ?_
 intro a5 s6 he hf hz hd1 h9 h10; have ⟨hd, E⟩ := hdE hd1 hd E he; obtain ⟨h0, h1, h8⟩ := va3 he hf h0 h1 h8 rfl; have h2 := (hf 2 rfl).trans h2; refine wp_seq ?_; refine wp_block ?_; refine wp_loop (k := k) (fun m11 a s => ∃ (y9 : Int) (y10 : Int), slices_BinarySearchFunc_api_Dot_api_Dot_string.l0 m11 x0 x1 φ2 y9 y10 = some r ∧ m11 ≤ k ∧ Ext s0 s ∧ a.tmps.size = 49 ∧ a.defers = [] ∧ (kSl kDot).V s (a.get 0) x0 ∧ kS.V s (a.get 1) x1 ∧ a.get 2 = .func (.func g2) #[] caps2.toArray ∧ (kI .i64).V s (a.get 8) (x0.length : Int) ∧ (kI .i64).V s (a.get 9) y9 ∧ (kI .i64).V s (a.get 10) y10) ⟨_, _, h, Nat.le_refl _, E, hz, hd, h0, h1, h2, h8, h9, h10⟩ ?_; rintro m11 a8 s7 ⟨y9, y10, h, hkm11, E, hz, hd, h0, h1, h2, h8, h9, h10⟩; obtain _ | m11 := m11
 ·cases h
 refine wp_seq ?_; refine wp_sr ?_; refine sq_blk (its := [⟨15, _, []⟩, ⟨16, _, []⟩, ⟨17, _, [0, 1]⟩]) [2] hz rfl ⟨mvs rfl rfl h9 rfl, mvs rfl rfl h10 rfl, (fun a s he hf hz q0 q1 => ls rfl rfl q0 q1), trivial⟩ ?_; intro a12 s13 he hf hz hd1 h17; have ⟨hd, E⟩ := hdE hd1 hd E he; obtain ⟨h0, h1, h8, h9, h10⟩ := va5 he hf h0 h1 h8 h9 h10 rfl; have h2 := (hf 2 rfl).trans h2; refine wp_condV h17 (fun hb => ?_) (fun hb => ?_)
 ·have h := ite_t hb h; refine wp_skip ?_; refine wp_block ?_; refine wp_sr ?_; refine sq_blk (its := [⟨18, _, []⟩, ⟨19, _, []⟩, ⟨20, _, [0, 1]⟩, ⟨21, _, [2]⟩, ⟨22, _, [3]⟩, ⟨23, _, [4]⟩, ⟨11, _, [5]⟩]) [6] hz rfl ⟨mvs rfl rfl h9 rfl, mvs rfl rfl h10 rfl, (fun a s he hf hz q0 q1 => ad rfl rfl q0 q1), (fun a s he hf hz q2 => cv rfl rfl u_3 u_143 q2), (fun a s he hf hz q3 => opw rfl (op_shr rfl q3 (lit_i (k := .u64) (n := 1) (by decide)) (by decide))), (fun a s he hf hz q4 => cv rfl rfl u_143 u_3 q4), avq rfl rfl, trivial⟩ ?_; intro a14 s15 he hf hz hd1 h11; have ⟨hd, E⟩ := hdE hd1 hd E he; obtain ⟨h0, h1, h8, h9, h10⟩ := va5 he hf h0 h1 h8 h9 h10 rfl; have h2 := (hf 2 rfl).trans h2; refine wp_sr ?_; obtain ⟨D16, h⟩ := need h; refine sq_blk (its := [⟨24, _, []⟩, ⟨25, _, []⟩, ⟨26, _, []⟩, ⟨27, _, [1, 2]⟩, ⟨28, _, [3]⟩, ⟨29, _, []⟩, ⟨30, _, [0, 4, 5]⟩, ⟨31, _, [6]⟩]) [7] hz rfl ⟨mes rfl rfl h2 rfl, mvs rfl rfl h0 rfl, mvs rfl rfl h11 rfl, (fun a s he hf hz q1 q2 => ia rfl rfl sl_32 q1 q2 D16.1 D16.2), (fun a s he hf hz q3 => lp rfl rfl ty_70 (by decide) q3), mvs rfl rfl h1 rfl, (fun a s he hf hz q0 q4 q5 => opw rfl (op_callv rfl q0 rfl (F2 (E.trans he) q4 q5))), (fun a s he hf hz q6 => ls rfl rfl q6 i0), trivial⟩ ?_
  intro a17 s18 he hf hz hd1 h31; have ⟨hd, E⟩ := hdE hd1 hd E he; obtain ⟨h0, h1, h8, h9, h10, h11⟩ := va6 he hf h0 h1 h8 h9 h10 h11 rfl; have h2 := (hf 2 rfl).trans h2; refine wp_condV h31 (fun hb => ?_) (fun hb => ?_)
  ·have h := ite_t hb h; refine wp_region ?_; refine sq_blk (its := [⟨32, _, []⟩, ⟨33, _, [0]⟩, ⟨9, _, [1]⟩]) [2] hz rfl ⟨mvs rfl rfl h11 rfl, (fun a s he hf hz q0 => ad rfl rfl q0 i1), avq rfl rfl, trivial⟩ ?_; intro a19 s20 he hf hz hd1 h9; have ⟨hd, E⟩ := hdE hd1 hd E he; obtain ⟨h0, h1, h8, h10⟩ := va4 he hf h0 h1 h8 h10 rfl; have h2 := (hf 2 rfl).trans h2; exact ⟨_, (by omega : m11 < m11 + 1), _, _, h, by omega, E, hz, hd, h0, h1, h2, h8, h9, h10⟩
  ·have h := ite_f hb h; refine wp_region ?_; refine sq_blk (its := [⟨34, _, []⟩, ⟨10, _, [0]⟩]) [1] hz rfl ⟨mvs rfl rfl h11 rfl, avq rfl rfl, trivial⟩ ?_; intro a21 s22 he hf hz hd1 h10; have ⟨hd, E⟩ := hdE hd1 hd E he; obtain ⟨h0, h1, h8, h9⟩ := va4 he hf h0 h1 h8 h9 rfl; have h2 := (hf 2 rfl).trans h2; exact ⟨_, (by omega : m11 < m11 + 1), _, _, h, by omega, E, hz, hd, h0, h1, h2, h8, h9, h10⟩
 ·have h := ite_f hb h; refine wp_exit ?_; refine then_exit ?_; refine then_exit ?_; refine inBlock_hit ?_; refine wp_sr ?_; obtain ⟨D23, h⟩ := need h; have hz0 := hz; refine sq_blk (its := [⟨35, _, []⟩, ⟨36, _, []⟩, ⟨37, _, []⟩, ⟨38, _, [1, 2]⟩, ⟨39, _, [3]⟩, ⟨40, _, [4]⟩, ⟨41, _, [4]⟩, ⟨42, _, [4]⟩, ⟨43, _, [4, 6, 7]⟩, ⟨44, _, [4, 8]⟩, ⟨45, _, [4]⟩, ⟨46, _, [4, 5, 9, 10]⟩, ⟨47, _, [4, 11]⟩, ⟨48, _, [4, 12]⟩, ⟨6, _, [0]⟩, ⟨7, _, [13]⟩]) [14, 15] hz rfl ⟨mvs rfl rfl h9 rfl, mvs rfl rfl h9 rfl, mvs rfl rfl h8 rfl, (fun a s he hf hz q1 q2 => ls rfl rfl q1 q2), mvq rfl rfl, (fun a s he hf hz q4 => og rfl rfl rfl hz hz0 rfl q4 (fun g => op_move_e rfl ((hf 2 rfl).trans h2))), (fun a s he hf hz q4 => og rfl rfl rfl hz hz0 rfl q4 (fun g => op_move_v rfl (V_at h0 he (hf 0 rfl)))), (fun a s he hf hz q4 => og rfl rfl rfl hz hz0 rfl q4 (fun g => op_move_v rfl (V_at h9 he (hf 9 rfl)))), (fun a s he hf hz q4 q6 q7 => og rfl rfl rfl hz hz0 rfl q4 (fun g => op_iaddr rfl sl_32 (q6.1 g) (q7.1 g) (D23 g).1 (D23 g).2)), (fun a s he hf hz q4 q8 => og rfl rfl rfl hz hz0 rfl q4 (fun g => op_load_p rfl ty_70 (by decide) (q8.1 g))), (fun a s he hf hz q4 => og rfl rfl rfl hz hz0 rfl q4 (fun g => op_move_v rfl (V_at h1 he (hf 1 rfl)))), (fun a s he hf hz q4 q5 q9 q10 => og rfl rfl rfl hz hz0 rfl q4 (fun g => op_callv rfl (q5.1 g) rfl (F2 (E.trans he) (q9.1 g) (q10.1 g)))), (fun a s he hf hz q4 q11 => og rfl rfl rfl hz hz0 rfl q4 (fun g => op_eql rfl (q11.1 g) i0)), (fun a s he hf hz q4 q12 => an rfl rfl q4 (q12.1)), avq rfl rfl, avq rfl rfl, trivial⟩ ?_
  intro a24 s25 he hf hz hd1 h6 h7; have ⟨hd, E⟩ := hdE hd1 hd E he; refine wp_ret ?_; cases h
  exact ⟨hd, _, results_tmp2 rfl _ _ _, E, tup2 h6 h7⟩
def bsGo (c : Dot → Int) (x : List Dot) : Nat → Nat → Nat → Nat
 | 0, lo, _ => lo
 | f + 1, lo, hi => if lo < hi then if c (x.getD ((lo + hi) / 2) default) < 0 then bsGo c x f ((lo + hi) / 2 + 1) hi else bsGo c x f lo ((lo + hi) / 2) else lo
def bsD (x : List Dot) (w : Str) (φ : Dot → Str → Int) : Int × Bool :=
 (((bsGo (fun d => φ d w) x x.length 0 x.length : Nat) : Int), decide (((bsGo (fun d => φ d w) x x.length 0 x.length : Nat) : Int) < (x.length : Int)) && decide (φ (x.getD (bsGo (fun d => φ d w) x x.length 0 x.length) default) w = 0))
theorem half_eq {a b : Nat} (ha : a < 9223372036854775808) (hb : b < 9223372036854775808) : IntKind.wrap .i64 (sShr .u64 (IntKind.wrap .u64 (IntKind.wrap .i64 ((a : Int) + (b : Int)))) 1) = (((a + b) / 2 : Nat) : Int) := by
 have e1 : IntKind.wrap .u64 (IntKind.wrap .i64 ((a : Int) + (b : Int))) = ((a + b : Nat) : Int) := by
  simp [IntKind.wrap, IntKind.signed, IntKind.bits]; omega
 have e2 : sShr .u64 ((a + b : Nat) : Int) 1 = (((a + b) / 2 : Nat) : Int) := s64 1 (by omega)
 rw [e1, e2, w64 (by omega) (by omega)]
theorem slices_BinarySearchFunc_api_Dot_api_Dot_string.nice (x0 : List Dot) (x1 : Str) (φ2 : Dot → Str → Int) (b0 : (kSl kDot).bd x0) (b1 : kS.bd x1) : ∃ k, slices_BinarySearchFunc_api_Dot_api_Dot_string.f k x0 x1 φ2 = some (bsD x0 x1 φ2) := by
 have hb : x0.length ≤ maxLen := b0.1
 have hm := maxLen_lt
 have go : ∀ f lo hi : Nat, hi - lo ≤ f → lo ≤ hi → hi ≤ x0.length → ∃ k, slices_BinarySearchFunc_api_Dot_api_Dot_string.l0 k x0 x1 φ2 (lo : Int) (hi : Int) =
   some (((bsGo (fun d => φ2 d x1) x0 f lo hi : Nat) : Int), decide (((bsGo (fun d => φ2 d x1) x0 f lo hi : Nat) : Int) < (x0.length : Int)) && decide (φ2 (x0.getD (bsGo (fun d => φ2 d x1) x0 f lo hi) default) x1 = 0)) := by
  intro f
  induction f with
  | zero =>
   intro lo hi h1 h2 h3
   have : lo = hi := by omega
   subst this
   refine ⟨1, ?_⟩
   simp only [slices_BinarySearchFunc_api_Dot_api_Dot_string.l0, Int.lt_irrefl, decide_false, Bool.false_eq_true, if_false, bsGo, Int.toNat_natCast]
   exact if_pos (fun h => ⟨by omega, by simpa using h⟩)
  | succ f ih =>
   intro lo hi h1 h2 h3
   by_cases hlt : lo < hi
   ·have hlt' : (lo : Int) < (hi : Int) := by omega
    have hr : (0 : Int) ≤ (((lo + hi) / 2 : Nat) : Int) ∧ (((lo + hi) / 2 : Nat) : Int) < (x0.length : Int) := ⟨by omega, by omega⟩
    have e1 : IntKind.wrap .i64 ((((lo + hi) / 2 : Nat) : Int) + 1) = (((lo + hi) / 2 + 1 : Nat) : Int) := by rw [w64 (by omega) (by omega)]; omega
    by_cases hc : φ2 (x0.getD ((lo + hi) / 2) default) x1 < 0
    ·obtain ⟨k, hk⟩ := ih ((lo + hi) / 2 + 1) hi (by omega) (by omega) h3
     refine ⟨k + 1, ?_⟩
     simp only [slices_BinarySearchFunc_api_Dot_api_Dot_string.l0, hlt', decide_true, if_true, half_eq (show lo < 9223372036854775808 by omega) (show hi < 9223372036854775808 by omega), hr, and_self, Int.toNat_natCast, hc, e1, bsGo, hlt]
     exact hk
    ·obtain ⟨k, hk⟩ := ih lo ((lo + hi) / 2) (by omega) (by omega) (by omega)
     refine ⟨k + 1, ?_⟩
     simp only [slices_BinarySearchFunc_api_Dot_api_Dot_string.l0, hlt', decide_true, if_true, half_eq (show lo < 9223372036854775808 by omega) (show hi < 9223372036854775808 by omega), hr, and_self, Int.toNat_natCast, hc, decide_false, Bool.false_eq_true, if_false, bsGo, hlt]
     exact hk
   ·have : lo = hi := by omega
    subst this
    refine ⟨1, ?_⟩
    simp only [slices_BinarySearchFunc_api_Dot_api_Dot_string.l0, Int.lt_irrefl, decide_false, Bool.false_eq_true, if_false, bsGo, Nat.lt_irrefl, Int.toNat_natCast]
    rw [if_pos (fun h => ⟨by omega, by simpa using h⟩)]
 obtain ⟨k, hk⟩ := go x0.length 0 x0.length (by omega) (by omega) (Nat.le_refl _)
 exact ⟨k, by unfold slices_BinarySearchFunc_api_Dot_api_Dot_string.f; exact hk⟩
theorem slices_BinarySearchFunc_api_Dot_api_Dot_string.ct {s0 : St} {v0 : Value} {x0 : (List Dot)} {v1 : Value} {x1 : Str} {v2 : Value} {g2 : FuncId} {caps2 : List Value} {φ2 : Dot → Str → Int} (k0 : (kSl kDot).V s0 v0 x0) (k1 : kS.V s0 v1 x1) (e2 : v2 = .func (.func g2) #[] caps2.toArray) (F2 : ∀ {s : St} {w0 : Value} {y0 : Dot} {w1 : Value} {y1 : Str}, Ext s0 s → kDot.V s w0 y0 → kS.V s w1 y1 → Cl Try.prog g2 ([w0, w1] ++ caps2).toArray s (Okf s (Fact.v (kI .i64) (φ2 y0 y1)))) : Cl Try.prog 151 #[v0, v1, v2] s0 (Okf s0 (Fact.tup [Fact.v (kI .i64) ((bsD x0 x1 φ2).1), Fact.v kB ((bsD x0 x1 φ2).2)])) := by
 obtain ⟨k, h⟩ := slices_BinarySearchFunc_api_Dot_api_Dot_string.nice x0 x1 φ2 (Kn.V_bd k0) (Kn.V_bd k1)
 exact slices_BinarySearchFunc_api_Dot_api_Dot_string.ok k0 k1 e2 F2 h
def vector_find (x0 : (List Dot)) (x1 : Str) : Int × Bool := ((bsD x0 x1 (fun y0 y1 => (vector_find_1 y0 y1))).1, (bsD x0 x1 (fun y0 y1 => (vector_find_1 y0 y1))).2)
theorem vector_find.ok {s0 : St} {v0 : Value} {x0 : (List Dot)} {v1 : Value} {x1 : Str} (k0 : (kSl kDot).V s0 v0 x0) (k1 : kS.V s0 v1 x1) : Cl Try.prog 145 #[v0, v1] s0 (Okf s0 (Fact.tup [Fact.v (kI .i64) ((vector_find x0 x1).1), Fact.v kB ((vector_find x0 x1).2)])) := by
 obtain ⟨r, h⟩ : ∃ r, some (vector_find x0 x1) = some r := ⟨_, rfl⟩
 rw [Option.some.inj h]
 have h : (some ((bsD x0 x1 (fun y0 y1 => (vector_find_1 y0 y1))).1, (bsD x0 x1 (fun y0 y1 => (vector_find_1 y0 y1))).2)) = some r := by rw [← h]; unfold vector_find; first | rfl | simp only [apply_ite some] | (repeat' (first | rfl | split))
 refine cl_of_wp Try.func145 rfl en_145 fun a hz hd hp => ?_; have hz : a.tmps.size = 11 := hz; have E := Chg.refl (fun _ => False) s0; have h0 := V_at k0 E (hp 0 v0 rfl); have h1 := V_at k1 E (hp 1 v1 rfl); refine wp_sr ?_; refine sq_blk (its := [⟨4, _, []⟩, ⟨5, _, []⟩]) [] hz rfl ⟨(fun a s he hf hz => av rfl rfl i0), (fun a s he hf hz => av rfl rfl b_f), trivial⟩ ?_; intro a1 s2 he hf hz hd1; have ⟨hd, E⟩ := hdE hd1 hd E he; obtain ⟨h0, h1⟩ := va2 he hf h0 h1 rfl; refine wp_sr ?_; refine sq_blk (its := [⟨6, _, []⟩, ⟨7, _, []⟩, ⟨8, _, [0, 1]⟩, ⟨9, _, [2]⟩, ⟨10, _, [2]⟩, ⟨4, _, [3]⟩, ⟨5, _, [4]⟩]) [5, 6] hz rfl ⟨mvs rfl rfl h0 rfl, mvs rfl rfl h1 rfl, (fun a s he hf hz q0 q1 => opw rfl (op_call rfl (argc rfl (argc rfl (argc rfl rfl))) (slices_BinarySearchFunc_api_Dot_api_Dot_string.ct q0 q1 rfl (φ2 := (fun y0 y1 => (vector_find_1 y0 y1))) (fun he' hv0 hv1 => vector_find_1.ok hv0 hv1)))), (fun a s he hf hz q2 => opw rfl (op_extract (f := Fact.v _ _) rfl q2 rfl)), (fun a s he hf hz q2 => opw rfl (op_extract (f := Fact.v _ _) rfl q2 rfl)), avq rfl rfl, avq rfl rfl, trivial⟩ ?_
 intro a3 s4 he hf hz hd1 h4 h5; have ⟨hd, E⟩ := hdE hd1 hd E he; refine wp_ret ?_; cases h
 exact ⟨hd, _, results_tmp2 rfl _ _ _, E, tup2 h4 h5⟩
def vector_at.f (k : Nat) (x0 : (List Dot)) (x1 : Str) : Option (Int) := (if (vector_find x0 x1).2 = true then (if (0 ≤ ((vector_find x0 x1).1) ∧ ((vector_find x0 x1).1) < (x0.length : Int)) then (some ((List.getD x0 ((vector_find x0 x1).1).toNat default).n)) else none) else (some 0))
theorem vector_at.ok {s0 : St} {v0 : Value} {x0 : (List Dot)} {v1 : Value} {x1 : Str} {k : Nat} {r : Int} (k0 : (kSl kDot).V s0 v0 x0) (k1 : kS.V s0 v1 x1) (h : vector_at.f k x0 x1 = some r) : Cl Try.prog 128 #[v0, v1] s0 (Okf s0 (Fact.v (kI .i64) r)) := by
 unfold vector_at.f at h
 refine cl_of_wp Try.func128 rfl en_128 fun a hz hd hp => ?_; have hz : a.tmps.size = 19 := hz; have E := Chg.refl (fun _ => False) s0; have h0 := V_at k0 E (hp 0 v0 rfl); have h1 := V_at k1 E (hp 1 v1 rfl); refine wp_sr ?_; refine sq_blk (its := [⟨4, _, []⟩]) [] hz rfl ⟨(fun a s he hf hz => av rfl rfl i0), trivial⟩ ?_; intro a1 s2 he hf hz hd1; have ⟨hd, E⟩ := hdE hd1 hd E he; obtain ⟨h0, h1⟩ := va2 he hf h0 h1 rfl; refine wp_seq ?_; refine wp_sr ?_; refine sq_blk (its := [⟨8, _, []⟩, ⟨9, _, []⟩, ⟨10, _, [0, 1]⟩, ⟨7, _, [2]⟩, ⟨11, _, [3]⟩, ⟨12, _, [3]⟩, ⟨5, _, [4]⟩, ⟨6, _, [5]⟩]) [6, 7] hz rfl ⟨mvs rfl rfl h0 rfl, mvs rfl rfl h1 rfl, (fun a s he hf hz q0 q1 => opw rfl (op_call rfl rfl (vector_find.ok q0 q1))), (fun a s he hf hz q2 => opw rfl (op_move rfl (f := Fact.tup _) q2)), (fun a s he hf hz q3 => opw rfl (op_extract (f := Fact.v _ _) rfl q3 rfl)), (fun a s he hf hz q3 => opw rfl (op_extract (f := Fact.v _ _) rfl q3 rfl)), avq rfl rfl, avq rfl rfl, trivial⟩ ?_; intro a3 s4 he hf hz hd1 h5 h6; have ⟨hd, E⟩ := hdE hd1 hd E he; have h0 := V_at h0 he (hf 0 rfl)
 refine wp_sr ?_; refine sq_blk (its := [⟨13, _, []⟩]) [0] hz rfl ⟨mvs rfl rfl h6 rfl, trivial⟩ ?_; intro a5 s6 he hf hz hd1 h13; have ⟨hd, E⟩ := hdE hd1 hd E he; obtain ⟨h0, h5⟩ := va2 he hf h0 h5 rfl; refine wp_condV h13 (fun hb => ?_) (fun hb => ?_)
 ·have h := ite_t hb h; refine wp_sr ?_; obtain ⟨D7, h⟩ := need h; refine sq_blk (its := [⟨14, _, []⟩, ⟨15, _, []⟩, ⟨16, _, [0, 1]⟩, ⟨17, _, [2]⟩, ⟨18, _, [3]⟩, ⟨4, _, [4]⟩]) [5] hz rfl ⟨mvs rfl rfl h0 rfl, mvs rfl rfl h5 rfl, (fun a s he hf hz q0 q1 => ia rfl rfl sl_32 q0 q1 D7.1 D7.2), (fun a s he hf hz q2 => opw rfl (op_faddr_p rfl fa_70_1 kDot_s1 q2)), (fun a s he hf hz q3 => lp rfl rfl ty_2 (by decide) q3), avq rfl rfl, trivial⟩ ?_; intro a8 s9 he hf hz hd1 h4; have ⟨hd, E⟩ := hdE hd1 hd E he; refine wp_ret ?_; cases h
  exact ⟨hd, _, results_tmp rfl _ _ _, E, h4⟩
 ·have h := ite_f hb h; refine wp_skip ?_; refine wp_sr ?_; refine sq_blk (its := [⟨4, _, []⟩]) [0] hz rfl ⟨(fun a s he hf hz => av rfl rfl i0), trivial⟩ ?_; intro a10 s11 he hf hz hd1 h4; have ⟨hd, E⟩ := hdE hd1 hd E he; refine wp_ret ?_; cases h
  exact ⟨hd, _, results_tmp rfl _ _ _, E, h4⟩
def atB (x : List Dot) (w : Str) : Int := if (vector_find x w).2 = true then (x.getD (vector_find x w).1.toNat default).n else 0
theorem vector_at.nice (x0 : List Dot) (x1 : Str) (b0 : (kSl kDot).bd x0) (b1 : kS.bd x1) : ∃ k, vector_at.f k x0 x1 = some (atB x0 x1) := by
 refine ⟨0, ?_⟩
 unfold vector_at.f atB
 cases h : (vector_find x0 x1).2
 ·rfl
 ·have h' := h
  simp only [vector_find, bsD, Bool.and_eq_true, decide_eq_true_eq] at h'
  rw [if_pos rfl, if_pos rfl, if_pos]
  exact ⟨by simp only [vector_find, bsD]; omega, by simp only [vector_find, bsD]; exact h'.1⟩
theorem vector_at.ct {s0 : St} {v0 : Value} {x0 : (List Dot)} {v1 : Value} {x1 : Str} (k0 : (kSl kDot).V s0 v0 x0) (k1 : kS.V s0 v1 x1) : Cl Try.prog 128 #[v0, v1] s0 (Okf s0 (Fact.v (kI .i64) (atB x0 x1))) := by
 obtain ⟨k, h⟩ := vector_at.nice x0 x1 (Kn.V_bd k0) (Kn.V_bd k1)
 exact vector_at.ok k0 k1 h
def vector_Has (x0 : (List Dot)) (x1 : Dot) : Bool := (((rightV x0) && (vector_isDot x1)) && (decide (x1.n ≤ (atB x0 x1.who))))
theorem vector_Has.ok {s0 : St} {v0 : Value} {x0 : (List Dot)} {v1 : Value} {x1 : Dot} (k0 : (kSl kDot).V s0 v0 x0) (k1 : kDot.V s0 v1 x1) : Cl Try.prog 95 #[v0, v1] s0 (Okf s0 (Fact.v kB (vector_Has x0 x1))) := by
 obtain ⟨r, h⟩ : ∃ r, some (vector_Has x0 x1) = some r := ⟨_, rfl⟩
 rw [Option.some.inj h]
 have h : (some (((rightV x0) && (vector_isDot x1)) && (decide (x1.n ≤ (atB x0 x1.who))))) = some r := by rw [← h]; unfold vector_Has; first | rfl | simp only [apply_ite some] | (repeat' (first | rfl | split))
 refine cl_of_wp Try.func95 rfl en_95 fun a hz hd hp => ?_; have hz : a.tmps.size = 20 := hz; have E := Chg.refl (fun _ => False) s0; have h0 := V_at k0 E (hp 0 v0 rfl); have h1 := V_at k1 E (hp 1 v1 rfl); refine wp_sr ?_; refine sq_set hz rfl rfl rfl (op_boxn rfl rfl h1 (fun s2 e4 he BB3 r5 => fun a1 h3 hf hz hd1 => ?_)); obtain ⟨b10, hb10⟩ : ∃ b, b = s0.w.heap.size := ⟨_, rfl⟩; rw [← hb10] at BB3 h3; have B10 := BB3; have l10 : s0.w.heap.size ≤ b10 := by have := E.size; omega
 have ⟨hd, E⟩ := hdE hd1 hd E he; have h0 := V_at h0 he (hf 0 rfl); obtain ⟨u6, u7, rfl, c8, c9⟩ := kDot_open r5; refine sq_blk (its := [⟨4, _, []⟩]) [] hz rfl ⟨(fun a s he hf hz => av rfl rfl b_f), trivial⟩ ?_; intro a11 s12 he hf hz hd1; have ⟨hd, E⟩ := hdE hd1 hd E he; have h0 := V_at h0 he (hf 0 rfl); have h3 := (hf 3 rfl).trans h3; have B10 := B10.ext he; obtain ⟨c8, c9⟩ := vm2 he c8 c9; refine wp_seq ?_; have hz0 := hz; refine wp_draw (its := [⟨5, _, []⟩, ⟨6, _, [0]⟩, ⟨7, _, [1]⟩, ⟨8, _, [2]⟩, ⟨9, _, [2, 3]⟩, ⟨10, _, [2, 4]⟩, ⟨11, _, [5]⟩, ⟨12, _, [6]⟩, ⟨13, _, [6, 7]⟩, ⟨14, _, [6]⟩, ⟨15, _, [6]⟩, ⟨16, _, [6, 10]⟩, ⟨17, _, [6, 9, 11]⟩, ⟨18, _, [6, 8, 12]⟩, ⟨19, _, [6, 13]⟩, ⟨4, _, [14]⟩]) [15] mo hz (by kernel_rfl) ⟨mvs rfl rfl h0 rfl, (fun a s he hf hz q0 => opw rfl (op_call rfl rfl (vector_Right.ct q0))), mvq rfl rfl, (fun a s he hf hz q2 => og rfl rfl rfl hz hz0 rfl q2 (fun g => op_loadn rfl ty_70 rfl ((hf 3 rfl).trans h3) (B10.ext he) rfl (kDot_eta (x := x1) (vm he c8) (vm he c9)))), (fun a s he hf hz q2 q3 => og rfl rfl rfl hz hz0 rfl q2 (fun g => op_call rfl rfl (vector_isDot.ok (q3.1 g)))), (fun a s he hf hz q2 q4 => an rfl rfl q2 (q4.1)), mvq rfl rfl, (fun a s he hf hz q6 => og rfl rfl rfl hz hz0 rfl q6 (fun g => op_faddr_b rfl fa_70_1 ((hf 3 rfl).trans h3))), (fun a s he hf hz q6 q7 => og rfl rfl rfl hz hz0 rfl q6 (fun g => op_load1 rfl ty_2 (q7.1 g) (B10.ext he) rfl (vm he c9))), (fun a s he hf hz q6 => og rfl rfl rfl hz hz0 rfl q6 (fun g => op_move_v rfl (V_at h0 he (hf 0 rfl)))), (fun a s he hf hz q6 => og rfl rfl rfl hz hz0 rfl q6 (fun g => op_faddr_b rfl fa_70_0 ((hf 3 rfl).trans h3))), (fun a s he hf hz q6 q10 => og rfl rfl rfl hz hz0 rfl q6 (fun g => op_load1 rfl ty_9 (q10.1 g) (B10.ext he) rfl (vm he c8))), (fun a s he hf hz q6 q9 q11 => og rfl rfl rfl hz hz0 rfl q6 (fun g => op_call rfl rfl (vector_at.ct (q9.1 g) (q11.1 g)))), (fun a s he hf hz q6 q8 q12 => og rfl rfl rfl hz hz0 rfl q6 (fun g => op_leq rfl (q8.1 g) (q12.1 g))), (fun a s he hf hz q6 q13 => an rfl rfl q6 (q13.1)), avq rfl rfl, trivial⟩ ?_
 intro a13 s14 he hf hz hd1 h4; have ⟨hd, E⟩ := hdE hd1 hd E he; refine wp_ret ?_; cases h
 exact ⟨hd, _, results_tmp rfl _ _ _, E, h4⟩
theorem cmp_lt (x y : Str) : Lib.compareBytes x y < 0 ↔ sLt x y = true := by
 unfold sLt
 induction x generalizing y with
 | nil => cases y <;> simp [Lib.compareBytes, Op.bytesLess]
 | cons a x ih =>
  cases y with
  | nil => simp [Lib.compareBytes, Op.bytesLess]
  | cons b y =>
   simp only [Lib.compareBytes, Op.bytesLess]
   rcases Nat.lt_trichotomy a.toNat b.toNat with h | h | h
   ·have h1 : a < b := UInt8.lt_iff_toNat_lt.2 h
    simp [h1]
   ·have h0 : a = b := UInt8.toNat_inj.1 h
    subst h0
    have h2 : ¬ a < a := fun h' => by have := UInt8.lt_iff_toNat_lt.1 h'; omega
    simp [h2, ih y]
   ·have h1 : b < a := UInt8.lt_iff_toNat_lt.2 h
    have h2 : ¬ a < b := fun h' => by have := UInt8.lt_iff_toNat_lt.1 h'; omega
    have h3 : ¬ a = b := fun h' => by rw [h'] at h; omega
    simp [h1, h2, h3]
theorem cmp_eq (x y : Str) : Lib.compareBytes x y = 0 ↔ x = y := by
 induction x generalizing y with
 | nil => cases y <;> simp [Lib.compareBytes]
 | cons a x ih =>
  cases y with
  | nil => simp [Lib.compareBytes]
  | cons b y =>
   simp only [Lib.compareBytes]
   rcases Nat.lt_trichotomy a.toNat b.toNat with h | h | h
   ·have h1 : a < b := UInt8.lt_iff_toNat_lt.2 h
    have h3 : ¬ a = b := fun h' => by rw [h'] at h; omega
    simp [h1, h3]
   ·have h0 : a = b := UInt8.toNat_inj.1 h
    subst h0
    have h2 : ¬ a < a := fun h' => by have := UInt8.lt_iff_toNat_lt.1 h'; omega
    simp [h2, ih y]
   ·have h1 : b < a := UInt8.lt_iff_toNat_lt.2 h
    have h2 : ¬ a < b := fun h' => by have := UInt8.lt_iff_toNat_lt.1 h'; omega
    have h3 : ¬ a = b := fun h' => by rw [h'] at h; omega
    simp [h1, h2, h3]
theorem sLt_irrefl (x : Str) : sLt x x = false := by
 have := sLt_tri x x
 cases h : sLt x x
 ·rfl
 ·rw [h] at this; simp at this
theorem sLt_ne {x y : Str} (h : sLt x y = true) : ¬ x = y := fun e => by subst e; rw [sLt_irrefl] at h; cases h
theorem sLt_trans {x y z : Str} (h1 : sLt x y = true) (h2 : sLt y z = true) : sLt x z = true := by
 unfold sLt at *
 induction x generalizing y z with
 | nil => cases z with
  | nil => cases y <;> simp [Op.bytesLess] at h2
  | cons c z => simp [Op.bytesLess]
 | cons a x ih =>
  cases y with
  | nil => simp [Op.bytesLess] at h1
  | cons b y =>
   cases z with
   | nil => simp [Op.bytesLess] at h2
   | cons c z =>
    simp only [Op.bytesLess, Bool.or_eq_true, Bool.and_eq_true, decide_eq_true_eq, beq_iff_eq] at h1 h2 ⊢
    rcases h1 with h1 | ⟨rfl, h1⟩ <;> rcases h2 with h2 | ⟨rfl, h2⟩
    ·exact .inl (UInt8.lt_iff_toNat_lt.2 (Nat.lt_trans (UInt8.lt_iff_toNat_lt.1 h1) (UInt8.lt_iff_toNat_lt.1 h2)))
    ·exact .inl h1
    ·exact .inl h2
    ·exact .inr ⟨rfl, ih h1 h2⟩
theorem sLt_not {x y : Str} (h1 : sLt x y = false) (h2 : ¬ x = y) : sLt y x = true := by
 have := sLt_tri x y
 rw [h1] at this
 simp only [h2, decide_false, Bool.or_self] at this
 cases h : sLt y x
 ·rw [h] at this; cases this
 ·rfl
theorem chainP_all : ∀ (l : List Dot) (p : Str), chainP p l = true → ∀ d ∈ l, sLt p d.who = true
 | [], _, _, _, h => by simp at h
 | e :: l, p, hc, d, hd => by
  simp only [chainP, Bool.and_eq_true] at hc
  rcases List.mem_cons.1 hd with rfl | hd
  ·exact hc.1.2
  ·exact sLt_trans hc.1.2 (chainP_all l e.who hc.2 d hd)
theorem chainV_lt : ∀ (l : List Dot), chainV l = true → ∀ (i j : Nat) (d e : Dot), i < j → l[i]? = some d → l[j]? = some e → sLt d.who e.who = true
 | [], _, _, _, _, _, _, h, _ => by simp at h
 | c :: l, hc, i, j, d, e, hij, hi, hj => by
  simp only [chainV, Bool.and_eq_true] at hc
  cases j with
  | zero => omega
  | succ j =>
   have hj : l[j]? = some e := by simpa using hj
   cases i with
   | zero =>
    have : c = d := by simpa using hi
    subst this
    exact chainP_all l c.who hc.2 e (List.mem_of_getElem? hj)
   | succ i =>
    have hi : l[i]? = some d := by simpa using hi
    refine chainV_lt l ?_ i j d e (by omega) hi hj
    cases l with
    | nil => rfl
    | cons f l => have h2 := hc.2; simp only [chainP, Bool.and_eq_true] at h2; simp only [chainV, Bool.and_eq_true]; exact ⟨h2.1.1, h2.2⟩
theorem bsGo_split (x : List Dot) (w : Str) (hs : ∀ (i j : Nat) (d e : Dot), i < j → x[i]? = some d → x[j]? = some e → sLt d.who e.who = true) : ∀ f lo hi : Nat, hi - lo ≤ f → lo ≤ hi → hi ≤ x.length → (∀ i d, i < lo → x[i]? = some d → sLt d.who w = true) → (∀ i d, hi ≤ i → x[i]? = some d → sLt d.who w = false) →
    (∀ i d, i < bsGo (fun d => Lib.compareBytes d.who w) x f lo hi → x[i]? = some d → sLt d.who w = true) ∧ (∀ i d, bsGo (fun d => Lib.compareBytes d.who w) x f lo hi ≤ i → x[i]? = some d → sLt d.who w = false) := by
  intro f
  induction f with
  | zero => intro lo hi h1 h2 h3 hl hh; have : lo = hi := by omega
            subst this; exact ⟨hl, hh⟩
  | succ f ih =>
    intro lo hi h1 h2 h3 hl hh
    unfold bsGo
    split
    · rename_i hlt
      have hm : (lo + hi) / 2 < x.length := by omega
      have hx : x[(lo + hi) / 2]? = some (x.getD ((lo + hi) / 2) default) := by rw [getD_at hm]; exact List.getElem?_eq_getElem hm
      split
      · rename_i hc
        have hc := (cmp_lt _ _).1 hc
        refine ih _ _ (by omega) (by omega) h3 (fun i d hi' hd => ?_) hh
        rcases Nat.lt_or_ge i ((lo + hi) / 2) with h | h
        · exact sLt_trans (hs i _ d _ h hd hx) hc
        · have : i = (lo + hi) / 2 := by omega
          subst this
          rw [hx] at hd; cases hd; exact hc
      · rename_i hc
        have hc : sLt (x.getD ((lo + hi) / 2) default).who w = false := by
          cases h : sLt (x.getD ((lo + hi) / 2) default).who w
          · rfl
          · exact absurd ((cmp_lt _ _).2 h) hc
        refine ih _ _ (by omega) (by omega) (by omega) hl (fun i d hi' hd => ?_)
        rcases Nat.lt_or_ge ((lo + hi) / 2) i with h | h
        · cases h' : sLt d.who w
          · rfl
          · have := sLt_trans (hs _ i _ d h hx hd) h'
            rw [hc] at this; cases this
        · have : i = (lo + hi) / 2 := by omega
          subst this
          rw [hx] at hd; cases hd; exact hc
    · have : lo = hi := by omega
      subst this; exact ⟨hl, hh⟩
theorem at_found {x : List Dot} {w : Str} {r : Nat} (hr : r < x.length) (he : (x.getD r default).who = w) (hlt : ∀ i d, i < r → x[i]? = some d → ¬ d.who = w) : at_ x w = (x.getD r default).n := by
 have : x.find? (fun d => decide (d.who = w)) = some (x.getD r default) := by
  rw [List.find?_eq_some_iff_getElem]
  refine ⟨decide_eq_true he, r, hr, (getD_at hr).symm, fun j hj => ?_⟩
  have := hlt j x[j] hj (List.getElem?_eq_getElem (by omega))
  simpa using this
 unfold at_; rw [this]
theorem at_none {x : List Dot} {w : Str} (h : ∀ d ∈ x, ¬ d.who = w) : at_ x w = 0 := by
 have : x.find? (fun d => decide (d.who = w)) = none := List.find?_eq_none.2 fun d hd => by simpa using h d hd
 unfold at_; rw [this]
theorem atB_eq {x : List Dot} (w : Str) (h : chainV x = true) : atB x w = at_ x w := by
 have hs := chainV_lt x h
 obtain ⟨h1, h2⟩ := bsGo_split x w hs x.length 0 x.length (by omega) (by omega) (Nat.le_refl _) (fun i d hi => by omega) (fun i d hi hd => by have := (List.getElem?_eq_some_iff.1 hd).1; omega)
 have hf : vector_find x w = (((bsGo (fun d => Lib.compareBytes d.who w) x x.length 0 x.length : Nat) : Int), decide (((bsGo (fun d => Lib.compareBytes d.who w) x x.length 0 x.length : Nat) : Int) < (x.length : Int)) && decide (Lib.compareBytes (x.getD (bsGo (fun d => Lib.compareBytes d.who w) x x.length 0 x.length) default).who w = 0)) := rfl
 unfold atB
 rw [hf]
 generalize bsGo (fun d => Lib.compareBytes d.who w) x x.length 0 x.length = r at *
 show (if (decide ((r : Int) < (x.length : Int)) && decide (Lib.compareBytes (x.getD r default).who w = 0)) = true then (x.getD ((r : Nat) : Int).toNat default).n else 0) = _
 by_cases hc : (decide ((r : Int) < (x.length : Int)) && decide (Lib.compareBytes (x.getD r default).who w = 0)) = true
 ·rw [if_pos hc, Int.toNat_natCast]
  simp only [Bool.and_eq_true, decide_eq_true_eq, cmp_eq] at hc
  exact (at_found (by omega) hc.2 fun i d hi hd => sLt_ne (h1 i d hi hd)).symm
 ·rw [if_neg hc]
  refine (at_none fun d hd e => ?_).symm
  obtain ⟨i, hi⟩ := List.getElem?_of_mem hd
  rcases Nat.lt_or_ge i r with h' | h'
  ·exact sLt_ne (h1 i d h' hi) e
  ·have hil := (List.getElem?_eq_some_iff.1 hi).1
   have hrl : r < x.length := by omega
   have hx : x[r]? = some (x.getD r default) := by rw [getD_at hrl]; exact List.getElem?_eq_getElem hrl
   have hn : ¬ (x.getD r default).who = w := fun e' => hc (by simp only [Bool.and_eq_true, decide_eq_true_eq, cmp_eq]; exact ⟨by omega, e'⟩)
   have hgt := sLt_not (h2 r _ (Nat.le_refl _) hx) hn
   rcases Nat.lt_or_ge r i with h3 | h3
   ·have := sLt_trans hgt (hs r i _ d h3 hx hi)
    rw [e, sLt_irrefl] at this; cases this
   ·have : i = r := by omega
    subst this
    rw [hx] at hi; cases hi; exact hn e
def hasV (x : List Dot) (d : Dot) : Bool := rightV x && vector_isDot d && decide (d.n ≤ at_ x d.who)
theorem vector_Has_eq (x : List Dot) (d : Dot) : vector_Has x d = hasV x d := by
 unfold vector_Has hasV
 cases h : rightV x
 ·rfl
 ·have : chainV x = true := by unfold rightV at h; simp only [Bool.and_eq_true] at h; exact h.2
  rw [atB_eq _ this]
theorem vector_Has.ct {s0 : St} {v0 : Value} {x0 : List Dot} {v1 : Value} {x1 : Dot} (k0 : (kSl kDot).V s0 v0 x0) (k1 : kDot.V s0 v1 x1) : Cl Try.prog 95 #[v0, v1] s0 (Okf s0 (Fact.v kB (hasV x0 x1))) := by
 rw [← vector_Has_eq]; exact vector_Has.ok k0 k1
end
section
attribute [local irreducible] Kn.V PtrV
def dotB (d : Dot) : Str := numB d.who.length ++ d.who ++ numB d.n.toNat
def vecB (x : List Dot) : Str := numB x.length ++ (x.map dotB).flatten
def layV (b : Str) (x : List Dot) : Str × Int := if rightV x = true then (b ++ vecB x, 0) else ([], 2)
theorem chainP_dot : ∀ (l : List Dot) (p : Str), chainP p l = true → ∀ d ∈ l, vector_isDot d = true
 | [], _, _, _, h => by simp at h
 | e :: l, p, hc, d, hd => by
  simp only [chainP, Bool.and_eq_true] at hc
  rcases List.mem_cons.1 hd with rfl | hd
  ·exact hc.1.1
  ·exact chainP_dot l e.who hc.2 d hd
theorem rightV_dot {x : List Dot} (h : rightV x = true) : x.length ≤ 64 ∧ ∀ d ∈ x, vector_isDot d = true := by
 unfold rightV at h
 simp only [Bool.and_eq_true, decide_eq_true_eq] at h
 refine ⟨h.1, ?_⟩
 rw [← chainP_nil] at h
 exact chainP_dot x [] h.2
theorem isDot_parts {d : Dot} (h : vector_isDot d = true) : isName d.who = true ∧ 1 ≤ d.n ∧ d.n ≤ 4611686018427387904 := by
 unfold vector_isDot at h
 simp only [Bool.and_eq_true, decide_eq_true_eq] at h
 exact ⟨h.1.1, h.1.2, h.2⟩
theorem isName_len {x : Str} (h : isName x = true) : 1 ≤ x.length ∧ x.length ≤ 24 := by
 unfold isName at h
 simp only [Bool.and_eq_true, decide_eq_true_eq] at h
 exact ⟨h.1.2, h.2⟩
theorem numB_le (n : Nat) : (numB n).length ≤ 9 := by rw [numB_len]; have := ext_le8 n; omega
theorem dotB_len {d : Dot} (h : vector_isDot d = true) : (dotB d).length ≤ 42 := by
 have := isName_len (isDot_parts h).1
 have h1 := numB_le d.who.length
 have h2 := numB_le d.n.toNat
 unfold dotB; simp only [List.length_append]; omega
theorem dots_len : ∀ {l : List Dot}, (∀ d ∈ l, vector_isDot d = true) → ((l.map dotB).flatten).length ≤ 42 * l.length
 | [], _ => by simp
 | d :: l, h => by
  have h1 := dotB_len (h d (List.mem_cons_self ..))
  have h2 := dots_len (l := l) fun e he => h e (List.mem_cons_of_mem _ he)
  simp only [List.map_cons, List.flatten_cons, List.length_append, List.length_cons]; omega
theorem wrap_u64i {n : Int} (h0 : 0 ≤ n) (h1 : n < 18446744073709551616) : IntKind.wrap .u64 n = n := by
 obtain ⟨q, rfl⟩ := Int.eq_ofNat_of_zero_le h0
 rw [wrap_u64, Nat.mod_eq_of_lt (by omega)]
theorem dot_laid (b : Str) {d : Dot} (h : vector_isDot d = true) : number (text b d.who) (IntKind.wrap .u64 d.n) = b ++ dotB d := by
 obtain ⟨_, h1, h2⟩ := isDot_parts h
 rw [wrap_u64i (by omega) (by omega)]
 simp [number, text, dotB]
def vector_Lay.l0 : Nat → (List Dot) → (List UInt8) → Int → Option ((List UInt8) × Int)
 | 0, _, _, _ => none
 | m18 + 1, x1, y15, y17 => (if decide (y17 < (x1.length : Int)) = true then (if (0 ≤ y17 ∧ y17 < (x1.length : Int)) then (if y15.length + ((List.getD x1 (y17).toNat default).who).length + 9 ≤ 140737488355328 then (if (text y15 ((List.getD x1 (y17).toNat default).who)).length + 9 ≤ 140737488355328 then (vector_Lay.l0 m18 x1 (number (text y15 ((List.getD x1 (y17).toNat default).who)) (IntKind.wrap .u64 ((List.getD x1 (y17).toNat default).n))) (IntKind.wrap .i64 (y17 + 1))) else none) else none) else none) else (some (y15, 0)))
def vector_Lay.f (k : Nat) (x0 : (List UInt8)) (x1 : (List Dot)) : Option ((List UInt8) × Int) := (if (!(rightV x1)) = true then (some (([] : (List UInt8)), 2)) else (if x0.length + 9 ≤ 140737488355328 then (vector_Lay.l0 k x1 (number x0 (IntKind.wrap .u64 (x1.length : Int))) 0) else none))
theorem vector_Lay.ok {s0 : St} {v0 : Value} {x0 : (List UInt8)} {v1 : Value} {x1 : (List Dot)} {k : Nat} {r : (List UInt8) × Int} (k0 : (kSl kY).V s0 v0 x0) (k1 : (kSl kDot).V s0 v1 x1) (h : vector_Lay.f k x0 x1 = some r) : Cl Try.prog 71 #[v0, v1] s0 (Okf s0 (Fact.tup [Fact.v (kSl kY) r.1, Fact.v (kI .i64) r.2])) := by
 unfold vector_Lay.f at h
 refine cl_of_wp Try.func71 rfl en_71 fun a hz hd hp => ?_; have hz : a.tmps.size = 33 := hz; have E := Chg.refl (fun _ => False) s0; have h0 := V_at k0 E (hp 0 v0 rfl); have h1 := V_at k1 E (hp 1 v1 rfl); refine wp_sr ?_; refine sq_blk (its := [⟨4, _, []⟩, ⟨5, _, []⟩]) [] hz rfl ⟨(fun a s he hf hz => av rfl rfl (lit_nil (d := kY))), (fun a s he hf hz => av rfl rfl i0), trivial⟩ ?_; intro a1 s2 he hf hz hd1; have ⟨hd, E⟩ := hdE hd1 hd E he; obtain ⟨h0, h1⟩ := va2 he hf h0 h1 rfl; refine wp_seq ?_; refine wp_sr ?_; refine sq_blk (its := [⟨9, _, []⟩, ⟨10, _, [0]⟩, ⟨11, _, [1]⟩]) [2] hz rfl ⟨mvs rfl rfl h1 rfl, (fun a s he hf hz q0 => opw rfl (op_call rfl rfl (vector_Right.ct q0))), (fun a s he hf hz q1 => no_ rfl rfl q1), trivial⟩ ?_; intro a3 s4 he hf hz hd1 h11; have ⟨hd, E⟩ := hdE hd1 hd E he; obtain ⟨h0, h1⟩ := va2 he hf h0 h1 rfl; refine wp_condV h11 (fun hb => ?_) (fun hb => ?_)
 ·have h := ite_t hb h; refine wp_sr ?_; refine sq_blk (its := [⟨4, _, []⟩, ⟨5, _, []⟩]) [0, 1] hz rfl ⟨(fun a s he hf hz => av rfl rfl (lit_nil (d := kY))), (fun a s he hf hz => av rfl rfl (lit_i (k := .i64) (n := 2) (by decide))), trivial⟩ ?_; intro a5 s6 he hf hz hd1 h4 h5; have ⟨hd, E⟩ := hdE hd1 hd E he; refine wp_ret ?_; cases h
  exact ⟨hd, _, results_tmp2 rfl _ _ _, E, tup2 h4 h5⟩
 ·have h := ite_f hb h; refine wp_skip ?_; refine wp_sr ?_; obtain ⟨D7, h⟩ := need h; refine sq_blk (its := [⟨12, _, []⟩, ⟨13, _, []⟩, ⟨14, _, [1]⟩, ⟨15, _, [2]⟩, ⟨16, _, [0, 3]⟩, ⟨6, _, [4]⟩]) [5] hz rfl ⟨mvs rfl rfl h0 rfl, mvs rfl rfl h1 rfl, (fun a s he hf hz q1 => le_ rfl rfl u_32 q1), (fun a s he hf hz q2 => cv rfl rfl u_3 u_89 q2), (fun a s he hf hz q0 q3 => opw rfl (op_call_f rfl rfl (f := Fact.own (kSl kY) 5 1 (fun g => s4.w.heap.size ≤ g) (number x0 (IntKind.wrap .u64 (x1.length : Int)))) (Cl.mono (wire_Number.ct q0 q3 D7) (own_w he)))), (fun a s he hf hz q4 => opw rfl (op_assign rfl (f := Fact.own _ _ _ _ _) q4)), trivial⟩ ?_; intro a8 s9 he hf hz hd1 k6; have hd := hd1.trans hd; have f6' : ∀ g, sb (a8.get 6) = some g → s0.w.heap.size ≤ g := fun g hg => by have h1 := k6.2.2 g hg; have h2 := E.size; exact (by omega)
  have h1 := V_at h1 he (hf 1 rfl); have E := E.trans he; have h6 := k6.1; have p6 := k6.2.1; have f6 := f6'; refine wp_seq ?_; refine wp_sr ?_; refine sq_blk (its := [⟨17, _, []⟩, ⟨18, _, [0]⟩, ⟨19, _, []⟩]) [0, 1, 2] hz rfl ⟨mvs rfl rfl h1 rfl, (fun a s he hf hz q0 => le_ rfl rfl u_32 q0), (fun a s he hf hz => mv rfl rfl i0), trivial⟩ ?_; intro a11 s12 he hf hz hd1 h17 h18 h19; have ⟨hd, E⟩ := hdE hd1 hd E he; have p6 := pa he p6 (hf 6 rfl); have f6 := sb_at f6 (hf 6 rfl); have h6 := V_at h6 he (hf 6 rfl); refine wp_block ?_; refine wp_loop (k := k) (fun m18 a s => ∃ (y15 : (List UInt8)) (y17 : Int), vector_Lay.l0 m18 x1 y15 y17 = some r ∧ m18 ≤ k ∧ Ext s0 s ∧ a.tmps.size = 33 ∧ a.defers = [] ∧ (kSl kY).V s (a.get 6) y15 ∧ Sp s (a.get 6) 5 1 ∧ (∀ g, sb (a.get 6) = some g → s0.w.heap.size ≤ g) ∧ (kSl kDot).V s (a.get 17) x1 ∧ (kI .i64).V s (a.get 18) (x1.length : Int) ∧ (kI .i64).V s (a.get 19) y17) ⟨_, _, h, Nat.le_refl _, E, hz, hd, h6, p6, f6, h17, h18, h19⟩ ?_; rintro m18 a14 s13 ⟨y15, y17, h, hkm18, E, hz, hd, h6, p6, f6, h17, h18, h19⟩; obtain _ | m18 := m18
  ·cases h
  refine wp_sr ?_; refine sq_blk (its := [⟨20, _, []⟩]) [0] hz rfl ⟨(fun a s he hf hz => ls rfl rfl (V_at h19 he (hf 19 rfl)) (V_at h18 he (hf 18 rfl))), trivial⟩ ?_; intro a19 s20 he hf hz hd1 h20; have ⟨hd, E⟩ := hdE hd1 hd E he; have p6 := pa he p6 (hf 6 rfl); have f6 := sb_at f6 (hf 6 rfl); obtain ⟨h6, h17, h18, h19⟩ := va4 he hf h6 h17 h18 h19 rfl; refine wp_seq ?_; refine wp_condV h20 (fun hb => ?_) (fun hb => ?_)
  ·have h := ite_t hb h; refine wp_skip ?_; refine wp_seq ?_; refine wp_block ?_; refine wp_sr ?_; obtain ⟨D21, h⟩ := need h; refine sq_blk (its := [⟨21, _, []⟩, ⟨22, _, [0]⟩]) [1] hz rfl ⟨(fun a s he hf hz => ia rfl rfl sl_32 (V_at h17 he (hf 17 rfl)) (V_at h19 he (hf 19 rfl)) D21.1 D21.2), (fun a s he hf hz q0 => lp rfl rfl ty_70 (by decide) q0), trivial⟩ ?_; intro a22 s23 he hf hz hd1 h22; have ⟨hd, E⟩ := hdE hd1 hd E he; have p6 := pa he p6 (hf 6 rfl); have f6 := sb_at f6 (hf 6 rfl); obtain ⟨h6, h17, h18, h19⟩ := va4 he hf h6 h17 h18 h19 rfl; refine sq_set hz rfl rfl rfl (op_alloc (cs := [.string ⟨#[]⟩, .int .i64 0]) rfl zv_70 rfl (fun s25 he BB26 => fun a24 h8 hf hz hd1 => ?_)); obtain ⟨b29, hb29⟩ : ∃ b, b = s23.w.heap.size := ⟨_, rfl⟩; rw [← hb29] at BB26 h8; have B29 := BB26; have l29 : s0.w.heap.size ≤ b29 := by have := E.size; omega
   have f6 : ∀ g, sb (a22.get 6) = some g → s0.w.heap.size ≤ g ∧ g ≠ b29 := fun g hg => ⟨(f6 g hg), (by have := Spare.lt p6 hg; omega)⟩; have ⟨hd, E⟩ := hdE hd1 hd E he; have p6 := pa he p6 (hf 6 rfl); have f6 := sb_at f6 (hf 6 rfl); obtain ⟨h6, h17, h18, h19, h22⟩ := va5 he hf h6 h17 h18 h19 h22 rfl; have c27 : kS.V s25 (.string ⟨#[]⟩) ([] : Str) := s_0; have c28 : (kI .i64).V s25 (.int .i64 0) 0 := i0; refine sq_do rfl rfl (op_storen rfl ty_70 rfl h8 B29 h22 rfl (fun s31 e32 he B29n r33 => ?_)); have p6 := Sp_at p6 he (fun g hg => (fun e => (f6 g hg).2 e)) rfl; obtain ⟨h6, h17, h18, h19⟩ := vm4 he h6 h17 h18 h19; have E := Chg.chg E he (fun b e h => (fun e => absurd h (by cases e; exact Nat.not_lt.2 l29)) e); obtain ⟨u34, u35, rfl, c36, c37⟩ := kDot_open r33; have B29 : Bx s31 b29 70 [u34, u35] := B29n; obtain ⟨D38, h⟩ := need h; obtain ⟨D39, h⟩ := need h; refine wp_draw (its := [⟨23, _, []⟩, ⟨24, _, []⟩, ⟨25, _, [1]⟩, ⟨26, _, [0, 2]⟩, ⟨27, _, []⟩, ⟨28, _, [4]⟩, ⟨29, _, [5]⟩, ⟨30, _, [3, 6]⟩]) [7] mo hz (by kernel_rfl) ⟨(fun a s he hf hz => opw rfl (op_move rfl (f := Fact.own _ _ _ _ _) (own_at h6 p6 f6 he (hf 6 rfl)))), (fun a s he hf hz => fb rfl rfl fa_70_0 ((hf 8 rfl).trans h8)), (fun a s he hf hz q1 => lo rfl rfl ty_9 q1 (B29.ext he) rfl (vm he c36)), (fun a s he hf hz q0 q2 => opw rfl (op_call_f rfl rfl (f := Fact.own (kSl kY) 5 1 (fun g => s31.w.heap.size ≤ g) (text y15 ((List.getD x1 (y17).toNat default).who))) (Cl.mono (wire_Text.ct q0.1 q2 D38) (own_w he)))), (fun a s he hf hz => fb rfl rfl fa_70_1 ((hf 8 rfl).trans h8)), (fun a s he hf hz q4 => lo rfl rfl ty_2 q4 (B29.ext he) rfl (vm he c37)), (fun a s he hf hz q5 => cv rfl rfl u_2 u_89 q5), (fun a s he hf hz q3 q6 => opw rfl (op_call_f rfl rfl (f := Fact.own (kSl kY) 5 1 (fun g => s31.w.heap.size ≤ g) (number (text y15 ((List.getD x1 (y17).toNat default).who)) (IntKind.wrap .u64 ((List.getD x1 (y17).toNat default).n)))) (Cl.mono (wire_Number.ct q3.1 q6 D39) (own_w he)))), trivial⟩ ?_
   intro a40 s41 he hf hz hd1 k30; have hd := hd1.trans hd; have f30' : ∀ g, sb (a40.get 30) = some g → s0.w.heap.size ≤ g ∧ g ≠ b29 := fun g hg => by have h1 := k30.2.2 g hg; have h2 := E.size; have l29 := B29.lt; exact ⟨(by omega), (by omega)⟩
   obtain ⟨h17, h18, h19⟩ := va3 he hf h17 h18 h19 rfl; have E := E.trans he; have h30 := k30.1; have p30 := k30.2.1; have f30 := f30'; refine sq_blk (its := [⟨6, _, []⟩]) [0] hz rfl ⟨(fun a s he hf hz => opw rfl (op_assign rfl (f := Fact.own _ _ _ _ _) (own_at h30 p30 f30 he (hf 30 rfl)))), trivial⟩ ?_; intro a43 s44 he hf hz hd1 k6; have ⟨hd, E⟩ := hdE hd1 hd E he; obtain ⟨h17, h18, h19⟩ := va3 he hf h17 h18 h19 rfl; have h6 := k6.1; have p6 := k6.2.1; have f6 := k6.2.2; refine wp_region ?_; refine sq_blk (its := [⟨31, _, []⟩]) [0] hz rfl ⟨(fun a s he hf hz => ad rfl rfl (V_at h19 he (hf 19 rfl)) i1), trivial⟩ ?_; intro a45 s46 he hf hz hd1 h31; have ⟨hd, E⟩ := hdE hd1 hd E he; have p6 := pa he p6 (hf 6 rfl); have f6 := sb_at f6 (hf 6 rfl); obtain ⟨h6, h17, h18⟩ := va3 he hf h6 h17 h18 rfl; refine sq_blk (its := [⟨19, _, []⟩]) [0] hz rfl ⟨mvs rfl rfl h31 rfl, trivial⟩ ?_; intro a47 s48 he hf hz hd1 h19; have ⟨hd, E⟩ := hdE hd1 hd E he; have p6 := pa he p6 (hf 6 rfl); have f6 := sb_at f6 (hf 6 rfl); obtain ⟨h6, h17, h18⟩ := va3 he hf h6 h17 h18 rfl
   exact ⟨_, (by omega : m18 < m18 + 1), _, _, h, by omega, E, hz, hd, h6, p6, (fun g hg => (f6 g hg).1), h17, h18, h19⟩
  ·have h := ite_f hb h; refine wp_exit ?_; refine then_exit ?_; refine then_exit ?_; refine inBlock_hit ?_; refine wp_sr ?_; refine sq_blk (its := [⟨32, _, []⟩, ⟨4, _, [0]⟩, ⟨5, _, []⟩]) [1, 2] hz rfl ⟨(fun a s he hf hz => opw rfl (op_move rfl (f := Fact.own _ _ _ _ _) (own_at h6 p6 f6 he (hf 6 rfl)))), (fun a s he hf hz q0 => opw rfl (op_assign rfl (f := Fact.own _ _ _ _ _) q0)), (fun a s he hf hz => av rfl rfl i0), trivial⟩ ?_; intro a49 s50 he hf hz hd1 k4 h5; have ⟨hd, E⟩ := hdE hd1 hd E he; have h4 := k4.1; refine wp_ret ?_; cases h
   exact ⟨hd, _, results_tmp2 rfl _ _ _, E, tup2 h4 h5⟩
theorem vector_Lay.nice (x0 : Str) (x1 : List Dot) (b0 : (kSl kY).bd x0) (b1 : (kSl kDot).bd x1) (hl : x0.length + 4000 ≤ 140737488355328) : ∃ k, vector_Lay.f k x0 x1 = some (layV x0 x1) := by
 have hm := maxLen_lt
 unfold vector_Lay.f layV
 cases hr : rightV x1
 ·exact ⟨0, rfl⟩
 ·obtain ⟨h64, hd⟩ := rightV_dot hr
  have : ∀ y, y ≤ x1.length → ∀ acc : Str, acc.length + 42 * (x1.length - y) + 20 ≤ 140737488355328 → ∃ k, vector_Lay.l0 k x1 acc (y : Int) = some (acc ++ ((x1.drop y).map dotB).flatten, 0) := by
   refine rounds x1.length (fun acc _ => ⟨1, ?_⟩) fun y hy ih acc ha => ?_
   ·simp only [vector_Lay.l0, List.drop_length]; simp
   ·have hdy : vector_isDot (x1.getD y default) = true := hd _ (by rw [getD_at hy]; exact List.getElem_mem hy)
    have hw := isName_len (isDot_parts hdy).1
    have hlen := dotB_len hdy
    obtain ⟨k, hk⟩ := ih (acc ++ dotB (x1.getD y default)) (by rw [List.length_append]; omega)
    push_cast at hk
    have hr' : (0 : Int) ≤ y ∧ (y : Int) < x1.length := ⟨by omega, by omega⟩
    have ht : (text acc (x1.getD y default).who).length ≤ acc.length + 33 := by
     have := numB_le (x1.getD y default).who.length
     simp only [text, number, Int.toNat_natCast, List.length_append]; omega
    refine ⟨k + 1, ?_⟩
    simp only [vector_Lay.l0, Int.toNat_natCast, hr', and_self, decide_true, if_true]
    rw [if_pos (by omega), if_pos (by omega), dot_laid _ hdy, w64s (by omega), hk, drop_at default hy]
    simp
  have e : IntKind.wrap .u64 (x1.length : Int) = (x1.length : Int) := wrap_u64i (by omega) (by omega)
  have hn := numB_le x1.length
  obtain ⟨k, hk⟩ := this 0 (Nat.zero_le _) (number x0 (x1.length : Int)) (by simp only [number, Int.toNat_natCast, List.length_append]; omega)
  refine ⟨k, ?_⟩
  rw [if_neg (by simp), if_pos (by omega), if_pos rfl, e]
  refine hk.trans ?_
  simp [number, vecB]
theorem vector_Lay.ct {s0 : St} {v0 : Value} {x0 : (List UInt8)} {v1 : Value} {x1 : (List Dot)} (k0 : (kSl kY).V s0 v0 x0) (k1 : (kSl kDot).V s0 v1 x1) (hpre : x0.length + 4000 ≤ 140737488355328) : Cl Try.prog 71 #[v0, v1] s0 (Okf s0 (Fact.tup [Fact.v (kSl kY) ((layV x0 x1).1), Fact.v (kI .i64) ((layV x0 x1).2)])) := by
 obtain ⟨k, h⟩ := vector_Lay.nice x0 x1 (Kn.V_bd k0) (Kn.V_bd k1) hpre
 exact vector_Lay.ok k0 k1 h
def readDots : Nat → Str → Option (List Dot × Str)
 | 0, x => some ([], x)
 | j + 1, x => match readT 24 x with
  | none => none
  | some (w, r) => match readN r with
   | none => none
   | some (n, r) => if 4611686018427387904 < n then none else match readDots j r with
    | none => none
    | some (l, r) => some (⟨w, (n : Int)⟩ :: l, r)
def readV (x : Str) : Option (List Dot × Str) := match readN x with
 | none => none
 | some (n, r) => if 64 < n then none else match readDots n r with
  | none => none
  | some (l, r) => if rightV l = true then some (l, r) else none
def takeV (b : Str) (i : Int) : List Dot × Int × Int := if i < 0 then ([], 0, 70) else match readV (b.drop i.toNat) with
 | none => ([], 0, 70)
 | some (l, r) => (l, (b.length : Int) - r.length, 0)
theorem sfx_drop {r b : Str} (h : r <:+ b) : b.drop (b.length - r.length) = r := (List.suffix_iff_eq_drop.1 h).symm
theorem sfx_at {r b : Str} (h : r <:+ b) : ((b.length : Int) - r.length) = ((b.length - r.length : Nat) : Int) := by have := h.length_le; omega
theorem takeN_sfx {r b : Str} (h : r <:+ b) : takeN b ((b.length : Int) - r.length) = match readN r with
  | none => (0, 0, 20)
  | some (n, q) => ((n : Int), (b.length : Int) - q.length, 0) := by
 rw [sfx_at h]
 unfold takeN
 rw [if_neg (by omega), Int.toNat_natCast, sfx_drop h] <;> rfl
theorem takeT_sfx {r b : Str} (most : Int) (h : r <:+ b) : takeT b ((b.length : Int) - r.length) most = match readT most r with
  | none => ([], 0, 20)
  | some (x, q) => (x, (b.length : Int) - q.length, 0) := by
 rw [sfx_at h, takeT_at, sfx_drop h] <;> rfl
theorem readN_sfx {x r : Str} {n : Nat} (h : readN x = some (n, r)) : r <:+ x := ⟨numB n, (readN_lays h).1.symm⟩
theorem readT_sfx {x y r : Str} {most : Int} (h : readT most x = some (y, r)) : r <:+ x := ⟨numB y.length ++ y, (readT_lays h).1.symm⟩
theorem takeN_neg {b : Str} {i : Int} (h : i < 0) : takeN b i = (0, 0, 20) := takeN_off (.inl h)
theorem takeN_pos {b : Str} {i : Int} (h : ¬ i < 0) : takeN b i = match readN (b.drop i.toNat) with
  | none => (0, 0, 20)
  | some (n, q) => ((n : Int), (b.length : Int) - q.length, 0) := by
 unfold takeN; rw [if_neg h] <;> rfl
def vector_Take.l0 : Nat → (List UInt8) → Int → Int → (List Dot) → Int → Option ((List Dot) × Int × Int)
 | 0, _, _, _, _, _ => none
 | m24 + 1, x0, x1, y20, y21, y23 => (if decide (y23 < ((takeN x0 x1).1)) = true then (if (!decide (((takeT x0 y20 24).2.2) = 0)) = true then (some (([] : (List Dot)), 0, 70)) else (if ((!decide (((takeN x0 ((takeT x0 y20 24).2.1)).2.2) = 0)) || (decide (4611686018427387904 < ((takeN x0 ((takeT x0 y20 24).2.1)).1)))) = true then (some (([] : (List Dot)), 0, 70)) else (if (List.length y21 + List.length ([(⟨(takeT x0 y20 24).1, IntKind.wrap .i64 ((takeN x0 ((takeT x0 y20 24).2.1)).1)⟩ : Dot)] : List Dot)) * 24 ≤ 140737488355328 then (vector_Take.l0 m24 x0 x1 ((takeN x0 ((takeT x0 y20 24).2.1)).2.1) (y21 ++ ([(⟨(takeT x0 y20 24).1, IntKind.wrap .i64 ((takeN x0 ((takeT x0 y20 24).2.1)).1)⟩ : Dot)] : List Dot)) (IntKind.wrap .u64 (y23 + 1))) else none))) else (if (!(rightV y21)) = true then (some (([] : (List Dot)), 0, 70)) else (some (y21, y20, 0))))
def vector_Take.f (k : Nat) (x0 : (List UInt8)) (x1 : Int) : Option ((List Dot) × Int × Int) := (if ((!decide (((takeN x0 x1).2.2) = 0)) || (decide (64 < ((takeN x0 x1).1)))) = true then (some (([] : (List Dot)), 0, 70)) else (vector_Take.l0 k x0 x1 ((takeN x0 x1).2.1) ([] : (List Dot)) 0))
theorem vector_Take.ok {s0 : St} {v0 : Value} {x0 : (List UInt8)} {v1 : Value} {x1 : Int} {k : Nat} {r : (List Dot) × Int × Int} (k0 : (kSl kY).V s0 v0 x0) (k1 : (kI .i64).V s0 v1 x1) (h : vector_Take.f k x0 x1 = some r) : Cl Try.prog 62 #[v0, v1] s0 (Okf s0 (Fact.tup [Fact.v (kSl kDot) r.1, Fact.v (kI .i64) r.2.1, Fact.v (kI .i64) r.2.2])) := by
 unfold vector_Take.f at h
 refine cl_of_wp Try.func62 rfl en_62 fun a hz hd hp => ?_; have hz : a.tmps.size = 66 := hz; have E := Chg.refl (fun _ => False) s0; have h0 := V_at k0 E (hp 0 v0 rfl); have h1 := V_at k1 E (hp 1 v1 rfl); refine wp_sr ?_; refine sq_blk (its := [⟨4, _, []⟩, ⟨5, _, []⟩, ⟨6, _, []⟩]) [] hz rfl ⟨(fun a s he hf hz => opw rfl (op_assign rfl (f := Fact.own (kSl kDot) 70 2 (fun g => s0.w.heap.size ≤ g) []) own_nil)), (fun a s he hf hz => av rfl rfl i0), (fun a s he hf hz => av rfl rfl i0), trivial⟩ ?_; intro a2 s3 he hf hz hd1; have ⟨hd, E⟩ := hdE hd1 hd E he; obtain ⟨h0, h1⟩ := va2 he hf h0 h1 rfl; refine wp_sr ?_; refine sq_blk (its := [⟨15, _, []⟩, ⟨16, _, []⟩, ⟨17, _, [0, 1]⟩, ⟨14, _, [2]⟩, ⟨18, _, [3]⟩, ⟨19, _, [3]⟩, ⟨20, _, [3]⟩, ⟨7, _, [4]⟩]) [5, 6, 7] hz rfl ⟨mvs rfl rfl h0 rfl, mvs rfl rfl h1 rfl, (fun a s he hf hz q0 q1 => opw rfl (op_call rfl rfl (wire_TakeNumber.ct q0 q1))), (fun a s he hf hz q2 => opw rfl (op_move rfl (f := Fact.tup _) q2)), (fun a s he hf hz q3 => opw rfl (op_extract (f := Fact.v _ _) rfl q3 rfl)), (fun a s he hf hz q3 => opw rfl (op_extract (f := Fact.v _ _) rfl q3 rfl)), (fun a s he hf hz q3 => opw rfl (op_extract (f := Fact.v _ _) rfl q3 rfl)), avq rfl rfl, trivial⟩ ?_
 intro a4 s5 he hf hz hd1 h19 h20 h7; have ⟨hd, E⟩ := hdE hd1 hd E he; have h0 := V_at h0 he (hf 0 rfl); refine sq_blk (its := [⟨1, _, []⟩, ⟨8, _, []⟩]) [0, 1] hz rfl ⟨avs rfl rfl h19 rfl, avs rfl rfl h20 rfl, trivial⟩ ?_; intro a6 s7 he hf hz hd1 h1 h8; have ⟨hd, E⟩ := hdE hd1 hd E he; obtain ⟨h0, h7⟩ := va2 he hf h0 h7 rfl; refine wp_seq ?_; refine wp_sr ?_; have hz0 := hz; refine sq_blk (its := [⟨21, _, []⟩, ⟨22, _, [0]⟩, ⟨23, _, [1]⟩, ⟨24, _, [2]⟩, ⟨25, _, [2, 3]⟩, ⟨26, _, [2, 4]⟩]) [5] hz rfl ⟨mvs rfl rfl h8 rfl, (fun a s he hf hz q0 => ne_ rfl rfl q0 i0), mvq rfl rfl, (fun a s he hf hz q2 => og rfl rfl rfl hz hz0 rfl q2 (fun g => op_move_v rfl (V_at h7 he (hf 7 rfl)))), (fun a s he hf hz q2 q3 => og rfl rfl rfl hz hz0 rfl q2 (fun g => op_gtr rfl (q3.1 g) (lit_i (k := .u64) (n := 64) (by decide)))), (fun a s he hf hz q2 q4 => oe rfl rfl q2 (q4.1)), trivial⟩ ?_; intro a8 s9 he hf hz hd1 h26; have ⟨hd, E⟩ := hdE hd1 hd E he; obtain ⟨h0, h1, h7⟩ := va3 he hf h0 h1 h7 rfl; refine wp_condV h26 (fun hb => ?_) (fun hb => ?_)
 ·have h := ite_t hb h; refine wp_sr ?_; refine sq_blk (its := [⟨4, _, []⟩, ⟨5, _, []⟩, ⟨6, _, []⟩]) [0, 1, 2] hz rfl ⟨(fun a s he hf hz => opw rfl (op_assign rfl (f := Fact.own (kSl kDot) 70 2 (fun g => s0.w.heap.size ≤ g) []) own_nil)), (fun a s he hf hz => av rfl rfl i0), (fun a s he hf hz => av rfl rfl (lit_i (k := .i64) (n := 70) (by decide))), trivial⟩ ?_; intro a11 s12 he hf hz hd1 k4 h5 h6; have ⟨hd, E⟩ := hdE hd1 hd E he; have h4 := k4.1; refine wp_ret ?_; cases h
  exact ⟨hd, _, results_tmp3' rfl _ _ _, E, tup3 h4 h5 h6⟩
 ·have h := ite_f hb h; refine wp_skip ?_; refine wp_sr ?_; refine sq_blk (its := [⟨9, _, []⟩]) [0] hz rfl ⟨(fun a s he hf hz => opw rfl (op_assign rfl (f := Fact.own (kSl kDot) 70 2 (fun g => s0.w.heap.size ≤ g) []) own_nil)), trivial⟩ ?_; intro a14 s15 he hf hz hd1 k9; have ⟨hd, E⟩ := hdE hd1 hd E he; obtain ⟨h0, h1, h7⟩ := va3 he hf h0 h1 h7 rfl; have h9 := k9.1; have p9 := k9.2.1; have f9 := k9.2.2; refine wp_seq ?_; refine wp_sr ?_; refine sq_blk (its := [⟨27, _, []⟩, ⟨28, _, []⟩]) [0, 1] hz rfl ⟨mvs rfl rfl h7 rfl, (fun a s he hf hz => mv rfl rfl (lit_i (k := .u64) (n := 0) (by decide))), trivial⟩ ?_; intro a16 s17 he hf hz hd1 h27 h28; have ⟨hd, E⟩ := hdE hd1 hd E he; have p9 := pa he p9 (hf 9 rfl); have f9 := sb_at f9 (hf 9 rfl); obtain ⟨h0, h1, h9⟩ := va3 he hf h0 h1 h9 rfl; refine wp_block ?_
  refine wp_loop (k := k) (fun m24 a s => ∃ (y20 : Int) (y21 : (List Dot)) (y23 : Int), vector_Take.l0 m24 x0 x1 y20 y21 y23 = some r ∧ m24 ≤ k ∧ Ext s0 s ∧ a.tmps.size = 66 ∧ a.defers = [] ∧ (kSl kY).V s (a.get 0) x0 ∧ (kI .i64).V s (a.get 1) y20 ∧ (kSl kDot).V s (a.get 9) y21 ∧ Sp s (a.get 9) 70 2 ∧ (∀ g, sb (a.get 9) = some g → s0.w.heap.size ≤ g) ∧ (kI .u64).V s (a.get 27) ((takeN x0 x1).1) ∧ (kI .u64).V s (a.get 28) y23) ⟨_, _, _, h, Nat.le_refl _, E, hz, hd, h0, h1, h9, p9, f9, h27, h28⟩ ?_; rintro m24 a19 s18 ⟨y20, y21, y23, h, hkm24, E, hz, hd, h0, h1, h9, p9, f9, h27, h28⟩; obtain _ | m24 := m24
  ·cases h
  refine wp_sr ?_; refine sq_blk (its := [⟨29, _, []⟩]) [0] hz rfl ⟨(fun a s he hf hz => ls rfl rfl (V_at h28 he (hf 28 rfl)) (V_at h27 he (hf 27 rfl))), trivial⟩ ?_; intro a25 s26 he hf hz hd1 h29; have ⟨hd, E⟩ := hdE hd1 hd E he; have p9 := pa he p9 (hf 9 rfl); have f9 := sb_at f9 (hf 9 rfl); obtain ⟨h0, h1, h9, h27, h28⟩ := va5 he hf h0 h1 h9 h27 h28 rfl; refine wp_seq ?_; refine wp_condV h29 (fun hb => ?_) (fun hb => ?_)
  ·have h := ite_t hb h; refine wp_skip ?_; refine wp_seq ?_; refine wp_block ?_; refine wp_sr ?_; refine sq_blk (its := [⟨31, _, []⟩, ⟨32, _, []⟩, ⟨33, _, [0, 1]⟩, ⟨30, _, [2]⟩, ⟨34, _, [3]⟩, ⟨35, _, [3]⟩, ⟨36, _, [3]⟩, ⟨10, _, [4]⟩, ⟨11, _, [5]⟩, ⟨12, _, [6]⟩]) [7, 8, 9] hz rfl ⟨mvs rfl rfl h0 rfl, mvs rfl rfl h1 rfl, (fun a s he hf hz q0 q1 => opw rfl (op_call rfl rfl (wire_TakeText.ct q0 q1 (lit_i (k := .i64) (n := 24) (by decide))))), (fun a s he hf hz q2 => opw rfl (op_move rfl (f := Fact.tup _) q2)), (fun a s he hf hz q3 => opw rfl (op_extract (f := Fact.v _ _) rfl q3 rfl)), (fun a s he hf hz q3 => opw rfl (op_extract (f := Fact.v _ _) rfl q3 rfl)), (fun a s he hf hz q3 => opw rfl (op_extract (f := Fact.v _ _) rfl q3 rfl)), avq rfl rfl, avq rfl rfl, avq rfl rfl, trivial⟩ ?_; intro a27 s28 he hf hz hd1 h10 h11 h12; have ⟨hd, E⟩ := hdE hd1 hd E he; have p9 := pa he p9 (hf 9 rfl); have f9 := sb_at f9 (hf 9 rfl); obtain ⟨h0, h9, h27, h28⟩ := va4 he hf h0 h9 h27 h28 rfl; refine wp_seq ?_; refine wp_sr ?_; refine sq_blk (its := [⟨37, _, []⟩, ⟨38, _, [0]⟩]) [1] hz rfl ⟨mvs rfl rfl h12 rfl, (fun a s he hf hz q0 => ne_ rfl rfl q0 i0), trivial⟩ ?_
   intro a29 s30 he hf hz hd1 h38; have ⟨hd, E⟩ := hdE hd1 hd E he; have p9 := pa he p9 (hf 9 rfl); have f9 := sb_at f9 (hf 9 rfl); obtain ⟨h0, h9, h10, h11, h27, h28⟩ := va6 he hf h0 h9 h10 h11 h27 h28 rfl; refine wp_condV h38 (fun hb => ?_) (fun hb => ?_)
   ·have h := ite_t hb h; refine wp_sr ?_; refine sq_blk (its := [⟨4, _, []⟩, ⟨5, _, []⟩, ⟨6, _, []⟩]) [0, 1, 2] hz rfl ⟨(fun a s he hf hz => opw rfl (op_assign rfl (f := Fact.own (kSl kDot) 70 2 (fun g => s0.w.heap.size ≤ g) []) own_nil)), (fun a s he hf hz => av rfl rfl i0), (fun a s he hf hz => av rfl rfl (lit_i (k := .i64) (n := 70) (by decide))), trivial⟩ ?_; intro a32 s33 he hf hz hd1 k4 h5 h6; have ⟨hd, E⟩ := hdE hd1 hd E he; have h4 := k4.1; refine wp_ret ?_; cases h
    exact ⟨hd, _, results_tmp3' rfl _ _ _, E, tup3 h4 h5 h6⟩
   ·have h := ite_f hb h; refine wp_skip ?_; refine wp_sr ?_; refine sq_blk (its := [⟨40, _, []⟩, ⟨41, _, []⟩, ⟨42, _, [0, 1]⟩, ⟨39, _, [2]⟩, ⟨43, _, [3]⟩, ⟨44, _, [3]⟩, ⟨45, _, [3]⟩, ⟨13, _, [4]⟩]) [5, 6, 7] hz rfl ⟨mvs rfl rfl h0 rfl, mvs rfl rfl h11 rfl, (fun a s he hf hz q0 q1 => opw rfl (op_call rfl rfl (wire_TakeNumber.ct q0 q1))), (fun a s he hf hz q2 => opw rfl (op_move rfl (f := Fact.tup _) q2)), (fun a s he hf hz q3 => opw rfl (op_extract (f := Fact.v _ _) rfl q3 rfl)), (fun a s he hf hz q3 => opw rfl (op_extract (f := Fact.v _ _) rfl q3 rfl)), (fun a s he hf hz q3 => opw rfl (op_extract (f := Fact.v _ _) rfl q3 rfl)), avq rfl rfl, trivial⟩ ?_; intro a34 s35 he hf hz hd1 h44 h45 h13; have ⟨hd, E⟩ := hdE hd1 hd E he; have p9 := pa he p9 (hf 9 rfl); have f9 := sb_at f9 (hf 9 rfl); obtain ⟨h0, h9, h10, h27, h28⟩ := va5 he hf h0 h9 h10 h27 h28 rfl; refine sq_blk (its := [⟨11, _, []⟩, ⟨12, _, []⟩]) [0, 1] hz rfl ⟨avs rfl rfl h44 rfl, avs rfl rfl h45 rfl, trivial⟩ ?_; intro a36 s37 he hf hz hd1 h11 h12; have hd := hd1.trans hd; have p9 := pa he p9 (hf 9 rfl); have f9 := sb_at f9 (hf 9 rfl)
    obtain ⟨h0, h9, h10, h13, h27, h28⟩ := va6 he hf h0 h9 h10 h13 h27 h28 rfl; have E := E.trans he; refine wp_seq ?_; refine wp_sr ?_; have hz0 := hz; refine sq_blk (its := [⟨46, _, []⟩, ⟨47, _, [0]⟩, ⟨48, _, [1]⟩, ⟨49, _, [2]⟩, ⟨50, _, [2, 3]⟩, ⟨51, _, [2, 4]⟩]) [5] hz rfl ⟨mvs rfl rfl h12 rfl, (fun a s he hf hz q0 => ne_ rfl rfl q0 i0), mvq rfl rfl, (fun a s he hf hz q2 => og rfl rfl rfl hz hz0 rfl q2 (fun g => op_move_v rfl (V_at h13 he (hf 13 rfl)))), (fun a s he hf hz q2 q3 => og rfl rfl rfl hz hz0 rfl q2 (fun g => op_gtr rfl (q3.1 g) (lit_i (k := .u64) (n := 4611686018427387904) (by decide)))), (fun a s he hf hz q2 q4 => oe rfl rfl q2 (q4.1)), trivial⟩ ?_; intro a38 s39 he hf hz hd1 h51; have ⟨hd, E⟩ := hdE hd1 hd E he; have p9 := pa he p9 (hf 9 rfl); have f9 := sb_at f9 (hf 9 rfl); obtain ⟨h0, h9, h10, h11, h13, h27, h28⟩ := va7 he hf h0 h9 h10 h11 h13 h27 h28 rfl; refine wp_condV h51 (fun hb => ?_) (fun hb => ?_)
    ·have h := ite_t hb h; refine wp_sr ?_; refine sq_blk (its := [⟨4, _, []⟩, ⟨5, _, []⟩, ⟨6, _, []⟩]) [0, 1, 2] hz rfl ⟨(fun a s he hf hz => opw rfl (op_assign rfl (f := Fact.own (kSl kDot) 70 2 (fun g => s0.w.heap.size ≤ g) []) own_nil)), (fun a s he hf hz => av rfl rfl i0), (fun a s he hf hz => av rfl rfl (lit_i (k := .i64) (n := 70) (by decide))), trivial⟩ ?_; intro a41 s42 he hf hz hd1 k4 h5 h6; have ⟨hd, E⟩ := hdE hd1 hd E he; have h4 := k4.1; refine wp_ret ?_; cases h
     exact ⟨hd, _, results_tmp3' rfl _ _ _, E, tup3 h4 h5 h6⟩
    ·have h := ite_f hb h; refine wp_skip ?_; refine wp_region ?_; refine sq_blk (its := [⟨52, _, []⟩, ⟨53, _, []⟩, ⟨54, _, []⟩, ⟨55, _, [2]⟩, ⟨56, _, [1, 3]⟩, ⟨57, _, [4]⟩]) [0, 5] hz rfl ⟨(fun a s he hf hz => opw rfl (op_move rfl (f := Fact.own _ _ _ _ _) (own_at h9 p9 f9 he (hf 9 rfl)))), mvs rfl rfl h10 rfl, mvs rfl rfl h13 rfl, (fun a s he hf hz q2 => cv rfl rfl u_89 u_2 q2), (fun a s he hf hz q1 q3 => opw rfl (op_build rfl bt_70 (ps := [(0, [(a.get 53)]), (1, [(a.get 55)])]) ⟨rfl, V_cells1 (s := s) rfl q1, rfl, V_cells1 (s := s) rfl q3, trivial⟩ rfl (f := Fact.v kDot (⟨(takeT x0 y20 24).1, IntKind.wrap .i64 ((takeN x0 ((takeT x0 y20 24).2.1)).1)⟩ : Dot)) (V_mk rfl (kDot_close q1 q3)))), (fun a s he hf hz q4 => opw rfl ((by obtain ⟨e43, w45, r44⟩ := V_open rfl q4; obtain ⟨u46, u47, rfl, c48, c49⟩ := kDot_open r44; exact op_lit_o (Q := fun g => s0.w.heap.size ≤ g) (d := kDot) rfl lt_32 (zc := [.string ⟨#[]⟩, .int .i64 0]) (by kernel_rfl) (ps := [(0, [u46, u47])]) ⟨rfl, congrArg Value.cells w45, trivial⟩ rfl (by decide) (ys := ([(⟨(takeT x0 y20 24).1, IntKind.wrap .i64 ((takeN x0 ((takeT x0 y20 24).2.1)).1)⟩ : Dot)] : List Dot)) rfl (by decide) rfl (lit_rows1 (show kDot.R _ [u46, u47] (⟨(takeT x0 y20 24).1, IntKind.wrap .i64 ((takeN x0 ((takeT x0 y20 24).2.1)).1)⟩ : Dot) from kDot_close c48 c49))))), trivial⟩ ?_
     intro a51 s52 he hf hz hd1 k52 k57; have ⟨hd, E⟩ := hdE hd1 hd E he; obtain ⟨h0, h11, h27, h28⟩ := va4 he hf h0 h11 h27 h28 rfl; have h52 := k52.1; have p52 := k52.2.1; have f52 := k52.2.2; have h57 := k57.1; obtain ⟨D55, h⟩ := need h; refine sq_set hz rfl rfl rfl (op_append2 rfl el_32 h52 p52 h57 D55 rfl (fun v s54 he hv hp hq => fun a53 hd' hf hz hd1 => ?_)); have f58' : ∀ g, sb (a53.get 58) = some g → s0.w.heap.size ≤ g := by
      intro g hg; rw [hd'] at hg; rcases hq g hg with h | h
      ·have h1 := f52 g h; exact h1
      ·have h2 := E.size; exact (by omega)
     have hd := hd1.trans hd; obtain ⟨h0, h11, h27, h28⟩ := va4 he hf h0 h11 h27 h28 rfl; have E := Chg.chg E he (fun b e h => absurd h (Nat.not_lt.2 (f52 b e))); have h58 := V_eq hd' hv; have p58 := Sp_at hp (Chg.refl (fun _ => False) _) (fun _ _ hf => hf) hd'; have f58 := f58'; refine sq_blk (its := [⟨59, _, []⟩, ⟨9, _, []⟩, ⟨1, _, [0]⟩]) [1, 2] hz rfl ⟨mvs rfl rfl h11 rfl, (fun a s he hf hz => opw rfl (op_assign rfl (f := Fact.own _ _ _ _ _) (own_at h58 p58 f58 he (hf 58 rfl)))), avq rfl rfl, trivial⟩ ?_; intro a57 s58 he hf hz hd1 k9 h1; have hd := hd1.trans hd; obtain ⟨h0, h27, h28⟩ := va3 he hf h0 h27 h28 rfl; have E := E.trans he; have h9 := k9.1; have p9 := k9.2.1; have f9 := k9.2.2; refine wp_region ?_; refine sq_blk (its := [⟨60, _, []⟩]) [0] hz rfl ⟨(fun a s he hf hz => ad rfl rfl (V_at h28 he (hf 28 rfl)) (lit_i (k := .u64) (n := 1) (by decide))), trivial⟩ ?_; intro a59 s60 he hf hz hd1 h60; have ⟨hd, E⟩ := hdE hd1 hd E he; have p9 := pa he p9 (hf 9 rfl); have f9 := sb_at f9 (hf 9 rfl); obtain ⟨h0, h1, h9, h27⟩ := va4 he hf h0 h1 h9 h27 rfl; refine sq_blk (its := [⟨28, _, []⟩]) [0] hz rfl ⟨mvs rfl rfl h60 rfl, trivial⟩ ?_
     intro a61 s62 he hf hz hd1 h28; have ⟨hd, E⟩ := hdE hd1 hd E he; have p9 := pa he p9 (hf 9 rfl); have f9 := sb_at f9 (hf 9 rfl); obtain ⟨h0, h1, h9, h27⟩ := va4 he hf h0 h1 h9 h27 rfl; exact ⟨_, (by omega : m24 < m24 + 1), _, _, _, h, by omega, E, hz, hd, h0, h1, h9, p9, (fun g hg => (f9 g hg)), h27, h28⟩
  ·have h := ite_f hb h; refine wp_exit ?_; refine then_exit ?_; refine then_exit ?_; refine inBlock_hit ?_; refine wp_seq ?_; refine wp_sr ?_; refine sq_blk (its := [⟨61, _, []⟩, ⟨62, _, [0]⟩, ⟨63, _, [1]⟩]) [2] hz rfl ⟨(fun a s he hf hz => opw rfl (op_move rfl (f := Fact.own _ _ _ _ _) (own_at h9 p9 f9 he (hf 9 rfl)))), (fun a s he hf hz q0 => opw rfl (op_call rfl rfl (vector_Right.ct q0.1))), (fun a s he hf hz q1 => no_ rfl rfl q1), trivial⟩ ?_; intro a63 s64 he hf hz hd1 h63; have ⟨hd, E⟩ := hdE hd1 hd E he; have p9 := pa he p9 (hf 9 rfl); have f9 := sb_at f9 (hf 9 rfl); obtain ⟨h1, h9⟩ := va2 he hf h1 h9 rfl; refine wp_condV h63 (fun hb => ?_) (fun hb => ?_)
   ·have h := ite_t hb h; refine wp_sr ?_; refine sq_blk (its := [⟨4, _, []⟩, ⟨5, _, []⟩, ⟨6, _, []⟩]) [0, 1, 2] hz rfl ⟨(fun a s he hf hz => opw rfl (op_assign rfl (f := Fact.own (kSl kDot) 70 2 (fun g => s0.w.heap.size ≤ g) []) own_nil)), (fun a s he hf hz => av rfl rfl i0), (fun a s he hf hz => av rfl rfl (lit_i (k := .i64) (n := 70) (by decide))), trivial⟩ ?_; intro a66 s67 he hf hz hd1 k4 h5 h6; have ⟨hd, E⟩ := hdE hd1 hd E he; have h4 := k4.1; refine wp_ret ?_; cases h
    exact ⟨hd, _, results_tmp3' rfl _ _ _, E, tup3 h4 h5 h6⟩
   ·have h := ite_f hb h; refine wp_skip ?_; refine wp_sr ?_; refine sq_blk (its := [⟨64, _, []⟩, ⟨65, _, []⟩, ⟨4, _, [0]⟩, ⟨5, _, [1]⟩, ⟨6, _, []⟩]) [2, 3, 4] hz rfl ⟨(fun a s he hf hz => opw rfl (op_move rfl (f := Fact.own _ _ _ _ _) (own_at h9 p9 f9 he (hf 9 rfl)))), mvs rfl rfl h1 rfl, (fun a s he hf hz q0 => opw rfl (op_assign rfl (f := Fact.own _ _ _ _ _) q0)), avq rfl rfl, (fun a s he hf hz => av rfl rfl i0), trivial⟩ ?_; intro a68 s69 he hf hz hd1 k4 h5 h6; have ⟨hd, E⟩ := hdE hd1 hd E he; have h4 := k4.1; refine wp_ret ?_; cases h
    exact ⟨hd, _, results_tmp3' rfl _ _ _, E, tup3 h4 h5 h6⟩
theorem vector_Take.e0 {b : Str} {x1 : Int} {n : Nat} (hb : b.length ≤ maxLen) (hn : (takeN b x1).1 = (n : Int)) (h64 : n ≤ 64) : ∀ j, j ≤ n → ∀ (r : Str) (acc : List Dot), r <:+ b → acc.length = n - j → ∃ k, vector_Take.l0 k b x1 ((b.length : Int) - r.length) acc ((n - j : Nat) : Int) =
  some (match readDots j r with | none => ([], 0, 70) | some (l, q) => if rightV (acc ++ l) = true then (acc ++ l, (b.length : Int) - q.length, 0) else ([], 0, 70)) := by
 intro j
 induction j with
 | zero =>
  intro _ r acc hr ha
  refine ⟨1, ?_⟩
  simp only [vector_Take.l0, hn, Nat.sub_zero, Int.lt_irrefl, decide_false, Bool.false_eq_true, if_false, readDots, List.append_nil]
  cases rightV acc <;> simp
 | succ j ih =>
  intro hj r acc hr ha
  have h1 : ((n - (j + 1) : Nat) : Int) < (n : Int) := by omega
  simp only [readDots]
  have ht := takeT_sfx 24 hr
  cases e1 : readT 24 r with
  | none =>
   rw [e1] at ht
   refine ⟨1, ?_⟩
   simp only [vector_Take.l0, hn, h1, decide_true, if_true, ht]
   rfl
  | some wr =>
   obtain ⟨w, r1⟩ := wr
   rw [e1] at ht
   have hr1 := (readT_sfx e1).trans hr
   have hnn := takeN_sfx hr1
   simp only []
   cases e2 : readN r1 with
   | none =>
    rw [e2] at hnn
    refine ⟨1, ?_⟩
    simp only [vector_Take.l0, hn, h1, decide_true, if_true, ht, hnn]
    rfl
   | some nr =>
    obtain ⟨m, r2⟩ := nr
    rw [e2] at hnn
    have hr2 := (readN_sfx e2).trans hr1
    simp only []
    by_cases hm : 4611686018427387904 < m
    ·have hm' : (4611686018427387904 : Int) < (m : Int) := by omega
     refine ⟨1, ?_⟩
     simp only [vector_Take.l0, hn, h1, decide_true, if_true, ht, hnn, hm', if_pos hm]
     rfl
    ·have hm' : ¬ (4611686018427387904 : Int) < (m : Int) := by omega
     obtain ⟨k, hk⟩ := ih (by omega) r2 (acc ++ [⟨w, (m : Int)⟩]) hr2 (by simp; omega)
     refine ⟨k + 1, ?_⟩
     have ew : IntKind.wrap .i64 (m : Int) = (m : Int) := w64 (by omega) (by omega)
     have en : IntKind.wrap .u64 (((n - (j + 1) : Nat) : Int) + 1) = ((n - j : Nat) : Int) := by rw [wrap_u64i (by omega) (by omega)]; omega
     simp only [vector_Take.l0, hn, h1, decide_true, if_true, ht, hnn, hm', decide_false, Bool.not_true, Bool.or_self, Bool.false_eq_true, if_false, if_neg hm, ew, en]
     rw [if_pos (by simp; omega), hk]
     cases readDots j r2 with
     | none => rfl
     | some lq => obtain ⟨l, q⟩ := lq; simp
theorem vector_Take.nice (x0 : Str) (x1 : Int) (b0 : (kSl kY).bd x0) (b1 : (kI .i64).bd x1) : ∃ k, vector_Take.f k x0 x1 = some (takeV x0 x1) := by
 have hb : x0.length ≤ maxLen := b0.1
 unfold vector_Take.f takeV readV
 by_cases h0 : x1 < 0
 ·exact ⟨0, by rw [takeN_neg h0, if_pos h0]; rfl⟩
 ·have ht := takeN_pos (b := x0) h0
  rw [if_neg h0]
  cases e1 : readN (x0.drop x1.toNat) with
  | none =>
   rw [e1] at ht
   exact ⟨0, by rw [ht]; rfl⟩
  | some nr =>
   obtain ⟨n, r⟩ := nr
   rw [e1] at ht
   simp only [ht]
   by_cases h64 : 64 < n
   ·have h64' : (64 : Int) < (n : Int) := by omega
    exact ⟨0, by simp only [h64', decide_true, if_pos h64]; rfl⟩
   ·have h64' : ¬ (64 : Int) < (n : Int) := by omega
    have hr : r <:+ x0 := (readN_sfx e1).trans (List.drop_suffix _ _)
    obtain ⟨k, hk⟩ := vector_Take.e0 hb (by rw [ht]) (by omega) n (Nat.le_refl _) r [] hr (by simp)
    refine ⟨k, ?_⟩
    simp only [h64', decide_true, decide_false, Bool.not_true, Bool.or_self, Bool.false_eq_true, if_false, if_neg h64]
    rw [Nat.sub_self] at hk
    refine hk.trans ?_
    cases readDots n r with
    | none => rfl
    | some lq => obtain ⟨l, q⟩ := lq; simp only [List.nil_append]; cases rightV l <;> rfl
theorem vector_Take.ct {s0 : St} {v0 : Value} {x0 : (List UInt8)} {v1 : Value} {x1 : Int} (k0 : (kSl kY).V s0 v0 x0) (k1 : (kI .i64).V s0 v1 x1) : Cl Try.prog 62 #[v0, v1] s0 (Okf s0 (Fact.tup [Fact.v (kSl kDot) ((takeV x0 x1).1), Fact.v (kI .i64) ((takeV x0 x1).2.1), Fact.v (kI .i64) ((takeV x0 x1).2.2)])) := by
 obtain ⟨k, h⟩ := vector_Take.nice x0 x1 (Kn.V_bd k0) (Kn.V_bd k1)
 exact vector_Take.ok k0 k1 h
def ref07_Take.l0 : Nat → (List UInt8) → Int → Int → (List Dot) → Int → Option ((List Dot) × Int × Int)
 | 0, _, _, _, _, _ => none
 | m22 + 1, x0, x1, y18, y19, y21 => (if decide (y21 < (IntKind.wrap .i64 ((takeN x0 x1).1))) = true then (if (((!decide (((takeT x0 y18 24).2.2) = 0)) || (!decide (((takeN x0 ((takeT x0 y18 24).2.1)).2.2) = 0))) || (decide (4611686018427387904 < ((takeN x0 ((takeT x0 y18 24).2.1)).1)))) = true then (some (([] : (List Dot)), 0, 70)) else (if (List.length y19 + List.length ([(⟨(takeT x0 y18 24).1, IntKind.wrap .i64 ((takeN x0 ((takeT x0 y18 24).2.1)).1)⟩ : Dot)] : List Dot)) * 24 ≤ 140737488355328 then (ref07_Take.l0 m22 x0 x1 ((takeN x0 ((takeT x0 y18 24).2.1)).2.1) (y19 ++ ([(⟨(takeT x0 y18 24).1, IntKind.wrap .i64 ((takeN x0 ((takeT x0 y18 24).2.1)).1)⟩ : Dot)] : List Dot)) (IntKind.wrap .i64 (y21 + 1))) else none)) else (if (!(rightV y19)) = true then (some (([] : (List Dot)), 0, 70)) else (some (y19, y18, 0))))
def ref07_Take.f (k : Nat) (x0 : (List UInt8)) (x1 : Int) : Option ((List Dot) × Int × Int) := (if ((!decide (((takeN x0 x1).2.2) = 0)) || (decide (64 < ((takeN x0 x1).1)))) = true then (some (([] : (List Dot)), 0, 70)) else (ref07_Take.l0 k x0 x1 ((takeN x0 x1).2.1) ([] : (List Dot)) 0))
theorem ref07_Take.ok {s0 : St} {v0 : Value} {x0 : (List UInt8)} {v1 : Value} {x1 : Int} {k : Nat} {r : (List Dot) × Int × Int} (k0 : (kSl kY).V s0 v0 x0) (k1 : (kI .i64).V s0 v1 x1) (h : ref07_Take.f k x0 x1 = some r) : Cl Try.prog 67 #[v0, v1] s0 (Okf s0 (Fact.tup [Fact.v (kSl kDot) r.1, Fact.v (kI .i64) r.2.1, Fact.v (kI .i64) r.2.2])) := by
 unfold ref07_Take.f at h
 refine cl_of_wp Try.func67 rfl en_67 fun a hz hd hp => ?_; have hz : a.tmps.size = 76 := hz; have E := Chg.refl (fun _ => False) s0; have h0 := V_at k0 E (hp 0 v0 rfl); have h1 := V_at k1 E (hp 1 v1 rfl); refine wp_sr ?_; refine sq_blk (its := [⟨4, _, []⟩, ⟨5, _, []⟩, ⟨6, _, []⟩]) [] hz rfl ⟨(fun a s he hf hz => opw rfl (op_assign rfl (f := Fact.own (kSl kDot) 70 2 (fun g => s0.w.heap.size ≤ g) []) own_nil)), (fun a s he hf hz => av rfl rfl i0), (fun a s he hf hz => av rfl rfl i0), trivial⟩ ?_; intro a2 s3 he hf hz hd1; have ⟨hd, E⟩ := hdE hd1 hd E he; obtain ⟨h0, h1⟩ := va2 he hf h0 h1 rfl; refine wp_sr ?_; refine sq_blk (its := [⟨20, _, []⟩, ⟨21, _, []⟩, ⟨22, _, [0, 1]⟩, ⟨19, _, [2]⟩, ⟨23, _, [3]⟩, ⟨24, _, [3]⟩, ⟨25, _, [3]⟩, ⟨7, _, [4]⟩, ⟨8, _, [5]⟩, ⟨9, _, [6]⟩]) [7, 8, 9] hz rfl ⟨mvs rfl rfl h0 rfl, mvs rfl rfl h1 rfl, (fun a s he hf hz q0 q1 => opw rfl (op_call rfl rfl (ref02_TakeNumber.ct q0 q1))), (fun a s he hf hz q2 => opw rfl (op_move rfl (f := Fact.tup _) q2)), (fun a s he hf hz q3 => opw rfl (op_extract (f := Fact.v _ _) rfl q3 rfl)), (fun a s he hf hz q3 => opw rfl (op_extract (f := Fact.v _ _) rfl q3 rfl)), (fun a s he hf hz q3 => opw rfl (op_extract (f := Fact.v _ _) rfl q3 rfl)), avq rfl rfl, avq rfl rfl, avq rfl rfl, trivial⟩ ?_
 intro a4 s5 he hf hz hd1 h7 h8 h9; have ⟨hd, E⟩ := hdE hd1 hd E he; have h0 := V_at h0 he (hf 0 rfl); refine wp_seq ?_; refine wp_sr ?_; have hz0 := hz; refine sq_blk (its := [⟨26, _, []⟩, ⟨27, _, [0]⟩, ⟨28, _, [1]⟩, ⟨29, _, [2]⟩, ⟨30, _, [2, 3]⟩, ⟨31, _, [2, 4]⟩]) [5] hz rfl ⟨mvs rfl rfl h9 rfl, (fun a s he hf hz q0 => ne_ rfl rfl q0 i0), mvq rfl rfl, (fun a s he hf hz q2 => og rfl rfl rfl hz hz0 rfl q2 (fun g => op_move_v rfl (V_at h7 he (hf 7 rfl)))), (fun a s he hf hz q2 q3 => og rfl rfl rfl hz hz0 rfl q2 (fun g => op_gtr rfl (q3.1 g) (lit_i (k := .u64) (n := 64) (by decide)))), (fun a s he hf hz q2 q4 => oe rfl rfl q2 (q4.1)), trivial⟩ ?_; intro a6 s7 he hf hz hd1 h31; have ⟨hd, E⟩ := hdE hd1 hd E he; obtain ⟨h0, h7, h8⟩ := va3 he hf h0 h7 h8 rfl; refine wp_condV h31 (fun hb => ?_) (fun hb => ?_)
 ·have h := ite_t hb h; refine wp_sr ?_; refine sq_blk (its := [⟨4, _, []⟩, ⟨5, _, []⟩, ⟨6, _, []⟩]) [0, 1, 2] hz rfl ⟨(fun a s he hf hz => opw rfl (op_assign rfl (f := Fact.own (kSl kDot) 70 2 (fun g => s0.w.heap.size ≤ g) []) own_nil)), (fun a s he hf hz => av rfl rfl i0), (fun a s he hf hz => av rfl rfl (lit_i (k := .i64) (n := 70) (by decide))), trivial⟩ ?_; intro a9 s10 he hf hz hd1 k4 h5 h6; have ⟨hd, E⟩ := hdE hd1 hd E he; have h4 := k4.1; refine wp_ret ?_; cases h
  exact ⟨hd, _, results_tmp3' rfl _ _ _, E, tup3 h4 h5 h6⟩
 ·have h := ite_f hb h; refine wp_skip ?_; refine wp_sr ?_; refine sq_blk (its := [⟨10, _, []⟩]) [0] hz rfl ⟨(fun a s he hf hz => opw rfl (op_assign rfl (f := Fact.own (kSl kDot) 70 2 (fun g => s0.w.heap.size ≤ g) []) own_nil)), trivial⟩ ?_; intro a12 s13 he hf hz hd1 k10; have ⟨hd, E⟩ := hdE hd1 hd E he; obtain ⟨h0, h7, h8⟩ := va3 he hf h0 h7 h8 rfl; have h10 := k10.1; have p10 := k10.2.1; have f10 := k10.2.2; refine wp_seq ?_; refine wp_sr ?_; refine sq_blk (its := [⟨11, _, []⟩]) [0] hz rfl ⟨(fun a s he hf hz => av rfl rfl i0), trivial⟩ ?_; intro a14 s15 he hf hz hd1 h11; have ⟨hd, E⟩ := hdE hd1 hd E he; have p10 := pa he p10 (hf 10 rfl); have f10 := sb_at f10 (hf 10 rfl); obtain ⟨h0, h7, h8, h10⟩ := va4 he hf h0 h7 h8 h10 rfl; refine wp_block ?_
  refine wp_loop (k := k) (fun m22 a s => ∃ (y18 : Int) (y19 : (List Dot)) (y21 : Int), ref07_Take.l0 m22 x0 x1 y18 y19 y21 = some r ∧ m22 ≤ k ∧ Ext s0 s ∧ a.tmps.size = 76 ∧ a.defers = [] ∧ (kSl kY).V s (a.get 0) x0 ∧ (kI .u64).V s (a.get 7) ((takeN x0 x1).1) ∧ (kI .i64).V s (a.get 8) y18 ∧ (kSl kDot).V s (a.get 10) y19 ∧ Sp s (a.get 10) 70 2 ∧ (∀ g, sb (a.get 10) = some g → s0.w.heap.size ≤ g) ∧ (kI .i64).V s (a.get 11) y21) ⟨_, _, _, h, Nat.le_refl _, E, hz, hd, h0, h7, h8, h10, p10, f10, h11⟩ ?_; rintro m22 a17 s16 ⟨y18, y19, y21, h, hkm22, E, hz, hd, h0, h7, h8, h10, p10, f10, h11⟩; obtain _ | m22 := m22
  ·cases h
  refine wp_seq ?_; refine wp_sr ?_; refine sq_blk (its := [⟨32, _, []⟩, ⟨33, _, []⟩, ⟨34, _, [1]⟩, ⟨35, _, [0, 2]⟩]) [3] hz rfl ⟨mvs rfl rfl h11 rfl, mvs rfl rfl h7 rfl, (fun a s he hf hz q1 => cv rfl rfl u_89 u_3 q1), (fun a s he hf hz q0 q2 => ls rfl rfl q0 q2), trivial⟩ ?_; intro a23 s24 he hf hz hd1 h35; have ⟨hd, E⟩ := hdE hd1 hd E he; have p10 := pa he p10 (hf 10 rfl); have f10 := sb_at f10 (hf 10 rfl); obtain ⟨h0, h7, h8, h10, h11⟩ := va5 he hf h0 h7 h8 h10 h11 rfl; refine wp_condV h35 (fun hb => ?_) (fun hb => ?_)
  ·have h := ite_t hb h; refine wp_skip ?_; refine wp_seq ?_; refine wp_block ?_; refine wp_sr ?_; refine sq_blk (its := [⟨39, _, []⟩, ⟨40, _, []⟩, ⟨41, _, [0, 1]⟩, ⟨38, _, [2]⟩, ⟨42, _, [3]⟩, ⟨43, _, [3]⟩, ⟨44, _, [3]⟩, ⟨12, _, [4]⟩, ⟨13, _, [5]⟩, ⟨14, _, [6]⟩]) [7, 8, 9] hz rfl ⟨mvs rfl rfl h0 rfl, mvs rfl rfl h8 rfl, (fun a s he hf hz q0 q1 => opw rfl (op_call rfl rfl (ref02_TakeText.ct q0 q1 (lit_i (k := .i64) (n := 24) (by decide))))), (fun a s he hf hz q2 => opw rfl (op_move rfl (f := Fact.tup _) q2)), (fun a s he hf hz q3 => opw rfl (op_extract (f := Fact.v _ _) rfl q3 rfl)), (fun a s he hf hz q3 => opw rfl (op_extract (f := Fact.v _ _) rfl q3 rfl)), (fun a s he hf hz q3 => opw rfl (op_extract (f := Fact.v _ _) rfl q3 rfl)), avq rfl rfl, avq rfl rfl, avq rfl rfl, trivial⟩ ?_; intro a25 s26 he hf hz hd1 h12 h13 h14; have ⟨hd, E⟩ := hdE hd1 hd E he; have p10 := pa he p10 (hf 10 rfl); have f10 := sb_at f10 (hf 10 rfl); obtain ⟨h0, h7, h10, h11⟩ := va4 he hf h0 h7 h10 h11 rfl; refine wp_sr ?_
   refine sq_blk (its := [⟨46, _, []⟩, ⟨47, _, []⟩, ⟨48, _, [0, 1]⟩, ⟨45, _, [2]⟩, ⟨49, _, [3]⟩, ⟨50, _, [3]⟩, ⟨51, _, [3]⟩, ⟨15, _, [4]⟩, ⟨16, _, [5]⟩, ⟨17, _, [6]⟩]) [7, 8, 9] hz rfl ⟨mvs rfl rfl h0 rfl, mvs rfl rfl h13 rfl, (fun a s he hf hz q0 q1 => opw rfl (op_call rfl rfl (ref02_TakeNumber.ct q0 q1))), (fun a s he hf hz q2 => opw rfl (op_move rfl (f := Fact.tup _) q2)), (fun a s he hf hz q3 => opw rfl (op_extract (f := Fact.v _ _) rfl q3 rfl)), (fun a s he hf hz q3 => opw rfl (op_extract (f := Fact.v _ _) rfl q3 rfl)), (fun a s he hf hz q3 => opw rfl (op_extract (f := Fact.v _ _) rfl q3 rfl)), avq rfl rfl, avq rfl rfl, avq rfl rfl, trivial⟩ ?_; intro a27 s28 he hf hz hd1 h15 h16 h17; have ⟨hd, E⟩ := hdE hd1 hd E he; have p10 := pa he p10 (hf 10 rfl); have f10 := sb_at f10 (hf 10 rfl); obtain ⟨h0, h7, h10, h11, h12, h14⟩ := va6 he hf h0 h7 h10 h11 h12 h14 rfl; refine wp_seq ?_; refine wp_sr ?_; have hz0 := hz; refine sq_blk (its := [⟨52, _, []⟩, ⟨53, _, [0]⟩, ⟨54, _, [1]⟩, ⟨55, _, [2]⟩, ⟨56, _, [2, 3]⟩, ⟨57, _, [2, 4]⟩, ⟨58, _, [5]⟩, ⟨59, _, [6]⟩, ⟨60, _, [6, 7]⟩, ⟨61, _, [6, 8]⟩]) [9] hz rfl ⟨mvs rfl rfl h14 rfl, (fun a s he hf hz q0 => ne_ rfl rfl q0 i0), mvq rfl rfl, (fun a s he hf hz q2 => og rfl rfl rfl hz hz0 rfl q2 (fun g => op_move_v rfl (V_at h17 he (hf 17 rfl)))), (fun a s he hf hz q2 q3 => og rfl rfl rfl hz hz0 rfl q2 (fun g => op_neq rfl (q3.1 g) i0)), (fun a s he hf hz q2 q4 => oe rfl rfl q2 (q4.1)), mvq rfl rfl, (fun a s he hf hz q6 => og rfl rfl rfl hz hz0 rfl q6 (fun g => op_move_v rfl (V_at h15 he (hf 15 rfl)))), (fun a s he hf hz q6 q7 => og rfl rfl rfl hz hz0 rfl q6 (fun g => op_gtr rfl (q7.1 g) (lit_i (k := .u64) (n := 4611686018427387904) (by decide)))), (fun a s he hf hz q6 q8 => oe rfl rfl q6 (q8.1)), trivial⟩ ?_
   intro a29 s30 he hf hz hd1 h61; have ⟨hd, E⟩ := hdE hd1 hd E he; have p10 := pa he p10 (hf 10 rfl); have f10 := sb_at f10 (hf 10 rfl); obtain ⟨h0, h7, h10, h11, h12, h15, h16⟩ := va7 he hf h0 h7 h10 h11 h12 h15 h16 rfl; refine wp_condV h61 (fun hb => ?_) (fun hb => ?_)
   ·have h := ite_t hb h; refine wp_sr ?_; refine sq_blk (its := [⟨4, _, []⟩, ⟨5, _, []⟩, ⟨6, _, []⟩]) [0, 1, 2] hz rfl ⟨(fun a s he hf hz => opw rfl (op_assign rfl (f := Fact.own (kSl kDot) 70 2 (fun g => s0.w.heap.size ≤ g) []) own_nil)), (fun a s he hf hz => av rfl rfl i0), (fun a s he hf hz => av rfl rfl (lit_i (k := .i64) (n := 70) (by decide))), trivial⟩ ?_; intro a32 s33 he hf hz hd1 k4 h5 h6; have ⟨hd, E⟩ := hdE hd1 hd E he; have h4 := k4.1; refine wp_ret ?_; cases h
    exact ⟨hd, _, results_tmp3' rfl _ _ _, E, tup3 h4 h5 h6⟩
   ·have h := ite_f hb h; refine wp_skip ?_; refine wp_sr ?_; refine sq_blk (its := [⟨62, _, []⟩, ⟨63, _, []⟩, ⟨64, _, []⟩, ⟨65, _, [2]⟩, ⟨66, _, [1, 3]⟩, ⟨67, _, [4]⟩]) [0, 5] hz rfl ⟨(fun a s he hf hz => opw rfl (op_move rfl (f := Fact.own _ _ _ _ _) (own_at h10 p10 f10 he (hf 10 rfl)))), mvs rfl rfl h12 rfl, mvs rfl rfl h15 rfl, (fun a s he hf hz q2 => cv rfl rfl u_89 u_2 q2), (fun a s he hf hz q1 q3 => opw rfl (op_build rfl bt_70 (ps := [(0, [(a.get 63)]), (1, [(a.get 65)])]) ⟨rfl, V_cells1 (s := s) rfl q1, rfl, V_cells1 (s := s) rfl q3, trivial⟩ rfl (f := Fact.v kDot (⟨(takeT x0 y18 24).1, IntKind.wrap .i64 ((takeN x0 ((takeT x0 y18 24).2.1)).1)⟩ : Dot)) (V_mk rfl (kDot_close q1 q3)))), (fun a s he hf hz q4 => opw rfl ((by obtain ⟨e34, w36, r35⟩ := V_open rfl q4; obtain ⟨u37, u38, rfl, c39, c40⟩ := kDot_open r35; exact op_lit_o (Q := fun g => s0.w.heap.size ≤ g) (d := kDot) rfl lt_32 (zc := [.string ⟨#[]⟩, .int .i64 0]) (by kernel_rfl) (ps := [(0, [u37, u38])]) ⟨rfl, congrArg Value.cells w36, trivial⟩ rfl (by decide) (ys := ([(⟨(takeT x0 y18 24).1, IntKind.wrap .i64 ((takeN x0 ((takeT x0 y18 24).2.1)).1)⟩ : Dot)] : List Dot)) rfl (by decide) rfl (lit_rows1 (show kDot.R _ [u37, u38] (⟨(takeT x0 y18 24).1, IntKind.wrap .i64 ((takeN x0 ((takeT x0 y18 24).2.1)).1)⟩ : Dot) from kDot_close c39 c40))))), trivial⟩ ?_
    intro a42 s43 he hf hz hd1 k62 k67; have ⟨hd, E⟩ := hdE hd1 hd E he; obtain ⟨h0, h7, h11, h16⟩ := va4 he hf h0 h7 h11 h16 rfl; have h62 := k62.1; have p62 := k62.2.1; have f62 := k62.2.2; have h67 := k67.1; obtain ⟨D46, h⟩ := need h; refine sq_set hz rfl rfl rfl (op_append2 rfl el_32 h62 p62 h67 D46 rfl (fun v s45 he hv hp hq => fun a44 hd' hf hz hd1 => ?_)); have f68' : ∀ g, sb (a44.get 68) = some g → s0.w.heap.size ≤ g := by
     intro g hg; rw [hd'] at hg; rcases hq g hg with h | h
     ·have h1 := f62 g h; exact h1
     ·have h2 := E.size; exact (by omega)
    have hd := hd1.trans hd; obtain ⟨h0, h7, h11, h16⟩ := va4 he hf h0 h7 h11 h16 rfl; have E := Chg.chg E he (fun b e h => absurd h (Nat.not_lt.2 (f62 b e))); have h68 := V_eq hd' hv; have p68 := Sp_at hp (Chg.refl (fun _ => False) _) (fun _ _ hf => hf) hd'; have f68 := f68'; refine sq_blk (its := [⟨10, _, []⟩]) [0] hz rfl ⟨(fun a s he hf hz => opw rfl (op_assign rfl (f := Fact.own _ _ _ _ _) (own_at h68 p68 f68 he (hf 68 rfl)))), trivial⟩ ?_; intro a48 s49 he hf hz hd1 k10; have hd := hd1.trans hd; obtain ⟨h0, h7, h11, h16⟩ := va4 he hf h0 h7 h11 h16 rfl; have E := E.trans he; have h10 := k10.1; have p10 := k10.2.1; have f10 := k10.2.2; refine wp_region ?_; refine sq_blk (its := [⟨69, _, []⟩, ⟨8, _, [0]⟩]) [1] hz rfl ⟨mvs rfl rfl h16 rfl, avq rfl rfl, trivial⟩ ?_; intro a50 s51 he hf hz hd1 h8; have ⟨hd, E⟩ := hdE hd1 hd E he; have p10 := pa he p10 (hf 10 rfl); have f10 := sb_at f10 (hf 10 rfl); obtain ⟨h0, h7, h10, h11⟩ := va4 he hf h0 h7 h10 h11 rfl; refine wp_region ?_; refine sq_blk (its := [⟨36, _, []⟩, ⟨37, _, [0]⟩]) [1] hz rfl ⟨mvs rfl rfl h11 rfl, (fun a s he hf hz q0 => ad rfl rfl q0 i1), trivial⟩ ?_
    intro a52 s53 he hf hz hd1 h37; have ⟨hd, E⟩ := hdE hd1 hd E he; have p10 := pa he p10 (hf 10 rfl); have f10 := sb_at f10 (hf 10 rfl); obtain ⟨h0, h7, h8, h10⟩ := va4 he hf h0 h7 h8 h10 rfl; refine sq_blk (its := [⟨11, _, []⟩]) [0] hz rfl ⟨avs rfl rfl h37 rfl, trivial⟩ ?_; intro a54 s55 he hf hz hd1 h11; have ⟨hd, E⟩ := hdE hd1 hd E he; have p10 := pa he p10 (hf 10 rfl); have f10 := sb_at f10 (hf 10 rfl); obtain ⟨h0, h7, h8, h10⟩ := va4 he hf h0 h7 h8 h10 rfl; exact ⟨_, (by omega : m22 < m22 + 1), _, _, _, h, by omega, E, hz, hd, h0, h7, h8, h10, p10, (fun g hg => (f10 g hg)), h11⟩
  ·have h := ite_f hb h; refine wp_exit ?_; refine then_exit ?_; refine then_exit ?_; refine inBlock_hit ?_; refine wp_sr ?_; refine sq_blk (its := [⟨70, _, []⟩, ⟨71, _, [0]⟩, ⟨18, _, [1]⟩]) [2] hz rfl ⟨(fun a s he hf hz => opw rfl (op_move rfl (f := Fact.own _ _ _ _ _) (own_at h10 p10 f10 he (hf 10 rfl)))), (fun a s he hf hz q0 => opw rfl (op_call rfl rfl (ref07_Right.ct q0.1))), avq rfl rfl, trivial⟩ ?_; intro a56 s57 he hf hz hd1 h18; have ⟨hd, E⟩ := hdE hd1 hd E he; have p10 := pa he p10 (hf 10 rfl); have f10 := sb_at f10 (hf 10 rfl); obtain ⟨h8, h10⟩ := va2 he hf h8 h10 rfl; refine wp_seq ?_; refine wp_sr ?_; refine sq_blk (its := [⟨72, _, []⟩, ⟨73, _, [0]⟩]) [1] hz rfl ⟨mvs rfl rfl h18 rfl, (fun a s he hf hz q0 => no_ rfl rfl q0), trivial⟩ ?_; intro a58 s59 he hf hz hd1 h73; have ⟨hd, E⟩ := hdE hd1 hd E he; have p10 := pa he p10 (hf 10 rfl); have f10 := sb_at f10 (hf 10 rfl); obtain ⟨h8, h10⟩ := va2 he hf h8 h10 rfl; refine wp_condV h73 (fun hb => ?_) (fun hb => ?_)
   ·have h := ite_t hb h; refine wp_sr ?_; refine sq_blk (its := [⟨4, _, []⟩, ⟨5, _, []⟩, ⟨6, _, []⟩]) [0, 1, 2] hz rfl ⟨(fun a s he hf hz => opw rfl (op_assign rfl (f := Fact.own (kSl kDot) 70 2 (fun g => s0.w.heap.size ≤ g) []) own_nil)), (fun a s he hf hz => av rfl rfl i0), (fun a s he hf hz => av rfl rfl (lit_i (k := .i64) (n := 70) (by decide))), trivial⟩ ?_; intro a61 s62 he hf hz hd1 k4 h5 h6; have ⟨hd, E⟩ := hdE hd1 hd E he; have h4 := k4.1; refine wp_ret ?_; cases h
    exact ⟨hd, _, results_tmp3' rfl _ _ _, E, tup3 h4 h5 h6⟩
   ·have h := ite_f hb h; refine wp_skip ?_; refine wp_sr ?_; refine sq_blk (its := [⟨74, _, []⟩, ⟨75, _, []⟩, ⟨4, _, [0]⟩, ⟨5, _, [1]⟩, ⟨6, _, []⟩]) [2, 3, 4] hz rfl ⟨(fun a s he hf hz => opw rfl (op_move rfl (f := Fact.own _ _ _ _ _) (own_at h10 p10 f10 he (hf 10 rfl)))), mvs rfl rfl h8 rfl, (fun a s he hf hz q0 => opw rfl (op_assign rfl (f := Fact.own _ _ _ _ _) q0)), avq rfl rfl, (fun a s he hf hz => av rfl rfl i0), trivial⟩ ?_; intro a63 s64 he hf hz hd1 k4 h5 h6; have ⟨hd, E⟩ := hdE hd1 hd E he; have h4 := k4.1; refine wp_ret ?_; cases h
    exact ⟨hd, _, results_tmp3' rfl _ _ _, E, tup3 h4 h5 h6⟩
theorem ref07_Take.e0 {b : Str} {x1 : Int} {n : Nat} (hb : b.length ≤ maxLen) (hn : (takeN b x1).1 = (n : Int)) (h64 : n ≤ 64) : ∀ j, j ≤ n → ∀ (r : Str) (acc : List Dot), r <:+ b → acc.length = n - j → ∃ k, ref07_Take.l0 k b x1 ((b.length : Int) - r.length) acc ((n - j : Nat) : Int) =
  some (match readDots j r with | none => ([], 0, 70) | some (l, q) => if rightV (acc ++ l) = true then (acc ++ l, (b.length : Int) - q.length, 0) else ([], 0, 70)) := by
 have hn64 : IntKind.wrap .i64 (n : Int) = (n : Int) := w64 (by omega) (by omega)
 intro j
 induction j with
 | zero =>
  intro _ r acc hr ha
  refine ⟨1, ?_⟩
  simp only [ref07_Take.l0, hn, hn64, Nat.sub_zero, Int.lt_irrefl, decide_false, Bool.false_eq_true, if_false, readDots, List.append_nil]
  cases rightV acc <;> simp
 | succ j ih =>
  intro hj r acc hr ha
  have h1 : ((n - (j + 1) : Nat) : Int) < (n : Int) := by omega
  simp only [readDots]
  have ht := takeT_sfx 24 hr
  cases e1 : readT 24 r with
  | none =>
   rw [e1] at ht
   refine ⟨1, ?_⟩
   simp only [ref07_Take.l0, hn, hn64, h1, decide_true, if_true, ht]
   simp
  | some wr =>
   obtain ⟨w, r1⟩ := wr
   rw [e1] at ht
   have hr1 := (readT_sfx e1).trans hr
   have hnn := takeN_sfx hr1
   simp only []
   cases e2 : readN r1 with
   | none =>
    rw [e2] at hnn
    refine ⟨1, ?_⟩
    simp only [ref07_Take.l0, hn, hn64, h1, decide_true, if_true, ht, hnn]
    simp
   | some nr =>
    obtain ⟨m, r2⟩ := nr
    rw [e2] at hnn
    have hr2 := (readN_sfx e2).trans hr1
    simp only []
    by_cases hm : 4611686018427387904 < m
    ·have hm' : (4611686018427387904 : Int) < (m : Int) := by omega
     refine ⟨1, ?_⟩
     simp only [ref07_Take.l0, hn, hn64, h1, decide_true, if_true, ht, hnn, hm', if_pos hm]
     simp
    ·have hm' : ¬ (4611686018427387904 : Int) < (m : Int) := by omega
     obtain ⟨k, hk⟩ := ih (by omega) r2 (acc ++ [⟨w, (m : Int)⟩]) hr2 (by simp; omega)
     refine ⟨k + 1, ?_⟩
     have ew : IntKind.wrap .i64 (m : Int) = (m : Int) := w64 (by omega) (by omega)
     have en : IntKind.wrap .i64 (((n - (j + 1) : Nat) : Int) + 1) = ((n - j : Nat) : Int) := by rw [w64 (by omega) (by omega)]; omega
     simp only [ref07_Take.l0, hn, hn64, h1, decide_true, if_true, ht, hnn, hm', decide_false, Bool.not_true, Bool.or_self, Bool.false_eq_true, if_false, if_neg hm, ew, en]
     rw [if_pos (by simp; omega), hk]
     cases readDots j r2 with
     | none => rfl
     | some lq => obtain ⟨l, q⟩ := lq; simp
theorem ref07_Take.nice (x0 : Str) (x1 : Int) (b0 : (kSl kY).bd x0) (b1 : (kI .i64).bd x1) : ∃ k, ref07_Take.f k x0 x1 = some (takeV x0 x1) := by
 have hb : x0.length ≤ maxLen := b0.1
 unfold ref07_Take.f takeV readV
 by_cases h0 : x1 < 0
 ·exact ⟨0, by rw [takeN_neg h0, if_pos h0]; rfl⟩
 ·have ht := takeN_pos (b := x0) h0
  rw [if_neg h0]
  cases e1 : readN (x0.drop x1.toNat) with
  | none =>
   rw [e1] at ht
   exact ⟨0, by rw [ht]; rfl⟩
  | some nr =>
   obtain ⟨n, r⟩ := nr
   rw [e1] at ht
   simp only [ht]
   by_cases h64 : 64 < n
   ·have h64' : (64 : Int) < (n : Int) := by omega
    exact ⟨0, by simp only [h64', decide_true, if_pos h64]; rfl⟩
   ·have h64' : ¬ (64 : Int) < (n : Int) := by omega
    have hr : r <:+ x0 := (readN_sfx e1).trans (List.drop_suffix _ _)
    obtain ⟨k, hk⟩ := ref07_Take.e0 hb (by rw [ht]) (by omega) n (Nat.le_refl _) r [] hr (by simp)
    refine ⟨k, ?_⟩
    simp only [h64', decide_true, decide_false, Bool.not_true, Bool.or_self, Bool.false_eq_true, if_false, if_neg h64]
    rw [Nat.sub_self] at hk
    refine hk.trans ?_
    cases readDots n r with
    | none => rfl
    | some lq => obtain ⟨l, q⟩ := lq; simp only [List.nil_append]; cases rightV l <;> rfl
theorem ref07_Take.ct {s0 : St} {v0 : Value} {x0 : (List UInt8)} {v1 : Value} {x1 : Int} (k0 : (kSl kY).V s0 v0 x0) (k1 : (kI .i64).V s0 v1 x1) : Cl Try.prog 67 #[v0, v1] s0 (Okf s0 (Fact.tup [Fact.v (kSl kDot) ((takeV x0 x1).1), Fact.v (kI .i64) ((takeV x0 x1).2.1), Fact.v (kI .i64) ((takeV x0 x1).2.2)])) := by
 obtain ⟨k, h⟩ := ref07_Take.nice x0 x1 (Kn.V_bd k0) (Kn.V_bd k1)
 exact ref07_Take.ok k0 k1 h
end
section
attribute [local irreducible] Kn.V PtrV
def cmp_isNaN_int64 (x0 : Int) : Bool := (!decide (x0 = x0))
theorem cmp_isNaN_int64.ok {s0 : St} {v0 : Value} {x0 : Int} (k0 : (kI .i64).V s0 v0 x0) : Cl Try.prog 147 #[v0] s0 (Okf s0 (Fact.v kB (cmp_isNaN_int64 x0))) := by
 obtain ⟨r, h⟩ : ∃ r, some (cmp_isNaN_int64 x0) = some r := ⟨_, rfl⟩
 rw [Option.some.inj h]
 have h : (some (!decide (x0 = x0))) = some r := by rw [← h]; unfold cmp_isNaN_int64; first | rfl | simp only [apply_ite some] | (repeat' (first | rfl | split))
 refine cl_of_wp Try.func147 rfl en_147 fun a hz hd hp => ?_; have hz : a.tmps.size = 6 := hz; have E := Chg.refl (fun _ => False) s0; have h0 := V_at k0 E (hp 0 v0 rfl); refine wp_sr ?_; refine sq_blk (its := [⟨2, _, []⟩]) [] hz rfl ⟨(fun a s he hf hz => av rfl rfl b_f), trivial⟩ ?_; intro a1 s2 he hf hz hd1; have ⟨hd, E⟩ := hdE hd1 hd E he; have h0 := V_at h0 he (hf 0 rfl); refine wp_sr ?_; refine sq_blk (its := [⟨3, _, []⟩, ⟨4, _, []⟩, ⟨5, _, [0, 1]⟩, ⟨2, _, [2]⟩]) [3] hz rfl ⟨mvs rfl rfl h0 rfl, mvs rfl rfl h0 rfl, (fun a s he hf hz q0 q1 => ne_ rfl rfl q0 q1), avq rfl rfl, trivial⟩ ?_; intro a3 s4 he hf hz hd1 h2; have ⟨hd, E⟩ := hdE hd1 hd E he; refine wp_ret ?_; cases h
 exact ⟨hd, _, results_tmp rfl _ _ _, E, h2⟩
def cmp_Compare_int64 (x0 : Int) (x1 : Int) : Int := if (cmp_isNaN_int64 x0) = true then (if (cmp_isNaN_int64 x1) = true then (0) else ((-1))) else (if (cmp_isNaN_int64 x1) = true then (1) else (if decide (x0 < x1) = true then ((-1)) else (if decide (x1 < x0) = true then (1) else (0))))
theorem cmp_Compare_int64.ok {s0 : St} {v0 : Value} {x0 : Int} {v1 : Value} {x1 : Int} (k0 : (kI .i64).V s0 v0 x0) (k1 : (kI .i64).V s0 v1 x1) : Cl Try.prog 130 #[v0, v1] s0 (Okf s0 (Fact.v (kI .i64) (cmp_Compare_int64 x0 x1))) := by
 obtain ⟨r, h⟩ : ∃ r, some (cmp_Compare_int64 x0 x1) = some r := ⟨_, rfl⟩
 rw [Option.some.inj h]
 have h : (if (cmp_isNaN_int64 x0) = true then (if (cmp_isNaN_int64 x1) = true then (some 0) else (some (-1))) else (if (cmp_isNaN_int64 x1) = true then (some 1) else (if decide (x0 < x1) = true then (some (-1)) else (if decide (x1 < x0) = true then (some 1) else (some 0))))) = some r := by rw [← h]; unfold cmp_Compare_int64; first | rfl | simp only [apply_ite some] | (repeat' (first | rfl | split))
 refine cl_of_wp Try.func130 rfl en_130 fun a hz hd hp => ?_; have hz : a.tmps.size = 20 := hz; have E := Chg.refl (fun _ => False) s0; have h0 := V_at k0 E (hp 0 v0 rfl); have h1 := V_at k1 E (hp 1 v1 rfl); refine wp_sr ?_; refine sq_blk (its := [⟨4, _, []⟩]) [] hz rfl ⟨(fun a s he hf hz => av rfl rfl i0), trivial⟩ ?_; intro a1 s2 he hf hz hd1; have ⟨hd, E⟩ := hdE hd1 hd E he; obtain ⟨h0, h1⟩ := va2 he hf h0 h1 rfl; refine wp_sr ?_; refine sq_blk (its := [⟨7, _, []⟩, ⟨8, _, [0]⟩, ⟨5, _, [1]⟩]) [2] hz rfl ⟨mvs rfl rfl h0 rfl, (fun a s he hf hz q0 => opw rfl (op_call rfl rfl (cmp_isNaN_int64.ok q0))), avq rfl rfl, trivial⟩ ?_; intro a3 s4 he hf hz hd1 h5; have ⟨hd, E⟩ := hdE hd1 hd E he; obtain ⟨h0, h1⟩ := va2 he hf h0 h1 rfl; refine wp_sr ?_; refine sq_blk (its := [⟨9, _, []⟩, ⟨10, _, [0]⟩, ⟨6, _, [1]⟩]) [2] hz rfl ⟨mvs rfl rfl h1 rfl, (fun a s he hf hz q0 => opw rfl (op_call rfl rfl (cmp_isNaN_int64.ok q0))), avq rfl rfl, trivial⟩ ?_; intro a5 s6 he hf hz hd1 h6; have hd := hd1.trans hd; obtain ⟨h0, h1, h5⟩ := va3 he hf h0 h1 h5 rfl
 have E := E.trans he; refine wp_seq ?_; refine wp_sr ?_; refine sq_blk (its := [⟨11, _, []⟩]) [0] hz rfl ⟨mvs rfl rfl h5 rfl, trivial⟩ ?_; intro a7 s8 he hf hz hd1 h11; have ⟨hd, E⟩ := hdE hd1 hd E he; obtain ⟨h0, h1, h6⟩ := va3 he hf h0 h1 h6 rfl; refine wp_condV h11 (fun hb => ?_) (fun hb => ?_)
 ·have h := ite_t hb h; refine wp_seq ?_; refine wp_sr ?_; refine sq_blk (its := [⟨12, _, []⟩]) [0] hz rfl ⟨mvs rfl rfl h6 rfl, trivial⟩ ?_; intro a9 s10 he hf hz hd1 h12; have ⟨hd, E⟩ := hdE hd1 hd E he; refine wp_condV h12 (fun hb => ?_) (fun hb => ?_)
  ·have h := ite_t hb h; refine wp_sr ?_; refine sq_blk (its := [⟨4, _, []⟩]) [0] hz rfl ⟨(fun a s he hf hz => av rfl rfl i0), trivial⟩ ?_; intro a11 s12 he hf hz hd1 h4; have ⟨hd, E⟩ := hdE hd1 hd E he; refine wp_ret ?_; cases h
   exact ⟨hd, _, results_tmp rfl _ _ _, E, h4⟩
  ·have h := ite_f hb h; refine wp_skip ?_; refine wp_sr ?_; refine sq_blk (its := [⟨4, _, []⟩]) [0] hz rfl ⟨(fun a s he hf hz => av rfl rfl (lit_i (k := .i64) (n := (-1)) (by decide))), trivial⟩ ?_; intro a13 s14 he hf hz hd1 h4; have ⟨hd, E⟩ := hdE hd1 hd E he; refine wp_ret ?_; cases h
   exact ⟨hd, _, results_tmp rfl _ _ _, E, h4⟩
 ·have h := ite_f hb h; refine wp_skip ?_; refine wp_seq ?_; refine wp_sr ?_; refine sq_blk (its := [⟨13, _, []⟩]) [0] hz rfl ⟨mvs rfl rfl h6 rfl, trivial⟩ ?_; intro a15 s16 he hf hz hd1 h13; have ⟨hd, E⟩ := hdE hd1 hd E he; obtain ⟨h0, h1⟩ := va2 he hf h0 h1 rfl; refine wp_condV h13 (fun hb => ?_) (fun hb => ?_)
  ·have h := ite_t hb h; refine wp_sr ?_; refine sq_blk (its := [⟨4, _, []⟩]) [0] hz rfl ⟨(fun a s he hf hz => av rfl rfl i1), trivial⟩ ?_; intro a17 s18 he hf hz hd1 h4; have ⟨hd, E⟩ := hdE hd1 hd E he; refine wp_ret ?_; cases h
   exact ⟨hd, _, results_tmp rfl _ _ _, E, h4⟩
  ·have h := ite_f hb h; refine wp_skip ?_; refine wp_seq ?_; refine wp_sr ?_; refine sq_blk (its := [⟨14, _, []⟩, ⟨15, _, []⟩, ⟨16, _, [0, 1]⟩]) [2] hz rfl ⟨mvs rfl rfl h0 rfl, mvs rfl rfl h1 rfl, (fun a s he hf hz q0 q1 => ls rfl rfl q0 q1), trivial⟩ ?_; intro a19 s20 he hf hz hd1 h16; have ⟨hd, E⟩ := hdE hd1 hd E he; obtain ⟨h0, h1⟩ := va2 he hf h0 h1 rfl; refine wp_condV h16 (fun hb => ?_) (fun hb => ?_)
   ·have h := ite_t hb h; refine wp_sr ?_; refine sq_blk (its := [⟨4, _, []⟩]) [0] hz rfl ⟨(fun a s he hf hz => av rfl rfl (lit_i (k := .i64) (n := (-1)) (by decide))), trivial⟩ ?_; intro a21 s22 he hf hz hd1 h4; have ⟨hd, E⟩ := hdE hd1 hd E he; refine wp_ret ?_; cases h
    exact ⟨hd, _, results_tmp rfl _ _ _, E, h4⟩
   ·have h := ite_f hb h; refine wp_skip ?_; refine wp_seq ?_; refine wp_sr ?_; refine sq_blk (its := [⟨17, _, []⟩, ⟨18, _, []⟩, ⟨19, _, [0, 1]⟩]) [2] hz rfl ⟨mvs rfl rfl h0 rfl, mvs rfl rfl h1 rfl, (fun a s he hf hz q0 q1 => gt_ rfl rfl q0 q1), trivial⟩ ?_; intro a23 s24 he hf hz hd1 h19; have ⟨hd, E⟩ := hdE hd1 hd E he; refine wp_condV h19 (fun hb => ?_) (fun hb => ?_)
    ·have h := ite_t hb h; refine wp_sr ?_; refine sq_blk (its := [⟨4, _, []⟩]) [0] hz rfl ⟨(fun a s he hf hz => av rfl rfl i1), trivial⟩ ?_; intro a25 s26 he hf hz hd1 h4; have ⟨hd, E⟩ := hdE hd1 hd E he; refine wp_ret ?_; cases h
     exact ⟨hd, _, results_tmp rfl _ _ _, E, h4⟩
    ·have h := ite_f hb h; refine wp_skip ?_; refine wp_sr ?_; refine sq_blk (its := [⟨4, _, []⟩]) [0] hz rfl ⟨(fun a s he hf hz => av rfl rfl i0), trivial⟩ ?_; intro a27 s28 he hf hz hd1 h4; have ⟨hd, E⟩ := hdE hd1 hd E he; refine wp_ret ?_; cases h
     exact ⟨hd, _, results_tmp rfl _ _ _, E, h4⟩
def cmp_Or_int.l0 : Nat → (List Int) → Int → Option (Int)
 | 0, _, _ => none
 | m10 + 1, x0, y9 => (if decide (y9 < (x0.length : Int)) = true then (if (0 ≤ y9 ∧ y9 < (x0.length : Int)) then (if (!decide ((List.getD x0 (y9).toNat default) = 0)) = true then (some (List.getD x0 (y9).toNat default)) else (cmp_Or_int.l0 m10 x0 (IntKind.wrap .i64 (y9 + 1)))) else none) else (some 0))
def cmp_Or_int.f (k : Nat) (x0 : (List Int)) : Option (Int) := (cmp_Or_int.l0 k x0 0)
theorem cmp_Or_int.ok {s0 : St} {v0 : Value} {x0 : (List Int)} {k : Nat} {r : Int} (k0 : (kSl (kI .i64)).V s0 v0 x0) (h : cmp_Or_int.f k x0 = some r) : Cl Try.prog 126 #[v0] s0 (Okf s0 (Fact.v (kI .i64) r)) := by
 unfold cmp_Or_int.f at h
 refine cl_of_wp Try.func126 rfl en_126 fun a hz hd hp => ?_; have hz : a.tmps.size = 18 := hz; have E := Chg.refl (fun _ => False) s0; have h0 := V_at k0 E (hp 0 v0 rfl); refine wp_sr ?_; refine sq_blk (its := [⟨2, _, []⟩]) [] hz rfl ⟨(fun a s he hf hz => av rfl rfl i0), trivial⟩ ?_; intro a1 s2 he hf hz hd1; have ⟨hd, E⟩ := hdE hd1 hd E he; have h0 := V_at h0 he (hf 0 rfl); refine wp_sr ?_; refine sq_blk (its := [⟨3, _, []⟩]) [0] hz rfl ⟨(fun a s he hf hz => av rfl rfl i0), trivial⟩ ?_; intro a3 s4 he hf hz hd1 h3; have ⟨hd, E⟩ := hdE hd1 hd E he; have h0 := V_at h0 he (hf 0 rfl); refine wp_seq ?_; refine wp_sr ?_; refine sq_blk (its := [⟨6, _, []⟩, ⟨7, _, [0]⟩, ⟨8, _, []⟩]) [0, 1, 2] hz rfl ⟨mvs rfl rfl h0 rfl, (fun a s he hf hz q0 => le_ rfl rfl u_175 q0), (fun a s he hf hz => mv rfl rfl i0), trivial⟩ ?_; intro a5 s6 he hf hz hd1 h6 h7 h8; have ⟨hd, E⟩ := hdE hd1 hd E he; have h3 := V_at h3 he (hf 3 rfl); refine wp_block ?_
 refine wp_loop (k := k) (fun m10 a s => ∃ (y9 : Int), cmp_Or_int.l0 m10 x0 y9 = some r ∧ m10 ≤ k ∧ Ext s0 s ∧ a.tmps.size = 18 ∧ a.defers = [] ∧ (kI .i64).V s (a.get 3) 0 ∧ (kSl (kI .i64)).V s (a.get 6) x0 ∧ (kI .i64).V s (a.get 7) (x0.length : Int) ∧ (kI .i64).V s (a.get 8) y9) ⟨_, h, Nat.le_refl _, E, hz, hd, h3, h6, h7, h8⟩ ?_; rintro m10 a8 s7 ⟨y9, h, hkm10, E, hz, hd, h3, h6, h7, h8⟩; obtain _ | m10 := m10
 ·cases h
 refine wp_sr ?_; refine sq_blk (its := [⟨9, _, []⟩]) [0] hz rfl ⟨(fun a s he hf hz => ls rfl rfl (V_at h8 he (hf 8 rfl)) (V_at h7 he (hf 7 rfl))), trivial⟩ ?_; intro a11 s12 he hf hz hd1 h9; have ⟨hd, E⟩ := hdE hd1 hd E he; obtain ⟨h3, h6, h7, h8⟩ := va4 he hf h3 h6 h7 h8 rfl; refine wp_seq ?_; refine wp_condV h9 (fun hb => ?_) (fun hb => ?_)
 ·have h := ite_t hb h; refine wp_skip ?_; refine wp_seq ?_; refine wp_block ?_; refine wp_sr ?_; obtain ⟨D13, h⟩ := need h; refine sq_blk (its := [⟨10, _, []⟩, ⟨11, _, [0]⟩, ⟨5, _, [1]⟩]) [2] hz rfl ⟨(fun a s he hf hz => ia rfl rfl sl_175 (V_at h6 he (hf 6 rfl)) (V_at h8 he (hf 8 rfl)) D13.1 D13.2), (fun a s he hf hz q0 => lp rfl rfl ty_3 (by decide) q0), avq rfl rfl, trivial⟩ ?_; intro a14 s15 he hf hz hd1 h5; have ⟨hd, E⟩ := hdE hd1 hd E he; obtain ⟨h3, h6, h7, h8⟩ := va4 he hf h3 h6 h7 h8 rfl; refine wp_sr ?_; refine sq_blk (its := [⟨12, _, []⟩, ⟨13, _, []⟩, ⟨14, _, [0, 1]⟩]) [2] hz rfl ⟨mvs rfl rfl h5 rfl, mvs rfl rfl h3 rfl, (fun a s he hf hz q0 q1 => ne_ rfl rfl q0 q1), trivial⟩ ?_; intro a16 s17 he hf hz hd1 h14; have ⟨hd, E⟩ := hdE hd1 hd E he; obtain ⟨h3, h5, h6, h7, h8⟩ := va5 he hf h3 h5 h6 h7 h8 rfl; refine wp_condV h14 (fun hb => ?_) (fun hb => ?_)
  ·have h := ite_t hb h; refine wp_sr ?_; refine sq_blk (its := [⟨15, _, []⟩, ⟨2, _, [0]⟩]) [1] hz rfl ⟨mvs rfl rfl h5 rfl, avq rfl rfl, trivial⟩ ?_; intro a18 s19 he hf hz hd1 h2; have ⟨hd, E⟩ := hdE hd1 hd E he; refine wp_ret ?_; cases h
   exact ⟨hd, _, results_tmp rfl _ _ _, E, h2⟩
  ·have h := ite_f hb h; refine wp_skip ?_; refine wp_region ?_; refine sq_blk (its := [⟨16, _, []⟩]) [0] hz rfl ⟨(fun a s he hf hz => ad rfl rfl (V_at h8 he (hf 8 rfl)) i1), trivial⟩ ?_; intro a20 s21 he hf hz hd1 h16; have ⟨hd, E⟩ := hdE hd1 hd E he; obtain ⟨h3, h6, h7⟩ := va3 he hf h3 h6 h7 rfl; refine sq_blk (its := [⟨8, _, []⟩]) [0] hz rfl ⟨mvs rfl rfl h16 rfl, trivial⟩ ?_; intro a22 s23 he hf hz hd1 h8; have ⟨hd, E⟩ := hdE hd1 hd E he; obtain ⟨h3, h6, h7⟩ := va3 he hf h3 h6 h7 rfl; exact ⟨_, (by omega : m10 < m10 + 1), _, h, by omega, E, hz, hd, h3, h6, h7, h8⟩
 ·have h := ite_f hb h; refine wp_exit ?_; refine then_exit ?_; refine then_exit ?_; refine inBlock_hit ?_; refine wp_sr ?_; refine sq_blk (its := [⟨17, _, []⟩, ⟨2, _, [0]⟩]) [1] hz rfl ⟨mvs rfl rfl h3 rfl, avq rfl rfl, trivial⟩ ?_; intro a24 s25 he hf hz hd1 h2; have ⟨hd, E⟩ := hdE hd1 hd E he; refine wp_ret ?_; cases h
  exact ⟨hd, _, results_tmp rfl _ _ _, E, h2⟩
def orL (l : List Int) : Int := match l with
 | [] => 0
 | a :: l => if a = 0 then orL l else a
theorem cmp_Or_int.nice (x0 : List Int) (b0 : (kSl (kI .i64)).bd x0) : ∃ k, cmp_Or_int.f k x0 = some (orL x0) := by
 have hb : x0.length ≤ maxLen := b0.1
 have hm := maxLen_lt
 have : ∀ y, y ≤ x0.length → ∃ k, cmp_Or_int.l0 k x0 (y : Int) = some (orL (x0.drop y)) := by
  refine rounds x0.length ⟨1, ?_⟩ fun y hy ⟨k, hk⟩ => ?_
  ·simp only [cmp_Or_int.l0, List.drop_length]; simp [orL]
  ·push_cast at hk
   have hr : (0 : Int) ≤ y ∧ (y : Int) < x0.length := ⟨by omega, by omega⟩
   rw [drop_at default hy]
   have hu : ∀ k, cmp_Or_int.l0 (k + 1) x0 (y : Int) = if (!decide (x0.getD y default = 0)) = true then some (x0.getD y default) else cmp_Or_int.l0 k x0 ((y : Int) + 1) := fun k => by
    simp only [cmp_Or_int.l0, Int.toNat_natCast, hr, and_self, decide_true, if_true]
    rw [w64s (by omega)]
   generalize x0.getD y default = d at *
   by_cases e : d = 0
   ·exact ⟨k + 1, by rw [hu]; simp [e, hk, orL]⟩
   ·exact ⟨1, by rw [hu 0]; simp [e, orL]⟩
 obtain ⟨k, hk⟩ := this 0 (Nat.zero_le _)
 exact ⟨k, by unfold cmp_Or_int.f; exact hk⟩
theorem cmp_Or_int.ct {s0 : St} {v0 : Value} {x0 : (List Int)} (k0 : (kSl (kI .i64)).V s0 v0 x0) : Cl Try.prog 126 #[v0] s0 (Okf s0 (Fact.v (kI .i64) (orL x0))) := by
 obtain ⟨k, h⟩ := cmp_Or_int.nice x0 (Kn.V_bd k0)
 exact cmp_Or_int.ok k0 h
def order_stands (x0 : Dot) (x1 : Dot) : Int := (orL ([(strings_Compare x0.who x1.who), (cmp_Compare_int64 x0.n x1.n)] : List Int))
theorem order_stands.ok {s0 : St} {v0 : Value} {x0 : Dot} {v1 : Value} {x1 : Dot} (k0 : kDot.V s0 v0 x0) (k1 : kDot.V s0 v1 x1) : Cl Try.prog 96 #[v0, v1] s0 (Okf s0 (Fact.v (kI .i64) (order_stands x0 x1))) := by
 obtain ⟨r, h⟩ : ∃ r, some (order_stands x0 x1) = some r := ⟨_, rfl⟩
 rw [Option.some.inj h]
 have h : (some (orL ([(strings_Compare x0.who x1.who), (cmp_Compare_int64 x0.n x1.n)] : List Int))) = some r := by rw [← h]; unfold order_stands; first | rfl | simp only [apply_ite some] | (repeat' (first | rfl | split))
 refine cl_of_wp Try.func96 rfl en_96 fun a hz hd hp => ?_; have hz : a.tmps.size = 17 := hz; have E := Chg.refl (fun _ => False) s0; have h0 := V_at k0 E (hp 0 v0 rfl); have h1 := V_at k1 E (hp 1 v1 rfl); refine wp_sr ?_; refine sq_set hz rfl rfl rfl (op_boxn rfl rfl h0 (fun s2 e4 he BB3 r5 => fun a1 h2 hf hz hd1 => ?_)); obtain ⟨b10, hb10⟩ : ∃ b, b = s0.w.heap.size := ⟨_, rfl⟩; rw [← hb10] at BB3 h2; have B10 := BB3; have l10 : s0.w.heap.size ≤ b10 := by have := E.size; omega
 have ⟨hd, E⟩ := hdE hd1 hd E he; have h1 := V_at h1 he (hf 1 rfl); obtain ⟨u6, u7, rfl, c8, c9⟩ := kDot_open r5; refine sq_set hz rfl rfl rfl (op_boxn rfl rfl h1 (fun s12 e14 he BB13 r15 => fun a11 h3 hf hz hd1 => ?_)); obtain ⟨b20, hb20⟩ : ∃ b, b = s2.w.heap.size := ⟨_, rfl⟩; rw [← hb20] at BB13 h3; have B20 := BB13; have l20 : s0.w.heap.size ≤ b20 := by have := E.size; omega
 have ⟨hd, E⟩ := hdE hd1 hd E he; have h2 := (hf 2 rfl).trans h2; have B10 := B10.ext he; obtain ⟨c8, c9⟩ := vm2 he c8 c9; obtain ⟨u16, u17, rfl, c18, c19⟩ := kDot_open r15; refine sq_blk (its := [⟨4, _, []⟩]) [] hz rfl ⟨(fun a s he hf hz => av rfl rfl i0), trivial⟩ ?_; intro a21 s22 he hf hz hd1; have ⟨hd, E⟩ := hdE hd1 hd E he; obtain ⟨h2, h3⟩ := ea2 hf h2 h3 rfl; obtain ⟨B10, B20⟩ := bx2 he B10 B20; obtain ⟨c8, c9, c18, c19⟩ := vm4 he c8 c9 c18 c19; refine wp_seq ?_; refine wp_draw (its := [⟨5, _, []⟩, ⟨6, _, [0]⟩, ⟨7, _, []⟩, ⟨8, _, [2]⟩, ⟨9, _, [1, 3]⟩, ⟨10, _, []⟩, ⟨11, _, [5]⟩, ⟨12, _, []⟩, ⟨13, _, [7]⟩, ⟨14, _, [6, 8]⟩, ⟨15, _, [4, 9]⟩, ⟨16, _, [10]⟩, ⟨4, _, [11]⟩]) [12] mo hz (by kernel_rfl) ⟨(fun a s he hf hz => fb rfl rfl fa_70_0 ((hf 2 rfl).trans h2)), (fun a s he hf hz q0 => lo rfl rfl ty_9 q0 (B10.ext he) rfl (vm he c8)), (fun a s he hf hz => fb rfl rfl fa_70_0 ((hf 3 rfl).trans h3)), (fun a s he hf hz q2 => lo rfl rfl ty_9 q2 (B20.ext he) rfl (vm he c18)), (fun a s he hf hz q1 q3 => opw rfl (op_call rfl rfl (strings_Compare.ok q1 q3))), (fun a s he hf hz => fb rfl rfl fa_70_1 ((hf 2 rfl).trans h2)), (fun a s he hf hz q5 => lo rfl rfl ty_2 q5 (B10.ext he) rfl (vm he c9)), (fun a s he hf hz => fb rfl rfl fa_70_1 ((hf 3 rfl).trans h3)), (fun a s he hf hz q7 => lo rfl rfl ty_2 q7 (B20.ext he) rfl (vm he c19)), (fun a s he hf hz q6 q8 => opw rfl (op_call rfl rfl (cmp_Compare_int64.ok q6 q8))), (fun a s he hf hz q4 q9 => opw rfl (op_lit_v (d := (kI .i64)) rfl lt_175 (zc := [.int .i64 0, .int .i64 0]) (by kernel_rfl) (ps := [(0, [(a.get 9)]), (1, [(a.get 14)])]) ⟨rfl, V_cells1 (s := s) rfl q4, rfl, V_cells1 (s := s) rfl q9, trivial⟩ rfl (by decide) (ys := ([(strings_Compare x0.who x1.who), (cmp_Compare_int64 x0.n x1.n)] : List Int)) rfl (by decide) rfl (lit_rows2 (V_one rfl q4) (V_one rfl q9)))), (fun a s he hf hz q10 => opw rfl (op_call rfl rfl (cmp_Or_int.ct q10))), avq rfl rfl, trivial⟩ ?_
 intro a23 s24 he hf hz hd1 h4; have ⟨hd, E⟩ := hdE hd1 hd E he; refine wp_ret ?_; cases h
 exact ⟨hd, _, results_tmp rfl _ _ _, E, h4⟩
theorem stands_eq (a b : Dot) : decide (0 ≤ order_stands a b) = !ref08_ahead a b := by
 have hi : cmp_Compare_int64 a.n b.n = if a.n < b.n then -1 else if b.n < a.n then 1 else 0 := by
  simp [cmp_Compare_int64, cmp_isNaN_int64]
 have hs : strings_Compare a.who b.who = Lib.compareBytes a.who b.who := rfl
 have hv : order_stands a b = if Lib.compareBytes a.who b.who = 0 then (if a.n < b.n then -1 else if b.n < a.n then 1 else 0) else Lib.compareBytes a.who b.who := by
  unfold order_stands
  rw [hi, hs]
  simp only [orL]
  have : ∀ c : Int, (if c = 0 then 0 else c) = c := fun c => by split <;> omega
  rw [this]
 rw [hv]
 unfold ref08_ahead
 by_cases e : a.who = b.who
 ·rw [(cmp_eq _ _).2 e, e, sLt_irrefl]
  by_cases h1 : a.n < b.n
  ·simp [h1]
  ·by_cases h2 : b.n < a.n <;> simp [h1, h2]
 ·have h0 : ¬ Lib.compareBytes a.who b.who = 0 := fun h => e ((cmp_eq _ _).1 h)
  rw [if_neg h0]
  cases h : sLt a.who b.who
  ·have : ¬ Lib.compareBytes a.who b.who < 0 := fun h' => by rw [(cmp_lt _ _).1 h'] at h; cases h
   simp [e]; omega
  ·have := (cmp_lt _ _).2 h
   simp; omega
def seenP (v : List Dot) (p : Dot) : List Dot → Bool
 | [] => true
 | d :: l => hasV v d && ref08_ahead p d && seenP v d l
def seenV (v : List Dot) : List Dot → Bool
 | [] => true
 | d :: l => hasV v d && seenP v d l
def kindOk (o : Op) : Bool := if o.kind = 1 then decide (1 ≤ o.qty) && decide (o.qty ≤ 9999) && decide (o.seen.length = 0) else if o.kind = 2 then decide (1 ≤ o.qty) && decide (o.qty ≤ 9999) else decide (o.kind = 3) && decide (o.qty = 0)
def textOk (x : Str) : Bool := decide (1 ≤ x.length) && decide (x.length ≤ 32)
def rightO (o : Op) : Bool := vector_isDot o.dot && rightV o.deps && decide (at_ o.deps o.dot.who = o.dot.n - 1) && textOk o.cart && textOk o.item && decide (o.seen.length ≤ 128) && seenV o.deps o.seen && kindOk o
theorem rightV_one (d : Dot) : rightV [d] = vector_isDot d := by simp [rightV, chainV, chainP]
theorem isText_eq (x : Str) : order_isText x = textOk x := by
 unfold order_isText textOk
 cases x with
 | nil => rfl
 | cons c l =>
  have h1 : decide (1 ≤ (c :: l).length) = true := by simp
  have h2 : decide (((c :: l).length : Int) ≤ 32) = decide ((c :: l).length ≤ 32) := by rw [decide_eq_decide]; omega
  rw [h1, h2]; simp
def order_Right.l0 : Nat → Op → Int → Option (Bool)
 | 0, _, _ => none
 | m43 + 1, x0, y42 => (if decide (y42 < (x0.seen.length : Int)) = true then (if (0 ≤ y42 ∧ y42 < (x0.seen.length : Int)) then (if (((!(hasV x0.deps (List.getD x0.seen (y42).toNat default))) = false ∧ (decide (0 < y42)) = true) → (0 ≤ (IntKind.wrap .i64 (y42 - 1)) ∧ (IntKind.wrap .i64 (y42 - 1)) < (x0.seen.length : Int))) then (if ((!(hasV x0.deps (List.getD x0.seen (y42).toNat default))) || ((decide (0 < y42)) && (decide (0 ≤ (order_stands (List.getD x0.seen (IntKind.wrap .i64 (y42 - 1)).toNat default) (List.getD x0.seen (y42).toNat default)))))) = true then (some false) else (order_Right.l0 m43 x0 (IntKind.wrap .i64 (y42 + 1)))) else none) else none) else (if decide (x0.kind = 1) = true then (some (((decide ((x0.seen.length : Int) = 0)) && (decide (1 ≤ x0.qty))) && (decide (x0.qty ≤ 9999)))) else (if decide (x0.kind = 2) = true then (some ((decide (1 ≤ x0.qty)) && (decide (x0.qty ≤ 9999)))) else (some ((decide (x0.kind = 3)) && (decide (x0.qty = 0)))))))
def order_Right.f (k : Nat) (x0 : Op) : Option (Bool) := (if ((((((!(rightV ([x0.dot] : List Dot))) || (!(rightV x0.deps))) || (!decide ((at_ x0.deps x0.dot.who) = (IntKind.wrap .i64 (x0.dot.n - 1))))) || (!(order_isText x0.cart))) || (!(order_isText x0.item))) || (decide (128 < (x0.seen.length : Int)))) = true then (some false) else (order_Right.l0 k x0 0))
theorem order_Right.ok {s0 : St} {v0 : Value} {x0 : Op} {k : Nat} {r : Bool} (k0 : kOp.V s0 v0 x0) (h : order_Right.f k x0 = some r) : Cl Try.prog 47 #[v0] s0 (Okf s0 (Fact.v kB r)) := by
 unfold order_Right.f at h
 refine cl_of_wp Try.func47 rfl en_47 fun a hz hd hp => ?_; have hz : a.tmps.size = 114 := hz; have E := Chg.refl (fun _ => False) s0; have h0 := V_at k0 E (hp 0 v0 rfl); refine wp_sr ?_; refine sq_set hz rfl rfl rfl (op_boxn rfl rfl h0 (fun s2 e4 he BB3 r5 => fun a1 h1 hf hz hd1 => ?_)); obtain ⟨b22, hb22⟩ : ∃ b, b = s0.w.heap.size := ⟨_, rfl⟩; rw [← hb22] at BB3 h1; have B22 := BB3; have l22 : s0.w.heap.size ≤ b22 := by have := E.size; omega
 have ⟨hd, E⟩ := hdE hd1 hd E he; obtain ⟨u6, u7, u8, u9, u10, u11, u12, u13, rfl, c14, c15, c16, c17, c18, c19, c20, c21⟩ := kOp_open r5; refine sq_blk (its := [⟨2, _, []⟩]) [] hz rfl ⟨(fun a s he hf hz => av rfl rfl b_f), trivial⟩ ?_; intro a23 s24 he hf hz hd1; have ⟨hd, E⟩ := hdE hd1 hd E he; have h1 := (hf 1 rfl).trans h1; have B22 := B22.ext he; obtain ⟨c14, c15, c16, c17, c18, c19, c20, c21⟩ := vm8 he c14 c15 c16 c17 c18 c19 c20 c21; refine wp_sr ?_; refine sq_blk (its := [⟨6, _, []⟩, ⟨7, _, [0]⟩, ⟨8, _, [1]⟩, ⟨3, _, [2]⟩]) [3] hz rfl ⟨(fun a s he hf hz => fb rfl rfl fa_72_0 ((hf 1 rfl).trans h1)), (fun a s he hf hz q0 => ld rfl rfl ty_70 rfl q0 (B22.ext he) rfl (kDot_eta (x := x0.dot) (vm he c14) (vm he c15))), (fun a s he hf hz q1 => opw rfl ((by obtain ⟨e25, w27, r26⟩ := V_open rfl q1; obtain ⟨u28, u29, rfl, c30, c31⟩ := kDot_open r26; exact op_lit_v (d := kDot) rfl lt_32 (zc := [.string ⟨#[]⟩, .int .i64 0]) (by kernel_rfl) (ps := [(0, [u28, u29])]) ⟨rfl, congrArg Value.cells w27, trivial⟩ rfl (by decide) (ys := ([x0.dot] : List Dot)) rfl (by decide) rfl (lit_rows1 (show kDot.R _ [u28, u29] x0.dot from kDot_close c30 c31))))), (fun a s he hf hz q2 => av rfl rfl q2), trivial⟩ ?_
 intro a32 s33 he hf hz hd1 h3; have ⟨hd, E⟩ := hdE hd1 hd E he; have h1 := (hf 1 rfl).trans h1; have B22 := B22.ext he; obtain ⟨c14, c15, c16, c17, c18, c19, c20, c21⟩ := vm8 he c14 c15 c16 c17 c18 c19 c20 c21; refine wp_seq ?_; refine wp_seq ?_; have hz0 := hz; refine wp_draw (its := (⟨9, _, []⟩ :: ⟨10, _, [0]⟩ :: ⟨11, _, [1]⟩ :: ⟨12, _, [2]⟩ :: ⟨13, _, [3]⟩ :: ⟨14, _, [3, 4]⟩ :: ⟨15, _, [3, 5]⟩ :: ⟨16, _, [3, 6]⟩ :: ⟨17, _, [3, 7]⟩ :: ⟨18, _, [8]⟩ :: ⟨19, _, [9]⟩ :: ⟨20, _, [9, 10]⟩ :: ⟨21, _, [9]⟩ :: ⟨22, _, [9, 12]⟩ :: ⟨23, _, [9, 13]⟩ :: ⟨24, _, [9, 11, 14]⟩ :: ⟨25, _, [9]⟩ :: ⟨26, _, [9, 16]⟩ :: ⟨27, _, [9, 17]⟩ :: ⟨28, _, [9, 18]⟩ :: ⟨29, _, [9, 15, 19]⟩ :: ⟨30, _, [9, 20]⟩ :: ⟨31, _, [21]⟩ :: ⟨32, _, [22]⟩ :: ⟨33, _, [22, 23]⟩ :: ⟨34, _, [22, 24]⟩ :: ⟨35, _, [22, 25]⟩ :: ⟨36, _, [22, 26]⟩ :: ⟨37, _, [27]⟩ :: ⟨38, _, [28]⟩ :: ⟨39, _, [28, 29]⟩ :: ⟨40, _, [28, 30]⟩ :: ⟨41, _, [28, 31]⟩ :: ⟨42, _, [28, 32]⟩ :: ⟨43, _, [33]⟩ :: ⟨44, _, [34]⟩ :: ⟨45, _, [34, 35]⟩ :: ⟨46, _, [34, 36]⟩ :: ⟨47, _, [34, 37]⟩ :: ⟨48, _, [34, 38]⟩ :: [])) [39] mo hz (by kernel_rfl) ⟨mvs rfl rfl h3 rfl, (fun a s he hf hz q0 => opw rfl (op_call rfl rfl (vector_Right.ct q0))), (fun a s he hf hz q1 => no_ rfl rfl q1), mvq rfl rfl, (fun a s he hf hz q3 => og rfl rfl rfl hz hz0 rfl q3 (fun g => op_faddr_b rfl fa_72_1 ((hf 1 rfl).trans h1))), (fun a s he hf hz q3 q4 => og rfl rfl rfl hz hz0 rfl q3 (fun g => op_load1 rfl ty_32 (q4.1 g) (B22.ext he) rfl (vm he c16))), (fun a s he hf hz q3 q5 => og rfl rfl rfl hz hz0 rfl q3 (fun g => op_call rfl rfl (vector_Right.ct (q5.1 g)))), (fun a s he hf hz q3 q6 => og rfl rfl rfl hz hz0 rfl q3 (fun g => op_not rfl (q6.1 g))), (fun a s he hf hz q3 q7 => oe rfl rfl q3 (q7.1)), mvq rfl rfl, (fun a s he hf hz q9 => og rfl rfl rfl hz hz0 rfl q9 (fun g => op_faddr_b rfl fa_72_1 ((hf 1 rfl).trans h1))), (fun a s he hf hz q9 q10 => og rfl rfl rfl hz hz0 rfl q9 (fun g => op_load1 rfl ty_32 (q10.1 g) (B22.ext he) rfl (vm he c16))), (fun a s he hf hz q9 => og rfl rfl rfl hz hz0 rfl q9 (fun g => op_faddr_b rfl fa_72_0 ((hf 1 rfl).trans h1))), (fun a s he hf hz q9 q12 => og rfl rfl rfl hz hz0 rfl q9 (fun g => op_faddr_b rfl fa_70_0 (q12.1 g))), (fun a s he hf hz q9 q13 => og rfl rfl rfl hz hz0 rfl q9 (fun g => op_load1 rfl ty_9 (q13.1 g) (B22.ext he) rfl (vm he c14))), (fun a s he hf hz q9 q11 q14 => og rfl rfl rfl hz hz0 rfl q9 (fun g => op_call rfl rfl (vector_At.ct (q11.1 g) (q14.1 g)))), (fun a s he hf hz q9 => og rfl rfl rfl hz hz0 rfl q9 (fun g => op_faddr_b rfl fa_72_0 ((hf 1 rfl).trans h1))), (fun a s he hf hz q9 q16 => og rfl rfl rfl hz hz0 rfl q9 (fun g => op_faddr_b rfl fa_70_1 (q16.1 g))), (fun a s he hf hz q9 q17 => og rfl rfl rfl hz hz0 rfl q9 (fun g => op_load1 rfl ty_2 (q17.1 g) (B22.ext he) rfl (vm he c15))), (fun a s he hf hz q9 q18 => og rfl rfl rfl hz hz0 rfl q9 (fun g => op_sub rfl (q18.1 g) i1)), (fun a s he hf hz q9 q15 q19 => og rfl rfl rfl hz hz0 rfl q9 (fun g => op_neq rfl (q15.1 g) (q19.1 g))), (fun a s he hf hz q9 q20 => oe rfl rfl q9 (q20.1)), mvq rfl rfl, (fun a s he hf hz q22 => og rfl rfl rfl hz hz0 rfl q22 (fun g => op_faddr_b rfl fa_72_2 ((hf 1 rfl).trans h1))), (fun a s he hf hz q22 q23 => og rfl rfl rfl hz hz0 rfl q22 (fun g => op_load1 rfl ty_9 (q23.1 g) (B22.ext he) rfl (vm he c17))), (fun a s he hf hz q22 q24 => og rfl rfl rfl hz hz0 rfl q22 (fun g => op_call rfl rfl (order_isText.ok (q24.1 g)))), (fun a s he hf hz q22 q25 => og rfl rfl rfl hz hz0 rfl q22 (fun g => op_not rfl (q25.1 g))), (fun a s he hf hz q22 q26 => oe rfl rfl q22 (q26.1)), mvq rfl rfl, (fun a s he hf hz q28 => og rfl rfl rfl hz hz0 rfl q28 (fun g => op_faddr_b rfl fa_72_4 ((hf 1 rfl).trans h1))), (fun a s he hf hz q28 q29 => og rfl rfl rfl hz hz0 rfl q28 (fun g => op_load1 rfl ty_9 (q29.1 g) (B22.ext he) rfl (vm he c19))), (fun a s he hf hz q28 q30 => og rfl rfl rfl hz hz0 rfl q28 (fun g => op_call rfl rfl (order_isText.ok (q30.1 g)))), (fun a s he hf hz q28 q31 => og rfl rfl rfl hz hz0 rfl q28 (fun g => op_not rfl (q31.1 g))), (fun a s he hf hz q28 q32 => oe rfl rfl q28 (q32.1)), mvq rfl rfl, (fun a s he hf hz q34 => og rfl rfl rfl hz hz0 rfl q34 (fun g => op_faddr_b rfl fa_72_6 ((hf 1 rfl).trans h1))), (fun a s he hf hz q34 q35 => og rfl rfl rfl hz hz0 rfl q34 (fun g => op_load1 rfl ty_32 (q35.1 g) (B22.ext he) rfl (vm he c21))), (fun a s he hf hz q34 q36 => og rfl rfl rfl hz hz0 rfl q34 (fun g => op_len rfl u_32 (q36.1 g))), (fun a s he hf hz q34 q37 => og rfl rfl rfl hz hz0 rfl q34 (fun g => op_gtr rfl (q37.1 g) (lit_i (k := .i64) (n := 128) (by decide)))), (fun a s he hf hz q34 q38 => oe rfl rfl q34 (q38.1)), trivial⟩ ?_
 intro a34 s35 he hf hz hd1 h48; have ⟨hd, E⟩ := hdE hd1 hd E he; have h1 := (hf 1 rfl).trans h1; have B22 := B22.ext he; obtain ⟨c14, c15, c16, c17, c18, c19, c20, c21⟩ := vm8 he c14 c15 c16 c17 c18 c19 c20 c21; refine wp_condV h48 (fun hb => ?_) (fun hb => ?_)
 ·have h := ite_t hb h; refine wp_sr ?_; refine sq_blk (its := [⟨2, _, []⟩]) [0] hz rfl ⟨(fun a s he hf hz => av rfl rfl b_f), trivial⟩ ?_; intro a36 s37 he hf hz hd1 h2; have ⟨hd, E⟩ := hdE hd1 hd E he; refine wp_ret ?_; cases h
  exact ⟨hd, _, results_tmp rfl _ _ _, E, h2⟩
 ·have h := ite_f hb h; refine wp_skip ?_; refine wp_seq ?_; refine wp_sr ?_; refine sq_blk (its := [⟨49, _, []⟩, ⟨50, _, [0]⟩, ⟨51, _, [1]⟩, ⟨52, _, []⟩]) [1, 2, 3] hz rfl ⟨(fun a s he hf hz => fb rfl rfl fa_72_6 ((hf 1 rfl).trans h1)), (fun a s he hf hz q0 => lo rfl rfl ty_32 q0 (B22.ext he) rfl (vm he c21)), (fun a s he hf hz q1 => le_ rfl rfl u_32 q1), (fun a s he hf hz => mv rfl rfl i0), trivial⟩ ?_; intro a38 s39 he hf hz hd1 h50 h51 h52; have ⟨hd, E⟩ := hdE hd1 hd E he; have h1 := (hf 1 rfl).trans h1; have B22 := B22.ext he; obtain ⟨c14, c15, c16, c17, c18, c19, c20, c21⟩ := vm8 he c14 c15 c16 c17 c18 c19 c20 c21; refine wp_block ?_
  refine wp_loop (k := k) (fun m43 a s => ∃ (y42 : Int), order_Right.l0 m43 x0 y42 = some r ∧ m43 ≤ k ∧ Ext s0 s ∧ a.tmps.size = 114 ∧ a.defers = [] ∧ a.get 1 = .pointer (some ⟨b22, 0, none⟩) ∧ (kSl kDot).V s (a.get 50) x0.seen ∧ (kI .i64).V s (a.get 51) (x0.seen.length : Int) ∧ (kI .i64).V s (a.get 52) y42 ∧ Bx s b22 72 [u6, u7, u8, u9, u10, u11, u12, u13] ∧ kS.V s u6 x0.dot.who ∧ (kI .i64).V s u7 x0.dot.n ∧ (kSl kDot).V s u8 x0.deps ∧ kS.V s u9 x0.cart ∧ (kI .i64).V s u10 x0.kind ∧ kS.V s u11 x0.item ∧ (kI .i64).V s u12 x0.qty ∧ (kSl kDot).V s u13 x0.seen) ⟨_, h, Nat.le_refl _, E, hz, hd, h1, h50, h51, h52, B22, c14, c15, c16, c17, c18, c19, c20, c21⟩ ?_; rintro m43 a41 s40 ⟨y42, h, hkm43, E, hz, hd, h1, h50, h51, h52, B22, c14, c15, c16, c17, c18, c19, c20, c21⟩; obtain _ | m43 := m43
  ·cases h
  refine wp_sr ?_; refine sq_blk (its := [⟨53, _, []⟩]) [0] hz rfl ⟨(fun a s he hf hz => ls rfl rfl (V_at h52 he (hf 52 rfl)) (V_at h51 he (hf 51 rfl))), trivial⟩ ?_; intro a44 s45 he hf hz hd1 h53; have ⟨hd, E⟩ := hdE hd1 hd E he; obtain ⟨h50, h51, h52⟩ := va3 he hf h50 h51 h52 rfl; have h1 := (hf 1 rfl).trans h1; have B22 := B22.ext he; obtain ⟨c14, c15, c16, c17, c18, c19, c20, c21⟩ := vm8 he c14 c15 c16 c17 c18 c19 c20 c21; refine wp_seq ?_; refine wp_condV h53 (fun hb => ?_) (fun hb => ?_)
  ·have h := ite_t hb h; refine wp_skip ?_; refine wp_seq ?_; refine wp_block ?_; refine wp_sr ?_; obtain ⟨D46, h⟩ := need h; refine sq_blk (its := [⟨54, _, []⟩, ⟨55, _, []⟩, ⟨56, _, [1]⟩]) [0, 2] hz rfl ⟨mvs rfl rfl h52 rfl, (fun a s he hf hz => ia rfl rfl sl_32 (V_at h50 he (hf 50 rfl)) (V_at h52 he (hf 52 rfl)) D46.1 D46.2), (fun a s he hf hz q1 => lp rfl rfl ty_70 (by decide) q1), trivial⟩ ?_; intro a47 s48 he hf hz hd1 h54 h56; have ⟨hd, E⟩ := hdE hd1 hd E he; obtain ⟨h50, h51, h52⟩ := va3 he hf h50 h51 h52 rfl; have h1 := (hf 1 rfl).trans h1; have B22 := B22.ext he; obtain ⟨c14, c15, c16, c17, c18, c19, c20, c21⟩ := vm8 he c14 c15 c16 c17 c18 c19 c20 c21; refine sq_set hz rfl rfl rfl (op_alloc (cs := [.string ⟨#[]⟩, .int .i64 0]) rfl zv_70 rfl (fun s50 he BB51 => fun a49 h5 hf hz hd1 => ?_)); obtain ⟨b54, hb54⟩ : ∃ b, b = s48.w.heap.size := ⟨_, rfl⟩; rw [← hb54] at BB51 h5; have B54 := BB51; have l54 : s0.w.heap.size ≤ b54 := by have := E.size; omega
   have n54_22 : b54 ≠ b22 := by have := B22.lt; omega
   have ⟨hd, E⟩ := hdE hd1 hd E he; obtain ⟨h50, h51, h52, h54, h56⟩ := va5 he hf h50 h51 h52 h54 h56 rfl; have h1 := (hf 1 rfl).trans h1; have B22 := B22.ext he; obtain ⟨c14, c15, c16, c17, c18, c19, c20, c21⟩ := vm8 he c14 c15 c16 c17 c18 c19 c20 c21; have c52 : kS.V s50 (.string ⟨#[]⟩) ([] : Str) := s_0; have c53 : (kI .i64).V s50 (.int .i64 0) 0 := i0; refine sq_blk (its := [⟨4, _, []⟩]) [0] hz rfl ⟨avs rfl rfl h54 rfl, trivial⟩ ?_; intro a55 s56 he hf hz hd1 h4; have ⟨hd, E⟩ := hdE hd1 hd E he; obtain ⟨h50, h51, h52, h56⟩ := va4 he hf h50 h51 h52 h56 rfl; obtain ⟨h1, h5⟩ := ea2 hf h1 h5 rfl; obtain ⟨B22, B54⟩ := bx2 he B22 B54; obtain ⟨c14, c15, c16, c17, c18, c19, c20, c21⟩ := vm8 he c14 c15 c16 c17 c18 c19 c20 c21; refine sq_do rfl rfl (op_storen rfl ty_70 rfl h5 B54 h56 rfl (fun s58 e59 he B54n r60 => ?_)); obtain ⟨h4, h50, h51, h52⟩ := vm4 he h4 h50 h51 h52; have B22 := B22.chg he (fun e => (Ne.symm n54_22) e); obtain ⟨c14, c15, c16, c17, c18, c19, c20, c21⟩ := vm8 he c14 c15 c16 c17 c18 c19 c20 c21
   have E := Chg.chg E he (fun b e h => (fun e => absurd h (by cases e; exact Nat.not_lt.2 l54)) e); obtain ⟨u61, u62, rfl, c63, c64⟩ := kDot_open r60; have B54 : Bx s58 b54 70 [u61, u62] := B54n; refine wp_seq ?_; obtain ⟨D65, h⟩ := need h; have hz0 := hz; refine wp_draw (its := [⟨57, _, []⟩, ⟨58, _, [0]⟩, ⟨59, _, []⟩, ⟨60, _, [1, 2]⟩, ⟨61, _, [3]⟩, ⟨62, _, [4]⟩, ⟨63, _, [5]⟩, ⟨64, _, [5, 6]⟩, ⟨65, _, [5, 7]⟩, ⟨66, _, [8]⟩, ⟨67, _, [8, 9]⟩, ⟨68, _, [8]⟩, ⟨69, _, [8, 11]⟩, ⟨70, _, [8, 10, 12]⟩, ⟨71, _, [8, 13]⟩, ⟨72, _, [8]⟩, ⟨73, _, [8, 14, 15]⟩, ⟨74, _, [8, 16]⟩, ⟨75, _, [5, 8, 17]⟩, ⟨76, _, [5, 18]⟩]) [19] mo hz (by kernel_rfl) ⟨(fun a s he hf hz => fb rfl rfl fa_72_1 ((hf 1 rfl).trans h1)), (fun a s he hf hz q0 => lo rfl rfl ty_32 q0 (B22.ext he) rfl (vm he c16)), (fun a s he hf hz => ld rfl rfl ty_70 rfl ((hf 5 rfl).trans h5) (B54.ext he) rfl (kDot_eta (x := (List.getD x0.seen (y42).toNat default)) (vm he c63) (vm he c64))), (fun a s he hf hz q1 q2 => opw rfl (op_call rfl rfl (vector_Has.ct q1 q2))), (fun a s he hf hz q3 => no_ rfl rfl q3), mvq rfl rfl, (fun a s he hf hz q5 => og rfl rfl rfl hz hz0 rfl q5 (fun g => op_move_v rfl (V_at h4 he (hf 4 rfl)))), (fun a s he hf hz q5 q6 => og rfl rfl rfl hz hz0 rfl q5 (fun g => op_gtr rfl (q6.1 g) i0)), (fun a s he hf hz q5 q7 => og rfl rfl rfl hz hz0 rfl q5 (fun g => op_move_v rfl (q7.1 g))), (fun a s he hf hz q8 => ogg rfl rfl rfl hz hz0 rfl q8 (fun g => op_faddr_b rfl fa_72_6 ((hf 1 rfl).trans h1))), (fun a s he hf hz q8 q9 => ogg rfl rfl rfl hz hz0 rfl q8 (fun g => op_load1 rfl ty_32 (q9.1 g) (B22.ext he) rfl (vm he c21))), (fun a s he hf hz q8 => ogg rfl rfl rfl hz hz0 rfl q8 (fun g => op_move_v rfl (V_at h4 he (hf 4 rfl)))), (fun a s he hf hz q8 q11 => ogg rfl rfl rfl hz hz0 rfl q8 (fun g => op_sub rfl (q11.1 g) i1)), (fun a s he hf hz q8 q10 q12 => ogg rfl rfl rfl hz hz0 rfl q8 (fun g => op_iaddr rfl sl_32 (q10.1 g) (q12.1 g) (D65 g).1 (D65 g).2)), (fun a s he hf hz q8 q13 => ogg rfl rfl rfl hz hz0 rfl q8 (fun g => op_load_p rfl ty_70 (by decide) (q13.1 g))), (fun a s he hf hz q8 => ogg rfl rfl rfl hz hz0 rfl q8 (fun g => op_loadn rfl ty_70 rfl ((hf 5 rfl).trans h5) (B54.ext he) rfl (kDot_eta (x := (List.getD x0.seen (y42).toNat default)) (vm he c63) (vm he c64)))), (fun a s he hf hz q8 q14 q15 => ogg rfl rfl rfl hz hz0 rfl q8 (fun g => op_call rfl rfl (order_stands.ok (q14.1 g) (q15.1 g)))), (fun a s he hf hz q8 q16 => ogg rfl rfl rfl hz hz0 rfl q8 (fun g => op_geq rfl (q16.1 g) i0)), (fun a s he hf hz q5 q8 q17 => og rfl rfl rfl hz hz0 rfl q5 (fun g => op_and_then rfl (q8.1 g) (fun e => q17.1 ⟨g, e⟩))), (fun a s he hf hz q5 q18 => oe rfl rfl q5 (q18.1)), trivial⟩ ?_
   intro a66 s67 he hf hz hd1 h76; have ⟨hd, E⟩ := hdE hd1 hd E he; obtain ⟨h50, h51, h52⟩ := va3 he hf h50 h51 h52 rfl; have h1 := (hf 1 rfl).trans h1; have B22 := B22.ext he; obtain ⟨c14, c15, c16, c17, c18, c19, c20, c21⟩ := vm8 he c14 c15 c16 c17 c18 c19 c20 c21; refine wp_condV h76 (fun hb => ?_) (fun hb => ?_)
   ·have h := ite_t hb h; refine wp_sr ?_; refine sq_blk (its := [⟨2, _, []⟩]) [0] hz rfl ⟨(fun a s he hf hz => av rfl rfl b_f), trivial⟩ ?_; intro a68 s69 he hf hz hd1 h2; have ⟨hd, E⟩ := hdE hd1 hd E he; refine wp_ret ?_; cases h
    exact ⟨hd, _, results_tmp rfl _ _ _, E, h2⟩
   ·have h := ite_f hb h; refine wp_skip ?_; refine wp_region ?_; refine sq_blk (its := [⟨77, _, []⟩]) [0] hz rfl ⟨(fun a s he hf hz => ad rfl rfl (V_at h52 he (hf 52 rfl)) i1), trivial⟩ ?_; intro a70 s71 he hf hz hd1 h77; have ⟨hd, E⟩ := hdE hd1 hd E he; obtain ⟨h50, h51⟩ := va2 he hf h50 h51 rfl; have h1 := (hf 1 rfl).trans h1; have B22 := B22.ext he; obtain ⟨c14, c15, c16, c17, c18, c19, c20, c21⟩ := vm8 he c14 c15 c16 c17 c18 c19 c20 c21; refine sq_blk (its := [⟨52, _, []⟩]) [0] hz rfl ⟨mvs rfl rfl h77 rfl, trivial⟩ ?_; intro a72 s73 he hf hz hd1 h52; have ⟨hd, E⟩ := hdE hd1 hd E he; obtain ⟨h50, h51⟩ := va2 he hf h50 h51 rfl; have h1 := (hf 1 rfl).trans h1; have B22 := B22.ext he; obtain ⟨c14, c15, c16, c17, c18, c19, c20, c21⟩ := vm8 he c14 c15 c16 c17 c18 c19 c20 c21; exact ⟨_, (by omega : m43 < m43 + 1), _, h, by omega, E, hz, hd, h1, h50, h51, h52, B22, c14, c15, c16, c17, c18, c19, c20, c21⟩
  ·have h := ite_f hb h; refine wp_exit ?_; refine then_exit ?_; refine then_exit ?_; refine inBlock_hit ?_; refine wp_seq ?_; refine wp_sr ?_; refine sq_blk (its := [⟨78, _, []⟩, ⟨79, _, [0]⟩]) [1] hz rfl ⟨(fun a s he hf hz => fb rfl rfl fa_72_3 ((hf 1 rfl).trans h1)), (fun a s he hf hz q0 => lo rfl rfl ty_3 q0 (B22.ext he) rfl (vm he c18)), trivial⟩ ?_; intro a74 s75 he hf hz hd1 h79; have ⟨hd, E⟩ := hdE hd1 hd E he; have h1 := (hf 1 rfl).trans h1; have B22 := B22.ext he; obtain ⟨c18, c20, c21⟩ := vm3 he c18 c20 c21; refine wp_block ?_; refine wp_sr ?_; refine sq_blk (its := [⟨81, _, []⟩, ⟨80, _, [0]⟩]) [1] hz rfl ⟨(fun a s he hf hz => eq_ rfl rfl (V_at h79 he (hf 79 rfl)) i1), avq rfl rfl, trivial⟩ ?_; intro a76 s77 he hf hz hd1 h80; have ⟨hd, E⟩ := hdE hd1 hd E he; have h79 := V_at h79 he (hf 79 rfl); have h1 := (hf 1 rfl).trans h1; have B22 := B22.ext he; obtain ⟨c18, c20, c21⟩ := vm3 he c18 c20 c21; refine wp_condV h80 (fun hb => ?_) (fun hb => ?_)
   ·have h := ite_t hb h; refine wp_sr ?_; have hz0 := hz; refine sq_blk (its := [⟨82, _, []⟩, ⟨83, _, [0]⟩, ⟨84, _, [1]⟩, ⟨85, _, [2]⟩, ⟨86, _, [3]⟩, ⟨87, _, [4]⟩, ⟨88, _, [4, 5]⟩, ⟨89, _, [4, 6]⟩, ⟨90, _, [4, 7]⟩, ⟨91, _, [8]⟩, ⟨92, _, [9]⟩, ⟨93, _, [9, 10]⟩, ⟨94, _, [9, 11]⟩, ⟨95, _, [9, 12]⟩, ⟨2, _, [13]⟩]) [14] hz rfl ⟨(fun a s he hf hz => fb rfl rfl fa_72_6 ((hf 1 rfl).trans h1)), (fun a s he hf hz q0 => lo rfl rfl ty_32 q0 (B22.ext he) rfl (vm he c21)), (fun a s he hf hz q1 => le_ rfl rfl u_32 q1), (fun a s he hf hz q2 => eq_ rfl rfl q2 i0), mvq rfl rfl, (fun a s he hf hz q4 => og rfl rfl rfl hz hz0 rfl q4 (fun g => op_faddr_b rfl fa_72_5 ((hf 1 rfl).trans h1))), (fun a s he hf hz q4 q5 => og rfl rfl rfl hz hz0 rfl q4 (fun g => op_load1 rfl ty_2 (q5.1 g) (B22.ext he) rfl (vm he c20))), (fun a s he hf hz q4 q6 => og rfl rfl rfl hz hz0 rfl q4 (fun g => op_geq rfl (q6.1 g) i1)), (fun a s he hf hz q4 q7 => an rfl rfl q4 (q7.1)), mvq rfl rfl, (fun a s he hf hz q9 => og rfl rfl rfl hz hz0 rfl q9 (fun g => op_faddr_b rfl fa_72_5 ((hf 1 rfl).trans h1))), (fun a s he hf hz q9 q10 => og rfl rfl rfl hz hz0 rfl q9 (fun g => op_load1 rfl ty_2 (q10.1 g) (B22.ext he) rfl (vm he c20))), (fun a s he hf hz q9 q11 => og rfl rfl rfl hz hz0 rfl q9 (fun g => op_leq rfl (q11.1 g) (lit_i (k := .i64) (n := 9999) (by decide)))), (fun a s he hf hz q9 q12 => an rfl rfl q9 (q12.1)), avq rfl rfl, trivial⟩ ?_
    intro a78 s79 he hf hz hd1 h2; have ⟨hd, E⟩ := hdE hd1 hd E he; refine wp_ret ?_; cases h
    exact ⟨hd, _, results_tmp rfl _ _ _, E, h2⟩
   ·have h := ite_f hb h; refine wp_sr ?_; refine sq_blk (its := [⟨97, _, []⟩, ⟨96, _, [0]⟩]) [1] hz rfl ⟨(fun a s he hf hz => eq_ rfl rfl (V_at h79 he (hf 79 rfl)) (lit_i (k := .i64) (n := 2) (by decide))), avq rfl rfl, trivial⟩ ?_; intro a80 s81 he hf hz hd1 h96; have ⟨hd, E⟩ := hdE hd1 hd E he; have h1 := (hf 1 rfl).trans h1; have B22 := B22.ext he; obtain ⟨c18, c20⟩ := vm2 he c18 c20; refine wp_condV h96 (fun hb => ?_) (fun hb => ?_)
    ·have h := ite_t hb h; refine wp_sr ?_; have hz0 := hz; refine sq_blk (its := [⟨98, _, []⟩, ⟨99, _, [0]⟩, ⟨100, _, [1]⟩, ⟨101, _, [2]⟩, ⟨102, _, [3]⟩, ⟨103, _, [3, 4]⟩, ⟨104, _, [3, 5]⟩, ⟨105, _, [3, 6]⟩, ⟨2, _, [7]⟩]) [8] hz rfl ⟨(fun a s he hf hz => fb rfl rfl fa_72_5 ((hf 1 rfl).trans h1)), (fun a s he hf hz q0 => lo rfl rfl ty_2 q0 (B22.ext he) rfl (vm he c20)), (fun a s he hf hz q1 => opw rfl (op_geq rfl q1 i1)), mvq rfl rfl, (fun a s he hf hz q3 => og rfl rfl rfl hz hz0 rfl q3 (fun g => op_faddr_b rfl fa_72_5 ((hf 1 rfl).trans h1))), (fun a s he hf hz q3 q4 => og rfl rfl rfl hz hz0 rfl q3 (fun g => op_load1 rfl ty_2 (q4.1 g) (B22.ext he) rfl (vm he c20))), (fun a s he hf hz q3 q5 => og rfl rfl rfl hz hz0 rfl q3 (fun g => op_leq rfl (q5.1 g) (lit_i (k := .i64) (n := 9999) (by decide)))), (fun a s he hf hz q3 q6 => an rfl rfl q3 (q6.1)), avq rfl rfl, trivial⟩ ?_; intro a82 s83 he hf hz hd1 h2; have ⟨hd, E⟩ := hdE hd1 hd E he; refine wp_ret ?_; cases h
     exact ⟨hd, _, results_tmp rfl _ _ _, E, h2⟩
    ·have h := ite_f hb h; refine wp_skip ?_; refine wp_sr ?_; have hz0 := hz; refine sq_blk (its := [⟨106, _, []⟩, ⟨107, _, [0]⟩, ⟨108, _, [1]⟩, ⟨109, _, [2]⟩, ⟨110, _, [3]⟩, ⟨111, _, [3, 4]⟩, ⟨112, _, [3, 5]⟩, ⟨113, _, [3, 6]⟩, ⟨2, _, [7]⟩]) [8] hz rfl ⟨(fun a s he hf hz => fb rfl rfl fa_72_3 ((hf 1 rfl).trans h1)), (fun a s he hf hz q0 => lo rfl rfl ty_3 q0 (B22.ext he) rfl (vm he c18)), (fun a s he hf hz q1 => eq_ rfl rfl q1 (lit_i (k := .i64) (n := 3) (by decide))), mvq rfl rfl, (fun a s he hf hz q3 => og rfl rfl rfl hz hz0 rfl q3 (fun g => op_faddr_b rfl fa_72_5 ((hf 1 rfl).trans h1))), (fun a s he hf hz q3 q4 => og rfl rfl rfl hz hz0 rfl q3 (fun g => op_load1 rfl ty_2 (q4.1 g) (B22.ext he) rfl (vm he c20))), (fun a s he hf hz q3 q5 => og rfl rfl rfl hz hz0 rfl q3 (fun g => op_eql rfl (q5.1 g) i0)), (fun a s he hf hz q3 q6 => an rfl rfl q3 (q6.1)), avq rfl rfl, trivial⟩ ?_; intro a84 s85 he hf hz hd1 h2; have ⟨hd, E⟩ := hdE hd1 hd E he; refine wp_ret ?_; cases h
     exact ⟨hd, _, results_tmp rfl _ _ _, E, h2⟩
theorem order_Right.nice (x0 : Op) (b0 : kOp.bd x0) : ∃ k, order_Right.f k x0 = some (rightO x0) := by
 have hm := maxLen_lt
 have hb : x0.seen.length ≤ maxLen := b0.2.2.2.2.2.2.1
 have hn := inK64 (show inK .i64 x0.dot.n from b0.1.2)
 have fin : order_Right.l0 1 x0 (x0.seen.length : Int) = some (kindOk x0) := by
  simp only [order_Right.l0, Int.lt_irrefl, decide_false, Bool.false_eq_true, if_false]
  unfold kindOk
  by_cases h1 : x0.kind = 1
  ·simp [h1]; cases decide (x0.seen = []) <;> simp
  ·by_cases h2 : x0.kind = 2
   ·simp [h2]
   ·simp [h1, h2]
 have : ∀ y, y ≤ x0.seen.length → ∃ k, order_Right.l0 k x0 (y : Int) = some ((if y = 0 then seenV x0.deps x0.seen else seenP x0.deps (x0.seen.getD (y - 1) default) (x0.seen.drop y)) && kindOk x0) := by
  refine rounds x0.seen.length ⟨1, ?_⟩ fun y hy ⟨k, hk⟩ => ?_
  ·rw [fin, List.drop_length]
   by_cases h : x0.seen.length = 0
   ·rw [if_pos h, List.length_eq_zero_iff.1 h] <;> rfl
   ·rw [if_neg h] <;> rfl
  ·rw [if_neg (by omega), Nat.add_sub_cancel] at hk
   push_cast at hk
   have hr : (0 : Int) ≤ y ∧ (y : Int) < x0.seen.length := ⟨by omega, by omega⟩
   have hu : ∀ k, order_Right.l0 (k + 1) x0 (y : Int) = if ((!hasV x0.deps (x0.seen.getD y default)) || (decide (0 < y) && !ref08_ahead (x0.seen.getD (y - 1) default) (x0.seen.getD y default))) = true then some false else order_Right.l0 k x0 ((y : Int) + 1) := fun k => by
    have hg : ((!(hasV x0.deps (x0.seen.getD y default))) = false ∧ decide ((0 : Int) < (y : Int)) = true) → (0 ≤ IntKind.wrap .i64 ((y : Int) - 1) ∧ IntKind.wrap .i64 ((y : Int) - 1) < (x0.seen.length : Int)) := fun ⟨_, h⟩ => by
     have : (0 : Int) < y := by simpa using h
     rw [w64 (by omega) (by omega)]; omega
    simp only [order_Right.l0, Int.toNat_natCast, hr, and_self, decide_true, if_true, if_pos hg]
    rw [w64s (by omega)]
    by_cases h0 : y = 0
    ·subst h0; simp
    ·have e1 : IntKind.wrap .i64 ((y : Int) - 1) = ((y - 1 : Nat) : Int) := by rw [w64 (by omega) (by omega)]; omega
     have h1 : (0 : Int) < (y : Int) := by omega
     have h2 : 0 < y := by omega
     rw [e1]
     simp only [Int.toNat_natCast, h1, h2, decide_true, stands_eq]
   refine ⟨k + 1, ?_⟩
   rw [hu]
   by_cases h0 : y = 0
   ·subst h0
    have hd := drop_at (xs := x0.seen) (y := 0) default hy
    rw [List.drop_zero] at hd
    rw [if_pos rfl]
    conv => rhs; rw [hd]
    generalize x0.seen.getD 0 default = d at *
    simp only [seenV]
    cases h1 : hasV x0.deps d
    ·simp
    ·simp only [Bool.not_true, Nat.lt_irrefl, decide_false, Bool.false_and, Bool.or_self, Bool.false_eq_true, if_false, Bool.true_and]; exact hk
   ·rw [if_neg h0, drop_at default hy]
    have h2 : 0 < y := by omega
    generalize x0.seen.getD y default = d at *
    generalize x0.seen.getD (y - 1) default = e at *
    simp only [seenP, h2, decide_true, Bool.true_and]
    cases h1 : hasV x0.deps d
    ·simp
    ·cases h3 : ref08_ahead e d
     ·simp
     ·simp only [Bool.not_true, Bool.or_self, Bool.false_eq_true, if_false, Bool.true_and]; exact hk
 have hw : IntKind.wrap .i64 (x0.dot.n - 1) = x0.dot.n - 1 ∨ vector_isDot x0.dot = false := by
  cases h : vector_isDot x0.dot
  ·exact .inr rfl
  ·obtain ⟨_, h1, h2⟩ := isDot_parts h
   exact .inl (w64 (by omega) (by omega))
 obtain ⟨k, hk⟩ := this 0 (Nat.zero_le _)
 rw [if_pos rfl] at hk
 unfold order_Right.f rightO
 simp only [rightV_one, isText_eq]
 cases h1 : vector_isDot x0.dot
 ·exact ⟨0, by simp⟩
 have hw : IntKind.wrap .i64 (x0.dot.n - 1) = x0.dot.n - 1 := by
  rcases hw with h | h
  ·exact h
  ·rw [h1] at h; cases h
 rw [hw]
 cases h2 : rightV x0.deps
 ·exact ⟨0, by simp⟩
 by_cases h3 : at_ x0.deps x0.dot.who = x0.dot.n - 1
 ·cases h4 : textOk x0.cart
  ·exact ⟨0, by simp⟩
  cases h5 : textOk x0.item
  ·exact ⟨0, by simp⟩
  by_cases h6 : x0.seen.length ≤ 128
  ·have h6' : ¬ (128 : Int) < x0.seen.length := by omega
   refine ⟨k, ?_⟩
   simp only [h3, h6, h6', decide_true, decide_false, Bool.not_true, Bool.or_self, Bool.false_eq_true, if_false, Bool.true_and]
   exact hk
  ·have h6' : (128 : Int) < x0.seen.length := by omega
   exact ⟨0, by simp [h6, h6']⟩
 ·exact ⟨0, by simp [h3]⟩
theorem order_Right.ct {s0 : St} {v0 : Value} {x0 : Op} (k0 : kOp.V s0 v0 x0) : Cl Try.prog 47 #[v0] s0 (Okf s0 (Fact.v kB (rightO x0))) := by
 obtain ⟨k, h⟩ := order_Right.nice x0 (Kn.V_bd k0)
 exact order_Right.ok k0 h
end
section
attribute [local irreducible] Kn.V PtrV
def order_layDot.f (k : Nat) (x0 : (List UInt8)) (x1 : Dot) : Option ((List UInt8)) := (if x0.length + x1.who.length + 9 ≤ 140737488355328 then (if (text x0 x1.who).length + 9 ≤ 140737488355328 then (some (number (text x0 x1.who) (IntKind.wrap .u64 x1.n))) else none) else none)
theorem order_layDot.ok {s0 : St} {v0 : Value} {x0 : (List UInt8)} {v1 : Value} {x1 : Dot} {k : Nat} {r : (List UInt8)} (k0 : (kSl kY).V s0 v0 x0) (k1 : kDot.V s0 v1 x1) (h : order_layDot.f k x0 x1 = some r) : Cl Try.prog 138 #[v0, v1] s0 (Okf s0 (Fact.v (kSl kY) r)) := by
 unfold order_layDot.f at h
 refine cl_of_wp Try.func138 rfl en_138 fun a hz hd hp => ?_; have hz : a.tmps.size = 13 := hz; have E := Chg.refl (fun _ => False) s0; have h0 := V_at k0 E (hp 0 v0 rfl); have h1 := V_at k1 E (hp 1 v1 rfl); refine wp_sr ?_; refine sq_set hz rfl rfl rfl (op_boxn rfl rfl h1 (fun s2 e4 he BB3 r5 => fun a1 h3 hf hz hd1 => ?_)); obtain ⟨b10, hb10⟩ : ∃ b, b = s0.w.heap.size := ⟨_, rfl⟩; rw [← hb10] at BB3 h3; have B10 := BB3; have l10 : s0.w.heap.size ≤ b10 := by have := E.size; omega
 have ⟨hd, E⟩ := hdE hd1 hd E he; have h0 := V_at h0 he (hf 0 rfl); obtain ⟨u6, u7, rfl, c8, c9⟩ := kDot_open r5; refine sq_blk (its := [⟨4, _, []⟩]) [] hz rfl ⟨(fun a s he hf hz => av rfl rfl (lit_nil (d := kY))), trivial⟩ ?_; intro a11 s12 he hf hz hd1; have ⟨hd, E⟩ := hdE hd1 hd E he; have h0 := V_at h0 he (hf 0 rfl); have h3 := (hf 3 rfl).trans h3; have B10 := B10.ext he; obtain ⟨c8, c9⟩ := vm2 he c8 c9; refine wp_seq ?_; obtain ⟨D13, h⟩ := need h; obtain ⟨D14, h⟩ := need h; refine wp_draw (its := [⟨5, _, []⟩, ⟨6, _, []⟩, ⟨7, _, [1]⟩, ⟨8, _, [0, 2]⟩, ⟨9, _, []⟩, ⟨10, _, [4]⟩, ⟨11, _, [5]⟩, ⟨12, _, [3, 6]⟩, ⟨4, _, [7]⟩]) [8] mo hz (by kernel_rfl) ⟨mvs rfl rfl h0 rfl, (fun a s he hf hz => fb rfl rfl fa_70_0 ((hf 3 rfl).trans h3)), (fun a s he hf hz q1 => lo rfl rfl ty_9 q1 (B10.ext he) rfl (vm he c8)), (fun a s he hf hz q0 q2 => opw rfl (op_call_f rfl rfl (f := Fact.own (kSl kY) 5 1 (fun g => s12.w.heap.size ≤ g) (text x0 x1.who)) (Cl.mono (wire_Text.ct q0 q2 D13) (own_w he)))), (fun a s he hf hz => fb rfl rfl fa_70_1 ((hf 3 rfl).trans h3)), (fun a s he hf hz q4 => lo rfl rfl ty_2 q4 (B10.ext he) rfl (vm he c9)), (fun a s he hf hz q5 => cv rfl rfl u_2 u_89 q5), (fun a s he hf hz q3 q6 => opw rfl (op_call_f rfl rfl (f := Fact.own (kSl kY) 5 1 (fun g => s12.w.heap.size ≤ g) (number (text x0 x1.who) (IntKind.wrap .u64 x1.n))) (Cl.mono (wire_Number.ct q3.1 q6 D14) (own_w he)))), (fun a s he hf hz q7 => opw rfl (op_assign rfl (f := Fact.own _ _ _ _ _) q7)), trivial⟩ ?_
 intro a15 s16 he hf hz hd1 k4; have hd := hd1.trans hd; have f4' : ∀ g, sb (a15.get 4) = some g → s0.w.heap.size ≤ g ∧ g ≠ b10 := fun g hg => by have h1 := k4.2.2 g hg; have h2 := E.size; have l10 := B10.lt; exact ⟨(by omega), (by omega)⟩
 have E := E.trans he; have h4 := k4.1; refine wp_ret ?_; cases h
 exact ⟨hd, _, results_tmp rfl _ _ _, E, h4⟩
def dotL (b : Str) (d : Dot) : Str := number (text b d.who) (IntKind.wrap .u64 d.n)
theorem order_layDot.nice (x0 : Str) (x1 : Dot) (b0 : (kSl kY).bd x0) (b1 : kDot.bd x1) (hl : x0.length + x1.who.length + 30 ≤ 140737488355328) : ∃ k, order_layDot.f k x0 x1 = some (dotL x0 x1) := by
 refine ⟨0, ?_⟩
 have := numB_le x1.who.length
 unfold order_layDot.f
 rw [if_pos (by omega), if_pos (by simp only [text, number, Int.toNat_natCast, List.length_append]; omega)]
 rfl
theorem order_layDot.ct {s0 : St} {v0 : Value} {x0 : (List UInt8)} {v1 : Value} {x1 : Dot} (k0 : (kSl kY).V s0 v0 x0) (k1 : kDot.V s0 v1 x1) (hpre : x0.length + x1.who.length + 30 ≤ 140737488355328) : Cl Try.prog 138 #[v0, v1] s0 (Okf s0 (Fact.v (kSl kY) (dotL x0 x1))) := by
 obtain ⟨k, h⟩ := order_layDot.nice x0 x1 (Kn.V_bd k0) (Kn.V_bd k1) hpre
 exact order_layDot.ok k0 k1 h
def textB (x : Str) : Str := numB x.length ++ x
def opH (o : Op) : Str := dotB o.dot ++ vecB o.deps ++ textB o.cart ++ textB o.item
def opN (o : Op) : Str := numB o.kind.toNat ++ numB o.qty.toNat ++ numB o.seen.length
def opB (o : Op) : Str := opH o ++ opN o ++ (o.seen.map dotB).flatten
def layO (o : Op) : Str × Int := if rightO o = true then (opB o, 0) else ([], 2)
theorem seenP_dot (v : List Dot) : ∀ (l : List Dot) (p : Dot), seenP v p l = true → ∀ d ∈ l, vector_isDot d = true
 | [], _, _, _, h => by simp at h
 | e :: l, p, hc, d, hd => by
  simp only [seenP, Bool.and_eq_true] at hc
  rcases List.mem_cons.1 hd with rfl | hd
  ·have := hc.1.1; unfold hasV at this; simp only [Bool.and_eq_true] at this; exact this.1.2
  ·exact seenP_dot v l e hc.2 d hd
theorem seenV_dot {v l : List Dot} (h : seenV v l = true) : ∀ d ∈ l, vector_isDot d = true := by
 cases l with
 | nil => intro d hd; simp at hd
 | cons e l =>
  simp only [seenV, Bool.and_eq_true] at h
  intro d hd
  rcases List.mem_cons.1 hd with rfl | hd
  ·have := h.1; unfold hasV at this; simp only [Bool.and_eq_true] at this; exact this.1.2
  ·exact seenP_dot v l e h.2 d hd
theorem rightO_parts {o : Op} (h : rightO o = true) : vector_isDot o.dot = true ∧ rightV o.deps = true ∧ (1 ≤ o.cart.length ∧ o.cart.length ≤ 32) ∧ (1 ≤ o.item.length ∧ o.item.length ≤ 32) ∧ o.seen.length ≤ 128 ∧ (∀ d ∈ o.seen, vector_isDot d = true) ∧ (1 ≤ o.kind ∧ o.kind ≤ 3) ∧ (0 ≤ o.qty ∧ o.qty ≤ 9999) := by
 unfold rightO textOk at h
 simp only [Bool.and_eq_true, decide_eq_true_eq] at h
 obtain ⟨⟨⟨⟨⟨⟨⟨h1, h2⟩, h3⟩, h4⟩, h5⟩, h6⟩, h7⟩, h8⟩ := h
 refine ⟨h1, h2, h4, h5, h6, seenV_dot h7, ?_⟩
 unfold kindOk at h8
 split at h8
 ·simp only [Bool.and_eq_true, decide_eq_true_eq] at h8; omega
 ·split at h8
  ·simp only [Bool.and_eq_true, decide_eq_true_eq] at h8; omega
  ·simp only [Bool.and_eq_true, decide_eq_true_eq] at h8; omega
theorem dotL_eq (b : Str) {d : Dot} (h : vector_isDot d = true) : dotL b d = b ++ dotB d := dot_laid b h
theorem vecB_len {x : List Dot} (h : rightV x = true) : (vecB x).length ≤ 2697 := by
 obtain ⟨h1, h2⟩ := rightV_dot h
 have := dots_len h2
 have := numB_le x.length
 unfold vecB; rw [List.length_append]; omega
theorem textB_len (x : Str) : (textB x).length ≤ x.length + 9 := by have := numB_le x.length; unfold textB; rw [List.length_append]; omega
theorem text_eq (b x : Str) : text b x = b ++ textB x := by simp [text, number, textB]
theorem opH_len {o : Op} (h : rightO o = true) : (opH o).length ≤ 2821 := by
 obtain ⟨h1, h2, h3, h4, _⟩ := rightO_parts h
 have a1 := dotB_len h1
 have a2 := vecB_len h2
 have a3 := textB_len o.cart
 have a4 := textB_len o.item
 unfold opH; simp only [List.length_append]; omega
theorem opN_len (o : Op) : (opN o).length ≤ 27 := by
 have a1 := numB_le o.kind.toNat
 have a2 := numB_le o.qty.toNat
 have a3 := numB_le o.seen.length
 unfold opN; simp only [List.length_append]; omega
theorem opB_len {o : Op} (h : rightO o = true) : (opB o).length ≤ 8300 := by
 have a1 := opH_len h
 have a2 := opN_len o
 obtain ⟨_, _, _, _, h5, h6, _⟩ := rightO_parts h
 have a3 := dots_len h6
 unfold opB; simp only [List.length_append]; omega
theorem head_eq {o : Op} (h : rightO o = true) : text (text ((layV (dotL ([] : Str) o.dot) o.deps).1) o.cart) o.item = opH o := by
 obtain ⟨h1, h2, _⟩ := rightO_parts h
 unfold layV
 rw [if_pos h2, dotL_eq _ h1, text_eq, text_eq]
 simp [opH]
mutual
def order_Lay.l1 : Nat → Op → (List UInt8) → Int → Option (Str × Int)
 | 0, _, _, _ => none
 | m68 + 1, x0, y66, y67 => (if decide (y67 < (x0.seen.length : Int)) = true then (if (0 ≤ y67 ∧ y67 < (x0.seen.length : Int)) then (if y66.length + (List.getD x0.seen (y67).toNat default).who.length + 30 ≤ 140737488355328 then (order_Lay.l1 m68 x0 (dotL y66 (List.getD x0.seen (y67).toNat default)) (IntKind.wrap .i64 (y67 + 1))) else none) else none) else (some (y66, 0)))
def order_Lay.l0 : Nat → Op → (List UInt8) → Int → Option (Str × Int)
 | 0, _, _, _ => none
 | m46 + 1, x0, y44, y45 => (if decide (y45 < (([x0.kind, x0.qty, (x0.seen.length : Int)] : List Int).length : Int)) = true then (if (0 ≤ y45 ∧ y45 < (([x0.kind, x0.qty, (x0.seen.length : Int)] : List Int).length : Int)) then (if y44.length + 9 ≤ 140737488355328 then (order_Lay.l0 m46 x0 (number y44 (IntKind.wrap .u64 (List.getD ([x0.kind, x0.qty, (x0.seen.length : Int)] : List Int) (y45).toNat default))) (IntKind.wrap .i64 (y45 + 1))) else none) else none) else (order_Lay.l1 m46 x0 y44 0))
end
def order_Lay.f (k : Nat) (x0 : Op) : Option (Str × Int) := (if (!(rightO x0)) = true then (some (([] : Str), 2)) else (if ([] : (List UInt8)).length + x0.dot.who.length + 30 ≤ 140737488355328 then (if (dotL ([] : (List UInt8)) x0.dot).length + 4000 ≤ 140737488355328 then (if ((layV (dotL ([] : (List UInt8)) x0.dot) x0.deps).1).length + x0.cart.length + 9 ≤ 140737488355328 then (if (text ((layV (dotL ([] : (List UInt8)) x0.dot) x0.deps).1) x0.cart).length + x0.item.length + 9 ≤ 140737488355328 then (order_Lay.l0 k x0 (text (text ((layV (dotL ([] : (List UInt8)) x0.dot) x0.deps).1) x0.cart) x0.item) 0) else none) else none) else none) else none))
theorem order_Lay.ok {s0 : St} {v0 : Value} {x0 : Op} {k : Nat} {r : Str × Int} (k0 : kOp.V s0 v0 x0) (h : order_Lay.f k x0 = some r) : Cl Try.prog 113 #[v0] s0 (Okf s0 (Fact.tup [Fact.v kS r.1, Fact.v (kI .i64) r.2])) := by
 unfold order_Lay.f at h
 refine cl_of_wp Try.func113 rfl en_113 fun a hz hd hp => ?_; have hz : a.tmps.size = 60 := hz; have E := Chg.refl (fun _ => False) s0; have h0 := V_at k0 E (hp 0 v0 rfl); refine wp_sr ?_; refine sq_set hz rfl rfl rfl (op_boxn rfl rfl h0 (fun s2 e4 he BB3 r5 => fun a1 h1 hf hz hd1 => ?_)); obtain ⟨b22, hb22⟩ : ∃ b, b = s0.w.heap.size := ⟨_, rfl⟩; rw [← hb22] at BB3 h1; have B22 := BB3; have l22 : s0.w.heap.size ≤ b22 := by have := E.size; omega
 have ⟨hd, E⟩ := hdE hd1 hd E he; obtain ⟨u6, u7, u8, u9, u10, u11, u12, u13, rfl, c14, c15, c16, c17, c18, c19, c20, c21⟩ := kOp_open r5; refine sq_blk (its := [⟨2, _, []⟩, ⟨3, _, []⟩]) [] hz rfl ⟨(fun a s he hf hz => av rfl rfl s_0), (fun a s he hf hz => av rfl rfl i0), trivial⟩ ?_; intro a23 s24 he hf hz hd1; have ⟨hd, E⟩ := hdE hd1 hd E he; have h1 := (hf 1 rfl).trans h1; have B22 := B22.ext he; obtain ⟨c14, c15, c16, c17, c18, c19, c20, c21⟩ := vm8 he c14 c15 c16 c17 c18 c19 c20 c21; refine wp_seq ?_; refine wp_sr ?_; refine sq_blk (its := [⟨10, _, []⟩, ⟨11, _, [0]⟩, ⟨12, _, [1]⟩]) [2] hz rfl ⟨(fun a s he hf hz => ld rfl rfl ty_72 rfl ((hf 1 rfl).trans h1) (B22.ext he) rfl (kOp_eta (x := x0) (vm he c14) (vm he c15) (vm he c16) (vm he c17) (vm he c18) (vm he c19) (vm he c20) (vm he c21))), (fun a s he hf hz q0 => opw rfl (op_call rfl rfl (order_Right.ct q0))), (fun a s he hf hz q1 => no_ rfl rfl q1), trivial⟩ ?_; intro a25 s26 he hf hz hd1 h12; have hd := hd1.trans hd; have h1 := (hf 1 rfl).trans h1; have B22 := B22.ext he
 obtain ⟨c14, c15, c16, c17, c18, c19, c20, c21⟩ := vm8 he c14 c15 c16 c17 c18 c19 c20 c21; have E := E.trans he; refine wp_condV h12 (fun hb => ?_) (fun hb => ?_)
 ·have h := ite_t hb h; refine wp_sr ?_; refine sq_blk (its := [⟨2, _, []⟩, ⟨3, _, []⟩]) [0, 1] hz rfl ⟨(fun a s he hf hz => av rfl rfl s_0), (fun a s he hf hz => av rfl rfl (lit_i (k := .i64) (n := 2) (by decide))), trivial⟩ ?_; intro a27 s28 he hf hz hd1 h2 h3; have ⟨hd, E⟩ := hdE hd1 hd E he; refine wp_ret ?_; cases h
  exact ⟨hd, _, results_tmp2 rfl _ _ _, E, tup2 h2 h3⟩
 ·have h := ite_f hb h; refine wp_skip ?_; refine wp_seq ?_; obtain ⟨D29, h⟩ := need h; obtain ⟨D30, h⟩ := need h; refine wp_draw (its := [⟨14, _, []⟩, ⟨15, _, [0]⟩, ⟨16, _, [1]⟩, ⟨17, _, []⟩, ⟨18, _, [3]⟩, ⟨19, _, [2, 4]⟩, ⟨13, _, [5]⟩, ⟨20, _, [6]⟩, ⟨21, _, [6]⟩, ⟨4, _, [7]⟩, ⟨5, _, [8]⟩]) [9] mo hz (by kernel_rfl) ⟨(fun a s he hf hz => fb rfl rfl fa_72_0 ((hf 1 rfl).trans h1)), (fun a s he hf hz q0 => ld rfl rfl ty_70 rfl q0 (B22.ext he) rfl (kDot_eta (x := x0.dot) (vm he c14) (vm he c15))), (fun a s he hf hz q1 => opw rfl (op_call rfl rfl (order_layDot.ct (lit_nil (d := kY)) q1 D29))), (fun a s he hf hz => fb rfl rfl fa_72_1 ((hf 1 rfl).trans h1)), (fun a s he hf hz q3 => lo rfl rfl ty_32 q3 (B22.ext he) rfl (vm he c16)), (fun a s he hf hz q2 q4 => opw rfl (op_call rfl rfl (vector_Lay.ct q2 q4 D30))), (fun a s he hf hz q5 => opw rfl (op_move rfl (f := Fact.tup _) q5)), (fun a s he hf hz q6 => opw rfl (op_extract (f := Fact.v _ _) rfl q6 rfl)), (fun a s he hf hz q6 => opw rfl (op_extract (f := Fact.v _ _) rfl q6 rfl)), avq rfl rfl, avq rfl rfl, trivial⟩ ?_; intro a31 s32 he hf hz hd1 h4; have hd := hd1.trans hd; have h1 := (hf 1 rfl).trans h1; have B22 := B22.ext he
  obtain ⟨c14, c15, c16, c17, c18, c19, c20, c21⟩ := vm8 he c14 c15 c16 c17 c18 c19 c20 c21; have E := E.trans he; refine wp_seq ?_; obtain ⟨D33, h⟩ := need h; obtain ⟨D34, h⟩ := need h; refine wp_draw (its := [⟨22, _, []⟩, ⟨23, _, []⟩, ⟨24, _, [1]⟩, ⟨25, _, [0, 2]⟩, ⟨26, _, []⟩, ⟨27, _, [4]⟩, ⟨28, _, [3, 5]⟩]) [6] mo hz (by kernel_rfl) ⟨mvs rfl rfl h4 rfl, (fun a s he hf hz => fb rfl rfl fa_72_2 ((hf 1 rfl).trans h1)), (fun a s he hf hz q1 => lo rfl rfl ty_9 q1 (B22.ext he) rfl (vm he c17)), (fun a s he hf hz q0 q2 => opw rfl (op_call_f rfl rfl (f := Fact.own (kSl kY) 5 1 (fun g => s32.w.heap.size ≤ g) (text ((layV (dotL ([] : (List UInt8)) x0.dot) x0.deps).1) x0.cart)) (Cl.mono (wire_Text.ct q0 q2 D33) (own_w he)))), (fun a s he hf hz => fb rfl rfl fa_72_4 ((hf 1 rfl).trans h1)), (fun a s he hf hz q4 => lo rfl rfl ty_9 q4 (B22.ext he) rfl (vm he c19)), (fun a s he hf hz q3 q5 => opw rfl (op_call_f rfl rfl (f := Fact.own (kSl kY) 5 1 (fun g => s32.w.heap.size ≤ g) (text (text ((layV (dotL ([] : (List UInt8)) x0.dot) x0.deps).1) x0.cart) x0.item)) (Cl.mono (wire_Text.ct q3.1 q5 D34) (own_w he)))), trivial⟩ ?_
  intro a35 s36 he hf hz hd1 k28; have hd := hd1.trans hd; have f28' : ∀ g, sb (a35.get 28) = some g → s0.w.heap.size ≤ g ∧ g ≠ b22 := fun g hg => by have h1 := k28.2.2 g hg; have h2 := E.size; have l22 := B22.lt; exact ⟨(by omega), (by omega)⟩
  have h1 := (hf 1 rfl).trans h1; have B22 := B22.ext he; obtain ⟨c14, c15, c16, c17, c18, c19, c20, c21⟩ := vm8 he c14 c15 c16 c17 c18 c19 c20 c21; have E := E.trans he; have h28 := k28.1; have p28 := k28.2.1; have f28 := f28'; refine sq_blk (its := [⟨4, _, []⟩]) [0] hz rfl ⟨(fun a s he hf hz => opw rfl (op_assign rfl (f := Fact.own _ _ _ _ _) (own_at h28 p28 f28 he (hf 28 rfl)))), trivial⟩ ?_; intro a38 s39 he hf hz hd1 k4; have ⟨hd, E⟩ := hdE hd1 hd E he; have h1 := (hf 1 rfl).trans h1; have B22 := B22.ext he; obtain ⟨c14, c15, c16, c17, c18, c19, c20, c21⟩ := vm8 he c14 c15 c16 c17 c18 c19 c20 c21; have h4 := k4.1; refine wp_seq ?_; refine wp_sr ?_; refine sq_blk (its := [⟨29, _, []⟩, ⟨30, _, [0]⟩, ⟨31, _, []⟩, ⟨32, _, [2]⟩, ⟨33, _, []⟩, ⟨34, _, [4]⟩, ⟨35, _, [5]⟩, ⟨36, _, [1, 3, 6]⟩, ⟨37, _, [7]⟩, ⟨38, _, []⟩]) [7, 8, 9] hz rfl ⟨(fun a s he hf hz => fb rfl rfl fa_72_3 ((hf 1 rfl).trans h1)), (fun a s he hf hz q0 => lo rfl rfl ty_3 q0 (B22.ext he) rfl (vm he c18)), (fun a s he hf hz => fb rfl rfl fa_72_5 ((hf 1 rfl).trans h1)), (fun a s he hf hz q2 => lo rfl rfl ty_2 q2 (B22.ext he) rfl (vm he c20)), (fun a s he hf hz => fb rfl rfl fa_72_6 ((hf 1 rfl).trans h1)), (fun a s he hf hz q4 => lo rfl rfl ty_32 q4 (B22.ext he) rfl (vm he c21)), (fun a s he hf hz q5 => le_ rfl rfl u_32 q5), (fun a s he hf hz q1 q3 q6 => opw rfl (op_lit_v (d := (kI .i64)) rfl lt_170 (zc := [.int .i64 0, .int .i64 0, .int .i64 0]) (by kernel_rfl) (ps := [(0, [(a.get 30)]), (1, [(a.get 32)]), (2, [(a.get 35)])]) ⟨rfl, V_cells1 (s := s) rfl q1, rfl, V_cells1 (s := s) rfl q3, rfl, V_cells1 (s := s) rfl q6, trivial⟩ rfl (by decide) (ys := ([x0.kind, x0.qty, (x0.seen.length : Int)] : List Int)) rfl (by decide) rfl (lit_rows3 (V_one rfl q1) (V_one rfl q3) (V_one rfl q6)))), (fun a s he hf hz q7 => le_ rfl rfl u_170 q7), (fun a s he hf hz => mv rfl rfl i0), trivial⟩ ?_
  intro a40 s41 he hf hz hd1 h36 h37 h38; have ⟨hd, E⟩ := hdE hd1 hd E he; have h4 := V_at h4 he (hf 4 rfl); have h1 := (hf 1 rfl).trans h1; have B22 := B22.ext he; obtain ⟨c14, c15, c16, c17, c18, c19, c20, c21⟩ := vm8 he c14 c15 c16 c17 c18 c19 c20 c21; refine wp_block ?_; refine wp_loop (k := k) (fun m46 a s => ∃ (y44 : (List UInt8)) (y45 : Int), order_Lay.l0 m46 x0 y44 y45 = some r ∧ m46 ≤ k ∧ Ext s0 s ∧ a.tmps.size = 60 ∧ a.defers = [] ∧ a.get 1 = .pointer (some ⟨b22, 0, none⟩) ∧ (kSl kY).V s (a.get 4) y44 ∧ (kSl (kI .i64)).V s (a.get 36) ([x0.kind, x0.qty, (x0.seen.length : Int)] : List Int) ∧ (kI .i64).V s (a.get 37) (([x0.kind, x0.qty, (x0.seen.length : Int)] : List Int).length : Int) ∧ (kI .i64).V s (a.get 38) y45 ∧ Bx s b22 72 [u6, u7, u8, u9, u10, u11, u12, u13] ∧ kS.V s u6 x0.dot.who ∧ (kI .i64).V s u7 x0.dot.n ∧ (kSl kDot).V s u8 x0.deps ∧ kS.V s u9 x0.cart ∧ (kI .i64).V s u10 x0.kind ∧ kS.V s u11 x0.item ∧ (kI .i64).V s u12 x0.qty ∧ (kSl kDot).V s u13 x0.seen) ⟨_, _, h, Nat.le_refl _, E, hz, hd, h1, h4, h36, h37, h38, B22, c14, c15, c16, c17, c18, c19, c20, c21⟩ ?_
  rintro m46 a43 s42 ⟨y44, y45, h, hkm46, E, hz, hd, h1, h4, h36, h37, h38, B22, c14, c15, c16, c17, c18, c19, c20, c21⟩
  obtain _ | m46 := m46
  ·cases h
  refine wp_sr ?_; refine sq_blk (its := [⟨39, _, []⟩]) [0] hz rfl ⟨(fun a s he hf hz => ls rfl rfl (V_at h38 he (hf 38 rfl)) (V_at h37 he (hf 37 rfl))), trivial⟩ ?_; intro a47 s48 he hf hz hd1 h39; have ⟨hd, E⟩ := hdE hd1 hd E he; obtain ⟨h4, h36, h37, h38⟩ := va4 he hf h4 h36 h37 h38 rfl; have h1 := (hf 1 rfl).trans h1; have B22 := B22.ext he; obtain ⟨c14, c15, c16, c17, c18, c19, c20, c21⟩ := vm8 he c14 c15 c16 c17 c18 c19 c20 c21; refine wp_seq ?_; refine wp_condV h39 (fun hb => ?_) (fun hb => ?_)
  ·have h := ite_t hb h; refine wp_skip ?_; refine wp_seq ?_; refine wp_block ?_; refine wp_sr ?_; obtain ⟨D49, h⟩ := need h; refine sq_blk (its := [⟨40, _, []⟩, ⟨41, _, [0]⟩, ⟨7, _, [1]⟩]) [2] hz rfl ⟨(fun a s he hf hz => ia rfl rfl sl_170 (V_at h36 he (hf 36 rfl)) (V_at h38 he (hf 38 rfl)) D49.1 D49.2), (fun a s he hf hz q0 => lp rfl rfl ty_2 (by decide) q0), avq rfl rfl, trivial⟩ ?_; intro a50 s51 he hf hz hd1 h7; have ⟨hd, E⟩ := hdE hd1 hd E he; obtain ⟨h4, h36, h37, h38⟩ := va4 he hf h4 h36 h37 h38 rfl; have h1 := (hf 1 rfl).trans h1; have B22 := B22.ext he; obtain ⟨c14, c15, c16, c17, c18, c19, c20, c21⟩ := vm8 he c14 c15 c16 c17 c18 c19 c20 c21; refine wp_region ?_; obtain ⟨D52, h⟩ := need h; refine sq_blk (its := [⟨42, _, []⟩, ⟨43, _, []⟩, ⟨44, _, [1]⟩, ⟨45, _, [0, 2]⟩]) [3] hz rfl ⟨mvs rfl rfl h4 rfl, mvs rfl rfl h7 rfl, (fun a s he hf hz q1 => cv rfl rfl u_2 u_89 q1), (fun a s he hf hz q0 q2 => opw rfl (op_call_f rfl rfl (f := Fact.own (kSl kY) 5 1 (fun g => s51.w.heap.size ≤ g) (number y44 (IntKind.wrap .u64 (List.getD ([x0.kind, x0.qty, (x0.seen.length : Int)] : List Int) (y45).toNat default)))) (Cl.mono (wire_Number.ct q0 q2 D52) (own_w he)))), trivial⟩ ?_
   intro a53 s54 he hf hz hd1 k45; have hd := hd1.trans hd; have f45' : ∀ g, sb (a53.get 45) = some g → s0.w.heap.size ≤ g ∧ g ≠ b22 := fun g hg => by have h1 := k45.2.2 g hg; have h2 := E.size; have l22 := B22.lt; exact ⟨(by omega), (by omega)⟩
   obtain ⟨h36, h37, h38⟩ := va3 he hf h36 h37 h38 rfl; have h1 := (hf 1 rfl).trans h1; have B22 := B22.ext he; obtain ⟨c14, c15, c16, c17, c18, c19, c20, c21⟩ := vm8 he c14 c15 c16 c17 c18 c19 c20 c21; have E := E.trans he; have h45 := k45.1; have p45 := k45.2.1; have f45 := f45'; refine sq_blk (its := [⟨4, _, []⟩]) [0] hz rfl ⟨(fun a s he hf hz => opw rfl (op_assign rfl (f := Fact.own _ _ _ _ _) (own_at h45 p45 f45 he (hf 45 rfl)))), trivial⟩ ?_; intro a56 s57 he hf hz hd1 k4; have ⟨hd, E⟩ := hdE hd1 hd E he; obtain ⟨h36, h37, h38⟩ := va3 he hf h36 h37 h38 rfl; have h1 := (hf 1 rfl).trans h1; have B22 := B22.ext he; obtain ⟨c14, c15, c16, c17, c18, c19, c20, c21⟩ := vm8 he c14 c15 c16 c17 c18 c19 c20 c21; have h4 := k4.1; refine wp_region ?_; refine sq_blk (its := [⟨46, _, []⟩]) [0] hz rfl ⟨(fun a s he hf hz => ad rfl rfl (V_at h38 he (hf 38 rfl)) i1), trivial⟩ ?_; intro a58 s59 he hf hz hd1 h46; have hd := hd1.trans hd; obtain ⟨h4, h36, h37⟩ := va3 he hf h4 h36 h37 rfl; have h1 := (hf 1 rfl).trans h1; have B22 := B22.ext he; obtain ⟨c14, c15, c16, c17, c18, c19, c20, c21⟩ := vm8 he c14 c15 c16 c17 c18 c19 c20 c21
   have E := E.trans he; refine sq_blk (its := [⟨38, _, []⟩]) [0] hz rfl ⟨mvs rfl rfl h46 rfl, trivial⟩ ?_; intro a60 s61 he hf hz hd1 h38; have ⟨hd, E⟩ := hdE hd1 hd E he; obtain ⟨h4, h36, h37⟩ := va3 he hf h4 h36 h37 rfl; have h1 := (hf 1 rfl).trans h1; have B22 := B22.ext he; obtain ⟨c14, c15, c16, c17, c18, c19, c20, c21⟩ := vm8 he c14 c15 c16 c17 c18 c19 c20 c21; exact ⟨_, (by omega : m46 < m46 + 1), _, _, h, by omega, E, hz, hd, h1, h4, h36, h37, h38, B22, c14, c15, c16, c17, c18, c19, c20, c21⟩
  ·have h := ite_f hb h; refine wp_exit ?_; refine then_exit ?_; refine then_exit ?_; refine inBlock_hit ?_; refine wp_seq ?_; refine wp_sr ?_; refine sq_blk (its := [⟨47, _, []⟩, ⟨48, _, [0]⟩, ⟨49, _, [1]⟩, ⟨50, _, []⟩]) [1, 2, 3] hz rfl ⟨(fun a s he hf hz => fb rfl rfl fa_72_6 ((hf 1 rfl).trans h1)), (fun a s he hf hz q0 => lo rfl rfl ty_32 q0 (B22.ext he) rfl (vm he c21)), (fun a s he hf hz q1 => le_ rfl rfl u_32 q1), (fun a s he hf hz => mv rfl rfl i0), trivial⟩ ?_; intro a62 s63 he hf hz hd1 h48 h49 h50; have ⟨hd, E⟩ := hdE hd1 hd E he; have h4 := V_at h4 he (hf 4 rfl); refine wp_block ?_; refine wp_loop (k := m46) (fun m68 a s => ∃ (y66 : (List UInt8)) (y67 : Int), order_Lay.l1 m68 x0 y66 y67 = some r ∧ m68 ≤ m46 ∧ Ext s0 s ∧ a.tmps.size = 60 ∧ a.defers = [] ∧ (kSl kY).V s (a.get 4) y66 ∧ (kSl kDot).V s (a.get 48) x0.seen ∧ (kI .i64).V s (a.get 49) (x0.seen.length : Int) ∧ (kI .i64).V s (a.get 50) y67) ⟨_, _, h, Nat.le_refl _, E, hz, hd, h4, h48, h49, h50⟩ ?_; rintro m68 a65 s64 ⟨y66, y67, h, hkm68, E, hz, hd, h4, h48, h49, h50⟩; obtain _ | m68 := m68
   ·cases h
   refine wp_sr ?_; refine sq_blk (its := [⟨51, _, []⟩]) [0] hz rfl ⟨(fun a s he hf hz => ls rfl rfl (V_at h50 he (hf 50 rfl)) (V_at h49 he (hf 49 rfl))), trivial⟩ ?_; intro a69 s70 he hf hz hd1 h51; have ⟨hd, E⟩ := hdE hd1 hd E he; obtain ⟨h4, h48, h49, h50⟩ := va4 he hf h4 h48 h49 h50 rfl; refine wp_seq ?_; refine wp_condV h51 (fun hb => ?_) (fun hb => ?_)
   ·have h := ite_t hb h; refine wp_skip ?_; refine wp_seq ?_; refine wp_block ?_; refine wp_sr ?_; obtain ⟨D71, h⟩ := need h; refine sq_blk (its := [⟨52, _, []⟩, ⟨53, _, [0]⟩]) [1] hz rfl ⟨(fun a s he hf hz => ia rfl rfl sl_32 (V_at h48 he (hf 48 rfl)) (V_at h50 he (hf 50 rfl)) D71.1 D71.2), (fun a s he hf hz q0 => lp rfl rfl ty_70 (by decide) q0), trivial⟩ ?_; intro a72 s73 he hf hz hd1 h53; have ⟨hd, E⟩ := hdE hd1 hd E he; obtain ⟨h4, h48, h49, h50⟩ := va4 he hf h4 h48 h49 h50 rfl; refine sq_set hz rfl rfl rfl (op_alloc (cs := [.string ⟨#[]⟩, .int .i64 0]) rfl zv_70 rfl (fun s75 he BB76 => fun a74 h9 hf hz hd1 => ?_)); obtain ⟨b79, hb79⟩ : ∃ b, b = s73.w.heap.size := ⟨_, rfl⟩; rw [← hb79] at BB76 h9; have B79 := BB76; have l79 : s0.w.heap.size ≤ b79 := by have := E.size; omega
    have ⟨hd, E⟩ := hdE hd1 hd E he; obtain ⟨h4, h48, h49, h50, h53⟩ := va5 he hf h4 h48 h49 h50 h53 rfl; have c77 : kS.V s75 (.string ⟨#[]⟩) ([] : Str) := s_0; have c78 : (kI .i64).V s75 (.int .i64 0) 0 := i0; refine sq_do rfl rfl (op_storen rfl ty_70 rfl h9 B79 h53 rfl (fun s81 e82 he B79n r83 => ?_)); obtain ⟨h4, h48, h49, h50⟩ := vm4 he h4 h48 h49 h50; have E := Chg.chg E he (fun b e h => (fun e => absurd h (by cases e; exact Nat.not_lt.2 l79)) e); obtain ⟨u84, u85, rfl, c86, c87⟩ := kDot_open r83; have B79 : Bx s81 b79 70 [u84, u85] := B79n; refine wp_region ?_; obtain ⟨D88, h⟩ := need h; refine sq_blk (its := [⟨54, _, []⟩, ⟨55, _, []⟩, ⟨56, _, [0, 1]⟩]) [2] hz rfl ⟨mvs rfl rfl h4 rfl, (fun a s he hf hz => ld rfl rfl ty_70 rfl ((hf 9 rfl).trans h9) (B79.ext he) rfl (kDot_eta (x := (List.getD x0.seen (y67).toNat default)) (vm he c86) (vm he c87))), (fun a s he hf hz q0 q1 => opw rfl (op_call rfl rfl (order_layDot.ct q0 q1 D88))), trivial⟩ ?_; intro a89 s90 he hf hz hd1 h56; have ⟨hd, E⟩ := hdE hd1 hd E he; obtain ⟨h48, h49, h50⟩ := va3 he hf h48 h49 h50 rfl
    refine sq_blk (its := [⟨4, _, []⟩]) [0] hz rfl ⟨avs rfl rfl h56 rfl, trivial⟩ ?_; intro a91 s92 he hf hz hd1 h4; have ⟨hd, E⟩ := hdE hd1 hd E he; obtain ⟨h48, h49, h50⟩ := va3 he hf h48 h49 h50 rfl; refine wp_region ?_; refine sq_blk (its := [⟨57, _, []⟩]) [0] hz rfl ⟨(fun a s he hf hz => ad rfl rfl (V_at h50 he (hf 50 rfl)) i1), trivial⟩ ?_; intro a93 s94 he hf hz hd1 h57; have ⟨hd, E⟩ := hdE hd1 hd E he; obtain ⟨h4, h48, h49⟩ := va3 he hf h4 h48 h49 rfl; refine sq_blk (its := [⟨50, _, []⟩]) [0] hz rfl ⟨mvs rfl rfl h57 rfl, trivial⟩ ?_; intro a95 s96 he hf hz hd1 h50; have ⟨hd, E⟩ := hdE hd1 hd E he; obtain ⟨h4, h48, h49⟩ := va3 he hf h4 h48 h49 rfl; exact ⟨_, (by omega : m68 < m68 + 1), _, _, h, by omega, E, hz, hd, h4, h48, h49, h50⟩
   ·have h := ite_f hb h; refine wp_exit ?_; refine then_exit ?_; refine then_exit ?_; refine inBlock_hit ?_; refine wp_sr ?_; refine sq_blk (its := [⟨58, _, []⟩, ⟨59, _, [0]⟩, ⟨2, _, [1]⟩, ⟨3, _, []⟩]) [2, 3] hz rfl ⟨mvs rfl rfl h4 rfl, (fun a s he hf hz q0 => opw rfl (op_tostr rfl u_53 u_5 u_9 q0)), avq rfl rfl, (fun a s he hf hz => av rfl rfl i0), trivial⟩ ?_; intro a97 s98 he hf hz hd1 h2 h3; have ⟨hd, E⟩ := hdE hd1 hd E he; refine wp_ret ?_; cases h
    exact ⟨hd, _, results_tmp2 rfl _ _ _, E, tup2 h2 h3⟩
theorem order_Lay.nice (x0 : Op) (b0 : kOp.bd x0) : ∃ k, order_Lay.f k x0 = some (layO x0) := by
 have hm := maxLen_lt
 have hb : x0.seen.length ≤ maxLen := b0.2.2.2.2.2.2.1
 unfold order_Lay.f layO
 cases hr : rightO x0
 ·exact ⟨0, rfl⟩
 ·obtain ⟨h1, h2, h3, h4, h5, h6, h7, h8⟩ := rightO_parts hr
  have hw := isName_len (isDot_parts h1).1
  have hH := opH_len hr
  have a1 := dotB_len h1
  have a2 := vecB_len h2
  have c1 : (dotL ([] : Str) x0.dot).length ≤ 42 := by rw [dotL_eq _ h1]; simpa using a1
  have c2 : ((layV (dotL ([] : Str) x0.dot) x0.deps).1).length ≤ 2739 := by
   unfold layV; rw [if_pos h2]; rw [List.length_append]; omega
  have c3 : (text ((layV (dotL ([] : Str) x0.dot) x0.deps).1) x0.cart).length ≤ 2780 := by
   rw [text_eq, List.length_append]; have := textB_len x0.cart; omega
  have seen : ∀ y, y ≤ x0.seen.length → ∀ acc : Str, acc.length + 42 * (x0.seen.length - y) + 60 ≤ 140737488355328 → ∃ k, order_Lay.l1 k x0 acc (y : Int) = some (acc ++ ((x0.seen.drop y).map dotB).flatten, 0) := by
   refine rounds x0.seen.length (fun acc _ => ⟨1, ?_⟩) fun y hy ih acc ha => ?_
   ·simp only [order_Lay.l1, List.drop_length]; simp
   ·have hdy : vector_isDot (x0.seen.getD y default) = true := h6 _ (by rw [getD_at hy]; exact List.getElem_mem hy)
    have hwy := isName_len (isDot_parts hdy).1
    have hlen := dotB_len hdy
    obtain ⟨k, hk⟩ := ih (acc ++ dotB (x0.seen.getD y default)) (by rw [List.length_append]; omega)
    push_cast at hk
    have hr' : (0 : Int) ≤ y ∧ (y : Int) < x0.seen.length := ⟨by omega, by omega⟩
    refine ⟨k + 1, ?_⟩
    simp only [order_Lay.l1, Int.toNat_natCast, hr', and_self, decide_true, if_true]
    rw [if_pos (by omega), dotL_eq _ hdy, w64s (by omega), hk, drop_at default hy]
    simp
  have e1 : IntKind.wrap .u64 x0.kind = x0.kind := wrap_u64i (by omega) (by omega)
  have e2 : IntKind.wrap .u64 x0.qty = x0.qty := wrap_u64i (by omega) (by omega)
  have e3 : IntKind.wrap .u64 (x0.seen.length : Int) = (x0.seen.length : Int) := wrap_u64i (by omega) (by omega)
  have n1 := numB_le x0.kind.toNat
  have n2 := numB_le x0.qty.toNat
  have n3 := numB_le x0.seen.length
  obtain ⟨k, hk⟩ := seen 0 (Nat.zero_le _) (opH x0 ++ opN x0) (by have := opN_len x0; rw [List.length_append]; omega)
  rw [List.drop_zero] at hk
  refine ⟨k + 1 + 1 + 1 + 1, ?_⟩
  rw [if_neg (by simp), if_pos (by simp; omega), if_pos (by omega), if_pos (by omega), if_pos (by omega), if_pos rfl, head_eq hr]
  have s0 : ∀ k acc, acc.length + 9 ≤ 140737488355328 → order_Lay.l0 (k + 1) x0 acc 0 = order_Lay.l0 k x0 (number acc x0.kind) 1 := fun k acc h => by
   show (if decide ((0 : Int) < 3) = true then (if ((0 : Int) ≤ 0 ∧ (0 : Int) < 3) then (if acc.length + 9 ≤ 140737488355328 then order_Lay.l0 k x0 (number acc (IntKind.wrap .u64 x0.kind)) 1 else none) else none) else order_Lay.l1 k x0 acc 0) = _
   rw [if_pos (by decide), if_pos (by decide), if_pos h, e1]
  have s1 : ∀ k acc, acc.length + 9 ≤ 140737488355328 → order_Lay.l0 (k + 1) x0 acc 1 = order_Lay.l0 k x0 (number acc x0.qty) 2 := fun k acc h => by
   show (if decide ((1 : Int) < 3) = true then (if ((0 : Int) ≤ 1 ∧ (1 : Int) < 3) then (if acc.length + 9 ≤ 140737488355328 then order_Lay.l0 k x0 (number acc (IntKind.wrap .u64 x0.qty)) 2 else none) else none) else order_Lay.l1 k x0 acc 0) = _
   rw [if_pos (by decide), if_pos (by decide), if_pos h, e2]
  have s2 : ∀ k acc, acc.length + 9 ≤ 140737488355328 → order_Lay.l0 (k + 1) x0 acc 2 = order_Lay.l0 k x0 (number acc (x0.seen.length : Int)) 3 := fun k acc h => by
   show (if decide ((2 : Int) < 3) = true then (if ((0 : Int) ≤ 2 ∧ (2 : Int) < 3) then (if acc.length + 9 ≤ 140737488355328 then order_Lay.l0 k x0 (number acc (IntKind.wrap .u64 (x0.seen.length : Int))) 3 else none) else none) else order_Lay.l1 k x0 acc 0) = _
   rw [if_pos (by decide), if_pos (by decide), if_pos h, e3]
  have s3 : ∀ k acc, order_Lay.l0 (k + 1) x0 acc 3 = order_Lay.l1 k x0 acc 0 := fun k acc => by
   show (if decide ((3 : Int) < 3) = true then _ else order_Lay.l1 k x0 acc 0) = _
   rw [if_neg (by decide)]
  rw [s0 _ _ (by omega), s1 _ _ (by simp only [number, List.length_append]; omega), s2 _ _ (by simp only [number, List.length_append]; omega), s3]
  have : number (number (number (opH x0) x0.kind) x0.qty) (x0.seen.length : Int) = opH x0 ++ opN x0 := by simp [number, opN]
  rw [this]
  exact hk
theorem order_Lay.ct {s0 : St} {v0 : Value} {x0 : Op} (k0 : kOp.V s0 v0 x0) : Cl Try.prog 113 #[v0] s0 (Okf s0 (Fact.tup [Fact.v kS ((layO x0).1), Fact.v (kI .i64) ((layO x0).2)])) := by
 obtain ⟨k, h⟩ := order_Lay.nice x0 (Kn.V_bd k0)
 exact order_Lay.ok k0 h
end
section
def LeF (f : Fact) : Prop := ∀ (s t : St) (v : Value), Le s t → f.φ s v → f.φ t v
theorem leF_v {α : Type} {d : Kn α} {x : α} : LeF (Fact.v d x) := fun _ _ _ h hv => Kn.V_mono h hv
theorem leF_eq {v : Value} : LeF (Fact.eq v) := fun _ _ _ _ h => h
def AllLe (j0 : Nat) : List It → Nat → Prop
  | [], _ => True
  | it :: l, i => (i = j0 ∨ LeF it.f) ∧ AllLe j0 l (i + 1)
theorem allLe_at {j0 : Nat} : ∀ {l : List It} {i j : Nat} {it : It}, AllLe j0 l i → l[j]? = some it → i + j ≠ j0 → LeF it.f
  | [], _, _, _, _, h, _ => by simp at h
  | x :: l, i, 0, it, h, hk, hne => by
    simp at hk; subst hk
    rcases h.1 with h' | h'
    · exact absurd h' hne
    · exact h'
  | x :: l, i, j + 1, it, h, hk, hne => allLe_at (i := i + 1) h.2 (by simpa using hk) (by omega)
section
variable {P : Program} {ro : Option Nat}
/-- What is to be shown of an operation: of the one that turns M, and of the others. -/
def ObM (P : Program) (ro : Option Nat) (ops : Array Oper) (its : List It) (a0 : Act) (s0 : St) (M : Nat → Prop) (J : St → Prop) (turns : Bool) (o : Oper) (it : It) : Prop :=
  match turns with
  | false => ∀ (a : Act) (s : St), Chg M s0 s → (∀ x, isIn x (dsts its) = false → a.get x = a0.get x) → a.tmps.size = a0.tmps.size → Nd its a s (OpW P ro ops o a s it.f) it.need
  | true => o.guard = none ∧ ∀ (a : Act) (s : St), Ext s0 s → (∀ x, isIn x (dsts its) = false → a.get x = a0.get x) → a.tmps.size = a0.tmps.size → Nd its a s (OpR P ro o a s (fun v t => Chg M s t ∧ J t ∧ it.f.φ t (match o.dst with | none => undef | some _ => v))) it.need
def AllObM (P : Program) (ro : Option Nat) (ops : Array Oper) (its : List It) (a0 : Act) (s0 : St) (M : Nat → Prop) (J : St → Prop) (j0 : Nat) : List Oper → List It → Nat → Prop
  | _, [], _ => True
  | [], _ :: _, _ => False
  | o :: l, it :: k, i => ObM P ro ops its a0 s0 M J (Nat.beq i j0) o it ∧ AllObM P ro ops its a0 s0 M J j0 l k (i + 1)
theorem allObM_at {ops : Array Oper} {its : List It} {a0 : Act} {s0 : St} {M : Nat → Prop} {J : St → Prop} {j0 : Nat} {l : List Oper} : ∀ {k : List It} {i j : Nat} {o : Oper} {it : It}, AllObM P ro ops its a0 s0 M J j0 l k i → l[j]? = some o → k[j]? = some it → ObM P ro ops its a0 s0 M J (Nat.beq (i + j) j0) o it := by
  induction l with
  | nil => intro k i j o it _ h; cases h
  | cons x l ih =>
    intro k i j o it h ho hk
    cases k with
    | nil => cases hk
    | cons y k =>
      cases j with
      | zero => simp at ho hk; subst ho hk; exact h.1
      | succ j => have := ih h.2 (by simpa using ho) (by simpa using hk); rwa [show i + 1 + j = i + (j + 1) from by omega] at this
def needOkM (N j0 : Nat) (ds : List Nat) : List Oper → List It → List Nat → Nat → Bool
  | _, [], _, _ => true
  | [], _ :: _, _, _ => false
  | o :: l, it :: k, seen, i => (match o.dst with | some d => Nat.beq d it.d && Nat.ble (it.d + 1) N | none => Nat.ble N it.d && Nat.beq i j0) && !isIn it.d seen && it.need.all (fun j => Nat.ble (j + 1) i && (ds.getD i 0).testBit j) && needOkM N j0 ds l k (it.d :: seen) (i + 1)
def chkDrawM (N j0 : Nat) (ops : List Oper) (its : List It) : Bool :=
  let ds := deps ops [] ops
  onBelow 0 ops && depOk ds 0 ops && needOkM N j0 ds ops its [] 0 && restOk ds its.length ops.length && Nat.ble its.length ops.length && Nat.ble (j0 + 1) its.length
theorem needOkM_at {N j0 : Nat} {ds : List Nat} {l : List Oper} : ∀ {k : List It} {seen : List Nat} {i j : Nat} {o : Oper} {it : It}, needOkM N j0 ds l k seen i = true → l[j]? = some o → k[j]? = some it →
    ((o.dst = some it.d ∧ it.d < N) ∨ (o.dst = none ∧ N ≤ it.d)) ∧ isIn it.d seen = false ∧ ∀ x ∈ it.need, x < i + j ∧ (ds.getD (i + j) 0).testBit x = true := by
  induction l with
  | nil => intro k seen i j o it _ h; cases h
  | cons x l ih =>
    intro k seen i j o it hc ho hk
    cases k with
    | nil => cases hk
    | cons y k =>
      simp only [needOkM, Bool.and_eq_true, Bool.not_eq_true', List.all_eq_true] at hc
      obtain ⟨⟨⟨hdst, hns⟩, hnd⟩, hc⟩ := hc
      cases j with
      | zero =>
        simp at ho hk; subst ho hk
        refine ⟨?_, hns, fun z hz => ⟨by have := Nat.le_of_ble_eq_true (hnd z hz).1; omega, (hnd z hz).2⟩⟩
        cases e : x.dst with
        | none => simp only [e, Bool.and_eq_true] at hdst; exact .inr ⟨rfl, Nat.le_of_ble_eq_true hdst.1⟩
        | some d => simp only [e, Bool.and_eq_true] at hdst; rw [Nat.eq_of_beq_eq_true hdst.1]; exact .inl ⟨rfl, by have := Nat.le_of_ble_eq_true hdst.2; omega⟩
      | succ j =>
        obtain ⟨h1, h3, h4⟩ := ih hc (by simpa using ho) (by simpa using hk)
        refine ⟨h1, ?_, fun z hz => by have := h4 z hz; rw [show i + (j + 1) = i + 1 + j from by omega]; exact this⟩
        simp only [isIn, Bool.or_eq_false_iff] at h3
        exact h3.2
theorem needOkM_none {N j0 : Nat} {ds : List Nat} {l : List Oper} : ∀ {k : List It} {seen : List Nat} {i j : Nat} {o : Oper} {it : It}, needOkM N j0 ds l k seen i = true → l[j]? = some o → k[j]? = some it → o.dst = none → i + j = j0 := by
  induction l with
  | nil => intro k seen i j o it _ h; cases h
  | cons x l ih =>
    intro k seen i j o it hc ho hk he
    cases k with
    | nil => cases hk
    | cons y k =>
      simp only [needOkM, Bool.and_eq_true, Bool.not_eq_true', List.all_eq_true] at hc
      obtain ⟨⟨⟨hdst, hns⟩, hnd⟩, hc⟩ := hc
      cases j with
      | zero =>
        simp at ho; subst ho
        simp only [he, Bool.and_eq_true] at hdst
        exact Nat.eq_of_beq_eq_true hdst.2
      | succ j =>
        have := ih hc (by simpa using ho) (by simpa using hk) he
        omega
theorem needOkM_ne {N j0 : Nat} {ds : List Nat} {l : List Oper} : ∀ {k : List It} {seen : List Nat} {i j j' : Nat} {it it' : It}, needOkM N j0 ds l k seen i = true → k[j]? = some it → k[j']? = some it' → j < j' → it.d ≠ it'.d := by
  have len : ∀ (l : List Oper) (k : List It) (seen : List Nat) (i : Nat), needOkM N j0 ds l k seen i = true → k.length ≤ l.length := by
    intro l
    induction l with
    | nil => intro k _ _ h; cases k with
      | nil => simp
      | cons _ _ => simp [needOkM] at h
    | cons _ l ih => intro k _ _ h; cases k with
      | nil => simp
      | cons _ k => simp only [needOkM, Bool.and_eq_true] at h; have := ih _ _ _ h.2; simp; omega
  induction l with
  | nil => intro k seen i j j' it it' hc hk; cases k with
    | nil => cases hk
    | cons y k => simp [needOkM] at hc
  | cons x l ih =>
    intro k seen i j j' it it' hc hk hk' hjj
    cases k with
    | nil => cases hk
    | cons y k =>
      have hc' := hc
      simp only [needOkM, Bool.and_eq_true, Bool.not_eq_true', List.all_eq_true] at hc
      obtain ⟨⟨⟨hdst, hns⟩, hnd⟩, hc⟩ := hc
      cases j' with
      | zero => omega
      | succ j' =>
        cases j with
        | zero =>
          simp at hk; subst hk
          intro e
          have hj : j' < l.length := by
            have h1 := len _ _ _ _ hc
            have h2 := (List.getElem?_eq_some_iff.1 (show k[j']? = some it' by simpa using hk')).1
            omega
          have := (needOkM_at hc (List.getElem?_eq_getElem hj) (show k[j']? = some it' by simpa using hk')).2.1
          rw [← e] at this
          simp [isIn] at this
        | succ j => exact ih hc (by simpa using hk) (by simpa using hk') (by omega)
theorem put_none (a : Act) (v : Value) : a.put none v = a := rfl
/-- The operations that may come in one order or another. -/
theorem any_preM {ops : List Oper} {its : List It} {a0 : Act} {s0 : St} {M : Nat → Prop} {J : St → Prop} {j0 : Nat} {Q : Exit → Act → World → Prop} {K : Act → St → Prop} (hc : chkDrawM a0.tmps.size j0 ops its = true) (hJ : ∀ s t, J s → Ext s t → J t) (hle0 : AllLe j0 its 0) (hQ : ∀ a t, K a t → Q .normal a t.w)
    (ho : AllObM P ro ops.toArray its a0 s0 M J j0 ops its 0)
    (hK : ∀ a s, Chg M s0 s → J s → (∀ x, isIn x (dsts its) = false → a.get x = a0.get x) → a.tmps.size = a0.tmps.size → a.defers = a0.defers → (∀ (j : Nat) (it : It), its[j]? = some it → it.f.φ s (a.get it.d)) → Sq P ro ops.toArray (ops.drop its.length) a s K) :
    ∀ (fuel : Nat) (l : Array Bool) (a : Act) (s : St), l.size = ops.length → unl l ops.length ≤ fuel → (∀ j, Lst l j → j < its.length) →
      (∀ i o, Lst l i → ops[i]? = some o → ∀ e ∈ o.after.toList, Region.binds .any e = true → Lst l e.on) → ((¬ Lst l j0 → Ext s0 s) ∧ (Lst l j0 → Chg M s0 s ∧ J s)) → (∀ x, isIn x (dsts its) = false → a.get x = a0.get x) → a.tmps.size = a0.tmps.size → a.defers = a0.defers →
      (∀ (j : Nat) (it : It), Lst l j → its[j]? = some it → it.f.φ s (a.get it.d)) → wpAnyIn (FN ro) 0 P .any ops.toArray Q fuel l a s.w := by
  simp only [chkDrawM, Bool.and_eq_true] at hc
  obtain ⟨⟨⟨⟨⟨hb, hd⟩, hn⟩, hr⟩, hle⟩, hj0⟩ := hc
  have hj0 := Nat.le_of_ble_eq_true hj0
  have hle := Nat.le_of_ble_eq_true hle
  intro fuel
  induction fuel with
  | zero =>
    intro l a s hz hu hp hcl he hf hsz hdf hfs
    have hall := unl_zero (Nat.le_zero.1 hu)
    refine any_rest hb hd hr hQ 0 its.length l a s hz (Nat.le_refl _) hle ?_ (fun j hj => ⟨hp j, fun _ => hall j hj⟩) (hK a s (he.2 (hall j0 (by omega))).1 (he.2 (hall j0 (by omega))).2 hf hsz hdf fun j it hit => hfs j it (hall j (by have := (List.getElem?_eq_some_iff.1 hit).1; omega)) hit)
    rcases Nat.lt_or_ge its.length ops.length with h | h
    · have := hp _ (hall its.length h); omega
    · omega
  | succ fuel ih =>
    intro l a s hz hu hp hcl he hf hsz hdf hfs
    by_cases hall : ∀ j, j < its.length → Lst l j
    · refine any_rest hb hd hr hQ (fuel + 1) its.length l a s hz (Nat.le_refl _) hle ?_ (fun j hj => ⟨hp j, fun h => hall j h⟩) (hK a s (he.2 (hall j0 (by omega))).1 (he.2 (hall j0 (by omega))).2 hf hsz hdf fun j it hit => hfs j it (hall j (List.getElem?_eq_some_iff.1 hit).1) hit)
      have : ∀ k, k ≤ ops.length → k - its.length ≤ unl l k := by
        intro k
        induction k with
        | zero => intro _; simp
        | succ k ihk =>
          intro hk
          have := ihk (by omega)
          simp only [unl]
          rcases Nat.lt_or_ge k its.length with h | h
          · omega
          · rw [if_neg (fun hx => by have := hp k hx; omega)]; omega
      have := this ops.length (Nat.le_refl _)
      omega
    · have hex : ∃ j, j < its.length ∧ ¬ Lst l j := by
        refine Classical.byContradiction fun hn => hall fun j hj => Classical.byContradiction fun hx => hn ⟨j, hj, hx⟩
      refine ⟨fun hnil => ?_, fun j hj => ?_⟩
      · exfalso
        obtain ⟨k, ⟨hk, hkl⟩, hmin⟩ := least hex
        have hk' : k < ops.length := by omega
        have : k ∈ Region.ready .any ops.toArray l := by
          refine mem_ready.2 ⟨by simpa using hk', ?_, ops[k], by simp [hk'], ?_⟩
          · unfold Lst at hkl
            rw [Array.getD_eq_getD_getElem?, Array.getElem?_eq_getElem (by omega)]
            rw [Array.getElem?_eq_getElem (by omega)] at hkl
            simpa using hkl
          · intro e hee hbd
            have hon := onBelow_at (i := 0) hb (List.getElem?_eq_getElem hk') e hee hbd
            have : Lst l e.on := Classical.byContradiction fun hx => by have := hmin e.on ⟨by omega, hx⟩; omega
            unfold Lst at this
            simp [Array.getD_eq_getD_getElem?, this]
        rw [hnil] at this; cases this
      · obtain ⟨h1, h2, o, hoo, h3⟩ := mem_ready.1 hj
        have h1 : j < ops.length := by simpa using h1
        have ho' : ops[j]? = some o := by simpa using hoo
        have hnl : ¬ Lst l j := fun h => by unfold Lst at h; simp [Array.getD_eq_getD_getElem?, h] at h2
        have hL3 : ∀ e ∈ o.after.toList, Region.binds .any e = true → Lst l e.on := fun e hee hbd => by
          have := h3 e hee hbd
          have hon := onBelow_at (i := 0) hb ho' e hee hbd
          unfold Lst
          rw [Array.getD_eq_getD_getElem?, Array.getElem?_eq_getElem (by omega)] at this
          rw [Array.getElem?_eq_getElem (by omega)]
          simpa using this
        have hin := dep_in hb hd hcl j o ho' hL3
        have hjm : j < its.length := by
          rcases Nat.lt_or_ge j its.length with h | h
          · exact h
          · exfalso
            obtain ⟨k, hk, hkl⟩ := hex
            refine hkl (hin k (by omega) ?_)
            simp only [restOk, List.all_eq_true, List.mem_range] at hr
            have := hr (j - its.length) (by omega) k (by omega)
            rwa [show its.length + (j - its.length) = j from by omega] at this
        have hit : its[j]? = some its[j] := List.getElem?_eq_getElem hjm
        obtain ⟨hdst, _, hneed⟩ := needOkM_at (i := 0) hn ho' hit
        rw [Nat.zero_add] at hneed
        have hm : Chg M s0 s := by
          by_cases h : Lst l j0
          · exact (he.2 h).1
          · exact Chg.of_ext (he.1 h)
        have hobs := allObM_at ho ho' hit
        rw [Nat.zero_add] at hobs
        have hmem : isIn its[j].d (dsts its) = true := isIn_iff.2 (List.mem_map.2 ⟨_, List.mem_of_getElem? hit, rfl⟩)
        have next : ∀ v t, (∀ (x : Nat) (it : It), Lst l x → x ≠ j → its[x]? = some it → it.f.φ t (a.get it.d)) → its[j].f.φ t (if o.dst = none then a.get its[j].d else v) → ((¬ Lst (l.setIfInBounds j true) j0 → Ext s0 t) ∧ (Lst (l.setIfInBounds j true) j0 → Chg M s0 t ∧ J t)) → wpAnyIn (FN ro) 0 P .any ops.toArray Q fuel (l.setIfInBounds j true) (a.put o.dst v) t.w := by
          intro v t hold hv hrel
          refine ih _ _ t (by simpa using hz) (by have := unl_set_lt l j (by omega) hnl ops.length h1; omega) ?_ ?_ hrel ?_ (by rw [size_put]; exact hsz) (by rw [defers_put]; exact hdf) ?_
          · intro x hx
            rcases (lst_set (by omega) x).1 hx with h | h
            · omega
            · exact hp x h
          · intro x ox hx hox e hee hbd
            rw [lst_set (by omega)]
            rcases (lst_set (by omega) x).1 hx with h | h
            · subst h
              rw [ho'] at hox; cases hox
              exact .inr (hL3 e hee hbd)
            · exact .inr (hcl x ox h hox e hee hbd)
          · intro x hx
            have hne : x ≠ its[j].d := fun e => by rw [e, hmem] at hx; cases hx
            rcases hdst with ⟨e, _⟩ | ⟨e, _⟩
            · rw [e, get_put_ne _ _ _ _ hne]; exact hf x hx
            · rw [e, put_none]; exact hf x hx
          · intro x it' hx hxi
            by_cases hxj : x = j
            · subst hxj
              rw [hit] at hxi; cases hxi
              rcases hdst with ⟨e, hlt⟩ | ⟨e, _⟩
              · rw [e, get_put_eq _ _ _ (by rw [hsz]; exact hlt)]
                rw [if_neg (by rw [e]; simp)] at hv; exact hv
              · rw [e, put_none]; rw [if_pos e] at hv; exact hv
            · have hLx : Lst l x := by
                rcases (lst_set (by omega) x).1 hx with h | h
                · exact absurd h hxj
                · exact h
              have hne : it'.d ≠ its[j].d := by
                rcases Nat.lt_or_gt_of_ne hxj with h | h
                · exact needOkM_ne hn hxi hit h
                · exact (needOkM_ne hn hit hxi h).symm
              rcases hdst with ⟨e, _⟩ | ⟨e, _⟩
              · rw [e, get_put_ne _ _ _ _ hne]; exact hold x it' hLx hxj hxi
              · rw [e, put_none]; exact hold x it' hLx hxj hxi
        by_cases hjj : j = j0
        · subst hjj
          rw [Nat.beq_refl] at hobs
          have hext := he.1 hnl
          have hw := nd_intro (hobs.2 a s hext hf hsz) fun x hx it hxi => hfs x it (hin x (hneed x hx).1 (hneed x hx).2) hxi
          simp only [wpOpIn, hoo]
          rw [if_pos (by simp [Region.wanted, hobs.1])]
          refine hw _ _ fun v t ⟨c1, c2, c3⟩ => next v t (fun x it hx hxj hxi => allLe_at (i := 0) hle0 hxi (by omega) s t _ c1.le (hfs x it hx hxi)) ?_ ⟨fun hh => absurd ((lst_set (by omega) j).2 (.inl rfl)) hh, fun _ => ⟨(Chg.of_ext hext).trans c1, c2⟩⟩
          rcases hdst with ⟨e, _⟩ | ⟨e, hge⟩
          · rw [if_neg (by rw [e]; simp)]
            simp only [e] at c3; exact c3
          · rw [if_pos e]
            simp only [e] at c3
            have : a.get its[j].d = undef := by simp [Act.get, Array.getD_eq_getD_getElem?, Array.getElem?_eq_none (show a.tmps.size ≤ its[j].d by rw [hsz]; exact hge)]
            rw [this]; exact c3
        · have hbf : Nat.beq j j0 = false := by
            cases e : Nat.beq j j0
            · rfl
            · exact absurd (Nat.eq_of_beq_eq_true e) hjj
          rw [hbf] at hobs
          have hw := nd_intro (hobs a s hm hf hsz) fun x hx it hxi => hfs x it (hin x (hneed x hx).1 (hneed x hx).2) hxi
          have hsome : o.dst ≠ none := by
            intro e
            have := needOkM_none hn ho' hit e
            omega
          have rel : ∀ t, Ext s t → ((¬ Lst (l.setIfInBounds j true) j0 → Ext s0 t) ∧ (Lst (l.setIfInBounds j true) j0 → Chg M s0 t ∧ J t)) := fun t het => by
            have hiff : Lst (l.setIfInBounds j true) j0 ↔ Lst l j0 := by
              rw [lst_set (by omega)]
              exact ⟨fun h => h.resolve_left (fun e => hjj e.symm), .inr⟩
            rw [hiff]
            exact ⟨fun h => (he.1 h).trans het, fun h => ⟨(he.2 h).1.trans (Chg.of_ext het), hJ _ _ (he.2 h).2 het⟩⟩
          have go : ∀ v t, Ext s t → its[j].f.φ t v → wpAnyIn (FN ro) 0 P .any ops.toArray Q fuel (l.setIfInBounds j true) (a.put o.dst v) t.w := fun v t het hv =>
            next v t (fun x it hx hxj hxi => it.f.mono het (hfs x it hx hxi)) (by rw [if_neg hsome]; exact hv) (rel t het)
          simp only [wpOpIn, hoo]
          unfold OpW at hw
          split at hw
          · rename_i hww
            rw [if_pos hww]
            exact hw _ _ fun v t ⟨h1, h2⟩ => go v t h1 h2
          · rename_i hww
            rw [if_neg hww]
            exact ⟨fun _ _ => trivial, go _ s (Chg.refl _ _) hw⟩
/-- A region that draws its order, one operation of which turns M. -/
theorem wp_drawM {ops : List Oper} {id : Nat} {a0 : Act} {s0 : St} {M : Nat → Prop} (J : St → Prop) (j0 : Nat) {Q : Exit → Act → St → Prop} (its : List It) (outs : List Nat) {N : Nat} (hm : P.follows .mixedOrders = true) (hN : a0.tmps.size = N) (hc : chkDrawM N j0 ops its = true)
    (hJ : ∀ s t, J s → Ext s t → J t) (hle : AllLe j0 its 0)
    (ho : AllObM P ro ops.toArray its a0 s0 M J j0 ops its 0)
    (hK : ∀ a s, Chg M s0 s → J s → (∀ x, isIn x (dsts its) = false → a.get x = a0.get x) → a.tmps.size = N → a.defers = a0.defers → Nd its a s (Sq P ro ops.toArray (ops.drop its.length) a s (fun a t => Q .normal a t)) outs) : Wp P ro (.region id ops.toArray true) a0 s0 Q := by
  subst hN
  refine wpIn_region_draw fun t => ?_
  simp only [Region.schedule, hm, Bool.true_or, if_true]
  refine wpAnyIn_sound _ t _ _ _ ?_
  have hu : ∀ k, unl (Array.replicate ops.length false) k ≤ k := by
    intro k
    induction k with
    | zero => exact Nat.le_refl _
    | succ k ih => simp only [unl]; split <;> omega
  have hnone : ∀ j, ¬ Lst (Array.replicate ops.length false) j := fun j h => by
    unfold Lst at h
    rw [Array.getElem?_replicate] at h
    split at h <;> cases h
  have he : Ext s0 (s0.drew (s0.w.drawn + 1)) := s0.drew_ext _
  have := any_preM (P := P) (ro := ro) (its := its) (a0 := a0) (s0 := s0) (M := M) (J := J) (j0 := j0) (Q := fun e a w => ∃ t, t.w = w ∧ Q e a t) (K := fun a t => Q .normal a t) hc hJ hle (fun a t h => ⟨t, rfl, h⟩) ho
    (fun a s h1 h1' h2 h3 h4 h5 => nd_intro (hK a s h1 h1' h2 h3 h4) fun j _ it hit => h5 j it hit) ops.toArray.size (Array.replicate ops.toArray.size false) a0 (s0.drew (s0.w.drawn + 1)) (by simp) (by simpa using hu ops.length)
    (fun j h => absurd (by simpa using h) (hnone j)) (fun i o h => absurd (by simpa using h) (hnone i)) ⟨fun _ => he, fun h => absurd (by simpa using h) (hnone j0)⟩ (fun _ _ => rfl) rfl rfl (fun j it h => absurd (by simpa using h) (hnone j))
  exact this
end
end
section
section
variable {P : Program} {ro : Option Nat} {o : Oper} {a : Act} {s : St}
end
/-- A call of yield: a round goes through; then K of what it hands back. -/
def Yd (P : Program) (l : Nat) (args : Array Value) (s : St) (K : Value → St → Prop) : Prop :=
  YieldAt (FN none) 0 P l args s.w fun e w => ∃ v t, e = .returned v ∧ t.w = w ∧ K v t
section
variable {P : Program} {ro : Option Nat} {o : Oper} {a : Act} {s : St}
theorem op_yield {l : Nat} {x : Operand} {args : Array Operand} {ts : Array TypeId} {vs : List Value} {K : Value → St → Prop} (ho : o.op = .call { callee := .value x, args := args, argTypes := ts }) (hx : a.eval x = .func (.yield l) #[] #[]) (hv : args.toList.map a.eval = vs) (h : Yd P l vs.toArray s K) : OpR P ro o a s K := by
  intro next Q hn
  obtain ⟨fn, tmps, assign, body, hy, hr⟩ := h
  refine ⟨fun _ _ => trivial, ?_⟩
  have e : (execOp a.eval o).run P s.w = .ok (.round l fn tmps assign body) s.w := by
    simp only [execOp, ho, resolve, hx, Deferred.ofValue, map_eval, hv, Sem.run_bind, Sem.run_pure, Result.andThen_ok, invoke, Array.empty_append, Array.append_empty, hy]
  rw [Oper.semAt_eq _ _ _ (by simp [ho]), e]
  refine ⟨fun hx => by simp [Fence.wide] at hx, ?_⟩
  have h2 : RoundIn (FN ro) 0 P l fn tmps assign body s.w fun e w => ∃ v t, e = .returned v ∧ t.w = w ∧ K v t := hr
  refine h2.mono ?_
  rintro e w ⟨v, t, rfl, rfl, hK⟩
  exact hn v t hK
end
theorem Yd.mono {P : Program} {l : Nat} {args : Array Value} {s : St} {K K' : Value → St → Prop} (h : Yd P l args s K) (hk : ∀ v t, K v t → K' v t) : Yd P l args s K' := by
  obtain ⟨fn, tmps, assign, body, hy, hr⟩ := h
  exact ⟨fn, tmps, assign, body, hy, hr.mono fun e w ⟨v, t, h1, h2, h3⟩ => ⟨v, t, h1, h2, hk v t h3⟩⟩
abbrev mark (D : Nat) : Deferred := { target := .collected D, args := #[] }
def LeftM (P : Program) (fn : Func) (R : Value → St → Prop) (a : Act) (t : St) : Prop :=
  (a.defers = [] ∧ ∃ v, (results fn a.tmps).run P t.w = .ok v t.w ∧ R v t) ∨
  (∃ D, a.defers = [mark D] ∧ Ob t D (.deferred (some [])) ∧ ∀ t', Chg (· = D) t t' → ∃ v, (results fn a.tmps).run P t'.w = .ok v t'.w ∧ R v t')
def RetM (P : Program) (fn : Func) (R : Value → St → Prop) : Exit → Act → St → Prop
  | .normal, a, t => LeftM P fn R a t
  | .ret, a, t => LeftM P fn R a t
  | _, _, _ => False
theorem leaves_of_left {P : Program} {fn : Func} {R : Value → St → Prop} {a : Act} {t : St} (h : LeftM P fn R a t) : LeavesInM (FN none) 0 P fn a.tmps (fun e w => ∃ v t, e = .returned v ∧ t.w = w ∧ R v t) a.defers .returning t.w := by
  rcases h with ⟨hd, v, hr, hv⟩ | ⟨D, hd, hO, hK⟩
  · rw [hd]; exact ⟨v, hr, v, t, rfl, rfl, hv⟩
  · rw [hd]
    obtain ⟨v, hr, hv⟩ := hK (t.put D (.deferred none) hO.free) (t.put_chg D _ hO.free)
    refine ⟨by simp, .inl ⟨D, _, rfl, run_takeDeferred hO.heap, ?_⟩⟩
    exact ⟨v, hr, v, _, rfl, rfl, hv⟩
theorem cl_of_wpM {P : Program} {f : FuncId} {fn : Func} {c : Code} {args : Array Value} {s : St} {R : Value → St → Prop} (hf : P.funcs[f]? = some fn) (hb : fn.body = some c) (he : Enters P f)
    (h : ∀ a : Act, a.tmps.size = max args.size fn.ntmps → a.defers = [] → (∀ i v, args[i]? = some v → a.get i = v) → Wp P none c a s (RetM P fn R)) : Cl P f args s R := by
  refine ⟨he, callsIn_of_wp_marks hf hb trivial ?_⟩
  refine wpIn_mono (h { tmps := args ++ Array.replicate (fn.ntmps - args.size) undef, defers := [] } (by simp; omega) rfl ?_) ?_
  · intro i v hv
    have hi := (Array.getElem?_eq_some_iff.1 hv).1
    simp [Act.get, Array.getD_eq_getD_getElem?, Array.getElem?_append_left hi, hv]
  · rintro e a w ⟨t, rfl, hR⟩
    cases e with
    | normal => exact leaves_of_left hR
    | ret => exact leaves_of_left hR
    | _ => exact hR.elim
/-- for .. := range g { .. }, each round of which goes on. -/
theorem wp_rangeF {P : Program} {g : Operand} {ps : Array Tmp} {assign body : Code} {a : Act} {s : St} {Q : Exit → Act → St → Prop} {gf : FuncId} {lb : List Value} (hg : a.eval g = .func (.func gf) #[] lb.toArray) {τ : Type} (B M : Nat → Prop) (hB : ∀ k, B k → k < s.w.heap.size) (hM : ∀ k, M k → k < s.w.heap.size)
    (J : List τ → St → Prop) (V : St → τ → List Value → Prop) (r0 : List τ)
    (hJ : ∀ q t t', J q t → Chg B t t' → J q t')
    (hL : ∀ l q t t', s.w.heap.size ≤ l → J q t → Chg (· = l) t t' → J q t')
    (h0 : J r0 s)
    (hen : Enters P gf)
    (hseq : ∀ (l : Nat) (t : St), s.w.heap.size ≤ l → l < t.w.heap.size → Ext s t → ∀ (J' : List τ → St → Prop), (∀ q t t', J' q t → Chg B t t' → J' q t') → J' r0 t →
      (∀ x q t us, J' (x :: q) t → V t x us → Yd P l us.toArray t (fun v t' => v = .bool true ∧ Chg (fun k => M k ∨ k = l) t t' ∧ J' q t')) →
      Cl P gf (.func (.yield l) #[] #[] :: lb).toArray t (fun _ t' => Chg (fun k => (M k ∨ k = l) ∨ B k) t t' ∧ J' [] t'))
    (hlen : ∀ t x us, V t x us → us.length = ps.size)
    (hround : ∀ (l : Nat) (x : τ) (q : List τ) (t : St) (us : List Value), s.w.heap.size ≤ l → J (x :: q) t → V t x us →
      Wp P (some l) assign { tmps := (ps.zip us.toArray).foldl (fun tmps (t, a) => tmps.setIfInBounds t a) a.tmps, defers := [] } t
        (Then (fun a1 t1 => Chg M t t1 ∧ ∀ t2, Chg (· = l) t1 t2 → Wp P (some l) body a1 t2 (Then (fun _ t3 => Chg M t2 t3 ∧ J q t3) (fun _ _ _ => False))) (fun _ _ _ => False)))
    (hdone : ∀ (D : Nat) (t : St), s.w.heap.size ≤ D → Chg (fun k => M k ∨ B k) s t → J [] t → Ob t D (.deferred (some [])) → Q .normal { a with defers := mark D :: a.defers } t) :
    Wp P none (.rangeFunc g ps assign body) a s Q := by
  refine wpIn_rangeFunc (F := FN none) ?_
  intro fn hfn
  obtain ⟨rec, hrec⟩ : ∃ rec : LoopState → Option Code → Loop, rec = fun st pe => { state := st, pending := pe, fn, tmps := a.tmps, params := ps, assign, body, defers := s.w.heap.size } := ⟨_, rfl⟩
  obtain ⟨t0, ht0⟩ : ∃ t0, t0 = (s.alloc (.deferred (some []))).alloc (.loop (rec .ready none)) := ⟨_, rfl⟩
  have hext : Ext s t0 := by rw [ht0]; exact (s.alloc_ext _).trans (St.alloc_ext _ _)
  have hsz : (s.alloc (.deferred (some []))).w.heap.size = s.w.heap.size + 1 := by simp [St.alloc]
  have hOl : Ob t0 (s.w.heap.size + 1) (.loop (rec .ready none)) := by
    have := Ob.new (s.alloc (.deferred (some []))) (.loop (rec .ready none))
    rw [hsz] at this; rw [ht0]; exact this
  have hOD : Ob t0 s.w.heap.size (.deferred (some [])) := by
    rw [ht0]; exact (Ob.new s _).ext (St.alloc_ext _ _)
  have hMD : ∀ k, s.w.heap.size ≤ k → ¬ M k := fun k hk hm => by have := hM k hm; omega
  have hBD : ∀ k, s.w.heap.size ≤ k → ¬ B k := fun k hk hm => by have := hB k hm; omega
  have hcl := hseq (s.w.heap.size + 1) t0 (by omega) hOl.lt hext (fun q t => J q t ∧ Ob t (s.w.heap.size + 1) (.loop (rec .ready none)) ∧ Ob t s.w.heap.size (.deferred (some [])))
    (fun q t t' h he => ⟨hJ q t t' h.1 he, h.2.1.chg he (hBD _ (by omega)), h.2.2.chg he (hBD _ (Nat.le_refl _))⟩) ⟨hJ _ _ _ h0 (Chg.of_ext hext), hOl, hOD⟩ (by
      rintro x q t us ⟨hj, ol, od⟩ hV
      refine ⟨fn, _, assign, body, by have := run_yield (P := P) (args := us.toArray) ol.heap (by rw [hrec]; simpa using hlen _ _ _ hV); rw [hrec] at this; exact this, roundIn_of_wpIn hfn ?_⟩
      have hw := hround (s.w.heap.size + 1) x q t us (by omega) hj hV
      refine wpIn_mono (F := FN (some (s.w.heap.size + 1))) hw fun e a1 w1 ⟨t1, hw1, hT⟩ => ?_
      subst hw1
      cases e with
      | normal =>
        obtain ⟨c1, hb⟩ := hT
        have ol1 := ol.chg c1 (hMD _ (by omega))
        have od1 := od.chg c1 (hMD _ (Nat.le_refl _))
        obtain ⟨t2, ht2⟩ : ∃ t2, t2 = t1.put (s.w.heap.size + 1) (.loop { rec .ready none with state := .busy }) ol1.free := ⟨_, rfl⟩
        have c2 : Chg (· = s.w.heap.size + 1) t1 t2 := by rw [ht2]; exact t1.put_chg _ _ _
        have ol2 : Ob t2 (s.w.heap.size + 1) (.loop { rec .ready none with state := .busy }) := by rw [ht2]; exact ol1.put _
        have od2 := od1.chg c2 (by omega)
        refine ⟨t2.w, by rw [ht2]; exact run_beginRound (P := P) ol1.heap (by rw [hrec]), ?_⟩
        refine wpIn_mono (F := FN (some (s.w.heap.size + 1))) (hb t2 c2) fun e a3 w3 ⟨t3, hw3, hT3⟩ => ?_
        subst hw3
        cases e with
        | normal =>
          obtain ⟨c3, hj3⟩ := hT3
          have ol3 := ol2.chg c3 (hMD _ (by omega))
          have od3 := od2.chg c3 (hMD _ (Nat.le_refl _))
          obtain ⟨t4, ht4⟩ : ∃ t4, t4 = t3.put (s.w.heap.size + 1) (.loop (rec .ready none)) ol3.free := ⟨_, rfl⟩
          have c4 : Chg (· = s.w.heap.size + 1) t3 t4 := by rw [ht4]; exact t3.put_chg _ _ _
          have wk : ∀ {u v : St}, Chg M u v → Chg (fun k => M k ∨ k = s.w.heap.size + 1) u v := fun h => h.weak fun _ _ hm => .inl hm
          have wl : ∀ {u v : St}, Chg (· = s.w.heap.size + 1) u v → Chg (fun k => M k ∨ k = s.w.heap.size + 1) u v := fun h => h.weak fun _ _ hm => .inr hm
          refine ⟨.bool true, t4.w, ?_, .bool true, t4, rfl, rfl, rfl, (((wk c1).trans (wl c2)).trans (wk c3)).trans (wl c4), hL _ _ _ _ (by omega) hj3 c4, by rw [ht4]; exact ol3.put _, od3.chg c4 (by omega)⟩
          have := run_endRound (P := P) none ol3.heap
          have e4 : t4.w = t3.w.putObj (s.w.heap.size + 1) (.loop (rec .ready none)) := by rw [ht4]; rfl
          rw [e4, hrec]; rw [hrec] at this; exact this
        | _ => exact hT3.elim
      | _ => exact hT.elim)
  refine ⟨s.w.heap.size + 1, [mark s.w.heap.size], t0.w, { target := .fn (.func gf) lb.toArray, args := #[.func (.yield (s.w.heap.size + 1)) #[] #[]] }, t0.w, gf, (.func (.yield (s.w.heap.size + 1)) #[] #[] :: lb).toArray, t0.w, ?_, ?_, fun _ _ => trivial, ?_, fun h => by simp [Fence.wide] at h, ?_⟩
  · rw [ht0, hrec]; exact run_enterLoop_outer _ _ _ _ _
  · simp only [resolve, hg]
    simp [go_sem]
  · have := hen (.func (.yield (s.w.heap.size + 1)) #[] #[] :: lb).toArray t0.w
    simp [invoke, go_sem] at this ⊢
    simpa using this
  · refine hcl.2.mono ?_
    rintro e w ⟨v, t, rfl, rfl, hc, hj, ol, od⟩
    obtain ⟨t4, ht4⟩ : ∃ t4, t4 = t.put (s.w.heap.size + 1) (.loop { rec .ready none with state := .exhausted }) ol.free := ⟨_, rfl⟩
    have c4 : Chg (· = s.w.heap.size + 1) t t4 := by rw [ht4]; exact t.put_chg _ _ _
    refine ⟨none, t4.w, ?_, t4, rfl, hdone _ t4 (Nat.le_refl _) ?_ (hL _ _ _ _ (by omega) hj c4) (od.chg c4 (by omega))⟩
    · have := run_endLoop (P := P) ol.heap (by rw [hrec]; simp)
      have e4 : t4.w = t.w.putObj (s.w.heap.size + 1) (.loop { rec .ready none with state := .exhausted }) := by rw [ht4]; rfl
      rw [e4, hrec]; rw [hrec] at this; exact this
    · have h1 : Chg (fun k => M k ∨ B k) s t := (Chg.of_ext hext).chg hc fun k hk hlt => hk.elim (fun h => .inl (h.resolve_right (by omega))) .inr
      exact h1.chg c4 fun k hk hlt => by omega
/-- The temporaries of a round. -/
theorem round1 {a : Act} {p : Tmp} {u : Value} {N : Nat} (hN : a.tmps.size = N) (hp : Nat.ble (p + 1) N = true) : (({ tmps := (#[p].zip [u].toArray).foldl (fun tmps (t, a) => tmps.setIfInBounds t a) a.tmps, defers := [] } : Act).tmps.size = N) ∧
    (∀ x, isIn x [p] = false → ({ tmps := (#[p].zip [u].toArray).foldl (fun tmps (t, a) => tmps.setIfInBounds t a) a.tmps, defers := [] } : Act).get x = a.get x) ∧
    ({ tmps := (#[p].zip [u].toArray).foldl (fun tmps (t, a) => tmps.setIfInBounds t a) a.tmps, defers := [] } : Act).get p = u := by
  have hp := Nat.le_of_ble_eq_true hp
  have e : (#[p].zip [u].toArray).foldl (fun tmps (t, a) => tmps.setIfInBounds t a) a.tmps = a.tmps.setIfInBounds p u := by
    have h0 : #[p].zip [u].toArray = #[(p, u)] := by first | rfl | simp [← Array.toList_inj]
    rw [h0]; simp
  rw [e]
  refine ⟨by simpa using hN, fun x hx => ?_, ?_⟩
  · have hne : x ≠ p := fun h => by subst h; simp [isIn] at hx
    simp [Act.get, Array.getD_eq_getD_getElem?, Array.getElem?_setIfInBounds_ne (Ne.symm hne)]
  · simp only [Act.get, Array.getD_eq_getD_getElem?]
    rw [Array.getElem?_setIfInBounds_self_of_lt (by omega)]; rfl
theorem round_wp {P : Program} {ro : Option Nat} {c : Code} {a : Act} {p : Tmp} {u : Value} {N : Nat} {t : St} {Q : Exit → Act → St → Prop} (hN : a.tmps.size = N) (hp : Nat.ble (p + 1) N = true)
    (h : ∀ a' : Act, a'.tmps.size = N → a'.defers = [] → (∀ x, isIn x [p] = false → a'.get x = a.get x) → a'.get p = u → Wp P ro c a' t Q) : Wp P ro c { tmps := (#[p].zip [u].toArray).foldl (fun tmps (t, a) => tmps.setIfInBounds t a) a.tmps, defers := [] } t Q :=
  h _ (round1 hN hp).1 rfl (round1 hN hp).2.1 (round1 hN hp).2.2
theorem done_wp {a : Act} {D : Nat} {t : St} {Q : Exit → Act → St → Prop} (hd : a.defers = []) (h : ∀ a' : Act, a'.tmps.size = a.tmps.size → a'.defers = [mark D] → (∀ x, isIn x [] = false → a'.get x = a.get x) → Q .normal a' t) : Q .normal { a with defers := mark D :: a.defers } t :=
  h _ rfl (by rw [hd]) fun _ _ => rfl
def lcase {τ β : Type} (l : List τ) (e : β) (c : τ → List τ → β) : β := match l with
  | [] => e
  | x :: q => c x q
theorem lcase_nil {τ β : Type} {e : β} {c : τ → List τ → β} {r : β} (h : lcase [] e c = r) : e = r := h
theorem lcase_cons {τ β : Type} {x : τ} {q : List τ} {e : β} {c : τ → List τ → β} {r : β} (h : lcase (x :: q) e c = r) : c x q = r := h
def bindv {α β : Type} (x : α) (f : α → β) : β := f x
theorem bindv_h {α β : Type} {x : α} {f : α → β} {r : β} (h : bindv x f = r) : ∃ y, x = y ∧ f y = r := ⟨x, rfl, h⟩
theorem yield_h {τ : Type} {o : Option (List τ)} {v : τ} {r : List τ} (h : o.map (fun q => v :: q) = some r) : ∃ q, r = v :: q ∧ o = some q := by
  cases o with
  | none => cases h
  | some q => cases h; exact ⟨q, rfl, rfl⟩
end
section
attribute [local irreducible] Kn.V PtrV
def order_reader_text (x0 : Reader) : Reader × Str := if (x0.bad || (!decide (((takeT x0.b x0.at_ 32).2.2) = 0))) = true then (((⟨x0.b, x0.at_, true⟩ : Reader), ([] : Str))) else (((⟨x0.b, (takeT x0.b x0.at_ 32).2.1, x0.bad⟩ : Reader), (takeT x0.b x0.at_ 32).1))
theorem order_reader_text.ok {s0 : St} {b1 : Nat} {x0 : Reader} (H0 : Hd s0 b1 147 kReader x0) : Cl Try.prog 108 #[.pointer (some ⟨b1, 0, none⟩)] s0 (Okt (fun b => b = b1) s0 (fun t v => Hd t b1 147 kReader ((order_reader_text x0).1) ∧ (Fact.v kS ((order_reader_text x0).2)).φ t v)) := by
 obtain ⟨r, h⟩ : ∃ r, some (order_reader_text x0) = some r := ⟨_, rfl⟩
 rw [Option.some.inj h]
 have h : (if (x0.bad || (!decide (((takeT x0.b x0.at_ 32).2.2) = 0))) = true then (some ((⟨x0.b, x0.at_, true⟩ : Reader), ([] : Str))) else (some ((⟨x0.b, (takeT x0.b x0.at_ 32).2.1, x0.bad⟩ : Reader), (takeT x0.b x0.at_ 32).1))) = some r := by rw [← h]; unfold order_reader_text; first | rfl | simp only [apply_ite some] | (repeat' (first | rfl | split))
 refine cl_of_wp Try.func108 rfl en_108 fun a hz hd hp => ?_; have hz : a.tmps.size = 35 := hz; have E := Chg.refl (fun b => b = b1) s0; obtain ⟨e2, B1, r3⟩ := H0; obtain ⟨u4, u5, u6, rfl, c7, c8, c9⟩ := kReader_open r3; have h0 : a.get 0 = .pointer (some ⟨b1, 0, none⟩) := hp 0 _ rfl; refine wp_sr ?_; refine sq_blk (its := [⟨2, _, []⟩]) [] hz rfl ⟨(fun a s he hf hz => av rfl rfl s_0), trivial⟩ ?_; intro a10 s11 he hf hz hd1; have hd := hd1.trans hd; have h0 := (hf 0 rfl).trans h0; have B1 := B1.ext he; obtain ⟨c7, c8, c9⟩ := vm3 he c7 c8 c9; have E := E.trans (Chg.of_ext he); refine wp_seq ?_; refine wp_draw (its := [⟨7, _, []⟩, ⟨8, _, [0]⟩, ⟨9, _, [1]⟩, ⟨10, _, [2]⟩, ⟨11, _, []⟩, ⟨12, _, [4]⟩, ⟨13, _, [5]⟩, ⟨14, _, [6]⟩, ⟨15, _, [3, 7]⟩, ⟨6, _, [8]⟩, ⟨16, _, [9]⟩, ⟨17, _, [9]⟩, ⟨18, _, [9]⟩, ⟨3, _, [10]⟩, ⟨4, _, [11]⟩, ⟨5, _, [12]⟩]) [13, 14, 15] mo hz (by kernel_rfl) ⟨mes rfl rfl h0 rfl, (fun a s he hf hz q0 => nk rfl rfl q0), (fun a s he hf hz q1 => fb rfl rfl fa_147_0 q1), (fun a s he hf hz q2 => lo rfl rfl ty_53 q2 (B1.ext he) rfl (vm he c7)), mes rfl rfl h0 rfl, (fun a s he hf hz q4 => nk rfl rfl q4), (fun a s he hf hz q5 => fb rfl rfl fa_147_1 q5), (fun a s he hf hz q6 => lo rfl rfl ty_3 q6 (B1.ext he) rfl (vm he c8)), (fun a s he hf hz q3 q7 => opw rfl (op_call rfl rfl (wire_TakeText.ct q3 q7 (lit_i (k := .i64) (n := 32) (by decide))))), (fun a s he hf hz q8 => opw rfl (op_move rfl (f := Fact.tup _) q8)), (fun a s he hf hz q9 => opw rfl (op_extract (f := Fact.v _ _) rfl q9 rfl)), (fun a s he hf hz q9 => opw rfl (op_extract (f := Fact.v _ _) rfl q9 rfl)), (fun a s he hf hz q9 => opw rfl (op_extract (f := Fact.v _ _) rfl q9 rfl)), avq rfl rfl, avq rfl rfl, avq rfl rfl, trivial⟩ ?_
 intro a12 s13 he hf hz hd1 h3 h4 h5; have hd := hd1.trans hd; have h0 := (hf 0 rfl).trans h0; have B1 := B1.ext he; obtain ⟨c7, c8, c9⟩ := vm3 he c7 c8 c9; have E := E.trans (Chg.of_ext he); refine wp_seq ?_; refine wp_sr ?_; have hz0 := hz; refine sq_blk (its := [⟨19, _, []⟩, ⟨20, _, [0]⟩, ⟨21, _, [1]⟩, ⟨22, _, [2]⟩, ⟨23, _, [3]⟩, ⟨24, _, [4]⟩, ⟨25, _, [4, 5]⟩, ⟨26, _, [4, 6]⟩]) [7] hz rfl ⟨mes rfl rfl h0 rfl, (fun a s he hf hz q0 => nk rfl rfl q0), (fun a s he hf hz q1 => fb rfl rfl fa_147_2 q1), (fun a s he hf hz q2 => lo rfl rfl ty_4 q2 (B1.ext he) rfl (vm he c9)), mvq rfl rfl, (fun a s he hf hz q4 => og rfl rfl rfl hz hz0 rfl q4 (fun g => op_move_v rfl (V_at h5 he (hf 5 rfl)))), (fun a s he hf hz q4 q5 => og rfl rfl rfl hz hz0 rfl q4 (fun g => op_neq rfl (q5.1 g) i0)), (fun a s he hf hz q4 q6 => oe rfl rfl q4 (q6.1)), trivial⟩ ?_; intro a14 s15 he hf hz hd1 h26; have hd := hd1.trans hd; obtain ⟨h3, h4⟩ := va2 he hf h3 h4 rfl; have h0 := (hf 0 rfl).trans h0; have B1 := B1.ext he; obtain ⟨c7, c8, c9⟩ := vm3 he c7 c8 c9; have E := E.trans (Chg.of_ext he); refine wp_condV h26 (fun hb => ?_) (fun hb => ?_)
 ·have h := ite_t hb h; refine wp_sr ?_; refine sq_blk (its := [⟨27, _, []⟩, ⟨28, _, [0]⟩, ⟨29, _, [1]⟩]) [2] hz rfl ⟨mes rfl rfl h0 rfl, (fun a s he hf hz q0 => nk rfl rfl q0), (fun a s he hf hz q1 => fb rfl rfl fa_147_2 q1), trivial⟩ ?_; intro a16 s17 he hf hz hd1 h29; have hd := hd1.trans hd; have B1 := B1.ext he; obtain ⟨c7, c8⟩ := vm2 he c7 c8; have E := E.trans (Chg.of_ext he); refine sq_do rfl rfl (op_store_v rfl ty_4 rfl h29 B1 b_t rfl (fun s19 he B1n c20 => ?_)); obtain ⟨c7, c8⟩ := vm2 he c7 c8; have E := Chg.chg E he (fun b e h => (fun e => by cases e; exact rfl) e); obtain ⟨u21, huu21⟩ : ∃ u : Value, u = (.bool true) := ⟨_, rfl⟩; have c20 : kB.V s19 u21 true := by rw [huu21]; exact c20
  have B1 : Bx s19 b1 147 [u4, u5, u21] := by rw [huu21]; exact B1n
  refine wp_sr ?_; refine sq_blk (its := [⟨2, _, []⟩]) [0] hz rfl ⟨(fun a s he hf hz => av rfl rfl s_0), trivial⟩ ?_; intro a22 s23 he hf hz hd1 h2; have hd := hd1.trans hd; have B1 := B1.ext he; obtain ⟨c7, c8, c20⟩ := vm3 he c7 c8 c20; have E := E.trans (Chg.of_ext he); refine wp_ret ?_; cases h
  exact ⟨hd, _, results_tmp rfl _ _ _, E, ⟨_, B1, (kReader_close c7 c8 c20)⟩, h2⟩
 ·have h := ite_f hb h; refine wp_skip ?_; refine wp_sr ?_; refine sq_blk (its := [⟨30, _, []⟩, ⟨31, _, []⟩, ⟨32, _, [0]⟩, ⟨33, _, [2]⟩]) [1, 3] hz rfl ⟨mes rfl rfl h0 rfl, mvs rfl rfl h4 rfl, (fun a s he hf hz q0 => nk rfl rfl q0), (fun a s he hf hz q2 => fb rfl rfl fa_147_1 q2), trivial⟩ ?_; intro a24 s25 he hf hz hd1 h31 h33; have hd := hd1.trans hd; have h3 := V_at h3 he (hf 3 rfl); have B1 := B1.ext he; obtain ⟨c7, c9⟩ := vm2 he c7 c9; have E := E.trans (Chg.of_ext he); refine sq_do rfl rfl (op_store_v rfl ty_3 rfl h33 B1 h31 rfl (fun s27 he B1n c28 => ?_)); have h3 := vm he h3; obtain ⟨c7, c9⟩ := vm2 he c7 c9; have E := Chg.chg E he (fun b e h => (fun e => by cases e; exact rfl) e); obtain ⟨u29, huu29⟩ : ∃ u : Value, u = (a24.get 31) := ⟨_, rfl⟩; have c28 : (kI .i64).V s27 u29 ((takeT x0.b x0.at_ 32).2.1) := by rw [huu29]; exact c28
  have B1 : Bx s27 b1 147 [u4, u29, u6] := by rw [huu29]; exact B1n
  refine wp_sr ?_; refine sq_blk (its := [⟨34, _, []⟩, ⟨2, _, [0]⟩]) [1] hz rfl ⟨mvs rfl rfl h3 rfl, avq rfl rfl, trivial⟩ ?_; intro a30 s31 he hf hz hd1 h2; have hd := hd1.trans hd; have B1 := B1.ext he; obtain ⟨c7, c28, c9⟩ := vm3 he c7 c28 c9; have E := E.trans (Chg.of_ext he); refine wp_ret ?_; cases h
  exact ⟨hd, _, results_tmp rfl _ _ _, E, ⟨_, B1, (kReader_close c7 c28 c9)⟩, h2⟩
def order_reader_number (x0 : Reader) : Reader × Int := if ((x0.bad || (!decide (((takeN x0.b x0.at_).2.2) = 0))) || (decide (4611686018427387904 < ((takeN x0.b x0.at_).1)))) = true then (((⟨x0.b, x0.at_, true⟩ : Reader), 0)) else (((⟨x0.b, (takeN x0.b x0.at_).2.1, x0.bad⟩ : Reader), IntKind.wrap .i64 ((takeN x0.b x0.at_).1)))
theorem order_reader_number.ok {s0 : St} {b1 : Nat} {x0 : Reader} (H0 : Hd s0 b1 147 kReader x0) : Cl Try.prog 109 #[.pointer (some ⟨b1, 0, none⟩)] s0 (Okt (fun b => b = b1) s0 (fun t v => Hd t b1 147 kReader ((order_reader_number x0).1) ∧ (Fact.v (kI .i64) ((order_reader_number x0).2)).φ t v)) := by
 obtain ⟨r, h⟩ : ∃ r, some (order_reader_number x0) = some r := ⟨_, rfl⟩
 rw [Option.some.inj h]
 have h : (if ((x0.bad || (!decide (((takeN x0.b x0.at_).2.2) = 0))) || (decide (4611686018427387904 < ((takeN x0.b x0.at_).1)))) = true then (some ((⟨x0.b, x0.at_, true⟩ : Reader), 0)) else (some ((⟨x0.b, (takeN x0.b x0.at_).2.1, x0.bad⟩ : Reader), IntKind.wrap .i64 ((takeN x0.b x0.at_).1)))) = some r := by rw [← h]; unfold order_reader_number; first | rfl | simp only [apply_ite some] | (repeat' (first | rfl | split))
 refine cl_of_wp Try.func109 rfl en_109 fun a hz hd hp => ?_; have hz : a.tmps.size = 40 := hz; have E := Chg.refl (fun b => b = b1) s0; obtain ⟨e2, B1, r3⟩ := H0; obtain ⟨u4, u5, u6, rfl, c7, c8, c9⟩ := kReader_open r3; have h0 : a.get 0 = .pointer (some ⟨b1, 0, none⟩) := hp 0 _ rfl; refine wp_sr ?_; refine sq_blk (its := [⟨2, _, []⟩]) [] hz rfl ⟨(fun a s he hf hz => av rfl rfl i0), trivial⟩ ?_; intro a10 s11 he hf hz hd1; have hd := hd1.trans hd; have h0 := (hf 0 rfl).trans h0; have B1 := B1.ext he; obtain ⟨c7, c8, c9⟩ := vm3 he c7 c8 c9; have E := E.trans (Chg.of_ext he); refine wp_seq ?_; refine wp_draw (its := [⟨7, _, []⟩, ⟨8, _, [0]⟩, ⟨9, _, [1]⟩, ⟨10, _, [2]⟩, ⟨11, _, []⟩, ⟨12, _, [4]⟩, ⟨13, _, [5]⟩, ⟨14, _, [6]⟩, ⟨15, _, [3, 7]⟩, ⟨6, _, [8]⟩, ⟨16, _, [9]⟩, ⟨17, _, [9]⟩, ⟨18, _, [9]⟩, ⟨3, _, [10]⟩, ⟨4, _, [11]⟩, ⟨5, _, [12]⟩]) [13, 14, 15] mo hz (by kernel_rfl) ⟨mes rfl rfl h0 rfl, (fun a s he hf hz q0 => nk rfl rfl q0), (fun a s he hf hz q1 => fb rfl rfl fa_147_0 q1), (fun a s he hf hz q2 => lo rfl rfl ty_53 q2 (B1.ext he) rfl (vm he c7)), mes rfl rfl h0 rfl, (fun a s he hf hz q4 => nk rfl rfl q4), (fun a s he hf hz q5 => fb rfl rfl fa_147_1 q5), (fun a s he hf hz q6 => lo rfl rfl ty_3 q6 (B1.ext he) rfl (vm he c8)), (fun a s he hf hz q3 q7 => opw rfl (op_call rfl rfl (wire_TakeNumber.ct q3 q7))), (fun a s he hf hz q8 => opw rfl (op_move rfl (f := Fact.tup _) q8)), (fun a s he hf hz q9 => opw rfl (op_extract (f := Fact.v _ _) rfl q9 rfl)), (fun a s he hf hz q9 => opw rfl (op_extract (f := Fact.v _ _) rfl q9 rfl)), (fun a s he hf hz q9 => opw rfl (op_extract (f := Fact.v _ _) rfl q9 rfl)), avq rfl rfl, avq rfl rfl, avq rfl rfl, trivial⟩ ?_
 intro a12 s13 he hf hz hd1 h3 h4 h5; have hd := hd1.trans hd; have h0 := (hf 0 rfl).trans h0; have B1 := B1.ext he; obtain ⟨c7, c8, c9⟩ := vm3 he c7 c8 c9; have E := E.trans (Chg.of_ext he); refine wp_seq ?_; refine wp_sr ?_; have hz0 := hz; refine sq_blk (its := [⟨19, _, []⟩, ⟨20, _, [0]⟩, ⟨21, _, [1]⟩, ⟨22, _, [2]⟩, ⟨23, _, [3]⟩, ⟨24, _, [4]⟩, ⟨25, _, [4, 5]⟩, ⟨26, _, [4, 6]⟩, ⟨27, _, [7]⟩, ⟨28, _, [8]⟩, ⟨29, _, [8, 9]⟩, ⟨30, _, [8, 10]⟩]) [11] hz rfl ⟨mes rfl rfl h0 rfl, (fun a s he hf hz q0 => nk rfl rfl q0), (fun a s he hf hz q1 => fb rfl rfl fa_147_2 q1), (fun a s he hf hz q2 => lo rfl rfl ty_4 q2 (B1.ext he) rfl (vm he c9)), mvq rfl rfl, (fun a s he hf hz q4 => og rfl rfl rfl hz hz0 rfl q4 (fun g => op_move_v rfl (V_at h5 he (hf 5 rfl)))), (fun a s he hf hz q4 q5 => og rfl rfl rfl hz hz0 rfl q4 (fun g => op_neq rfl (q5.1 g) i0)), (fun a s he hf hz q4 q6 => oe rfl rfl q4 (q6.1)), mvq rfl rfl, (fun a s he hf hz q8 => og rfl rfl rfl hz hz0 rfl q8 (fun g => op_move_v rfl (V_at h3 he (hf 3 rfl)))), (fun a s he hf hz q8 q9 => og rfl rfl rfl hz hz0 rfl q8 (fun g => op_gtr rfl (q9.1 g) (lit_i (k := .u64) (n := 4611686018427387904) (by decide)))), (fun a s he hf hz q8 q10 => oe rfl rfl q8 (q10.1)), trivial⟩ ?_
 intro a14 s15 he hf hz hd1 h30; have hd := hd1.trans hd; obtain ⟨h3, h4⟩ := va2 he hf h3 h4 rfl; have h0 := (hf 0 rfl).trans h0; have B1 := B1.ext he; obtain ⟨c7, c8, c9⟩ := vm3 he c7 c8 c9; have E := E.trans (Chg.of_ext he); refine wp_condV h30 (fun hb => ?_) (fun hb => ?_)
 ·have h := ite_t hb h; refine wp_sr ?_; refine sq_blk (its := [⟨31, _, []⟩, ⟨32, _, [0]⟩, ⟨33, _, [1]⟩]) [2] hz rfl ⟨mes rfl rfl h0 rfl, (fun a s he hf hz q0 => nk rfl rfl q0), (fun a s he hf hz q1 => fb rfl rfl fa_147_2 q1), trivial⟩ ?_; intro a16 s17 he hf hz hd1 h33; have hd := hd1.trans hd; have B1 := B1.ext he; obtain ⟨c7, c8⟩ := vm2 he c7 c8; have E := E.trans (Chg.of_ext he); refine sq_do rfl rfl (op_store_v rfl ty_4 rfl h33 B1 b_t rfl (fun s19 he B1n c20 => ?_)); obtain ⟨c7, c8⟩ := vm2 he c7 c8; have E := Chg.chg E he (fun b e h => (fun e => by cases e; exact rfl) e); obtain ⟨u21, huu21⟩ : ∃ u : Value, u = (.bool true) := ⟨_, rfl⟩; have c20 : kB.V s19 u21 true := by rw [huu21]; exact c20
  have B1 : Bx s19 b1 147 [u4, u5, u21] := by rw [huu21]; exact B1n
  refine wp_sr ?_; refine sq_blk (its := [⟨2, _, []⟩]) [0] hz rfl ⟨(fun a s he hf hz => av rfl rfl i0), trivial⟩ ?_; intro a22 s23 he hf hz hd1 h2; have hd := hd1.trans hd; have B1 := B1.ext he; obtain ⟨c7, c8, c20⟩ := vm3 he c7 c8 c20; have E := E.trans (Chg.of_ext he); refine wp_ret ?_; cases h
  exact ⟨hd, _, results_tmp rfl _ _ _, E, ⟨_, B1, (kReader_close c7 c8 c20)⟩, h2⟩
 ·have h := ite_f hb h; refine wp_skip ?_; refine wp_sr ?_; refine sq_blk (its := [⟨34, _, []⟩, ⟨35, _, []⟩, ⟨36, _, [0]⟩, ⟨37, _, [2]⟩]) [1, 3] hz rfl ⟨mes rfl rfl h0 rfl, mvs rfl rfl h4 rfl, (fun a s he hf hz q0 => nk rfl rfl q0), (fun a s he hf hz q2 => fb rfl rfl fa_147_1 q2), trivial⟩ ?_; intro a24 s25 he hf hz hd1 h35 h37; have hd := hd1.trans hd; have h3 := V_at h3 he (hf 3 rfl); have B1 := B1.ext he; obtain ⟨c7, c9⟩ := vm2 he c7 c9; have E := E.trans (Chg.of_ext he); refine sq_do rfl rfl (op_store_v rfl ty_3 rfl h37 B1 h35 rfl (fun s27 he B1n c28 => ?_)); have h3 := vm he h3; obtain ⟨c7, c9⟩ := vm2 he c7 c9; have E := Chg.chg E he (fun b e h => (fun e => by cases e; exact rfl) e); obtain ⟨u29, huu29⟩ : ∃ u : Value, u = (a24.get 35) := ⟨_, rfl⟩; have c28 : (kI .i64).V s27 u29 ((takeN x0.b x0.at_).2.1) := by rw [huu29]; exact c28
  have B1 : Bx s27 b1 147 [u4, u29, u6] := by rw [huu29]; exact B1n
  refine wp_sr ?_; refine sq_blk (its := [⟨38, _, []⟩, ⟨39, _, [0]⟩, ⟨2, _, [1]⟩]) [2] hz rfl ⟨mvs rfl rfl h3 rfl, (fun a s he hf hz q0 => cv rfl rfl u_89 u_2 q0), avq rfl rfl, trivial⟩ ?_; intro a30 s31 he hf hz hd1 h2; have hd := hd1.trans hd; have B1 := B1.ext he; obtain ⟨c7, c28, c9⟩ := vm3 he c7 c28 c9; have E := E.trans (Chg.of_ext he); refine wp_ret ?_; cases h
  exact ⟨hd, _, results_tmp rfl _ _ _, E, ⟨_, B1, (kReader_close c7 c28 c9)⟩, h2⟩
end
section
attribute [local irreducible] Kn.V PtrV
def order_reader_dot (x0 : Reader) : Reader × Dot := ((order_reader_number ((order_reader_text x0).1)).1, (⟨(order_reader_text x0).2, (order_reader_number ((order_reader_text x0).1)).2⟩ : Dot))
theorem order_reader_dot.ok {s0 : St} {b1 : Nat} {x0 : Reader} (H0 : Hd s0 b1 147 kReader x0) : Cl Try.prog 107 #[.pointer (some ⟨b1, 0, none⟩)] s0 (Okt (fun b => b = b1) s0 (fun t v => Hd t b1 147 kReader ((order_reader_dot x0).1) ∧ (Fact.v kDot ((order_reader_dot x0).2)).φ t v)) := by
 obtain ⟨r, h⟩ : ∃ r, some (order_reader_dot x0) = some r := ⟨_, rfl⟩
 rw [Option.some.inj h]
 have h : (some ((order_reader_number ((order_reader_text x0).1)).1, (⟨(order_reader_text x0).2, (order_reader_number ((order_reader_text x0).1)).2⟩ : Dot))) = some r := by rw [← h]; unfold order_reader_dot; first | rfl | simp only [apply_ite some] | (repeat' (first | rfl | split))
 refine cl_of_wp Try.func107 rfl en_107 fun a hz hd hp => ?_; have hz : a.tmps.size = 10 := hz; have E := Chg.refl (fun b => b = b1) s0; obtain ⟨e2, B1, r3⟩ := H0; obtain ⟨u4, u5, u6, rfl, c7, c8, c9⟩ := kReader_open r3; have h0 : a.get 0 = .pointer (some ⟨b1, 0, none⟩) := hp 0 _ rfl; refine wp_sr ?_; refine sq_set hz rfl rfl rfl (op_alloc (cs := [.string ⟨#[]⟩, .int .i64 0]) rfl zv_70 rfl (fun s11 he BB12 => fun a10 h2 hf hz hd1 => ?_)); obtain ⟨b15, hb15⟩ : ∃ b, b = s0.w.heap.size := ⟨_, rfl⟩; rw [← hb15] at BB12 h2; have B15 := BB12; have l15 : s0.w.heap.size ≤ b15 := by have := E.size; omega
 have n15_1 : b15 ≠ b1 := by have := B1.lt; omega
 have hd := hd1.trans hd; have h0 := (hf 0 rfl).trans h0; have B1 := B1.ext he; obtain ⟨c7, c8, c9⟩ := vm3 he c7 c8 c9; have E := E.trans (Chg.of_ext he); have c13 : kS.V s11 (.string ⟨#[]⟩) ([] : Str) := s_0; have c14 : (kI .i64).V s11 (.int .i64 0) 0 := i0; refine wp_sr ?_; refine sq_blk (its := [⟨4, _, []⟩]) [0] hz rfl ⟨mes rfl rfl h0 rfl, trivial⟩ ?_; intro a16 s17 he hf hz hd1 h4; have hd := hd1.trans hd; obtain ⟨h0, h2⟩ := ea2 hf h0 h2 rfl; obtain ⟨B1, B15⟩ := bx2 he B1 B15; obtain ⟨c7, c8, c9⟩ := vm3 he c7 c8 c9; have E := E.trans (Chg.of_ext he); refine sq_set hz rfl rfl rfl (op_call rfl (argc h4 rfl) (Cl.mono (order_reader_text.ok ⟨_, B1, (kReader_eta (x := x0) c7 c8 c9)⟩) (fun v s19 hR => fun a18 hd' hf hz hd1 => ?_))); obtain ⟨he, H20, hv⟩ := hR; have hd := hd1.trans hd; obtain ⟨h0, h2⟩ := ea2 hf h0 h2 rfl; have B15 := B15.chg he (fun e => n15_1 e); have E := Chg.chg E he (fun b e h => (fun e => by cases e; exact rfl) e); obtain ⟨e21, B1, r22⟩ := H20; obtain ⟨u23, u24, u25, rfl, c26, c27, c28⟩ := kReader_open r22; have h5 := V_eq hd' hv; refine sq_blk (its := [⟨3, _, []⟩]) [0] hz rfl ⟨avs rfl rfl h5 rfl, trivial⟩ ?_
 intro a29 s30 he hf hz hd1 h3; have hd := hd1.trans hd; obtain ⟨h0, h2⟩ := ea2 hf h0 h2 rfl; obtain ⟨B1, B15⟩ := bx2 he B1 B15; obtain ⟨c26, c27, c28⟩ := vm3 he c26 c27 c28; have E := E.trans (Chg.of_ext he); refine wp_sr ?_; refine sq_blk (its := [⟨6, _, []⟩, ⟨7, _, []⟩]) [0, 1] hz rfl ⟨mvs rfl rfl h3 rfl, mes rfl rfl h0 rfl, trivial⟩ ?_; intro a31 s32 he hf hz hd1 h6 h7; have hd := hd1.trans hd; have h2 := (hf 2 rfl).trans h2; obtain ⟨B1, B15⟩ := bx2 he B1 B15; obtain ⟨c26, c27, c28⟩ := vm3 he c26 c27 c28; have E := E.trans (Chg.of_ext he); refine sq_set hz rfl rfl rfl (op_call rfl (argc h7 rfl) (Cl.mono (order_reader_number.ok ⟨_, B1, (kReader_eta (x := (order_reader_text x0).1) c26 c27 c28)⟩) (fun v s34 hR => fun a33 hd' hf hz hd1 => ?_))); obtain ⟨he, H35, hv⟩ := hR; have hd := hd1.trans hd; have h6 := V_at h6 he (hf 6 rfl); have h2 := (hf 2 rfl).trans h2; have B15 := B15.chg he (fun e => n15_1 e); have E := Chg.chg E he (fun b e h => (fun e => by cases e; exact rfl) e); obtain ⟨e36, B1, r37⟩ := H35; obtain ⟨u38, u39, u40, rfl, c41, c42, c43⟩ := kReader_open r37; have h8 := V_eq hd' hv; refine sq_blk (its := [⟨9, _, []⟩]) [0] hz rfl ⟨(fun a s he hf hz => opw rfl (op_build rfl bt_70 (ps := [(0, [(a.get 6)]), (1, [(a.get 8)])]) ⟨rfl, V_cells1 (s := s) rfl (V_at h6 he (hf 6 rfl)), rfl, V_cells1 (s := s) rfl (V_at h8 he (hf 8 rfl)), trivial⟩ rfl (f := Fact.v kDot (⟨(order_reader_text x0).2, (order_reader_number ((order_reader_text x0).1)).2⟩ : Dot)) (V_mk rfl (kDot_close (V_at h6 he (hf 6 rfl)) (V_at h8 he (hf 8 rfl)))))), trivial⟩ ?_
 intro a44 s45 he hf hz hd1 h9; have hd := hd1.trans hd; have h2 := (hf 2 rfl).trans h2; obtain ⟨B1, B15⟩ := bx2 he B1 B15; obtain ⟨c41, c42, c43⟩ := vm3 he c41 c42 c43; have E := E.trans (Chg.of_ext he); refine sq_do rfl rfl (op_storen rfl ty_70 rfl h2 B15 h9 rfl (fun s47 e48 he B15n r49 => ?_)); have B1 := B1.chg he (fun e => (Ne.symm n15_1) e); obtain ⟨c41, c42, c43⟩ := vm3 he c41 c42 c43; have E := Chg.chg E he (fun b e h => (fun e => absurd h (by cases e; exact Nat.not_lt.2 l15)) e); obtain ⟨u50, u51, rfl, c52, c53⟩ := kDot_open r49; have B15 : Bx s47 b15 70 [u50, u51] := B15n; refine wp_ret ?_; cases h
 exact ⟨hd, _, results_cell (es := [u50, u51]) rfl (agg := true) ty_70 (by simp) h2 B15, E, ⟨_, B1, (kReader_eta (x := (order_reader_number ((order_reader_text x0).1)).1) c41 c42 c43)⟩, (V_mk rfl (kDot_close c52 c53))⟩
end
section
attribute [local irreducible] Kn.V PtrV
def numM (most : Nat) (x : Str) : Option (Nat × Str) := (readN x).bind fun p => if most < p.1 then none else some p
def readD (w : Int) (x : Str) : Option (Dot × Str) := (readT w x).bind fun p => (numM 4611686018427387904 p.2).bind fun q => some (⟨p.1, (q.1 : Int)⟩, q.2)
def readS (w : Int) : Nat → Str → Option (List Dot × Str)
 | 0, x => some ([], x)
 | n + 1, x => (readD w x).bind fun p => (readS w n p.2).bind fun q => some (p.1 :: q.1, q.2)
def readO (x : Str) : Option (Op × Str) := (readD 32 x).bind fun d => (readV d.2).bind fun v => (readT 32 v.2).bind fun c => (readT 32 c.2).bind fun i =>
 (numM 4611686018427387904 i.2).bind fun k => (numM 4611686018427387904 k.2).bind fun q => (numM 4611686018427387904 q.2).bind fun m => if 3 < k.1 ∨ 128 < m.1 then none else (readS 32 m.1 m.2).bind fun s => some (⟨d.1, v.1, c.1, (k.1 : Int), i.1, (q.1 : Int), s.1⟩, s.2)
def zOp : Op := ⟨⟨[], 0⟩, [], [], 0, [], 0, []⟩
def parseO (x : Str) : Op × Int := match readO x with
 | none => (zOp, 80)
 | some (o, r) => if r = [] ∧ rightO o = true then (o, 0) else (zOp, 80)
theorem numM_lays {most : Nat} {x r : Str} {n : Nat} (h : numM most x = some (n, r)) : x = numB n ++ r ∧ n ≤ most := by
 unfold numM at h
 cases e : readN x with
 | none => rw [e] at h; cases h
 | some p =>
  rw [e] at h
  simp only [Option.bind_some] at h
  split at h
  ·cases h
  ·rename_i hc
   cases h
   exact ⟨(readN_lays e).1, by omega⟩
theorem numM_laid {most : Nat} (n : Nat) (hn : n ≤ most) (hm : most ≤ 4611686018427387904) (r : Str) : numM most (numB n ++ r) = some (n, r) := by
 unfold numM
 rw [readN_laid n (by omega)]
 simp only [Option.bind_some]
 rw [if_neg (by omega)]
theorem readD_lays {w : Int} {x r : Str} {d : Dot} (h : readD w x = some (d, r)) : x = dotB d ++ r ∧ (d.who.length : Int) ≤ w ∧ 0 ≤ d.n ∧ d.n ≤ 4611686018427387904 := by
 unfold readD at h
 cases e : readT w x with
 | none => rw [e] at h; cases h
 | some p =>
  rw [e] at h
  simp only [Option.bind_some] at h
  cases e2 : numM 4611686018427387904 p.2 with
  | none => rw [e2] at h; cases h
  | some q =>
   rw [e2] at h
   cases h
   obtain ⟨h1, h2, _⟩ := readT_lays (y := p.1) (r := p.2) e
   obtain ⟨h3, h4⟩ := numM_lays (n := q.1) (r := q.2) e2
   refine ⟨?_, by simp only []; omega, by simp only []; omega, by simp only []; omega⟩
   rw [h1, h3]
   simp only [dotB, Int.toNat_natCast, List.append_assoc]
theorem readD_laid {w : Int} {d : Dot} (h1 : (d.who.length : Int) ≤ w) (h0 : w ≤ 100) (h2 : 0 ≤ d.n) (h3 : d.n ≤ 4611686018427387904) (r : Str) : readD w (dotB d ++ r) = some (d, r) := by
 unfold readD dotB
 rw [show numB d.who.length ++ d.who ++ numB d.n.toNat ++ r = numB d.who.length ++ d.who ++ (numB d.n.toNat ++ r) from by simp only [List.append_assoc], readT_laid (by omega) (by omega)]
 simp only [Option.bind_some]
 rw [numM_laid _ (by omega) (by decide)]
 simp only [Option.bind_some]
 rw [Int.toNat_of_nonneg h2]
theorem dot_parts {d : Dot} (h : vector_isDot d = true) : d.who.length ≤ 24 ∧ 1 ≤ d.n ∧ d.n ≤ 4611686018427387904 := by
 unfold vector_isDot isName at h
 simp only [Bool.and_eq_true, decide_eq_true_eq] at h
 omega
theorem readS_lays {w : Int} : ∀ {n : Nat} {x r : Str} {l : List Dot}, readS w n x = some (l, r) → x = (l.map dotB).flatten ++ r ∧ l.length = n
 | 0, x, r, l, h => by cases h; exact ⟨rfl, rfl⟩
 | n + 1, x, r, l, h => by
  unfold readS at h
  cases e : readD w x with
  | none => rw [e] at h; cases h
  | some p =>
   rw [e] at h
   simp only [Option.bind_some] at h
   cases e2 : readS w n p.2 with
   | none => rw [e2] at h; cases h
   | some q =>
    rw [e2] at h
    cases h
    obtain ⟨h1, _⟩ := readD_lays (d := p.1) (r := p.2) e
    obtain ⟨h2, h3⟩ := readS_lays (l := q.1) (r := q.2) e2
    refine ⟨?_, by rw [List.length_cons, h3]⟩
    rw [h1, h2, List.map_cons, List.flatten_cons, List.append_assoc]
theorem readS_laid {w : Int} (hw : 24 ≤ w) (hw' : w ≤ 100) : ∀ {l : List Dot} (_ : ∀ d ∈ l, vector_isDot d = true) (r : Str), readS w l.length ((l.map dotB).flatten ++ r) = some (l, r)
 | [], _, r => rfl
 | d :: l, h, r => by
  obtain ⟨h1, h2, h3⟩ := dot_parts (h d (by simp))
  simp only [List.length_cons, readS, List.map_cons, List.flatten_cons, List.append_assoc]
  rw [readD_laid (by omega) hw' (by omega) h3]
  simp only [Option.bind_some]
  rw [readS_laid hw hw' (fun e he => h e (by simp [he]))]
  rfl
theorem readDots_lays : ∀ {n : Nat} {x r : Str} {l : List Dot}, readDots n x = some (l, r) → x = (l.map dotB).flatten ++ r ∧ l.length = n
 | 0, x, r, l, h => by cases h; exact ⟨rfl, rfl⟩
 | n + 1, x, r, l, h => by
  unfold readDots at h
  cases e : readT 24 x with
  | none => rw [e] at h; cases h
  | some p =>
   obtain ⟨w, q⟩ := p
   rw [e] at h
   simp only [] at h
   cases e2 : readN q with
   | none => rw [e2] at h; cases h
   | some p2 =>
    obtain ⟨m, q2⟩ := p2
    rw [e2] at h
    simp only [] at h
    split at h
    ·cases h
    ·cases e3 : readDots n q2 with
     | none => rw [e3] at h; cases h
     | some p3 =>
      obtain ⟨l3, q3⟩ := p3
      rw [e3] at h
      cases h
      obtain ⟨h1, _, _⟩ := readT_lays e
      obtain ⟨h2, _⟩ := readN_lays e2
      obtain ⟨h3, h4⟩ := readDots_lays e3
      refine ⟨?_, by rw [List.length_cons, h4]⟩
      rw [h1, h2, h3, List.map_cons, List.flatten_cons]
      simp only [dotB, Int.toNat_natCast, List.append_assoc]
theorem readDots_laid : ∀ {l : List Dot} (_ : ∀ d ∈ l, vector_isDot d = true) (r : Str), readDots l.length ((l.map dotB).flatten ++ r) = some (l, r)
 | [], _, r => rfl
 | d :: l, h, r => by
  obtain ⟨h1, h2, h3⟩ := dot_parts (h d (by simp))
  simp only [List.length_cons, readDots, List.map_cons, List.flatten_cons]
  rw [show dotB d ++ (l.map dotB).flatten ++ r = numB d.who.length ++ d.who ++ (numB d.n.toNat ++ ((l.map dotB).flatten ++ r)) from by simp only [dotB, List.append_assoc], readT_laid (by omega) (by omega)]
  simp only []
  rw [readN_laid _ (by omega)]
  simp only []
  rw [if_neg (by omega), readDots_laid (fun e he => h e (by simp [he]))]
  simp only []
  rw [Int.toNat_of_nonneg (by omega)]
theorem chainP_dots : ∀ (l : List Dot) (p : Str), chainP p l = true → ∀ d ∈ l, vector_isDot d = true
 | [], _, _, _, h => by simp at h
 | e :: l, p, hc, d, hd => by
  simp only [chainP, Bool.and_eq_true] at hc
  rcases List.mem_cons.1 hd with rfl | hd
  ·exact hc.1.1
  ·exact chainP_dots l e.who hc.2 d hd
theorem rightV_dots {l : List Dot} (h : rightV l = true) : l.length ≤ 64 ∧ ∀ d ∈ l, vector_isDot d = true := by
 unfold rightV at h
 simp only [Bool.and_eq_true, decide_eq_true_eq] at h
 rw [← chainP_nil] at h
 exact ⟨h.1, chainP_dots l [] h.2⟩
theorem readV_lays {x r : Str} {l : List Dot} (h : readV x = some (l, r)) : x = vecB l ++ r ∧ rightV l = true := by
 unfold readV at h
 cases e : readN x with
 | none => rw [e] at h; cases h
 | some p =>
  obtain ⟨n, q⟩ := p
  rw [e] at h
  simp only [] at h
  split at h
  ·cases h
  ·cases e2 : readDots n q with
   | none => rw [e2] at h; cases h
   | some p2 =>
    obtain ⟨l2, q2⟩ := p2
    rw [e2] at h
    simp only [] at h
    split at h
    ·rename_i hr
     cases h
     obtain ⟨h1, _⟩ := readN_lays e
     obtain ⟨h2, h3⟩ := readDots_lays e2
     refine ⟨?_, hr⟩
     rw [h1, h2, vecB, h3, List.append_assoc]
    ·cases h
theorem readV_laid {l : List Dot} (h : rightV l = true) (r : Str) : readV (vecB l ++ r) = some (l, r) := by
 obtain ⟨h1, h2⟩ := rightV_dots h
 unfold readV vecB
 rw [List.append_assoc, readN_laid _ (by omega)]
 simp only []
 rw [if_neg (by omega), readDots_laid h2]
 simp only []
 rw [if_pos h]
theorem readO_lays {x r : Str} {o : Op} (h : readO x = some (o, r)) : x = opB o ++ r := by
 unfold readO at h
 cases e1 : readD 32 x with
 | none => rw [e1] at h; cases h
 | some d =>
  rw [e1] at h; simp only [Option.bind_some] at h
  cases e2 : readV d.2 with
  | none => rw [e2] at h; cases h
  | some v =>
   rw [e2] at h; simp only [Option.bind_some] at h
   cases e3 : readT 32 v.2 with
   | none => rw [e3] at h; cases h
   | some c =>
    rw [e3] at h; simp only [Option.bind_some] at h
    cases e4 : readT 32 c.2 with
    | none => rw [e4] at h; cases h
    | some i =>
     rw [e4] at h; simp only [Option.bind_some] at h
     cases e5 : numM 4611686018427387904 i.2 with
     | none => rw [e5] at h; cases h
     | some k =>
      rw [e5] at h; simp only [Option.bind_some] at h
      cases e6 : numM 4611686018427387904 k.2 with
      | none => rw [e6] at h; cases h
      | some q =>
       rw [e6] at h; simp only [Option.bind_some] at h
       cases e7 : numM 4611686018427387904 q.2 with
       | none => rw [e7] at h; cases h
       | some m =>
        rw [e7] at h; simp only [Option.bind_some] at h
        split at h
        ·cases h
        ·cases e8 : readS 32 m.1 m.2 with
         | none => rw [e8] at h; cases h
         | some s =>
          rw [e8] at h; cases h
          have g1 := (readD_lays (d := d.1) (r := d.2) e1).1
          have g2 := (readV_lays (l := v.1) (r := v.2) e2).1
          have g3 := (readT_lays (y := c.1) (r := c.2) e3).1
          have g4 := (readT_lays (y := i.1) (r := i.2) e4).1
          have g5 := (numM_lays (n := k.1) (r := k.2) e5).1
          have g6 := (numM_lays (n := q.1) (r := q.2) e6).1
          have g7 := (numM_lays (n := m.1) (r := m.2) e7).1
          obtain ⟨g8, g9⟩ := readS_lays (l := s.1) (r := s.2) e8
          rw [g1, g2, g3, g4, g5, g6, g7, g8]
          simp only [opB, opH, opN, textB, Int.toNat_natCast, g9, List.append_assoc]
theorem readO_laid {o : Op} (h : rightO o = true) (r : Str) : readO (opB o ++ r) = some (o, r) := by
 obtain ⟨h1, h2, h3, h4, h5, h6, h7, h8⟩ := rightO_parts h
 obtain ⟨d1, d2, d3⟩ := dot_parts h1
 unfold readO
 rw [show opB o ++ r = dotB o.dot ++ (vecB o.deps ++ (numB o.cart.length ++ o.cart ++ (numB o.item.length ++ o.item ++ (numB o.kind.toNat ++ (numB o.qty.toNat ++ (numB o.seen.length ++ ((o.seen.map dotB).flatten ++ r))))))) from by simp only [opB, opH, opN, textB, List.append_assoc]]
 rw [readD_laid (by omega) (by decide) (by omega) d3]; simp only [Option.bind_some]
 rw [readV_laid h2]; simp only [Option.bind_some]
 rw [readT_laid (by omega) (by omega)]; simp only [Option.bind_some]
 rw [readT_laid (by omega) (by omega)]; simp only [Option.bind_some]
 rw [numM_laid _ (by omega) (by decide)]; simp only [Option.bind_some]
 rw [numM_laid _ (by omega) (by decide)]; simp only [Option.bind_some]
 rw [numM_laid _ (by omega) (by decide)]; simp only [Option.bind_some]
 rw [if_neg (by omega), readS_laid (by decide) (by decide) h6]; simp only [Option.bind_some]
 rw [Int.toNat_of_nonneg (by omega), Int.toNat_of_nonneg (by omega)]
theorem parseO_laid {o : Op} (h : rightO o = true) : parseO (opB o) = (o, 0) := by
 have := readO_laid h []
 rw [List.append_nil] at this
 unfold parseO
 rw [this]
 simp only []
 rw [if_pos ⟨trivial, h⟩]
theorem parseO_lays {x : Str} {o : Op} {e : Int} (h : parseO x = (o, e)) : (e = 0 ∧ rightO o = true ∧ opB o = x) ∨ (e = 80 ∧ o = zOp ∧ ∀ p, rightO p = true → opB p ≠ x) := by
 by_cases hx : ∃ p, rightO p = true ∧ opB p = x
 ·obtain ⟨p, h1, h2⟩ := hx
  subst h2
  rw [parseO_laid h1] at h
  cases h
  exact .inl ⟨rfl, h1, rfl⟩
 ·refine .inr ?_
  have hn : ∀ p, rightO p = true → opB p ≠ x := fun p h1 h2 => hx ⟨p, h1, h2⟩
  unfold parseO at h
  split at h
  ·cases h; exact ⟨rfl, rfl, hn⟩
  ·rename_i o' r hr
   split at h
   ·rename_i hc
    have := readO_lays hr
    rw [hc.1, List.append_nil] at this
    exact absurd this.symm (hn _ hc.2)
   ·cases h; exact ⟨rfl, rfl, hn⟩
end
end Go.Proofs.Ytfaenhhiogcacaa.Px
