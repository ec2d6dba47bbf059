/-
  PARTS OF ONE PROOF: W8 W9 W10 W11 W12. CONDITIONS: none of their own; each line names its own.
-/
import Derived.Test.YtfaenhhiogcacaaZFrameReads2
import Derived.Test.YtfaenhhiogcacaaProg
import Derived.KernelRfl
import Derived.Test.YtfaenhhiogcacaaZFrameReads1
set_option linter.unusedSimpArgs false
set_option linter.unusedVariables false
set_option maxRecDepth 4000
set_option maxHeartbeats 1000000
namespace Go.Proofs.Ytfaenhhiogcacaa.Px
open Go Go.RowKit
section
attribute [local irreducible] Kn.V PtrV
theorem readT_lays {x y r : Str} {most : Int} (h : readT most x = some (y, r)) : x = numB y.length ++ y ++ r ∧ (y.length : Int) ≤ most ∧ y.length < 18446744073709551616 := by
 unfold readT at h
 cases hr : readN x with
 | none => rw [hr] at h; cases h
 | some nr =>
  obtain ⟨n, q⟩ := nr
  rw [hr] at h
  simp only [] at h
  split at h
  ·cases h
  ·rename_i hc
   cases h
   obtain ⟨h1, h2⟩ := readN_lays hr
   have hl : (q.take n).length = n := by rw [List.length_take]; omega
   rw [hl, List.append_assoc, List.take_append_drop]
   exact ⟨h1, by omega, h2⟩
theorem readT_laid {y r : Str} {most : Int} (h1 : (y.length : Int) ≤ most) (h2 : y.length < 18446744073709551616) : readT most (numB y.length ++ y ++ r) = some (y, r) := by
 unfold readT
 rw [List.append_assoc, readN_laid _ h2]
 simp only []
 rw [if_neg (by rw [List.length_append]; omega), List.take_left' rfl, List.drop_left' rfl]
def openS (s : Str) (i most : Int) : Int × Str × Int × Int := if i < 0 then (0, [], 0, 20) else match s.drop i.toNat with
 | [] => (0, [], 0, 20)
 | c :: l => match readT most l with
  | none => (0, [], 0, 20)
  | some (y, r) => if r.length < 4 then (0, [], 0, 20) else if seal4 (sumN (text [c] y)) = r.take 4 then ((c.toNat : Int), y, (s.length : Int) - r.length + 4, 0) else (0, [], 0, 21)
theorem openS_off {s : Str} {i most : Int} (h : i < 0 ∨ (s.length : Int) ≤ i) : openS s i most = (0, [], 0, 20) := by
 unfold openS
 by_cases h0 : i < 0
 ·rw [if_pos h0]
 ·rw [if_neg h0, List.drop_eq_nil_of_le (by omega)]
theorem takeT_at {b : Str} {i : Nat} {most : Int} : takeT b (i : Int) most = match readT most (b.drop i) with
 | none => ([], 0, 20)
 | some (x, r) => (x, (b.length : Int) - r.length, 0) := by
 unfold takeT; rw [if_neg (by omega), Int.toNat_natCast] <;> rfl
theorem u8_self (c : UInt8) : UInt8.ofNat ((c.toNat : Int)).toNat = c := by
 apply UInt8.toNat_inj.1
 rw [Int.toNat_natCast]; simp
def wire_Open.f (k : Nat) (x0 : Str) (x1 : Int) (x2 : Int) : Option (Int × Str × Int × Int) := (if ((decide (x1 < 0)) || (decide ((x0.length : Int) ≤ x1))) = true then (some (0, ([] : Str), 0, 20)) else (if (0 ≤ x1 ∧ x1 ≤ (x0.length : Int)) then (if ((!decide (((takeT (List.drop (x1).toNat x0) 1 x2).2.2) = 0)) || (decide ((IntKind.wrap .i64 (((List.drop (x1).toNat x0).length : Int) - ((takeT (List.drop (x1).toNat x0) 1 x2).2.1))) < 4))) = true then (some (0, ([] : Str), 0, 20)) else (if (0 ≤ ((takeT (List.drop (x1).toNat x0) 1 x2).2.1) ∧ ((takeT (List.drop (x1).toNat x0) 1 x2).2.1) ≤ ((List.drop (x1).toNat x0).length : Int)) then (if (0 ≤ ((takeT (List.drop (x1).toNat x0) 1 x2).2.1) ∧ ((takeT (List.drop (x1).toNat x0) 1 x2).2.1) ≤ (IntKind.wrap .i64 (((takeT (List.drop (x1).toNat x0) 1 x2).2.1) + 4)) ∧ (IntKind.wrap .i64 (((takeT (List.drop (x1).toNat x0) 1 x2).2.1) + 4)) ≤ ((List.drop (x1).toNat x0).length : Int)) then (if (!(same_ (wire_seal ([List.take ((takeT (List.drop (x1).toNat x0) 1 x2).2.1).toNat (List.drop (x1).toNat x0)] : List (List UInt8))) (sub (List.drop (x1).toNat x0) ((takeT (List.drop (x1).toNat x0) 1 x2).2.1) (IntKind.wrap .i64 (((takeT (List.drop (x1).toNat x0) 1 x2).2.1) + 4))))) = true then (some (0, ([] : Str), 0, 21)) else (if (0 ≤ (0 : Int) ∧ (0 : Int) < ((List.drop (x1).toNat x0).length : Int)) then (some (((List.getD (List.drop (x1).toNat x0) ((0 : Int)).toNat default).toNat : Int), (takeT (List.drop (x1).toNat x0) 1 x2).1, IntKind.wrap .i64 ((IntKind.wrap .i64 (x1 + ((takeT (List.drop (x1).toNat x0) 1 x2).2.1))) + 4), 0)) else none)) else none) else none)) else none))
theorem wire_Open.ok {s0 : St} {v0 : Value} {x0 : Str} {v1 : Value} {x1 : Int} {v2 : Value} {x2 : Int} {k : Nat} {r : Int × Str × Int × Int} (k0 : kS.V s0 v0 x0) (k1 : (kI .i64).V s0 v1 x1) (k2 : (kI .i64).V s0 v2 x2) (h : wire_Open.f k x0 x1 x2 = some r) : Cl Try.prog 57 #[v0, v1, v2] s0 (Okf s0 (Fact.tup [Fact.v (kI .u8) r.1, Fact.v kS r.2.1, Fact.v (kI .i64) r.2.2.1, Fact.v (kI .i64) r.2.2.2])) := by
 unfold wire_Open.f at h
 refine cl_of_wp Try.func57 rfl en_57 fun a hz hd hp => ?_; have hz : a.tmps.size = 64 := hz; have E := Chg.refl (fun _ => False) s0; have h0 := V_at k0 E (hp 0 v0 rfl); have h1 := V_at k1 E (hp 1 v1 rfl); have h2 := V_at k2 E (hp 2 v2 rfl); refine wp_sr ?_; refine sq_blk [⟨6, _, []⟩, ⟨7, _, []⟩, ⟨8, _, []⟩, ⟨9, _, []⟩] [] hz rfl ⟨(fun a s he hf hz => av rfl rfl (lit_i (k := .u8) (n := 0) (by decide))), (fun a s he hf hz => av rfl rfl s_0), (fun a s he hf hz => av rfl rfl i0), (fun a s he hf hz => av rfl rfl i0), trivial⟩ ?_; intro a1 s2 he hf hz hd1; have ⟨hd, E⟩ := hdE hd1 hd E he; obtain ⟨h0, h1, h2⟩ := va3 he hf h0 h1 h2 rfl; refine wp_seq ?_; refine wp_sr ?_; have hz0 := hz; refine sq_blk [⟨14, _, []⟩, ⟨15, _, [0]⟩, ⟨16, _, [1]⟩, ⟨17, _, [2]⟩, ⟨18, _, [2]⟩, ⟨19, _, [2, 4]⟩, ⟨20, _, [2, 3, 5]⟩, ⟨21, _, [2, 6]⟩] [7] hz rfl ⟨mvs rfl rfl h1 rfl, (fun a s he hf hz q0 => ls rfl rfl q0 i0), mvq rfl rfl, (fun a s he hf hz q2 => og rfl rfl rfl hz hz0 rfl q2 (fun g => op_move_v rfl (V_at h1 he (hf 1 rfl)))), (fun a s he hf hz q2 => og rfl rfl rfl hz hz0 rfl q2 (fun g => op_move_v rfl (V_at h0 he (hf 0 rfl)))), (fun a s he hf hz q2 q4 => og rfl rfl rfl hz hz0 rfl q2 (fun g => op_len_s rfl u_9 (q4.1 g))), (fun a s he hf hz q2 q3 q5 => og rfl rfl rfl hz hz0 rfl q2 (fun g => op_geq rfl (q3.1 g) (q5.1 g))), (fun a s he hf hz q2 q6 => oe rfl rfl q2 (q6.1)), trivial⟩ ?_
 intro a3 s4 he hf hz hd1 h21; have ⟨hd, E⟩ := hdE hd1 hd E he; obtain ⟨h0, h1, h2⟩ := va3 he hf h0 h1 h2 rfl; refine wp_condV h21 (fun hb => ?_) (fun hb => ?_)
 ·have h := ite_t hb h; refine wp_sr ?_; refine sq_blk [⟨6, _, []⟩, ⟨7, _, []⟩, ⟨8, _, []⟩, ⟨9, _, []⟩] [0, 1, 2, 3] hz rfl ⟨(fun a s he hf hz => av rfl rfl (lit_i (k := .u8) (n := 0) (by decide))), (fun a s he hf hz => av rfl rfl s_0), (fun a s he hf hz => av rfl rfl i0), (fun a s he hf hz => av rfl rfl (lit_i (k := .i64) (n := 20) (by decide))), trivial⟩ ?_; intro a5 s6 he hf hz hd1 h6 h7 h8 h9; have ⟨hd, E⟩ := hdE hd1 hd E he; refine wp_ret ?_; cases h
  exact ⟨hd, _, results_tmp4 rfl _ _ _, E, tup4 h6 h7 h8 h9⟩
 ·have h := ite_f hb h; refine wp_skip ?_; refine wp_sr ?_; obtain ⟨D7, h⟩ := need h; refine sq_blk [⟨22, _, []⟩, ⟨23, _, []⟩, ⟨24, _, [0, 1]⟩, ⟨25, _, [2]⟩, ⟨10, _, [3]⟩] [4] hz rfl ⟨mvs rfl rfl h0 rfl, mvs rfl rfl h1 rfl, (fun a s he hf hz q0 q1 => opw rfl (op_cut_s_l rfl u_9 q0 q1 D7.1 D7.2)), (fun a s he hf hz q2 => opw rfl (op_tobytes rfl u_9 u_53 u_5 q2)), avq rfl rfl, trivial⟩ ?_; intro a8 s9 he hf hz hd1 h10; have ⟨hd, E⟩ := hdE hd1 hd E he; obtain ⟨h1, h2⟩ := va2 he hf h1 h2 rfl; refine wp_sr ?_; refine sq_blk [⟨27, _, []⟩, ⟨28, _, []⟩, ⟨29, _, [0, 1]⟩, ⟨26, _, [2]⟩, ⟨30, _, [3]⟩, ⟨31, _, [3]⟩, ⟨32, _, [3]⟩, ⟨11, _, [4]⟩, ⟨12, _, [5]⟩, ⟨13, _, [6]⟩] [7, 8, 9] hz rfl ⟨mvs rfl rfl h10 rfl, mvs rfl rfl h2 rfl, (fun a s he hf hz q0 q1 => opw rfl (op_call rfl rfl (wire_TakeText.ct q0 i1 q1))), (fun a s he hf hz q2 => opw rfl (op_move rfl (f := Fact.tup _) q2)), (fun a s he hf hz q3 => opw rfl (op_extract (f := Fact.v _ _) rfl q3 rfl)), (fun a s he hf hz q3 => opw rfl (op_extract (f := Fact.v _ _) rfl q3 rfl)), (fun a s he hf hz q3 => opw rfl (op_extract (f := Fact.v _ _) rfl q3 rfl)), avq rfl rfl, avq rfl rfl, avq rfl rfl, trivial⟩ ?_
  intro a10 s11 he hf hz hd1 h11 h12 h13; have ⟨hd, E⟩ := hdE hd1 hd E he; obtain ⟨h1, h10⟩ := va2 he hf h1 h10 rfl; refine wp_seq ?_; refine wp_block ?_; refine wp_sr ?_; have hz0 := hz; refine sq_blk [⟨34, _, []⟩, ⟨35, _, [0]⟩, ⟨36, _, [1]⟩, ⟨37, _, [2]⟩, ⟨38, _, [2, 3]⟩, ⟨39, _, [2]⟩, ⟨40, _, [2, 4, 5]⟩, ⟨41, _, [2, 6]⟩, ⟨42, _, [2, 7]⟩, ⟨33, _, [8]⟩] [9] hz rfl ⟨mvs rfl rfl h13 rfl, (fun a s he hf hz q0 => ne_ rfl rfl q0 i0), mvq rfl rfl, (fun a s he hf hz q2 => og rfl rfl rfl hz hz0 rfl q2 (fun g => op_move_v rfl (V_at h10 he (hf 10 rfl)))), (fun a s he hf hz q2 q3 => og rfl rfl rfl hz hz0 rfl q2 (fun g => op_len rfl u_53 (q3.1 g))), (fun a s he hf hz q2 => og rfl rfl rfl hz hz0 rfl q2 (fun g => op_move_v rfl (V_at h12 he (hf 12 rfl)))), (fun a s he hf hz q2 q4 q5 => og rfl rfl rfl hz hz0 rfl q2 (fun g => op_sub rfl (q4.1 g) (q5.1 g))), (fun a s he hf hz q2 q6 => og rfl rfl rfl hz hz0 rfl q2 (fun g => op_lss rfl (q6.1 g) (lit_i (k := .i64) (n := 4) (by decide)))), (fun a s he hf hz q2 q7 => oe rfl rfl q2 (q7.1)), avq rfl rfl, trivial⟩ ?_; intro a12 s13 he hf hz hd1 h33; have hd := hd1.trans hd
  obtain ⟨h1, h10, h11, h12⟩ := va4 he hf h1 h10 h11 h12 rfl; have E := E.trans he; refine wp_condV h33 (fun hb => ?_) (fun hb => ?_)
  ·have h := ite_t hb h; refine wp_sr ?_; refine sq_blk [⟨6, _, []⟩, ⟨7, _, []⟩, ⟨8, _, []⟩, ⟨9, _, []⟩] [0, 1, 2, 3] hz rfl ⟨(fun a s he hf hz => av rfl rfl (lit_i (k := .u8) (n := 0) (by decide))), (fun a s he hf hz => av rfl rfl s_0), (fun a s he hf hz => av rfl rfl i0), (fun a s he hf hz => av rfl rfl (lit_i (k := .i64) (n := 20) (by decide))), trivial⟩ ?_; intro a14 s15 he hf hz hd1 h6 h7 h8 h9; have ⟨hd, E⟩ := hdE hd1 hd E he; refine wp_ret ?_; cases h
   exact ⟨hd, _, results_tmp4 rfl _ _ _, E, tup4 h6 h7 h8 h9⟩
  ·have h := ite_f hb h; refine wp_seq ?_; obtain ⟨D16, h⟩ := need h; obtain ⟨D17, h⟩ := need h; refine wp_draw [⟨44, _, []⟩, ⟨45, _, []⟩, ⟨46, _, [0, 1]⟩, ⟨47, _, [2]⟩, ⟨48, _, [3]⟩, ⟨49, _, []⟩, ⟨50, _, []⟩, ⟨51, _, []⟩, ⟨52, _, [7]⟩, ⟨53, _, [5, 6, 8]⟩, ⟨54, _, [4, 9]⟩, ⟨55, _, [10]⟩, ⟨43, _, [11]⟩] [12] mo hz (by kernel_rfl) ⟨mvs rfl rfl h10 rfl, mvs rfl rfl h12 rfl, (fun a s he hf hz q0 q1 => opw rfl (op_cut_h rfl sl_53 q0 q1 D16.1 D16.2)), (fun a s he hf hz q2 => opw rfl (op_lit_v (d := (kSl kY)) rfl lt_165 (zc := [.slice none 0 0]) (by kernel_rfl) (ps := [(0, [(a.get 46)])]) ⟨rfl, V_cells1 (s := s) rfl q2, trivial⟩ rfl (by decide) (ys := ([List.take ((takeT (List.drop (x1).toNat x0) 1 x2).2.1).toNat (List.drop (x1).toNat x0)] : List (List UInt8))) rfl (by decide) rfl (lit_rows1 (V_one rfl q2)))), (fun a s he hf hz q3 => opw rfl (op_call rfl rfl (wire_seal.ok q3))), mvs rfl rfl h10 rfl, mvs rfl rfl h12 rfl, mvs rfl rfl h12 rfl, (fun a s he hf hz q7 => ad rfl rfl q7 (lit_i (k := .i64) (n := 4) (by decide))), (fun a s he hf hz q5 q6 q8 => opw rfl (op_cut_lh rfl sl_53 q5 q6 q8 D17.1 D17.2.1 D17.2.2)), (fun a s he hf hz q4 q9 => opw rfl (op_call rfl rfl (slices_Equal_byte_byte.ct q4 q9))), (fun a s he hf hz q10 => no_ rfl rfl q10), avq rfl rfl, trivial⟩ ?_
   intro a18 s19 he hf hz hd1 h43; have ⟨hd, E⟩ := hdE hd1 hd E he; obtain ⟨h1, h10, h11, h12⟩ := va4 he hf h1 h10 h11 h12 rfl; refine wp_condV h43 (fun hb => ?_) (fun hb => ?_)
   ·have h := ite_t hb h; refine wp_sr ?_; refine sq_blk [⟨6, _, []⟩, ⟨7, _, []⟩, ⟨8, _, []⟩, ⟨9, _, []⟩] [0, 1, 2, 3] hz rfl ⟨(fun a s he hf hz => av rfl rfl (lit_i (k := .u8) (n := 0) (by decide))), (fun a s he hf hz => av rfl rfl s_0), (fun a s he hf hz => av rfl rfl i0), (fun a s he hf hz => av rfl rfl (lit_i (k := .i64) (n := 21) (by decide))), trivial⟩ ?_; intro a20 s21 he hf hz hd1 h6 h7 h8 h9; have ⟨hd, E⟩ := hdE hd1 hd E he; refine wp_ret ?_; cases h
    exact ⟨hd, _, results_tmp4 rfl _ _ _, E, tup4 h6 h7 h8 h9⟩
   ·have h := ite_f hb h; refine wp_skip ?_; refine wp_sr ?_; obtain ⟨D22, h⟩ := need h; refine sq_blk [⟨56, _, []⟩, ⟨57, _, [0]⟩, ⟨58, _, [1]⟩, ⟨59, _, []⟩, ⟨60, _, []⟩, ⟨61, _, []⟩, ⟨62, _, [4, 5]⟩, ⟨63, _, [6]⟩, ⟨6, _, [2]⟩, ⟨7, _, [3]⟩, ⟨8, _, [7]⟩, ⟨9, _, []⟩] [8, 9, 10, 11] hz rfl ⟨mvs rfl rfl h10 rfl, (fun a s he hf hz q0 => ia rfl rfl sl_53 q0 i0 D22.1 D22.2), (fun a s he hf hz q1 => lp rfl rfl ty_5 (by decide) q1), mvs rfl rfl h11 rfl, mvs rfl rfl h1 rfl, mvs rfl rfl h12 rfl, (fun a s he hf hz q4 q5 => ad rfl rfl q4 q5), (fun a s he hf hz q6 => ad rfl rfl q6 (lit_i (k := .i64) (n := 4) (by decide))), avq rfl rfl, avq rfl rfl, avq rfl rfl, (fun a s he hf hz => av rfl rfl i0), trivial⟩ ?_; intro a23 s24 he hf hz hd1 h6 h7 h8 h9; have ⟨hd, E⟩ := hdE hd1 hd E he; refine wp_ret ?_; cases h
    exact ⟨hd, _, results_tmp4 rfl _ _ _, E, tup4 (V_y2i h6) h7 h8 h9⟩
theorem wire_Open.nice (x0 : Str) (x1 x2 : Int) (b0 : kS.bd x0) (b1 : (kI .i64).bd x1) (b2 : (kI .i64).bd x2) : ∃ k, wire_Open.f k x0 x1 x2 = some (openS x0 x1 x2) := by
 have hb : x0.length ≤ maxLen := b0
 have hm := maxLen_lt
 refine ⟨0, ?_⟩
 by_cases h : x1 < 0 ∨ (x0.length : Int) ≤ x1
 ·rw [openS_off h]
  unfold wire_Open.f
  rw [if_pos (by simpa using h)]
 ·obtain ⟨i, rfl⟩ := Int.eq_ofNat_of_zero_le (show 0 ≤ x1 by omega)
  have hi : i < x0.length := by omega
  have hg : ¬ ((decide ((i : Int) < 0) || decide ((x0.length : Int) ≤ (i : Int))) = true) := by simpa using h
  unfold wire_Open.f openS
  rw [if_neg hg, if_pos ⟨by omega, by omega⟩, if_neg (show ¬ (i : Int) < 0 by omega), Int.toNat_natCast]
  have hl0 : (x0.drop i).length = x0.length - i := List.length_drop
  rw [drop_at default hi] at hl0 ⊢
  generalize x0.getD i default = c at *
  generalize x0.drop (i + 1) = l at *
  have hl : l.length + 1 = x0.length - i := by simpa using hl0
  have ht : takeT (c :: l) 1 x2 = _ := takeT_at (b := c :: l) (i := 1) (most := x2)
  rw [ht, show (c :: l).drop 1 = l from rfl]
  dsimp only
  cases hr : readT x2 l with
  | none => simp
  | some yr =>
   obtain ⟨y, r⟩ := yr
   obtain ⟨e1, e2, e3⟩ := readT_lays hr
   have el : l.length = ext y.length + 1 + y.length + r.length := by rw [e1]; simp only [List.length_append, numB_len]
   have hcl : ((c :: l).length : Int) = (l.length : Int) + 1 := by simp
   simp only [hcl]
   have w1 : IntKind.wrap .i64 ((l.length : Int) + 1 - ((l.length : Int) + 1 - r.length)) = (r.length : Int) := by rw [w64 (by omega) (by omega)]; omega
   rw [w1]
   by_cases h4 : r.length < 4
   ·have h4' : (r.length : Int) < 4 := by omega
    rw [if_pos (by simp [h4']), if_pos h4]
   ·have h4' : ¬ (r.length : Int) < 4 := by omega
    have w2 : IntKind.wrap .i64 ((l.length : Int) + 1 - r.length + 4) = (l.length : Int) + 1 - r.length + 4 := w64 (by omega) (by omega)
    have w3 : IntKind.wrap .i64 (IntKind.wrap .i64 ((i : Int) + ((l.length : Int) + 1 - r.length)) + 4) = (x0.length : Int) - r.length + 4 := by rw [w64 (n := (i : Int) + ((l.length : Int) + 1 - r.length)) (by omega) (by omega), w64 (by omega) (by omega)]; omega
    rw [w2, w3]
    rw [if_neg (by simp [h4']), if_neg h4, if_pos ⟨by omega, by omega⟩, if_pos ⟨by omega, by omega, by omega⟩]
    have hhead : (c :: l).take ((l.length : Int) + 1 - r.length).toNat = text [c] y := by
     rw [show ((l.length : Int) + 1 - r.length).toNat = (numB y.length ++ y).length + 1 from by rw [List.length_append, numB_len]; omega, List.take_succ_cons]
     conv => lhs; rw [e1]
     rw [List.take_left' rfl]
     simp [text, number]
    have htail : sub (c :: l) ((l.length : Int) + 1 - r.length) ((l.length : Int) + 1 - r.length + 4) = r.take 4 := by
     unfold sub
     rw [show ((l.length : Int) + 1 - r.length).toNat = (numB y.length ++ y).length + 1 from by rw [List.length_append, numB_len]; omega, List.drop_succ_cons]
     conv => lhs; rw [e1]
     rw [List.drop_left' rfl]
     congr 1; simp only [List.length_append]; omega
    rw [hhead, htail, wire_seal_eq]
    simp only [List.flatten_cons, List.flatten_nil, List.append_nil, same_]
    by_cases hs : seal4 (sumN (text [c] y)) = r.take 4
    ·simp [hs]
    ·simp [hs]
theorem wire_Open.ct {s0 : St} {v0 : Value} {x0 : Str} {v1 : Value} {x1 : Int} {v2 : Value} {x2 : Int} (k0 : kS.V s0 v0 x0) (k1 : (kI .i64).V s0 v1 x1) (k2 : (kI .i64).V s0 v2 x2) : Cl Try.prog 57 #[v0, v1, v2] s0 (Okf s0 (Fact.tup [Fact.v (kI .u8) ((openS x0 x1 x2).1), Fact.v kS ((openS x0 x1 x2).2.1), Fact.v (kI .i64) ((openS x0 x1 x2).2.2.1), Fact.v (kI .i64) ((openS x0 x1 x2).2.2.2)])) := by
 obtain ⟨k, h⟩ := wire_Open.nice x0 x1 x2 (Kn.V_bd k0) (Kn.V_bd k1) (Kn.V_bd k2)
 exact wire_Open.ok k0 k1 k2 h
def ref02_Open.f (k : Nat) (x0 : Str) (x1 : Int) (x2 : Int) : Option (Int × Str × Int × Int) := (if ((decide (x1 < 0)) || (decide ((x0.length : Int) ≤ x1))) = true then (some (0, ([] : Str), 0, 20)) else (if (0 ≤ (IntKind.wrap .i64 (x1 + 1)) ∧ (IntKind.wrap .i64 (x1 + 1)) ≤ (x0.length : Int)) then (if ((!decide (((takeT (List.drop (IntKind.wrap .i64 (x1 + 1)).toNat x0) 0 x2).2.2) = 0)) || (decide ((IntKind.wrap .i64 ((IntKind.wrap .i64 ((IntKind.wrap .i64 ((x0.length : Int) - x1)) - 1)) - ((takeT (List.drop (IntKind.wrap .i64 (x1 + 1)).toNat x0) 0 x2).2.1))) < 4))) = true then (some (0, ([] : Str), 0, 20)) else (if (0 ≤ x1 ∧ x1 < (x0.length : Int)) then (if ((takeT (List.drop (IntKind.wrap .i64 (x1 + 1)).toNat x0) 0 x2).1).length + 20 ≤ 140737488355328 then (if (0 ≤ x1 ∧ x1 ≤ (IntKind.wrap .i64 ((IntKind.wrap .i64 ((IntKind.wrap .i64 (x1 + 1)) + ((takeT (List.drop (IntKind.wrap .i64 (x1 + 1)).toNat x0) 0 x2).2.1))) + 4)) ∧ (IntKind.wrap .i64 ((IntKind.wrap .i64 ((IntKind.wrap .i64 (x1 + 1)) + ((takeT (List.drop (IntKind.wrap .i64 (x1 + 1)).toNat x0) 0 x2).2.1))) + 4)) ≤ (x0.length : Int)) then (if (!decide ((sealed ((List.getD x0 (x1).toNat 0).toNat : Int) ((takeT (List.drop (IntKind.wrap .i64 (x1 + 1)).toNat x0) 0 x2).1)) = (sub x0 x1 (IntKind.wrap .i64 ((IntKind.wrap .i64 ((IntKind.wrap .i64 (x1 + 1)) + ((takeT (List.drop (IntKind.wrap .i64 (x1 + 1)).toNat x0) 0 x2).2.1))) + 4))))) = true then (some (0, ([] : Str), 0, 21)) else (some (((List.getD x0 (x1).toNat 0).toNat : Int), (takeT (List.drop (IntKind.wrap .i64 (x1 + 1)).toNat x0) 0 x2).1, IntKind.wrap .i64 ((IntKind.wrap .i64 ((IntKind.wrap .i64 (x1 + 1)) + ((takeT (List.drop (IntKind.wrap .i64 (x1 + 1)).toNat x0) 0 x2).2.1))) + 4), 0))) else none) else none) else none)) else none))
theorem ref02_Open.ok {s0 : St} {v0 : Value} {x0 : Str} {v1 : Value} {x1 : Int} {v2 : Value} {x2 : Int} {k : Nat} {r : Int × Str × Int × Int} (k0 : kS.V s0 v0 x0) (k1 : (kI .i64).V s0 v1 x1) (k2 : (kI .i64).V s0 v2 x2) (h : ref02_Open.f k x0 x1 x2 = some r) : Cl Try.prog 64 #[v0, v1, v2] s0 (Okf s0 (Fact.tup [Fact.v (kI .u8) r.1, Fact.v kS r.2.1, Fact.v (kI .i64) r.2.2.1, Fact.v (kI .i64) r.2.2.2])) := by
 unfold ref02_Open.f at h
 refine cl_of_wp Try.func64 rfl en_64 fun a hz hd hp => ?_; have hz : a.tmps.size = 65 := hz; have E := Chg.refl (fun _ => False) s0; have h0 := V_at k0 E (hp 0 v0 rfl); have h1 := V_at k1 E (hp 1 v1 rfl); have h2 := V_at k2 E (hp 2 v2 rfl); refine wp_sr ?_; refine sq_blk [⟨6, _, []⟩, ⟨7, _, []⟩, ⟨8, _, []⟩, ⟨9, _, []⟩] [] hz rfl ⟨(fun a s he hf hz => av rfl rfl (lit_i (k := .u8) (n := 0) (by decide))), (fun a s he hf hz => av rfl rfl s_0), (fun a s he hf hz => av rfl rfl i0), (fun a s he hf hz => av rfl rfl i0), trivial⟩ ?_; intro a1 s2 he hf hz hd1; have ⟨hd, E⟩ := hdE hd1 hd E he; obtain ⟨h0, h1, h2⟩ := va3 he hf h0 h1 h2 rfl; refine wp_seq ?_; refine wp_sr ?_; have hz0 := hz; refine sq_blk [⟨14, _, []⟩, ⟨15, _, [0]⟩, ⟨16, _, [1]⟩, ⟨17, _, [2]⟩, ⟨18, _, [2]⟩, ⟨19, _, [2, 4]⟩, ⟨20, _, [2, 3, 5]⟩, ⟨21, _, [2, 6]⟩] [7] hz rfl ⟨mvs rfl rfl h1 rfl, (fun a s he hf hz q0 => ls rfl rfl q0 i0), mvq rfl rfl, (fun a s he hf hz q2 => og rfl rfl rfl hz hz0 rfl q2 (fun g => op_move_v rfl (V_at h1 he (hf 1 rfl)))), (fun a s he hf hz q2 => og rfl rfl rfl hz hz0 rfl q2 (fun g => op_move_v rfl (V_at h0 he (hf 0 rfl)))), (fun a s he hf hz q2 q4 => og rfl rfl rfl hz hz0 rfl q2 (fun g => op_len_s rfl u_9 (q4.1 g))), (fun a s he hf hz q2 q3 q5 => og rfl rfl rfl hz hz0 rfl q2 (fun g => op_geq rfl (q3.1 g) (q5.1 g))), (fun a s he hf hz q2 q6 => oe rfl rfl q2 (q6.1)), trivial⟩ ?_
 intro a3 s4 he hf hz hd1 h21; have ⟨hd, E⟩ := hdE hd1 hd E he; obtain ⟨h0, h1, h2⟩ := va3 he hf h0 h1 h2 rfl; refine wp_condV h21 (fun hb => ?_) (fun hb => ?_)
 ·have h := ite_t hb h; refine wp_sr ?_; refine sq_blk [⟨6, _, []⟩, ⟨7, _, []⟩, ⟨8, _, []⟩, ⟨9, _, []⟩] [0, 1, 2, 3] hz rfl ⟨(fun a s he hf hz => av rfl rfl (lit_i (k := .u8) (n := 0) (by decide))), (fun a s he hf hz => av rfl rfl s_0), (fun a s he hf hz => av rfl rfl i0), (fun a s he hf hz => av rfl rfl (lit_i (k := .i64) (n := 20) (by decide))), trivial⟩ ?_; intro a5 s6 he hf hz hd1 h6 h7 h8 h9; have ⟨hd, E⟩ := hdE hd1 hd E he; refine wp_ret ?_; cases h
  exact ⟨hd, _, results_tmp4 rfl _ _ _, E, tup4 h6 h7 h8 h9⟩
 ·have h := ite_f hb h; refine wp_skip ?_; refine wp_sr ?_; obtain ⟨D7, h⟩ := need h; refine sq_blk [⟨23, _, []⟩, ⟨24, _, []⟩, ⟨25, _, [1]⟩, ⟨26, _, [0, 2]⟩, ⟨27, _, [3]⟩, ⟨28, _, []⟩, ⟨29, _, [4, 5]⟩, ⟨22, _, [6]⟩, ⟨30, _, [7]⟩, ⟨31, _, [7]⟩, ⟨32, _, [7]⟩, ⟨10, _, [8]⟩, ⟨11, _, [9]⟩, ⟨12, _, [10]⟩] [11, 12, 13] hz rfl ⟨mvs rfl rfl h0 rfl, mvs rfl rfl h1 rfl, (fun a s he hf hz q1 => ad rfl rfl q1 i1), (fun a s he hf hz q0 q2 => opw rfl (op_cut_s_l rfl u_9 q0 q2 D7.1 D7.2)), (fun a s he hf hz q3 => opw rfl (op_tobytes rfl u_9 u_53 u_5 q3)), mvs rfl rfl h2 rfl, (fun a s he hf hz q4 q5 => opw rfl (op_call rfl rfl (ref02_TakeText.ct q4 i0 q5))), (fun a s he hf hz q6 => opw rfl (op_move rfl (f := Fact.tup _) q6)), (fun a s he hf hz q7 => opw rfl (op_extract (f := Fact.v _ _) rfl q7 rfl)), (fun a s he hf hz q7 => opw rfl (op_extract (f := Fact.v _ _) rfl q7 rfl)), (fun a s he hf hz q7 => opw rfl (op_extract (f := Fact.v _ _) rfl q7 rfl)), avq rfl rfl, avq rfl rfl, avq rfl rfl, trivial⟩ ?_; intro a8 s9 he hf hz hd1 h10 h11 h12; have hd := hd1.trans hd
  obtain ⟨h0, h1⟩ := va2 he hf h0 h1 rfl; have E := E.trans he; refine wp_seq ?_; refine wp_sr ?_; have hz0 := hz; refine sq_blk [⟨33, _, []⟩, ⟨34, _, [0]⟩, ⟨35, _, [1]⟩, ⟨36, _, [2]⟩, ⟨37, _, [2, 3]⟩, ⟨38, _, [2]⟩, ⟨39, _, [2, 4, 5]⟩, ⟨40, _, [2, 6]⟩, ⟨41, _, [2]⟩, ⟨42, _, [2, 7, 8]⟩, ⟨43, _, [2, 9]⟩, ⟨44, _, [2, 10]⟩] [11] hz rfl ⟨mvs rfl rfl h12 rfl, (fun a s he hf hz q0 => ne_ rfl rfl q0 i0), mvq rfl rfl, (fun a s he hf hz q2 => og rfl rfl rfl hz hz0 rfl q2 (fun g => op_move_v rfl (V_at h0 he (hf 0 rfl)))), (fun a s he hf hz q2 q3 => og rfl rfl rfl hz hz0 rfl q2 (fun g => op_len_s rfl u_9 (q3.1 g))), (fun a s he hf hz q2 => og rfl rfl rfl hz hz0 rfl q2 (fun g => op_move_v rfl (V_at h1 he (hf 1 rfl)))), (fun a s he hf hz q2 q4 q5 => og rfl rfl rfl hz hz0 rfl q2 (fun g => op_sub rfl (q4.1 g) (q5.1 g))), (fun a s he hf hz q2 q6 => og rfl rfl rfl hz hz0 rfl q2 (fun g => op_sub rfl (q6.1 g) i1)), (fun a s he hf hz q2 => og rfl rfl rfl hz hz0 rfl q2 (fun g => op_move_v rfl (V_at h11 he (hf 11 rfl)))), (fun a s he hf hz q2 q7 q8 => og rfl rfl rfl hz hz0 rfl q2 (fun g => op_sub rfl (q7.1 g) (q8.1 g))), (fun a s he hf hz q2 q9 => og rfl rfl rfl hz hz0 rfl q2 (fun g => op_lss rfl (q9.1 g) (lit_i (k := .i64) (n := 4) (by decide)))), (fun a s he hf hz q2 q10 => oe rfl rfl q2 (q10.1)), trivial⟩ ?_
  intro a10 s11 he hf hz hd1 h44; have ⟨hd, E⟩ := hdE hd1 hd E he; obtain ⟨h0, h1, h10, h11⟩ := va4 he hf h0 h1 h10 h11 rfl; refine wp_condV h44 (fun hb => ?_) (fun hb => ?_)
  ·have h := ite_t hb h; refine wp_sr ?_; refine sq_blk [⟨6, _, []⟩, ⟨7, _, []⟩, ⟨8, _, []⟩, ⟨9, _, []⟩] [0, 1, 2, 3] hz rfl ⟨(fun a s he hf hz => av rfl rfl (lit_i (k := .u8) (n := 0) (by decide))), (fun a s he hf hz => av rfl rfl s_0), (fun a s he hf hz => av rfl rfl i0), (fun a s he hf hz => av rfl rfl (lit_i (k := .i64) (n := 20) (by decide))), trivial⟩ ?_; intro a12 s13 he hf hz hd1 h6 h7 h8 h9; have ⟨hd, E⟩ := hdE hd1 hd E he; refine wp_ret ?_; cases h
   exact ⟨hd, _, results_tmp4 rfl _ _ _, E, tup4 h6 h7 h8 h9⟩
  ·have h := ite_f hb h; refine wp_skip ?_; refine wp_sr ?_; refine sq_blk [⟨45, _, []⟩, ⟨46, _, [0]⟩, ⟨47, _, []⟩, ⟨48, _, [1, 2]⟩, ⟨49, _, [3]⟩, ⟨13, _, [4]⟩] [5] hz rfl ⟨mvs rfl rfl h1 rfl, (fun a s he hf hz q0 => ad rfl rfl q0 i1), mvs rfl rfl h11 rfl, (fun a s he hf hz q1 q2 => ad rfl rfl q1 q2), (fun a s he hf hz q3 => ad rfl rfl q3 (lit_i (k := .i64) (n := 4) (by decide))), avq rfl rfl, trivial⟩ ?_; intro a14 s15 he hf hz hd1 h13; have ⟨hd, E⟩ := hdE hd1 hd E he; obtain ⟨h0, h1, h10⟩ := va3 he hf h0 h1 h10 rfl; refine wp_seq ?_; refine wp_seq ?_; obtain ⟨D16, h⟩ := need h; obtain ⟨D17, h⟩ := need h; obtain ⟨D18, h⟩ := need h; refine wp_draw [⟨50, _, []⟩, ⟨51, _, []⟩, ⟨52, _, [0, 1]⟩, ⟨53, _, []⟩, ⟨54, _, [2, 3]⟩, ⟨55, _, []⟩, ⟨56, _, []⟩, ⟨57, _, []⟩, ⟨58, _, [5, 6, 7]⟩, ⟨59, _, [4, 8]⟩] [9] mo hz (by kernel_rfl) ⟨mvs rfl rfl h0 rfl, mvs rfl rfl h1 rfl, (fun a s he hf hz q0 q1 => opw rfl (op_index_s rfl u_9 q0 q1 D16.1 D16.2)), mvs rfl rfl h10 rfl, (fun a s he hf hz q2 q3 => opw rfl (op_call rfl rfl (ref02_Seal.ct q2 q3 D17))), mvs rfl rfl h0 rfl, mvs rfl rfl h1 rfl, mvs rfl rfl h13 rfl, (fun a s he hf hz q5 q6 q7 => opw rfl (op_cut_s_lh rfl u_9 q5 q6 q7 D18.1 D18.2.1 D18.2.2)), (fun a s he hf hz q4 q8 => opw rfl (op_sneq rfl q4 q8)), trivial⟩ ?_
   intro a19 s20 he hf hz hd1 h59; have ⟨hd, E⟩ := hdE hd1 hd E he; obtain ⟨h0, h1, h10, h13⟩ := va4 he hf h0 h1 h10 h13 rfl; refine wp_condV h59 (fun hb => ?_) (fun hb => ?_)
   ·have h := ite_t hb h; refine wp_sr ?_; refine sq_blk [⟨6, _, []⟩, ⟨7, _, []⟩, ⟨8, _, []⟩, ⟨9, _, []⟩] [0, 1, 2, 3] hz rfl ⟨(fun a s he hf hz => av rfl rfl (lit_i (k := .u8) (n := 0) (by decide))), (fun a s he hf hz => av rfl rfl s_0), (fun a s he hf hz => av rfl rfl i0), (fun a s he hf hz => av rfl rfl (lit_i (k := .i64) (n := 21) (by decide))), trivial⟩ ?_; intro a21 s22 he hf hz hd1 h6 h7 h8 h9; have ⟨hd, E⟩ := hdE hd1 hd E he; refine wp_ret ?_; cases h
    exact ⟨hd, _, results_tmp4 rfl _ _ _, E, tup4 h6 h7 h8 h9⟩
   ·have h := ite_f hb h; refine wp_skip ?_; refine wp_sr ?_; refine sq_blk [⟨60, _, []⟩, ⟨61, _, []⟩, ⟨62, _, [0, 1]⟩, ⟨63, _, []⟩, ⟨64, _, []⟩, ⟨6, _, [2]⟩, ⟨7, _, [3]⟩, ⟨8, _, [4]⟩, ⟨9, _, []⟩] [5, 6, 7, 8] hz rfl ⟨mvs rfl rfl h0 rfl, mvs rfl rfl h1 rfl, (fun a s he hf hz q0 q1 => opw rfl (op_index_s rfl u_9 q0 q1 D16.1 D16.2)), mvs rfl rfl h10 rfl, mvs rfl rfl h13 rfl, avq rfl rfl, avq rfl rfl, avq rfl rfl, (fun a s he hf hz => av rfl rfl i0), trivial⟩ ?_; intro a23 s24 he hf hz hd1 h6 h7 h8 h9; have ⟨hd, E⟩ := hdE hd1 hd E he; refine wp_ret ?_; cases h
    exact ⟨hd, _, results_tmp4 rfl _ _ _, E, tup4 h6 h7 h8 h9⟩
theorem ref02_Open.nice (x0 : Str) (x1 x2 : Int) (b0 : kS.bd x0) (b1 : (kI .i64).bd x1) (b2 : (kI .i64).bd x2) (hx : x2 ≤ 1048576) : ∃ k, ref02_Open.f k x0 x1 x2 = some (openS x0 x1 x2) := by
 have hb : x0.length ≤ maxLen := b0
 have hm := maxLen_lt
 refine ⟨0, ?_⟩
 by_cases h : x1 < 0 ∨ (x0.length : Int) ≤ x1
 ·rw [openS_off h]
  unfold ref02_Open.f
  rw [if_pos (by simpa using h)]
 ·obtain ⟨i, rfl⟩ := Int.eq_ofNat_of_zero_le (show 0 ≤ x1 by omega)
  have hi : i < x0.length := by omega
  have hg : ¬ ((decide ((i : Int) < 0) || decide ((x0.length : Int) ≤ (i : Int))) = true) := by simpa using h
  have w0 : IntKind.wrap .i64 ((i : Int) + 1) = ((i + 1 : Nat) : Int) := by rw [w64 (by omega) (by omega)]; omega
  unfold ref02_Open.f openS
  rw [if_neg hg, w0, if_pos ⟨by omega, by omega⟩, if_neg (show ¬ (i : Int) < 0 by omega), Int.toNat_natCast, Int.toNat_natCast]
  have hl0 : (x0.drop i).length = x0.length - i := List.length_drop
  have hsub : ∀ e : Nat, sub x0 (i : Int) (e : Int) = (x0.drop i).take (e - i) := fun e => rfl
  have hd := drop_at (xs := x0) (y := i) default hi
  rw [hd] at hl0 ⊢
  simp only [show (0 : UInt8) = default from rfl]
  generalize x0.getD i default = c at *
  generalize x0.drop (i + 1) = l at *
  have hl : l.length + 1 = x0.length - i := by simpa using hl0
  have ht : takeT l 0 x2 = _ := takeT_at (b := l) (i := 0) (most := x2)
  rw [ht, List.drop_zero]
  cases hr : readT x2 l with
  | none => simp
  | some yr =>
   obtain ⟨y, r⟩ := yr
   obtain ⟨e1, e2, e3⟩ := readT_lays hr
   have el : l.length = ext y.length + 1 + y.length + r.length := by rw [e1]; simp only [List.length_append, numB_len]
   simp only []
   have w1 : IntKind.wrap .i64 (IntKind.wrap .i64 (IntKind.wrap .i64 ((x0.length : Int) - i) - 1) - ((l.length : Int) - r.length)) = (r.length : Int) := by
    rw [w64 (n := (x0.length : Int) - i) (by omega) (by omega), w64 (n := (x0.length : Int) - i - 1) (by omega) (by omega), w64 (by omega) (by omega)]; omega
   rw [w1]
   by_cases h4 : r.length < 4
   ·have h4' : (r.length : Int) < 4 := by omega
    rw [if_pos (by simp [h4']), if_pos h4]
   ·have h4' : ¬ (r.length : Int) < 4 := by omega
    have w2 : IntKind.wrap .i64 (IntKind.wrap .i64 (((i + 1 : Nat) : Int) + ((l.length : Int) - r.length)) + 4) = (x0.length : Int) - r.length + 4 := by
     rw [w64 (n := ((i + 1 : Nat) : Int) + ((l.length : Int) - r.length)) (by omega) (by omega), w64 (by omega) (by omega)]; omega
    rw [if_neg (by simp [h4']), if_neg h4, if_pos ⟨by omega, by omega⟩, if_pos (by omega), w2, if_pos ⟨by omega, by omega, by omega⟩]
    have hwhole : sub x0 (i : Int) ((x0.length : Int) - r.length + 4) = text [c] y ++ r.take 4 := by
     rw [show (x0.length : Int) - r.length + 4 = ((x0.length - r.length + 4 : Nat) : Int) from by omega, hsub, hd]
     have : x0.length - r.length + 4 - i = ((numB y.length ++ y).length + 4) + 1 := by rw [List.length_append, numB_len]; omega
     rw [this, List.take_succ_cons]
     conv => lhs; rw [e1]
     rw [List.take_length_add_append]
     simp [text, number]
    rw [hwhole]
    unfold sealed
    rw [u8_self]
    by_cases hs : seal4 (sumN (text [c] y)) = r.take 4
    ·simp [hs]
    ·have : ¬ (text [c] y ++ seal4 (sumN (text [c] y)) = text [c] y ++ r.take 4) := fun e => hs (List.append_cancel_left e)
     simp [hs, this]
theorem ref02_Open.ct {s0 : St} {v0 : Value} {x0 : Str} {v1 : Value} {x1 : Int} {v2 : Value} {x2 : Int} (k0 : kS.V s0 v0 x0) (k1 : (kI .i64).V s0 v1 x1) (k2 : (kI .i64).V s0 v2 x2) (hpre : x2 ≤ 1048576) : Cl Try.prog 64 #[v0, v1, v2] s0 (Okf s0 (Fact.tup [Fact.v (kI .u8) ((openS x0 x1 x2).1), Fact.v kS ((openS x0 x1 x2).2.1), Fact.v (kI .i64) ((openS x0 x1 x2).2.2.1), Fact.v (kI .i64) ((openS x0 x1 x2).2.2.2)])) := by
 obtain ⟨k, h⟩ := ref02_Open.nice x0 x1 x2 (Kn.V_bd k0) (Kn.V_bd k1) (Kn.V_bd k2) hpre
 exact ref02_Open.ok k0 k1 k2 h
end
section
attribute [local irreducible] Kn.V PtrV
theorem okRune_eq (r : Int) : (((((decide (r < 97)) || (decide (122 < r))) && ((decide (r < 48)) || (decide (57 < r)))) && (!decide (r = 46)))) = !((decide (97 ≤ r) && decide (r ≤ 122)) || (decide (48 ≤ r) && decide (r ≤ 57)) || decide (r = 46)) := by
 by_cases h1 : (97 : Int) ≤ r <;> by_cases h2 : r ≤ 122 <;> by_cases h3 : (48 : Int) ≤ r <;> by_cases h4 : r ≤ 57 <;> by_cases h5 : r = 46 <;>
  simp [h1, h2, h3, h4, h5] <;> omega
theorem okByte_high {c : UInt8} (h : 128 ≤ c.toNat) : okByte c = false := by
 unfold okByte
 have h1 : ¬ (c.toNat : Int) ≤ 122 := by omega
 have h2 : ¬ (c.toNat : Int) ≤ 57 := by omega
 have h3 : ¬ (c.toNat : Int) = 46 := by omega
 simp [h1, h2, h3]
theorem all_take_succ {p : UInt8 → Bool} {x : Str} {y : Nat} {d : UInt8} (h : y < x.length) (h1 : (x.take y).all p = true) (h2 : p (x.getD y d) = true) : (x.take (y + 1)).all p = true := by
 rw [List.take_add_one, List.all_append, h1, List.getElem?_eq_getElem h]
 rw [getD_at h] at h2
 simp [h2]
theorem vector_IsName.ct {s0 : St} {v0 : Value} {x0 : Str} (k0 : kS.V s0 v0 x0) : Cl Try.prog 43 #[v0] s0 (Okf s0 (Fact.v kB (isName x0))) := by
 have hlen : x0.length ≤ maxLen := Kn.V_bd k0
 refine cl_of_wp Try.func43 rfl en_43 fun a hz hd hp => ?_
 have hz : a.tmps.size = 35 := hz
 have E := Chg.refl (fun _ => False) s0
 have h0 := V_at k0 E (hp 0 v0 rfl)
 refine wp_seq ?_
 refine wp_region ?_
 have hz0 := hz
 refine sq_blk [⟨2, _, []⟩] [] hz rfl ⟨(fun a s he hf hz => opw rfl (op_assign_v rfl (lit_b (b := false)))), trivial⟩ ?_
 intro a1 s1 he hf hz hd1
 have hd := hd1.trans hd
 have h0 := V_at h0 he (hf 0 rfl)
 have E := E.trans he
 refine wp_seq ?_
 refine wp_seq ?_
 refine wp_region ?_
 have hz0 := hz
 refine sq_blk [⟨5, _, []⟩] [0] hz rfl ⟨(fun a s he hf hz => opw rfl (op_move_v rfl (V_at h0 he (hf 0 rfl)))), trivial⟩ ?_
 intro a2 s2 he hf hz hd1 h5
 have hd := hd1.trans hd
 have h0 := V_at h0 he (hf 0 rfl)
 have E := E.trans he
 refine sq_set hz rfl rfl rfl (op_range_s rfl u_9 h5 (fun s3 he I => fun a3 h6 hf hz hd1 => ?_))
 obtain ⟨b, hb⟩ : ∃ b, b = s2.w.heap.size := ⟨_, rfl⟩
 rw [← hb] at I h6
 have lb : s0.w.heap.size ≤ b := by have := E.size; omega
 have hd := hd1.trans hd
 have h0 := V_at h0 he (hf 0 rfl)
 have E := E.trans he
 refine wp_block ?_
 refine wp_loop (k := x0.length) (fun k a s => ∃ y, y ≤ x0.length ∧ k = x0.length - y ∧ (x0.take y).all okByte = true ∧ Ext s0 s ∧ a.tmps.size = 35 ∧ a.defers = [] ∧ kS.V s (a.get 0) x0 ∧ a.get 6 = .pointer (some ⟨b, 0, none⟩) ∧ Ob s b (.stringIter ⟨x0.toArray⟩ y)) ⟨0, Nat.zero_le _, rfl, rfl, E, hz, hd, h0, h6, I⟩ ?_
 rintro k a4 s4 ⟨y, hy, rfl, hall, E, hz, hd, h0, h6, I⟩
 refine wp_seq ?_
 refine wp_region ?_
 rcases Nat.lt_or_ge y x0.length with hlt | hge
 ·refine sq_set hz rfl rfl rfl (op_next_more rfl h6 I hlt (fun s5 he I => fun a5 h7 hf hz hd1 => ?_))
  obtain ⟨r1, r2, r3⟩ := rune_at hlt
  obtain ⟨r, hr⟩ : ∃ r, r = ((Utf8.decode ⟨x0.toArray⟩ y).1 : Int) := ⟨_, rfl⟩
  rw [← hr] at h7 r3
  have hd := hd1.trans hd
  have h0 := V_at h0 he (hf 0 rfl)
  have h6 := (hf 6 rfl).trans h6
  have E := Chg.chg E he (fun b e h => absurd h (by cases e; exact Nat.not_lt.2 lb))
  have h7 : (Fact.tup [Fact.v kB true, Fact.v (kI .i64) (y : Int), Fact.v (kI .i32) r]).φ s5 (a5.get 7) := by
   rw [h7]; exact tup3 (lit_b (b := true)) (lit_i (by have := maxLen_lt; simp [inK, IntKind.min, IntKind.max, IntKind.signed, IntKind.bits]; omega)) (lit_i r3)
  have hz0 := hz
  refine sq_blk [⟨8, _, []⟩] [0] hz rfl ⟨(fun a s he hf hz => opw rfl (op_extract (f := Fact.v kB true) rfl (fact_at h7 he (hf 7 rfl)) rfl)), trivial⟩ ?_
  intro a6 s6 he hf hz hd1 h8
  have hd := hd1.trans hd
  have h0 := V_at h0 he (hf 0 rfl)
  have h6 := (hf 6 rfl).trans h6
  have h7 := fact_at h7 he (hf 7 rfl)
  have I := I.ext he
  have E := E.trans he
  refine wp_seq ?_
  refine wp_condV h8 (fun _ => ?_) (fun e => by cases e)
  refine wp_skip ?_
  refine wp_block ?_
  refine wp_seq ?_
  refine wp_region ?_
  have hz0 := hz
  refine sq_blk [⟨9, _, []⟩, ⟨4, _, [0]⟩] [1] hz rfl ⟨(fun a s he hf hz => opw rfl (op_extract (f := Fact.v (kI .i32) r) rfl (fact_at h7 he (hf 7 rfl)) rfl)), (fun a s he hf hz q0 => opw rfl (op_assign_v rfl q0)), trivial⟩ ?_
  intro a9 s9 he hf hz hd1 h4
  have hd := hd1.trans hd
  have h0 := V_at h0 he (hf 0 rfl)
  have h6 := (hf 6 rfl).trans h6
  have I := I.ext he
  have E := E.trans he
  have keep6 := h6
  have keepI := I
  refine wp_seq ?_
  refine wp_region ?_
  have hz0 := hz
  refine sq_blk [⟨10, _, []⟩, ⟨11, _, [0]⟩, ⟨12, _, [1]⟩, ⟨13, _, [2]⟩, ⟨14, _, [2, 3]⟩, ⟨15, _, [2, 4]⟩, ⟨16, _, [5]⟩, ⟨17, _, [6]⟩, ⟨18, _, [6, 7]⟩, ⟨19, _, [6, 8]⟩, ⟨20, _, [9]⟩, ⟨21, _, [9, 10]⟩, ⟨22, _, [6, 9, 11]⟩, ⟨23, _, [6, 12]⟩, ⟨24, _, [13]⟩, ⟨25, _, [14]⟩, ⟨26, _, [14, 15]⟩, ⟨27, _, [14, 16]⟩] [17] hz rfl ⟨
   (fun a s he hf hz => opw rfl (op_move_v rfl (V_at h4 he (hf 4 rfl)))),
   (fun a s he hf hz q0 => opw rfl (op_lss rfl q0 (lit_i (k := .i32) (n := 97) (by decide)))),
   mvq rfl rfl,
   (fun a s he hf hz q2 => og rfl rfl rfl hz hz0 rfl q2 (fun g => op_move_v rfl (V_at h4 he (hf 4 rfl)))),
   (fun a s he hf hz q2 q3 => og rfl rfl rfl hz hz0 rfl q2 (fun g => op_gtr rfl (q3.1 g) (lit_i (k := .i32) (n := 122) (by decide)))),
   (fun a s he hf hz q2 q4 => opw rfl (op_or_else rfl q2 (q4.1))),
   mvq rfl rfl,
   (fun a s he hf hz q6 => og rfl rfl rfl hz hz0 rfl q6 (fun g => op_move_v rfl (V_at h4 he (hf 4 rfl)))),
   (fun a s he hf hz q6 q7 => og rfl rfl rfl hz hz0 rfl q6 (fun g => op_lss rfl (q7.1 g) (lit_i (k := .i32) (n := 48) (by decide)))),
   (fun a s he hf hz q6 q8 => og rfl rfl rfl hz hz0 rfl q6 (fun g => op_move_v rfl (q8.1 g))),
   (fun a s he hf hz q9 => ogg rfl rfl rfl hz hz0 rfl q9 (fun g => op_move_v rfl (V_at h4 he (hf 4 rfl)))),
   (fun a s he hf hz q9 q10 => ogg rfl rfl rfl hz hz0 rfl q9 (fun g => op_gtr rfl (q10.1 g) (lit_i (k := .i32) (n := 57) (by decide)))),
   (fun a s he hf hz q6 q9 q11 => og rfl rfl rfl hz hz0 rfl q6 (fun g => op_or_else rfl (q9.1 g) (fun e => q11.1 ⟨g, e⟩))),
   (fun a s he hf hz q6 q12 => opw rfl (op_and_then rfl q6 (q12.1))),
   mvq rfl rfl,
   (fun a s he hf hz q14 => og rfl rfl rfl hz hz0 rfl q14 (fun g => op_move_v rfl (V_at h4 he (hf 4 rfl)))),
   (fun a s he hf hz q14 q15 => og rfl rfl rfl hz hz0 rfl q14 (fun g => op_neq rfl (q15.1 g) (lit_i (k := .i32) (n := 46) (by decide)))),
   (fun a s he hf hz q14 q16 => opw rfl (op_and_then rfl q14 (q16.1))),
   trivial⟩ ?_
  intro a51 s52 he hf hz hd1 h27
  have hd := hd1.trans hd
  have h0 := V_at h0 he (hf 0 rfl)
  have E := E.trans he
  have I6 := keepI.ext he
  have h66 := (hf 6 rfl).trans keep6
  have htest := okRune_eq r
  refine wp_condV h27 (fun hb => ?_) (fun hb => ?_)
  ·have hno : okByte (x0.getD y default) = false := by
    rw [htest] at hb
    rcases Nat.lt_or_ge (x0.getD y default).toNat 128 with hc | hc
    ·rw [r1 hc] at hr
     subst hr
     have hb : (!okByte (x0.getD y default)) = true := hb
     cases e : okByte (x0.getD y default)
     ·rfl
     ·rw [e] at hb; cases hb
    ·exact okByte_high hc
   have hres : isName x0 = false := by
    unfold isName
    have : x0.all okByte = false := by
     rw [← List.take_append_drop y x0, List.all_append, drop_at default hlt, List.all_cons, hno]; simp
    rw [this] <;> rfl
   refine wp_seq ?_
   refine wp_region ?_
   have hz0 := hz
   refine sq_blk [⟨2, _, []⟩] [0] hz rfl ⟨(fun a s he hf hz => opw rfl (op_assign_v rfl (lit_b (b := false)))), trivial⟩ ?_
   intro a20 s20 he hf hz hd1 h2
   have hd := hd1.trans hd
   have E := E.trans he
   refine wp_ret ?_
   rw [hres]
   exact ⟨hd, _, results_tmp rfl _ _ _, E, h2⟩
  ·refine wp_skip ?_
   have hyes : okByte (x0.getD y default) = true ∧ Utf8.decode ⟨x0.toArray⟩ y = ((x0.getD y default).toNat, 1) := by
    rw [htest] at hb
    rcases Nat.lt_or_ge (x0.getD y default).toNat 128 with hc | hc
    ·refine ⟨?_, r1 hc⟩
     rw [r1 hc] at hr
     subst hr
     have hb : (!okByte (x0.getD y default)) = false := hb
     cases e : okByte (x0.getD y default)
     ·rw [e] at hb; cases hb
     ·rfl
    ·exfalso
     have := r2 hc
     have hbig : (128 : Int) ≤ r := by omega
     simp at hb; omega
   rw [hyes.2] at I6
   exact ⟨x0.length - (y + 1), by omega, y + 1, hlt, rfl, all_take_succ hlt hall hyes.1, E, hz, hd, h0, h66, I6⟩
 ·have hye : y = x0.length := by omega
  subst hye
  rw [List.take_length] at hall
  refine sq_set hz rfl rfl rfl (op_next_end rfl h6 I (Nat.le_refl _) (fun a5 h7 hf hz hd1 => ?_))
  have hd := hd1.trans hd
  have h0 := V_at h0 (Chg.refl (fun _ => False) _) (hf 0 rfl)
  have h7 : (Fact.tup [Fact.v kB false]).φ s4 (a5.get 7) := by rw [h7]; exact tup1 (lit_b (b := false))
  have hz0 := hz
  refine sq_blk [⟨8, _, []⟩] [0] hz rfl ⟨(fun a s he hf hz => opw rfl (op_extract (f := Fact.v kB false) rfl (fact_at h7 he (hf 7 rfl)) rfl)), trivial⟩ ?_
  intro a9 s9 he hf hz hd1 h8
  have hd := hd1.trans hd
  have h0 := V_at h0 he (hf 0 rfl)
  have E := E.trans he
  refine wp_seq ?_
  refine wp_condV h8 (fun e => by cases e) (fun _ => ?_)
  refine wp_exit ?_
  refine then_exit ?_
  refine then_exit ?_
  refine inBlock_hit ?_
  refine wp_seq ?_
  refine wp_region ?_
  have hz0 := hz
  refine sq_blk [⟨28, _, []⟩, ⟨29, _, [0]⟩, ⟨30, _, [1]⟩, ⟨31, _, [2]⟩, ⟨32, _, [2, 3]⟩, ⟨33, _, [2, 4]⟩, ⟨34, _, [2, 5]⟩, ⟨2, _, [6]⟩] [7] hz rfl ⟨
   (fun a s he hf hz => opw rfl (op_move_v rfl (V_at h0 he (hf 0 rfl)))),
   (fun a s he hf hz q0 => opw rfl (op_sneq rfl q0 (lit_s (x := []) (by decide)))),
   mvq rfl rfl,
   (fun a s he hf hz q2 => og rfl rfl rfl hz hz0 rfl q2 (fun g => op_move_v rfl (V_at h0 he (hf 0 rfl)))),
   (fun a s he hf hz q2 q3 => og rfl rfl rfl hz hz0 rfl q2 (fun g => op_len_s rfl u_9 (q3.1 g))),
   (fun a s he hf hz q2 q4 => og rfl rfl rfl hz hz0 rfl q2 (fun g => op_leq rfl (q4.1 g) (lit_i (k := .i64) (n := 24) (by decide)))),
   (fun a s he hf hz q2 q5 => opw rfl (op_and_then rfl q2 (q5.1))),
   avq rfl rfl,
   trivial⟩ ?_
  intro a103 s104 he hf hz hd1 h2
  have hd := hd1.trans hd
  have E := E.trans he
  refine wp_ret ?_
  have hres : isName x0 = (((!decide (x0 = ([] : Str))) && (decide ((x0.length : Int) ≤ 24)))) := by
   unfold isName
   rw [hall]
   by_cases h : x0 = []
   ·subst h; rfl
   ·have hp : 0 < x0.length := List.length_pos_iff.2 h
    rw [show decide (1 ≤ x0.length) = true from decide_eq_true hp]
    simp only [h, decide_false, Bool.not_false, Bool.true_and]
    rw [decide_eq_decide]; omega
  rw [hres]
  exact ⟨hd, _, results_tmp rfl _ _ _, E, h2⟩
def internal_bytealg_CompareString (x0 : Str) (x1 : Str) : Int := (Lib.compareBytes x0 x1)
theorem internal_bytealg_CompareString.ok {s0 : St} {v0 : Value} {x0 : Str} {v1 : Value} {x1 : Str} (k0 : kS.V s0 v0 x0) (k1 : kS.V s0 v1 x1) : Cl Try.prog 146 #[v0, v1] s0 (Okf s0 (Fact.v (kI .i64) (internal_bytealg_CompareString x0 x1))) := by
 obtain ⟨r, h⟩ : ∃ r, some (internal_bytealg_CompareString x0 x1) = some r := ⟨_, rfl⟩
 rw [Option.some.inj h]
 have h : (some (Lib.compareBytes x0 x1)) = some r := by rw [← h]; unfold internal_bytealg_CompareString; first | rfl | simp only [apply_ite some] | (repeat' (first | rfl | split))
 refine cl_of_wp Try.func146 rfl en_146 fun a hz hd hp => ?_; have hz : a.tmps.size = 8 := hz; have E := Chg.refl (fun _ => False) s0; have h0 := V_at k0 E (hp 0 v0 rfl); have h1 := V_at k1 E (hp 1 v1 rfl); refine wp_sr ?_; refine sq_blk [⟨4, _, []⟩] [] hz rfl ⟨(fun a s he hf hz => av rfl rfl i0), trivial⟩ ?_; intro a1 s2 he hf hz hd1; have ⟨hd, E⟩ := hdE hd1 hd E he; obtain ⟨h0, h1⟩ := va2 he hf h0 h1 rfl; refine wp_sr ?_; refine sq_blk [⟨5, _, []⟩, ⟨6, _, []⟩, ⟨7, _, [0, 1]⟩, ⟨4, _, [2]⟩] [3] hz rfl ⟨mvs rfl rfl h0 rfl, mvs rfl rfl h1 rfl, (fun a s he hf hz q0 q1 => opw rfl (op_cmp rfl cmp_153 q0 q1)), avq rfl rfl, trivial⟩ ?_; intro a3 s4 he hf hz hd1 h4; have ⟨hd, E⟩ := hdE hd1 hd E he; refine wp_ret ?_; cases h
 exact ⟨hd, _, results_tmp rfl _ _ _, E, h4⟩
def strings_Compare (x0 : Str) (x1 : Str) : Int := (internal_bytealg_CompareString x0 x1)
theorem strings_Compare.ok {s0 : St} {v0 : Value} {x0 : Str} {v1 : Value} {x1 : Str} (k0 : kS.V s0 v0 x0) (k1 : kS.V s0 v1 x1) : Cl Try.prog 129 #[v0, v1] s0 (Okf s0 (Fact.v (kI .i64) (strings_Compare x0 x1))) := by
 obtain ⟨r, h⟩ : ∃ r, some (strings_Compare x0 x1) = some r := ⟨_, rfl⟩
 rw [Option.some.inj h]
 have h : (some (internal_bytealg_CompareString x0 x1)) = some r := by rw [← h]; unfold strings_Compare; first | rfl | simp only [apply_ite some] | (repeat' (first | rfl | split))
 refine cl_of_wp Try.func129 rfl en_129 fun a hz hd hp => ?_; have hz : a.tmps.size = 8 := hz; have E := Chg.refl (fun _ => False) s0; have h0 := V_at k0 E (hp 0 v0 rfl); have h1 := V_at k1 E (hp 1 v1 rfl); refine wp_sr ?_; refine sq_blk [⟨4, _, []⟩] [] hz rfl ⟨(fun a s he hf hz => av rfl rfl i0), trivial⟩ ?_; intro a1 s2 he hf hz hd1; have ⟨hd, E⟩ := hdE hd1 hd E he; obtain ⟨h0, h1⟩ := va2 he hf h0 h1 rfl; refine wp_sr ?_; refine sq_blk [⟨5, _, []⟩, ⟨6, _, []⟩, ⟨7, _, [0, 1]⟩, ⟨4, _, [2]⟩] [3] hz rfl ⟨mvs rfl rfl h0 rfl, mvs rfl rfl h1 rfl, (fun a s he hf hz q0 q1 => opw rfl (op_call rfl rfl (internal_bytealg_CompareString.ok q0 q1))), avq rfl rfl, trivial⟩ ?_; intro a3 s4 he hf hz hd1 h4; have ⟨hd, E⟩ := hdE hd1 hd E he; refine wp_ret ?_; cases h
 exact ⟨hd, _, results_tmp rfl _ _ _, E, h4⟩
def vector_isDot (x0 : Dot) : Bool := (((isName x0.who) && (decide (1 ≤ x0.n))) && (decide (x0.n ≤ 4611686018427387904)))
theorem vector_isDot.ok {s0 : St} {v0 : Value} {x0 : Dot} (k0 : kDot.V s0 v0 x0) : Cl Try.prog 118 #[v0] s0 (Okf s0 (Fact.v kB (vector_isDot x0))) := by
 obtain ⟨r, h⟩ : ∃ r, some (vector_isDot x0) = some r := ⟨_, rfl⟩
 rw [Option.some.inj h]
 have h : (some (((isName x0.who) && (decide (1 ≤ x0.n))) && (decide (x0.n ≤ 4611686018427387904)))) = some r := by rw [← h]; unfold vector_isDot; first | rfl | simp only [apply_ite some] | (repeat' (first | rfl | split))
 refine cl_of_wp Try.func118 rfl en_118 fun a hz hd hp => ?_; have hz : a.tmps.size = 16 := hz; have E := Chg.refl (fun _ => False) s0; have h0 := V_at k0 E (hp 0 v0 rfl); refine wp_sr ?_; refine sq_set hz rfl rfl rfl (op_boxn rfl rfl h0 (fun s2 e4 he BB3 r5 => fun a1 h1 hf hz hd1 => ?_)); obtain ⟨b10, hb10⟩ : ∃ b, b = s0.w.heap.size := ⟨_, rfl⟩; rw [← hb10] at BB3 h1; have B10 := BB3; have l10 : s0.w.heap.size ≤ b10 := by have := E.size; omega
 have ⟨hd, E⟩ := hdE hd1 hd E he; obtain ⟨u6, u7, rfl, c8, c9⟩ := kDot_open r5; refine sq_blk [⟨2, _, []⟩] [] hz rfl ⟨(fun a s he hf hz => av rfl rfl b_f), trivial⟩ ?_; intro a11 s12 he hf hz hd1; have ⟨hd, E⟩ := hdE hd1 hd E he; have h1 := (hf 1 rfl).trans h1; have B10 := B10.ext he; obtain ⟨c8, c9⟩ := vm2 he c8 c9; refine wp_sr ?_; have hz0 := hz; refine sq_blk [⟨3, _, []⟩, ⟨4, _, [0]⟩, ⟨5, _, [1]⟩, ⟨6, _, [2]⟩, ⟨7, _, [3]⟩, ⟨8, _, [3, 4]⟩, ⟨9, _, [3, 5]⟩, ⟨10, _, [3, 6]⟩, ⟨11, _, [7]⟩, ⟨12, _, [8]⟩, ⟨13, _, [8, 9]⟩, ⟨14, _, [8, 10]⟩, ⟨15, _, [8, 11]⟩, ⟨2, _, [12]⟩] [13] hz rfl ⟨(fun a s he hf hz => fb rfl rfl fa_70_0 ((hf 1 rfl).trans h1)), (fun a s he hf hz q0 => lo rfl rfl ty_9 q0 (B10.ext he) rfl (vm he c8)), (fun a s he hf hz q1 => opw rfl (op_call rfl rfl (vector_IsName.ct q1))), mvq rfl rfl, (fun a s he hf hz q3 => og rfl rfl rfl hz hz0 rfl q3 (fun g => op_faddr_b rfl fa_70_1 ((hf 1 rfl).trans h1))), (fun a s he hf hz q3 q4 => og rfl rfl rfl hz hz0 rfl q3 (fun g => op_load1 rfl ty_2 (q4.1 g) (B10.ext he) rfl (vm he c9))), (fun a s he hf hz q3 q5 => og rfl rfl rfl hz hz0 rfl q3 (fun g => op_geq rfl (q5.1 g) i1)), (fun a s he hf hz q3 q6 => an rfl rfl q3 (q6.1)), mvq rfl rfl, (fun a s he hf hz q8 => og rfl rfl rfl hz hz0 rfl q8 (fun g => op_faddr_b rfl fa_70_1 ((hf 1 rfl).trans h1))), (fun a s he hf hz q8 q9 => og rfl rfl rfl hz hz0 rfl q8 (fun g => op_load1 rfl ty_2 (q9.1 g) (B10.ext he) rfl (vm he c9))), (fun a s he hf hz q8 q10 => og rfl rfl rfl hz hz0 rfl q8 (fun g => op_leq rfl (q10.1 g) (lit_i (k := .i64) (n := 4611686018427387904) (by decide)))), (fun a s he hf hz q8 q11 => an rfl rfl q8 (q11.1)), avq rfl rfl, trivial⟩ ?_
 intro a13 s14 he hf hz hd1 h2; have ⟨hd, E⟩ := hdE hd1 hd E he; refine wp_ret ?_; cases h
 exact ⟨hd, _, results_tmp rfl _ _ _, E, h2⟩
def ref07_IsDot (x0 : Dot) : Bool := (((isName x0.who) && (decide (1 ≤ x0.n))) && (decide (x0.n ≤ 4611686018427387904)))
theorem ref07_IsDot.ok {s0 : St} {v0 : Value} {x0 : Dot} (k0 : kDot.V s0 v0 x0) : Cl Try.prog 99 #[v0] s0 (Okf s0 (Fact.v kB (ref07_IsDot x0))) := by
 obtain ⟨r, h⟩ : ∃ r, some (ref07_IsDot x0) = some r := ⟨_, rfl⟩
 rw [Option.some.inj h]
 have h : (some (((isName x0.who) && (decide (1 ≤ x0.n))) && (decide (x0.n ≤ 4611686018427387904)))) = some r := by rw [← h]; unfold ref07_IsDot; first | rfl | simp only [apply_ite some] | (repeat' (first | rfl | split))
 refine cl_of_wp Try.func99 rfl en_99 fun a hz hd hp => ?_; have hz : a.tmps.size = 18 := hz; have E := Chg.refl (fun _ => False) s0; have h0 := V_at k0 E (hp 0 v0 rfl); refine wp_sr ?_; refine sq_set hz rfl rfl rfl (op_boxn rfl rfl h0 (fun s2 e4 he BB3 r5 => fun a1 h1 hf hz hd1 => ?_)); obtain ⟨b10, hb10⟩ : ∃ b, b = s0.w.heap.size := ⟨_, rfl⟩; rw [← hb10] at BB3 h1; have B10 := BB3; have l10 : s0.w.heap.size ≤ b10 := by have := E.size; omega
 have ⟨hd, E⟩ := hdE hd1 hd E he; obtain ⟨u6, u7, rfl, c8, c9⟩ := kDot_open r5; refine sq_blk [⟨2, _, []⟩] [] hz rfl ⟨(fun a s he hf hz => av rfl rfl b_f), trivial⟩ ?_; intro a11 s12 he hf hz hd1; have ⟨hd, E⟩ := hdE hd1 hd E he; have h1 := (hf 1 rfl).trans h1; have B10 := B10.ext he; obtain ⟨c8, c9⟩ := vm2 he c8 c9; refine wp_sr ?_; refine sq_blk [⟨4, _, []⟩, ⟨5, _, [0]⟩, ⟨6, _, [1]⟩, ⟨3, _, [2]⟩] [3] hz rfl ⟨(fun a s he hf hz => fb rfl rfl fa_70_0 ((hf 1 rfl).trans h1)), (fun a s he hf hz q0 => lo rfl rfl ty_9 q0 (B10.ext he) rfl (vm he c8)), (fun a s he hf hz q1 => opw rfl (op_call rfl rfl (ref07_IsName.ct q1))), avq rfl rfl, trivial⟩ ?_; intro a13 s14 he hf hz hd1 h3; have ⟨hd, E⟩ := hdE hd1 hd E he; have h1 := (hf 1 rfl).trans h1; have B10 := B10.ext he; have c9 := vm he c9; refine wp_sr ?_; have hz0 := hz; refine sq_blk [⟨7, _, []⟩, ⟨8, _, [0]⟩, ⟨9, _, [1]⟩, ⟨10, _, [1, 2]⟩, ⟨11, _, [1, 3]⟩, ⟨12, _, [1, 4]⟩, ⟨13, _, [5]⟩, ⟨14, _, [6]⟩, ⟨15, _, [6, 7]⟩, ⟨16, _, [6, 8]⟩, ⟨17, _, [6, 9]⟩, ⟨2, _, [10]⟩] [11] hz rfl ⟨mvs rfl rfl h3 rfl, mvq rfl rfl, (fun a s he hf hz q1 => og rfl rfl rfl hz hz0 rfl q1 (fun g => op_faddr_b rfl fa_70_1 ((hf 1 rfl).trans h1))), (fun a s he hf hz q1 q2 => og rfl rfl rfl hz hz0 rfl q1 (fun g => op_load1 rfl ty_2 (q2.1 g) (B10.ext he) rfl (vm he c9))), (fun a s he hf hz q1 q3 => og rfl rfl rfl hz hz0 rfl q1 (fun g => op_geq rfl (q3.1 g) i1)), (fun a s he hf hz q1 q4 => an rfl rfl q1 (q4.1)), mvq rfl rfl, (fun a s he hf hz q6 => og rfl rfl rfl hz hz0 rfl q6 (fun g => op_faddr_b rfl fa_70_1 ((hf 1 rfl).trans h1))), (fun a s he hf hz q6 q7 => og rfl rfl rfl hz hz0 rfl q6 (fun g => op_load1 rfl ty_2 (q7.1 g) (B10.ext he) rfl (vm he c9))), (fun a s he hf hz q6 q8 => og rfl rfl rfl hz hz0 rfl q6 (fun g => op_leq rfl (q8.1 g) (lit_i (k := .i64) (n := 4611686018427387904) (by decide)))), (fun a s he hf hz q6 q9 => an rfl rfl q6 (q9.1)), avq rfl rfl, trivial⟩ ?_
 intro a15 s16 he hf hz hd1 h2; have ⟨hd, E⟩ := hdE hd1 hd E he; refine wp_ret ?_; cases h
 exact ⟨hd, _, results_tmp rfl _ _ _, E, h2⟩
theorem sLt_tri (x y : Str) : (sLt x y || decide (x = y)) = !sLt y x := by
 unfold sLt
 induction x generalizing y with
 | nil => cases y <;> simp [Op.bytesLess]
 | cons a x ih =>
  cases y with
  | nil => simp [Op.bytesLess]
  | cons b y =>
   have := ih y
   simp only [Op.bytesLess, List.cons.injEq]
   rcases Nat.lt_trichotomy a.toNat b.toNat with h | h | h
   ·have h1 : a < b := UInt8.lt_iff_toNat_lt.2 h
    have h2 : ¬ b < a := fun h' => by have := UInt8.lt_iff_toNat_lt.1 h'; omega
    have h3 : ¬ b = a := fun h' => by rw [h'] at h; omega
    simp [h1, h2, h3]
   ·have h0 : a = b := UInt8.toNat_inj.1 h
    subst h0
    have h2 : ¬ a < a := fun h' => by have := UInt8.lt_iff_toNat_lt.1 h'; omega
    simp [h2, this]
   ·have h1 : b < a := UInt8.lt_iff_toNat_lt.2 h
    have h2 : ¬ a < b := fun h' => by have := UInt8.lt_iff_toNat_lt.1 h'; omega
    have h3 : ¬ a = b := fun h' => by rw [h'] at h; omega
    have h4 : ¬ b = a := fun h' => h3 h'.symm
    simp [h1, h2, h3, h4]
def chainP (p : Str) : List Dot → Bool
 | [] => true
 | d :: l => vector_isDot d && sLt p d.who && chainP d.who l
def chainV : List Dot → Bool
 | [] => true
 | d :: l => vector_isDot d && chainP d.who l
def rightV (x : List Dot) : Bool := decide (x.length ≤ 64) && chainV x
theorem isName_ne {x : Str} (h : isName x = true) : ¬ x = [] := fun e => by subst e; simp [isName] at h
theorem chainP_nil (x : List Dot) : chainP [] x = chainV x := by
 cases x with
 | nil => rfl
 | cons d l =>
  simp only [chainP, chainV]
  cases h : vector_isDot d
  ·rfl
  ·have : isName d.who = true := by
    unfold vector_isDot at h; simp only [Bool.and_eq_true] at h; exact h.1.1
   have hn := isName_ne this
   have : sLt [] d.who = true := by
    cases e : d.who with
    | nil => exact absurd e hn
    | cons c w => rfl
   rw [this] <;> rfl
def vector_Right.l0 : Nat → (List Dot) → Str → Bool → Int → Option (Bool)
 | 0, _, _, _, _ => none
 | m12 + 1, x0, y9, y10, y11 => (if decide (y11 < (x0.length : Int)) = true then (if (0 ≤ y11 ∧ y11 < (x0.length : Int)) then (if (((!y10) || (!(vector_isDot (List.getD x0 (y11).toNat default)))) || (sLt ((List.getD x0 (y11).toNat default).who) y9 || decide (((List.getD x0 (y11).toNat default).who) = y9))) = true then (some false) else (vector_Right.l0 m12 x0 ((List.getD x0 (y11).toNat default).who) y10 (IntKind.wrap .i64 (y11 + 1)))) else none) else (some y10))
def vector_Right.f (k : Nat) (x0 : (List Dot)) : Option (Bool) := (vector_Right.l0 k x0 ([] : Str) (decide ((x0.length : Int) ≤ 64)) 0)
theorem vector_Right.ok {s0 : St} {v0 : Value} {x0 : (List Dot)} {k : Nat} {r : Bool} (k0 : (kSl kDot).V s0 v0 x0) (h : vector_Right.f k x0 = some r) : Cl Try.prog 80 #[v0] s0 (Okf s0 (Fact.v kB r)) := by
 unfold vector_Right.f at h
 refine cl_of_wp Try.func80 rfl en_80 fun a hz hd hp => ?_; have hz : a.tmps.size = 33 := hz; have E := Chg.refl (fun _ => False) s0; have h0 := V_at k0 E (hp 0 v0 rfl); refine wp_sr ?_; refine sq_blk [⟨2, _, []⟩] [] hz rfl ⟨(fun a s he hf hz => av rfl rfl b_f), trivial⟩ ?_; intro a1 s2 he hf hz hd1; have ⟨hd, E⟩ := hdE hd1 hd E he; have h0 := V_at h0 he (hf 0 rfl); refine wp_scope ?_; refine wp_sr ?_; refine sq_blk [⟨7, _, []⟩, ⟨8, _, [0]⟩, ⟨9, _, [1]⟩, ⟨3, _, []⟩, ⟨4, _, [2]⟩] [3, 4] hz rfl ⟨mvs rfl rfl h0 rfl, (fun a s he hf hz q0 => le_ rfl rfl u_32 q0), (fun a s he hf hz q1 => lq_ rfl rfl q1 (lit_i (k := .i64) (n := 64) (by decide))), (fun a s he hf hz => av rfl rfl s_0), avq rfl rfl, trivial⟩ ?_; intro a3 s4 he hf hz hd1 h3 h4; have ⟨hd, E⟩ := hdE hd1 hd E he; have h0 := V_at h0 he (hf 0 rfl); refine wp_seq ?_; refine wp_label ?_; refine wp_seq ?_; refine wp_sr ?_; refine sq_blk [⟨10, _, []⟩, ⟨11, _, [0]⟩, ⟨12, _, []⟩] [0, 1, 2] hz rfl ⟨mvs rfl rfl h0 rfl, (fun a s he hf hz q0 => le_ rfl rfl u_32 q0), (fun a s he hf hz => mv rfl rfl i0), trivial⟩ ?_
 intro a5 s6 he hf hz hd1 h10 h11 h12; have ⟨hd, E⟩ := hdE hd1 hd E he; obtain ⟨h3, h4⟩ := va2 he hf h3 h4 rfl; refine wp_block ?_; refine wp_loop (k := k) (fun m12 a s => ∃ (y9 : Str) (y10 : Bool) (y11 : Int), vector_Right.l0 m12 x0 y9 y10 y11 = some r ∧ m12 ≤ k ∧ Ext s0 s ∧ a.tmps.size = 33 ∧ a.defers = [] ∧ kS.V s (a.get 3) y9 ∧ kB.V s (a.get 4) y10 ∧ (kSl kDot).V s (a.get 10) x0 ∧ (kI .i64).V s (a.get 11) (x0.length : Int) ∧ (kI .i64).V s (a.get 12) y11) ⟨_, _, _, h, Nat.le_refl _, E, hz, hd, h3, h4, h10, h11, h12⟩ ?_; rintro m12 a8 s7 ⟨y9, y10, y11, h, hkm12, E, hz, hd, h3, h4, h10, h11, h12⟩; obtain _ | m12 := m12
 ·cases h
 refine wp_sr ?_; refine sq_blk [⟨13, _, []⟩] [0] hz rfl ⟨(fun a s he hf hz => ls rfl rfl (V_at h12 he (hf 12 rfl)) (V_at h11 he (hf 11 rfl))), trivial⟩ ?_; intro a13 s14 he hf hz hd1 h13; have ⟨hd, E⟩ := hdE hd1 hd E he; obtain ⟨h3, h4, h10, h11, h12⟩ := va5 he hf h3 h4 h10 h11 h12 rfl; refine wp_seq ?_; refine wp_condV h13 (fun hb => ?_) (fun hb => ?_)
 ·have h := ite_t hb h; refine wp_skip ?_; refine wp_seq ?_; refine wp_block ?_; refine wp_sr ?_; obtain ⟨D15, h⟩ := need h; refine sq_blk [⟨14, _, []⟩, ⟨15, _, [0]⟩] [1] hz rfl ⟨(fun a s he hf hz => ia rfl rfl sl_32 (V_at h10 he (hf 10 rfl)) (V_at h12 he (hf 12 rfl)) D15.1 D15.2), (fun a s he hf hz q0 => lp rfl rfl ty_70 (by decide) q0), trivial⟩ ?_; intro a16 s17 he hf hz hd1 h15; have ⟨hd, E⟩ := hdE hd1 hd E he; obtain ⟨h3, h4, h10, h11, h12⟩ := va5 he hf h3 h4 h10 h11 h12 rfl; refine sq_set hz rfl rfl rfl (op_alloc (cs := [.string ⟨#[]⟩, .int .i64 0]) rfl zv_70 rfl (fun s19 he BB20 => fun a18 h6 hf hz hd1 => ?_)); obtain ⟨b23, hb23⟩ : ∃ b, b = s17.w.heap.size := ⟨_, rfl⟩; rw [← hb23] at BB20 h6; have B23 := BB20; have l23 : s0.w.heap.size ≤ b23 := by have := E.size; omega
  have ⟨hd, E⟩ := hdE hd1 hd E he; obtain ⟨h3, h4, h10, h11, h12, h15⟩ := va6 he hf h3 h4 h10 h11 h12 h15 rfl; have c21 : kS.V s19 (.string ⟨#[]⟩) ([] : Str) := s_0; have c22 : (kI .i64).V s19 (.int .i64 0) 0 := i0; refine sq_do rfl rfl (op_storen rfl ty_70 rfl h6 B23 h15 rfl (fun s25 e26 he B23n r27 => ?_)); obtain ⟨h3, h4, h10, h11, h12⟩ := vm5 he h3 h4 h10 h11 h12; have E := Chg.chg E he (fun b e h => (fun e => absurd h (by cases e; exact Nat.not_lt.2 l23)) e); obtain ⟨u28, u29, rfl, c30, c31⟩ := kDot_open r27; have B23 : Bx s25 b23 70 [u28, u29] := B23n; refine wp_seq ?_; refine wp_sr ?_; have hz0 := hz; refine sq_blk [⟨16, _, []⟩, ⟨17, _, [0]⟩, ⟨18, _, [1]⟩, ⟨19, _, [2]⟩, ⟨20, _, [2, 3]⟩, ⟨21, _, [2, 4]⟩, ⟨22, _, [2, 5]⟩, ⟨23, _, [6]⟩, ⟨24, _, [7]⟩, ⟨25, _, [7, 8]⟩, ⟨26, _, [7]⟩, ⟨27, _, [7, 9, 10]⟩, ⟨28, _, [7, 11]⟩] [12] hz rfl ⟨mvs rfl rfl h4 rfl, (fun a s he hf hz q0 => no_ rfl rfl q0), mvq rfl rfl, (fun a s he hf hz q2 => og rfl rfl rfl hz hz0 rfl q2 (fun g => op_loadn rfl ty_70 rfl ((hf 6 rfl).trans h6) (B23.ext he) rfl (kDot_eta (x := (List.getD x0 (y11).toNat default)) (vm he c30) (vm he c31)))), (fun a s he hf hz q2 q3 => og rfl rfl rfl hz hz0 rfl q2 (fun g => op_call rfl rfl (vector_isDot.ok (q3.1 g)))), (fun a s he hf hz q2 q4 => og rfl rfl rfl hz hz0 rfl q2 (fun g => op_not rfl (q4.1 g))), (fun a s he hf hz q2 q5 => oe rfl rfl q2 (q5.1)), mvq rfl rfl, (fun a s he hf hz q7 => og rfl rfl rfl hz hz0 rfl q7 (fun g => op_faddr_b rfl fa_70_0 ((hf 6 rfl).trans h6))), (fun a s he hf hz q7 q8 => og rfl rfl rfl hz hz0 rfl q7 (fun g => op_load1 rfl ty_9 (q8.1 g) (B23.ext he) rfl (vm he c30))), (fun a s he hf hz q7 => og rfl rfl rfl hz hz0 rfl q7 (fun g => op_move_v rfl (V_at h3 he (hf 3 rfl)))), (fun a s he hf hz q7 q9 q10 => og rfl rfl rfl hz hz0 rfl q7 (fun g => op_sleq rfl (q9.1 g) (q10.1 g))), (fun a s he hf hz q7 q11 => oe rfl rfl q7 (q11.1)), trivial⟩ ?_
  intro a32 s33 he hf hz hd1 h28; have ⟨hd, E⟩ := hdE hd1 hd E he; obtain ⟨h4, h10, h11, h12⟩ := va4 he hf h4 h10 h11 h12 rfl; have h6 := (hf 6 rfl).trans h6; have B23 := B23.ext he; have c30 := vm he c30; refine wp_condV h28 (fun hb => ?_) (fun hb => ?_)
  ·have h := ite_t hb h; refine wp_sr ?_; refine sq_blk [⟨4, _, []⟩] [0] hz rfl ⟨(fun a s he hf hz => av rfl rfl b_f), trivial⟩ ?_; intro a34 s35 he hf hz hd1 h4; have ⟨hd, E⟩ := hdE hd1 hd E he; refine wp_exit ?_; refine then_exit ?_; refine inBlock_pass rfl ?_; refine then_exit ?_; refine then_exit ?_; refine inBlock_hit ?_; refine wp_sr ?_; refine sq_blk [⟨32, _, []⟩, ⟨2, _, [0]⟩] [1] hz rfl ⟨mvs rfl rfl h4 rfl, avq rfl rfl, trivial⟩ ?_; intro a36 s37 he hf hz hd1 h2; have ⟨hd, E⟩ := hdE hd1 hd E he; refine wp_ret ?_; cases h
   exact ⟨hd, _, results_tmp rfl _ _ _, E, h2⟩
  ·have h := ite_f hb h; refine wp_skip ?_; refine wp_region ?_; refine sq_blk [⟨29, _, []⟩, ⟨30, _, [0]⟩, ⟨3, _, [1]⟩] [2] hz rfl ⟨(fun a s he hf hz => fb rfl rfl fa_70_0 ((hf 6 rfl).trans h6)), (fun a s he hf hz q0 => lo rfl rfl ty_9 q0 (B23.ext he) rfl (vm he c30)), avq rfl rfl, trivial⟩ ?_; intro a38 s39 he hf hz hd1 h3; have ⟨hd, E⟩ := hdE hd1 hd E he; obtain ⟨h4, h10, h11, h12⟩ := va4 he hf h4 h10 h11 h12 rfl; refine wp_region ?_; refine sq_blk [⟨31, _, []⟩] [0] hz rfl ⟨(fun a s he hf hz => ad rfl rfl (V_at h12 he (hf 12 rfl)) i1), trivial⟩ ?_; intro a40 s41 he hf hz hd1 h31; have ⟨hd, E⟩ := hdE hd1 hd E he; obtain ⟨h3, h4, h10, h11⟩ := va4 he hf h3 h4 h10 h11 rfl; refine sq_blk [⟨12, _, []⟩] [0] hz rfl ⟨mvs rfl rfl h31 rfl, trivial⟩ ?_; intro a42 s43 he hf hz hd1 h12; have ⟨hd, E⟩ := hdE hd1 hd E he; obtain ⟨h3, h4, h10, h11⟩ := va4 he hf h3 h4 h10 h11 rfl; exact ⟨_, (by omega : m12 < m12 + 1), _, _, _, h, by omega, E, hz, hd, h3, h4, h10, h11, h12⟩
 ·have h := ite_f hb h; refine wp_exit ?_; refine then_exit ?_; refine then_exit ?_; refine inBlock_hit ?_; refine wp_sr ?_; refine sq_blk [⟨32, _, []⟩, ⟨2, _, [0]⟩] [1] hz rfl ⟨mvs rfl rfl h4 rfl, avq rfl rfl, trivial⟩ ?_; intro a44 s45 he hf hz hd1 h2; have ⟨hd, E⟩ := hdE hd1 hd E he; refine wp_ret ?_; cases h
  exact ⟨hd, _, results_tmp rfl _ _ _, E, h2⟩
theorem vector_Right.nice (x0 : List Dot) (b0 : (kSl kDot).bd x0) : ∃ k, vector_Right.f k x0 = some (rightV x0) := by
 have hb : x0.length ≤ maxLen := b0.1
 have hm := maxLen_lt
 have : ∀ y, y ≤ x0.length → ∀ (p : Str) (ok : Bool), ∃ k, vector_Right.l0 k x0 p ok (y : Int) = some (ok && chainP p (x0.drop y)) := by
  refine rounds x0.length (fun p ok => ⟨1, ?_⟩) fun y hy ih p ok => ?_
  ·simp only [vector_Right.l0, List.drop_length]; simp [chainP]
  ·obtain ⟨k, hk⟩ := ih (x0.getD y default).who ok
   push_cast at hk
   have hr : (0 : Int) ≤ y ∧ (y : Int) < x0.length := ⟨by omega, by omega⟩
   refine ⟨k + 1, ?_⟩
   rw [drop_at default hy]
   simp only [vector_Right.l0, Int.toNat_natCast, hr, and_self, decide_true, if_true, sLt_tri, chainP]
   rw [w64s (show y < 9223372036854775807 by omega)]
   generalize x0.getD y default = d at *
   cases ok <;> cases h1 : vector_isDot d <;> cases h2 : sLt p d.who <;> simp [hk]
 obtain ⟨k, hk⟩ := this 0 (Nat.zero_le _) [] (decide ((x0.length : Int) ≤ 64))
 refine ⟨k, ?_⟩
 unfold vector_Right.f rightV
 refine hk.trans ?_
 rw [List.drop_zero, chainP_nil]
 congr 2
 rw [decide_eq_decide]; omega
theorem vector_Right.ct {s0 : St} {v0 : Value} {x0 : (List Dot)} (k0 : (kSl kDot).V s0 v0 x0) : Cl Try.prog 80 #[v0] s0 (Okf s0 (Fact.v kB (rightV x0))) := by
 obtain ⟨k, h⟩ := vector_Right.nice x0 (Kn.V_bd k0)
 exact vector_Right.ok k0 h
def ref07_Right.l0 : Nat → (List Dot) → Int → Option (Bool)
 | 0, _, _ => none
 | m12 + 1, x0, y11 => (if decide (y11 < (x0.length : Int)) = true then (if (0 ≤ y11 ∧ y11 < (x0.length : Int)) then (if (((!(vector_isDot (List.getD x0 (y11).toNat default))) = false ∧ (decide (0 < y11)) = true) → (0 ≤ (IntKind.wrap .i64 (y11 - 1)) ∧ (IntKind.wrap .i64 (y11 - 1)) < (x0.length : Int))) then (if ((!(vector_isDot (List.getD x0 (y11).toNat default))) || ((decide (0 < y11)) && (!sLt ((List.getD x0 (IntKind.wrap .i64 (y11 - 1)).toNat default).who) ((List.getD x0 (y11).toNat default).who)))) = true then (some false) else (ref07_Right.l0 m12 x0 (IntKind.wrap .i64 (y11 + 1)))) else none) else none) else (some true))
def ref07_Right.f (k : Nat) (x0 : (List Dot)) : Option (Bool) := (if decide (64 < (x0.length : Int)) = true then (some false) else (ref07_Right.l0 k x0 0))
theorem ref07_Right.ok {s0 : St} {v0 : Value} {x0 : (List Dot)} {k : Nat} {r : Bool} (k0 : (kSl kDot).V s0 v0 x0) (h : ref07_Right.f k x0 = some r) : Cl Try.prog 82 #[v0] s0 (Okf s0 (Fact.v kB r)) := by
 unfold ref07_Right.f at h
 refine cl_of_wp Try.func82 rfl en_82 fun a hz hd hp => ?_; have hz : a.tmps.size = 39 := hz; have E := Chg.refl (fun _ => False) s0; have h0 := V_at k0 E (hp 0 v0 rfl); refine wp_sr ?_; refine sq_blk [⟨2, _, []⟩] [] hz rfl ⟨(fun a s he hf hz => av rfl rfl b_f), trivial⟩ ?_; intro a1 s2 he hf hz hd1; have ⟨hd, E⟩ := hdE hd1 hd E he; have h0 := V_at h0 he (hf 0 rfl); refine wp_seq ?_; refine wp_sr ?_; refine sq_blk [⟨5, _, []⟩, ⟨6, _, [0]⟩, ⟨7, _, [1]⟩] [2] hz rfl ⟨mvs rfl rfl h0 rfl, (fun a s he hf hz q0 => le_ rfl rfl u_32 q0), (fun a s he hf hz q1 => gt_ rfl rfl q1 (lit_i (k := .i64) (n := 64) (by decide))), trivial⟩ ?_; intro a3 s4 he hf hz hd1 h7; have ⟨hd, E⟩ := hdE hd1 hd E he; have h0 := V_at h0 he (hf 0 rfl); refine wp_condV h7 (fun hb => ?_) (fun hb => ?_)
 ·have h := ite_t hb h; refine wp_sr ?_; refine sq_blk [⟨2, _, []⟩] [0] hz rfl ⟨(fun a s he hf hz => av rfl rfl b_f), trivial⟩ ?_; intro a5 s6 he hf hz hd1 h2; have ⟨hd, E⟩ := hdE hd1 hd E he; refine wp_ret ?_; cases h
  exact ⟨hd, _, results_tmp rfl _ _ _, E, h2⟩
 ·have h := ite_f hb h; refine wp_skip ?_; refine wp_seq ?_; refine wp_sr ?_; refine sq_blk [⟨3, _, []⟩] [0] hz rfl ⟨(fun a s he hf hz => av rfl rfl i0), trivial⟩ ?_; intro a7 s8 he hf hz hd1 h3; have ⟨hd, E⟩ := hdE hd1 hd E he; have h0 := V_at h0 he (hf 0 rfl); refine wp_block ?_; refine wp_loop (k := k) (fun m12 a s => ∃ (y11 : Int), ref07_Right.l0 m12 x0 y11 = some r ∧ m12 ≤ k ∧ Ext s0 s ∧ a.tmps.size = 39 ∧ a.defers = [] ∧ (kSl kDot).V s (a.get 0) x0 ∧ (kI .i64).V s (a.get 3) y11) ⟨_, h, Nat.le_refl _, E, hz, hd, h0, h3⟩ ?_; rintro m12 a10 s9 ⟨y11, h, hkm12, E, hz, hd, h0, h3⟩; obtain _ | m12 := m12
  ·cases h
  refine wp_seq ?_; refine wp_sr ?_; refine sq_blk [⟨8, _, []⟩, ⟨9, _, []⟩, ⟨10, _, [1]⟩, ⟨11, _, [0, 2]⟩] [3] hz rfl ⟨mvs rfl rfl h3 rfl, mvs rfl rfl h0 rfl, (fun a s he hf hz q1 => le_ rfl rfl u_32 q1), (fun a s he hf hz q0 q2 => ls rfl rfl q0 q2), trivial⟩ ?_; intro a13 s14 he hf hz hd1 h11; have ⟨hd, E⟩ := hdE hd1 hd E he; obtain ⟨h0, h3⟩ := va2 he hf h0 h3 rfl; refine wp_condV h11 (fun hb => ?_) (fun hb => ?_)
  ·have h := ite_t hb h; refine wp_skip ?_; refine wp_seq ?_; refine wp_block ?_; refine wp_sr ?_; obtain ⟨D15, h⟩ := need h; refine sq_blk [⟨14, _, []⟩, ⟨15, _, []⟩, ⟨16, _, [0, 1]⟩, ⟨17, _, [2]⟩, ⟨18, _, [3]⟩, ⟨4, _, [4]⟩] [5] hz rfl ⟨mvs rfl rfl h0 rfl, mvs rfl rfl h3 rfl, (fun a s he hf hz q0 q1 => ia rfl rfl sl_32 q0 q1 D15.1 D15.2), (fun a s he hf hz q2 => lp rfl rfl ty_70 (by decide) q2), (fun a s he hf hz q3 => opw rfl (op_call rfl rfl (ref07_IsDot.ok q3))), avq rfl rfl, trivial⟩ ?_; intro a16 s17 he hf hz hd1 h4; have ⟨hd, E⟩ := hdE hd1 hd E he; obtain ⟨h0, h3⟩ := va2 he hf h0 h3 rfl; refine wp_seq ?_; obtain ⟨D18, h⟩ := need h; have hz0 := hz; refine wp_draw [⟨19, _, []⟩, ⟨20, _, [0]⟩, ⟨21, _, [1]⟩, ⟨22, _, [2]⟩, ⟨23, _, [2, 3]⟩, ⟨24, _, [2, 4]⟩, ⟨25, _, [5]⟩, ⟨26, _, [5]⟩, ⟨27, _, [5, 7]⟩, ⟨28, _, [5, 6, 8]⟩, ⟨29, _, [5, 9]⟩, ⟨30, _, [5, 10]⟩, ⟨31, _, [5]⟩, ⟨32, _, [5]⟩, ⟨33, _, [5, 12, 13]⟩, ⟨34, _, [5, 14]⟩, ⟨35, _, [5, 15]⟩, ⟨36, _, [5, 11, 16]⟩, ⟨37, _, [2, 5, 17]⟩, ⟨38, _, [2, 18]⟩] [19] mo hz (by kernel_rfl) ⟨mvs rfl rfl h4 rfl, (fun a s he hf hz q0 => no_ rfl rfl q0), mvq rfl rfl, (fun a s he hf hz q2 => og rfl rfl rfl hz hz0 rfl q2 (fun g => op_move_v rfl (V_at h3 he (hf 3 rfl)))), (fun a s he hf hz q2 q3 => og rfl rfl rfl hz hz0 rfl q2 (fun g => op_gtr rfl (q3.1 g) i0)), (fun a s he hf hz q2 q4 => og rfl rfl rfl hz hz0 rfl q2 (fun g => op_move_v rfl (q4.1 g))), (fun a s he hf hz q5 => ogg rfl rfl rfl hz hz0 rfl q5 (fun g => op_move_v rfl (V_at h0 he (hf 0 rfl)))), (fun a s he hf hz q5 => ogg rfl rfl rfl hz hz0 rfl q5 (fun g => op_move_v rfl (V_at h3 he (hf 3 rfl)))), (fun a s he hf hz q5 q7 => ogg rfl rfl rfl hz hz0 rfl q5 (fun g => op_sub rfl (q7.1 g) i1)), (fun a s he hf hz q5 q6 q8 => ogg rfl rfl rfl hz hz0 rfl q5 (fun g => op_iaddr rfl sl_32 (q6.1 g) (q8.1 g) (D18 g).1 (D18 g).2)), (fun a s he hf hz q5 q9 => ogg rfl rfl rfl hz hz0 rfl q5 (fun g => op_faddr_p rfl fa_70_0 kDot_s0 (q9.1 g))), (fun a s he hf hz q5 q10 => ogg rfl rfl rfl hz hz0 rfl q5 (fun g => op_load_p rfl ty_9 (by decide) (q10.1 g))), (fun a s he hf hz q5 => ogg rfl rfl rfl hz hz0 rfl q5 (fun g => op_move_v rfl (V_at h0 he (hf 0 rfl)))), (fun a s he hf hz q5 => ogg rfl rfl rfl hz hz0 rfl q5 (fun g => op_move_v rfl (V_at h3 he (hf 3 rfl)))), (fun a s he hf hz q5 q12 q13 => ogg rfl rfl rfl hz hz0 rfl q5 (fun g => op_iaddr rfl sl_32 (q12.1 g) (q13.1 g) D15.1 D15.2)), (fun a s he hf hz q5 q14 => ogg rfl rfl rfl hz hz0 rfl q5 (fun g => op_faddr_p rfl fa_70_0 kDot_s0 (q14.1 g))), (fun a s he hf hz q5 q15 => ogg rfl rfl rfl hz hz0 rfl q5 (fun g => op_load_p rfl ty_9 (by decide) (q15.1 g))), (fun a s he hf hz q5 q11 q16 => ogg rfl rfl rfl hz hz0 rfl q5 (fun g => op_sgeq rfl (q11.1 g) (q16.1 g))), (fun a s he hf hz q2 q5 q17 => og rfl rfl rfl hz hz0 rfl q2 (fun g => op_and_then rfl (q5.1 g) (fun e => q17.1 ⟨g, e⟩))), (fun a s he hf hz q2 q18 => oe rfl rfl q2 (q18.1)), trivial⟩ ?_
   intro a19 s20 he hf hz hd1 h38; have ⟨hd, E⟩ := hdE hd1 hd E he; obtain ⟨h0, h3⟩ := va2 he hf h0 h3 rfl; refine wp_condV h38 (fun hb => ?_) (fun hb => ?_)
   ·have h := ite_t hb h; refine wp_sr ?_; refine sq_blk [⟨2, _, []⟩] [0] hz rfl ⟨(fun a s he hf hz => av rfl rfl b_f), trivial⟩ ?_; intro a21 s22 he hf hz hd1 h2; have ⟨hd, E⟩ := hdE hd1 hd E he; refine wp_ret ?_; cases h
    exact ⟨hd, _, results_tmp rfl _ _ _, E, h2⟩
   ·have h := ite_f hb h; refine wp_skip ?_; refine wp_region ?_; refine sq_blk [⟨12, _, []⟩, ⟨13, _, [0]⟩] [1] hz rfl ⟨mvs rfl rfl h3 rfl, (fun a s he hf hz q0 => ad rfl rfl q0 i1), trivial⟩ ?_; intro a23 s24 he hf hz hd1 h13; have ⟨hd, E⟩ := hdE hd1 hd E he; have h0 := V_at h0 he (hf 0 rfl); refine sq_blk [⟨3, _, []⟩] [0] hz rfl ⟨avs rfl rfl h13 rfl, trivial⟩ ?_; intro a25 s26 he hf hz hd1 h3; have ⟨hd, E⟩ := hdE hd1 hd E he; have h0 := V_at h0 he (hf 0 rfl); exact ⟨_, (by omega : m12 < m12 + 1), _, h, by omega, E, hz, hd, h0, h3⟩
  ·have h := ite_f hb h; refine wp_exit ?_; refine then_exit ?_; refine then_exit ?_; refine inBlock_hit ?_; refine wp_sr ?_; refine sq_blk [⟨2, _, []⟩] [0] hz rfl ⟨(fun a s he hf hz => av rfl rfl b_t), trivial⟩ ?_; intro a27 s28 he hf hz hd1 h2; have ⟨hd, E⟩ := hdE hd1 hd E he; refine wp_ret ?_; cases h
   exact ⟨hd, _, results_tmp rfl _ _ _, E, h2⟩
theorem ref07_Right.nice (x0 : List Dot) (b0 : (kSl kDot).bd x0) : ∃ k, ref07_Right.f k x0 = some (rightV x0) := by
 have hb : x0.length ≤ maxLen := b0.1
 have hm := maxLen_lt
 unfold ref07_Right.f rightV
 by_cases h64 : x0.length ≤ 64
 ·have h64' : ¬ (64 : Int) < x0.length := by omega
  have : ∀ y, y ≤ x0.length → ∃ k, ref07_Right.l0 k x0 (y : Int) = some (if y = 0 then chainV x0 else chainP (x0.getD (y - 1) default).who (x0.drop y)) := by
   refine rounds x0.length ⟨1, ?_⟩ fun y hy ⟨k, hk⟩ => ?_
   ·simp only [ref07_Right.l0, List.drop_length]
    by_cases h : x0.length = 0
    ·rw [if_pos h, List.length_eq_zero_iff.1 h]; simp [chainV]
    ·rw [if_neg h]; simp [chainP]
   ·rw [if_neg (by omega), Nat.add_sub_cancel] at hk
    push_cast at hk
    have hr : (0 : Int) ≤ y ∧ (y : Int) < x0.length := ⟨by omega, by omega⟩
    refine ⟨k + 1, ?_⟩
    by_cases h0 : y = 0
    ·subst h0
     rw [if_pos rfl]
     have hd := drop_at (xs := x0) (y := 0) default hy
     rw [List.drop_zero] at hd
     simp only [ref07_Right.l0, Int.toNat_natCast, hr, and_self, decide_true, if_true]
     rw [if_pos (by intro h; simp at h)]
     conv => rhs; rw [hd]
     simp only [chainV]
     rw [w64s (show 0 < 9223372036854775807 by omega)]
     have hz : decide ((0 : Int) < ((0 : Nat) : Int)) = false := by decide
     by_cases h1 : vector_isDot (x0.getD 0 default) = true
     ·rw [if_neg (by rw [h1, hz]; simp)]
      refine hk.trans ?_
      rw [h1] <;> rfl
     ·rw [Bool.not_eq_true] at h1; rw [if_pos (by rw [h1]; rfl), h1] <;> rfl
    ·rw [if_neg h0, drop_at default hy]
     have e1 : IntKind.wrap .i64 ((y : Int) - 1) = ((y - 1 : Nat) : Int) := by rw [w64 (by omega) (by omega)]; omega
     have h0' : (0 : Int) < y := by omega
     simp only [ref07_Right.l0, Int.toNat_natCast, hr, and_self, decide_true, if_true, e1, h0', chainP]
     rw [if_pos (fun _ => ⟨by omega, by omega⟩), w64s (show y < 9223372036854775807 by omega)]
     generalize x0.getD y default = d at *
     cases h1 : vector_isDot d <;> cases h2 : sLt (x0.getD (y - 1) default).who d.who <;> simp [hk]
  obtain ⟨k, hk⟩ := this 0 (Nat.zero_le _)
  refine ⟨k, ?_⟩
  rw [if_pos rfl] at hk
  simp only [h64', decide_false, Bool.false_eq_true, if_false, h64, decide_true, Bool.true_and]
  exact hk
 ·have h64' : (64 : Int) < x0.length := by omega
  exact ⟨0, by simp [h64', h64]⟩
theorem ref07_Right.ct {s0 : St} {v0 : Value} {x0 : (List Dot)} (k0 : (kSl kDot).V s0 v0 x0) : Cl Try.prog 82 #[v0] s0 (Okf s0 (Fact.v kB (rightV x0))) := by
 obtain ⟨k, h⟩ := ref07_Right.nice x0 (Kn.V_bd k0)
 exact ref07_Right.ok k0 h
end
section
attribute [local irreducible] Kn.V PtrV
def vector_find_1 (x0 : Dot) (x1 : Str) : Int := (strings_Compare x0.who x1)
theorem vector_find_1.ok {s0 : St} {v0 : Value} {x0 : Dot} {v1 : Value} {x1 : Str} (k0 : kDot.V s0 v0 x0) (k1 : kS.V s0 v1 x1) : Cl Try.prog 152 #[v0, v1] s0 (Okf s0 (Fact.v (kI .i64) (vector_find_1 x0 x1))) := by
 obtain ⟨r, h⟩ : ∃ r, some (vector_find_1 x0 x1) = some r := ⟨_, rfl⟩
 rw [Option.some.inj h]
 have h : (some (strings_Compare x0.who x1)) = some r := by rw [← h]; unfold vector_find_1; first | rfl | simp only [apply_ite some] | (repeat' (first | rfl | split))
 refine cl_of_wp Try.func152 rfl en_152 fun a hz hd hp => ?_; have hz : a.tmps.size = 9 := hz; have E := Chg.refl (fun _ => False) s0; have h0 := V_at k0 E (hp 0 v0 rfl); have h1 := V_at k1 E (hp 1 v1 rfl); refine wp_sr ?_; refine sq_set hz rfl rfl rfl (op_boxn rfl rfl h0 (fun s2 e4 he BB3 r5 => fun a1 h2 hf hz hd1 => ?_)); obtain ⟨b10, hb10⟩ : ∃ b, b = s0.w.heap.size := ⟨_, rfl⟩; rw [← hb10] at BB3 h2; have B10 := BB3; have l10 : s0.w.heap.size ≤ b10 := by have := E.size; omega
 have ⟨hd, E⟩ := hdE hd1 hd E he; have h1 := V_at h1 he (hf 1 rfl); obtain ⟨u6, u7, rfl, c8, c9⟩ := kDot_open r5; refine sq_blk [⟨4, _, []⟩] [] hz rfl ⟨(fun a s he hf hz => av rfl rfl i0), trivial⟩ ?_; intro a11 s12 he hf hz hd1; have ⟨hd, E⟩ := hdE hd1 hd E he; have h1 := V_at h1 he (hf 1 rfl); have h2 := (hf 2 rfl).trans h2; have B10 := B10.ext he; have c8 := vm he c8; refine wp_sr ?_; refine sq_blk [⟨5, _, []⟩, ⟨6, _, [0]⟩, ⟨7, _, []⟩, ⟨8, _, [1, 2]⟩, ⟨4, _, [3]⟩] [4] hz rfl ⟨(fun a s he hf hz => fb rfl rfl fa_70_0 ((hf 2 rfl).trans h2)), (fun a s he hf hz q0 => lo rfl rfl ty_9 q0 (B10.ext he) rfl (vm he c8)), mvs rfl rfl h1 rfl, (fun a s he hf hz q1 q2 => opw rfl (op_call rfl rfl (strings_Compare.ok q1 q2))), avq rfl rfl, trivial⟩ ?_; intro a13 s14 he hf hz hd1 h4; have ⟨hd, E⟩ := hdE hd1 hd E he; refine wp_ret ?_; cases h
 exact ⟨hd, _, results_tmp rfl _ _ _, E, h4⟩
def slices_BinarySearchFunc_api_Dot_api_Dot_string.l0 : Nat → (List Dot) → Str → (Dot → Str → Int) → Int → Int → Option (Int × Bool)
 | 0, _, _, _, _, _ => none
 | m11 + 1, x0, x1, φ2, y9, y10 => (if decide (y9 < y10) = true then (if (0 ≤ (IntKind.wrap .i64 (sShr .u64 (IntKind.wrap .u64 (IntKind.wrap .i64 (y9 + y10))) 1)) ∧ (IntKind.wrap .i64 (sShr .u64 (IntKind.wrap .u64 (IntKind.wrap .i64 (y9 + y10))) 1)) < (x0.length : Int)) then (if decide ((φ2 (List.getD x0 (IntKind.wrap .i64 (sShr .u64 (IntKind.wrap .u64 (IntKind.wrap .i64 (y9 + y10))) 1)).toNat default) x1) < 0) = true then (slices_BinarySearchFunc_api_Dot_api_Dot_string.l0 m11 x0 x1 φ2 (IntKind.wrap .i64 ((IntKind.wrap .i64 (sShr .u64 (IntKind.wrap .u64 (IntKind.wrap .i64 (y9 + y10))) 1)) + 1)) y10) else (slices_BinarySearchFunc_api_Dot_api_Dot_string.l0 m11 x0 x1 φ2 y9 (IntKind.wrap .i64 (sShr .u64 (IntKind.wrap .u64 (IntKind.wrap .i64 (y9 + y10))) 1)))) else none) else (if ((decide (y9 < (x0.length : Int))) = true → (0 ≤ y9 ∧ y9 < (x0.length : Int))) then (some (y9, ((decide (y9 < (x0.length : Int))) && (decide ((φ2 (List.getD x0 (y9).toNat default) x1) = 0))))) else none))
def slices_BinarySearchFunc_api_Dot_api_Dot_string.f (k : Nat) (x0 : (List Dot)) (x1 : Str) (φ2 : Dot → Str → Int) : Option (Int × Bool) := (slices_BinarySearchFunc_api_Dot_api_Dot_string.l0 k x0 x1 φ2 0 (x0.length : Int))
theorem slices_BinarySearchFunc_api_Dot_api_Dot_string.ok {s0 : St} {v0 : Value} {x0 : (List Dot)} {v1 : Value} {x1 : Str} {v2 : Value} {g2 : FuncId} {caps2 : List Value} {φ2 : Dot → Str → Int} {k : Nat} {r : Int × Bool} (k0 : (kSl kDot).V s0 v0 x0) (k1 : kS.V s0 v1 x1) (e2 : v2 = .func (.func g2) #[] caps2.toArray) (F2 : ∀ {s : St} {w0 : Value} {y0 : Dot} {w1 : Value} {y1 : Str}, Ext s0 s → kDot.V s w0 y0 → kS.V s w1 y1 → Cl Try.prog g2 ([w0, w1] ++ caps2).toArray s (Okf s (Fact.v (kI .i64) (φ2 y0 y1)))) (h : slices_BinarySearchFunc_api_Dot_api_Dot_string.f k x0 x1 φ2 = some r) : Cl Try.prog 151 #[v0, v1, v2] s0 (Okf s0 (Fact.tup [Fact.v (kI .i64) r.1, Fact.v kB r.2])) := by
 unfold slices_BinarySearchFunc_api_Dot_api_Dot_string.f at h
 refine cl_of_wp Try.func151 rfl en_151 fun a hz hd hp => ?_; have hz : a.tmps.size = 49 := hz; have E := Chg.refl (fun _ => False) s0; have h0 := V_at k0 E (hp 0 v0 rfl); have h1 := V_at k1 E (hp 1 v1 rfl); have h2 := (hp 2 v2 rfl).trans e2; refine wp_sr ?_; refine sq_blk [⟨6, _, []⟩, ⟨7, _, []⟩] [] hz rfl ⟨(fun a s he hf hz => av rfl rfl i0), (fun a s he hf hz => av rfl rfl b_f), trivial⟩ ?_; intro a1 s2 he hf hz hd1; have ⟨hd, E⟩ := hdE hd1 hd E he; obtain ⟨h0, h1⟩ := va2 he hf h0 h1 rfl; have h2 := (hf 2 rfl).trans h2; refine wp_sr ?_; refine sq_blk [⟨12, _, []⟩, ⟨13, _, [0]⟩, ⟨8, _, [1]⟩] [2] hz rfl ⟨mvs rfl rfl h0 rfl, (fun a s he hf hz q0 => le_ rfl rfl u_32 q0), avq rfl rfl, trivial⟩ ?_; intro a3 s4 he hf hz hd1 h8; have ⟨hd, E⟩ := hdE hd1 hd E he; obtain ⟨h0, h1⟩ := va2 he hf h0 h1 rfl; have h2 := (hf 2 rfl).trans h2; refine wp_sr ?_; refine sq_blk [⟨14, _, []⟩, ⟨9, _, []⟩, ⟨10, _, [0]⟩] [1, 2] hz rfl ⟨mvs rfl rfl h8 rfl, (fun a s he hf hz => av rfl rfl i0), avq rfl rfl, trivial⟩ ?_
 intro a5 s6 he hf hz hd1 h9 h10; have ⟨hd, E⟩ := hdE hd1 hd E he; obtain ⟨h0, h1, h8⟩ := va3 he hf h0 h1 h8 rfl; have h2 := (hf 2 rfl).trans h2; refine wp_seq ?_; refine wp_block ?_; refine wp_loop (k := k) (fun m11 a s => ∃ (y9 : Int) (y10 : Int), slices_BinarySearchFunc_api_Dot_api_Dot_string.l0 m11 x0 x1 φ2 y9 y10 = some r ∧ m11 ≤ k ∧ Ext s0 s ∧ a.tmps.size = 49 ∧ a.defers = [] ∧ (kSl kDot).V s (a.get 0) x0 ∧ kS.V s (a.get 1) x1 ∧ a.get 2 = .func (.func g2) #[] caps2.toArray ∧ (kI .i64).V s (a.get 8) (x0.length : Int) ∧ (kI .i64).V s (a.get 9) y9 ∧ (kI .i64).V s (a.get 10) y10) ⟨_, _, h, Nat.le_refl _, E, hz, hd, h0, h1, h2, h8, h9, h10⟩ ?_; rintro m11 a8 s7 ⟨y9, y10, h, hkm11, E, hz, hd, h0, h1, h2, h8, h9, h10⟩; obtain _ | m11 := m11
 ·cases h
 refine wp_seq ?_; refine wp_sr ?_; refine sq_blk [⟨15, _, []⟩, ⟨16, _, []⟩, ⟨17, _, [0, 1]⟩] [2] hz rfl ⟨mvs rfl rfl h9 rfl, mvs rfl rfl h10 rfl, (fun a s he hf hz q0 q1 => ls rfl rfl q0 q1), trivial⟩ ?_; intro a12 s13 he hf hz hd1 h17; have ⟨hd, E⟩ := hdE hd1 hd E he; obtain ⟨h0, h1, h8, h9, h10⟩ := va5 he hf h0 h1 h8 h9 h10 rfl; have h2 := (hf 2 rfl).trans h2; refine wp_condV h17 (fun hb => ?_) (fun hb => ?_)
 ·have h := ite_t hb h; refine wp_skip ?_; refine wp_block ?_; refine wp_sr ?_; refine sq_blk [⟨18, _, []⟩, ⟨19, _, []⟩, ⟨20, _, [0, 1]⟩, ⟨21, _, [2]⟩, ⟨22, _, [3]⟩, ⟨23, _, [4]⟩, ⟨11, _, [5]⟩] [6] hz rfl ⟨mvs rfl rfl h9 rfl, mvs rfl rfl h10 rfl, (fun a s he hf hz q0 q1 => ad rfl rfl q0 q1), (fun a s he hf hz q2 => cv rfl rfl u_3 u_143 q2), (fun a s he hf hz q3 => opw rfl (op_shr rfl q3 (lit_i (k := .u64) (n := 1) (by decide)) (by decide))), (fun a s he hf hz q4 => cv rfl rfl u_143 u_3 q4), avq rfl rfl, trivial⟩ ?_; intro a14 s15 he hf hz hd1 h11; have ⟨hd, E⟩ := hdE hd1 hd E he; obtain ⟨h0, h1, h8, h9, h10⟩ := va5 he hf h0 h1 h8 h9 h10 rfl; have h2 := (hf 2 rfl).trans h2; refine wp_sr ?_; obtain ⟨D16, h⟩ := need h; refine sq_blk [⟨24, _, []⟩, ⟨25, _, []⟩, ⟨26, _, []⟩, ⟨27, _, [1, 2]⟩, ⟨28, _, [3]⟩, ⟨29, _, []⟩, ⟨30, _, [0, 4, 5]⟩, ⟨31, _, [6]⟩] [7] hz rfl ⟨mes rfl rfl h2 rfl, mvs rfl rfl h0 rfl, mvs rfl rfl h11 rfl, (fun a s he hf hz q1 q2 => ia rfl rfl sl_32 q1 q2 D16.1 D16.2), (fun a s he hf hz q3 => lp rfl rfl ty_70 (by decide) q3), mvs rfl rfl h1 rfl, (fun a s he hf hz q0 q4 q5 => opw rfl (op_callv rfl q0 rfl (F2 (E.trans he) q4 q5))), (fun a s he hf hz q6 => ls rfl rfl q6 i0), trivial⟩ ?_
  intro a17 s18 he hf hz hd1 h31; have ⟨hd, E⟩ := hdE hd1 hd E he; obtain ⟨h0, h1, h8, h9, h10, h11⟩ := va6 he hf h0 h1 h8 h9 h10 h11 rfl; have h2 := (hf 2 rfl).trans h2; refine wp_condV h31 (fun hb => ?_) (fun hb => ?_)
  ·have h := ite_t hb h; refine wp_region ?_; refine sq_blk [⟨32, _, []⟩, ⟨33, _, [0]⟩, ⟨9, _, [1]⟩] [2] hz rfl ⟨mvs rfl rfl h11 rfl, (fun a s he hf hz q0 => ad rfl rfl q0 i1), avq rfl rfl, trivial⟩ ?_; intro a19 s20 he hf hz hd1 h9; have ⟨hd, E⟩ := hdE hd1 hd E he; obtain ⟨h0, h1, h8, h10⟩ := va4 he hf h0 h1 h8 h10 rfl; have h2 := (hf 2 rfl).trans h2; exact ⟨_, (by omega : m11 < m11 + 1), _, _, h, by omega, E, hz, hd, h0, h1, h2, h8, h9, h10⟩
  ·have h := ite_f hb h; refine wp_region ?_; refine sq_blk [⟨34, _, []⟩, ⟨10, _, [0]⟩] [1] hz rfl ⟨mvs rfl rfl h11 rfl, avq rfl rfl, trivial⟩ ?_; intro a21 s22 he hf hz hd1 h10; have ⟨hd, E⟩ := hdE hd1 hd E he; obtain ⟨h0, h1, h8, h9⟩ := va4 he hf h0 h1 h8 h9 rfl; have h2 := (hf 2 rfl).trans h2; exact ⟨_, (by omega : m11 < m11 + 1), _, _, h, by omega, E, hz, hd, h0, h1, h2, h8, h9, h10⟩
 ·have h := ite_f hb h; refine wp_exit ?_; refine then_exit ?_; refine then_exit ?_; refine inBlock_hit ?_; refine wp_sr ?_; obtain ⟨D23, h⟩ := need h; have hz0 := hz; refine sq_blk [⟨35, _, []⟩, ⟨36, _, []⟩, ⟨37, _, []⟩, ⟨38, _, [1, 2]⟩, ⟨39, _, [3]⟩, ⟨40, _, [4]⟩, ⟨41, _, [4]⟩, ⟨42, _, [4]⟩, ⟨43, _, [4, 6, 7]⟩, ⟨44, _, [4, 8]⟩, ⟨45, _, [4]⟩, ⟨46, _, [4, 5, 9, 10]⟩, ⟨47, _, [4, 11]⟩, ⟨48, _, [4, 12]⟩, ⟨6, _, [0]⟩, ⟨7, _, [13]⟩] [14, 15] hz rfl ⟨mvs rfl rfl h9 rfl, mvs rfl rfl h9 rfl, mvs rfl rfl h8 rfl, (fun a s he hf hz q1 q2 => ls rfl rfl q1 q2), mvq rfl rfl, (fun a s he hf hz q4 => og rfl rfl rfl hz hz0 rfl q4 (fun g => op_move_e rfl ((hf 2 rfl).trans h2))), (fun a s he hf hz q4 => og rfl rfl rfl hz hz0 rfl q4 (fun g => op_move_v rfl (V_at h0 he (hf 0 rfl)))), (fun a s he hf hz q4 => og rfl rfl rfl hz hz0 rfl q4 (fun g => op_move_v rfl (V_at h9 he (hf 9 rfl)))), (fun a s he hf hz q4 q6 q7 => og rfl rfl rfl hz hz0 rfl q4 (fun g => op_iaddr rfl sl_32 (q6.1 g) (q7.1 g) (D23 g).1 (D23 g).2)), (fun a s he hf hz q4 q8 => og rfl rfl rfl hz hz0 rfl q4 (fun g => op_load_p rfl ty_70 (by decide) (q8.1 g))), (fun a s he hf hz q4 => og rfl rfl rfl hz hz0 rfl q4 (fun g => op_move_v rfl (V_at h1 he (hf 1 rfl)))), (fun a s he hf hz q4 q5 q9 q10 => og rfl rfl rfl hz hz0 rfl q4 (fun g => op_callv rfl (q5.1 g) rfl (F2 (E.trans he) (q9.1 g) (q10.1 g)))), (fun a s he hf hz q4 q11 => og rfl rfl rfl hz hz0 rfl q4 (fun g => op_eql rfl (q11.1 g) i0)), (fun a s he hf hz q4 q12 => an rfl rfl q4 (q12.1)), avq rfl rfl, avq rfl rfl, trivial⟩ ?_
  intro a24 s25 he hf hz hd1 h6 h7; have ⟨hd, E⟩ := hdE hd1 hd E he; refine wp_ret ?_; cases h
  exact ⟨hd, _, results_tmp2 rfl _ _ _, E, tup2 h6 h7⟩
def bsGo (c : Dot → Int) (x : List Dot) : Nat → Nat → Nat → Nat
 | 0, lo, _ => lo
 | f + 1, lo, hi => if lo < hi then if c (x.getD ((lo + hi) / 2) default) < 0 then bsGo c x f ((lo + hi) / 2 + 1) hi else bsGo c x f lo ((lo + hi) / 2) else lo
def bsD (x : List Dot) (w : Str) (φ : Dot → Str → Int) : Int × Bool :=
 (((bsGo (fun d => φ d w) x x.length 0 x.length : Nat) : Int), decide (((bsGo (fun d => φ d w) x x.length 0 x.length : Nat) : Int) < (x.length : Int)) && decide (φ (x.getD (bsGo (fun d => φ d w) x x.length 0 x.length) default) w = 0))
theorem half_eq {a b : Nat} (ha : a < 9223372036854775808) (hb : b < 9223372036854775808) : IntKind.wrap .i64 (sShr .u64 (IntKind.wrap .u64 (IntKind.wrap .i64 ((a : Int) + (b : Int)))) 1) = (((a + b) / 2 : Nat) : Int) := by
 have e1 : IntKind.wrap .u64 (IntKind.wrap .i64 ((a : Int) + (b : Int))) = ((a + b : Nat) : Int) := by
  simp [IntKind.wrap, IntKind.signed, IntKind.bits]; omega
 have e2 : sShr .u64 ((a + b : Nat) : Int) 1 = (((a + b) / 2 : Nat) : Int) := s64 1 (by omega)
 rw [e1, e2, w64 (by omega) (by omega)]
theorem slices_BinarySearchFunc_api_Dot_api_Dot_string.nice (x0 : List Dot) (x1 : Str) (φ2 : Dot → Str → Int) (b0 : (kSl kDot).bd x0) (b1 : kS.bd x1) : ∃ k, slices_BinarySearchFunc_api_Dot_api_Dot_string.f k x0 x1 φ2 = some (bsD x0 x1 φ2) := by
 have hb : x0.length ≤ maxLen := b0.1
 have hm := maxLen_lt
 have go : ∀ f lo hi : Nat, hi - lo ≤ f → lo ≤ hi → hi ≤ x0.length → ∃ k, slices_BinarySearchFunc_api_Dot_api_Dot_string.l0 k x0 x1 φ2 (lo : Int) (hi : Int) =
   some (((bsGo (fun d => φ2 d x1) x0 f lo hi : Nat) : Int), decide (((bsGo (fun d => φ2 d x1) x0 f lo hi : Nat) : Int) < (x0.length : Int)) && decide (φ2 (x0.getD (bsGo (fun d => φ2 d x1) x0 f lo hi) default) x1 = 0)) := by
  intro f
  induction f with
  | zero =>
   intro lo hi h1 h2 h3
   have : lo = hi := by omega
   subst this
   refine ⟨1, ?_⟩
   simp only [slices_BinarySearchFunc_api_Dot_api_Dot_string.l0, Int.lt_irrefl, decide_false, Bool.false_eq_true, if_false, bsGo, Int.toNat_natCast]
   exact if_pos (fun h => ⟨by omega, by simpa using h⟩)
  | succ f ih =>
   intro lo hi h1 h2 h3
   by_cases hlt : lo < hi
   ·have hlt' : (lo : Int) < (hi : Int) := by omega
    have hr : (0 : Int) ≤ (((lo + hi) / 2 : Nat) : Int) ∧ (((lo + hi) / 2 : Nat) : Int) < (x0.length : Int) := ⟨by omega, by omega⟩
    have e1 : IntKind.wrap .i64 ((((lo + hi) / 2 : Nat) : Int) + 1) = (((lo + hi) / 2 + 1 : Nat) : Int) := by rw [w64 (by omega) (by omega)]; omega
    by_cases hc : φ2 (x0.getD ((lo + hi) / 2) default) x1 < 0
    ·obtain ⟨k, hk⟩ := ih ((lo + hi) / 2 + 1) hi (by omega) (by omega) h3
     refine ⟨k + 1, ?_⟩
     simp only [slices_BinarySearchFunc_api_Dot_api_Dot_string.l0, hlt', decide_true, if_true, half_eq (show lo < 9223372036854775808 by omega) (show hi < 9223372036854775808 by omega), hr, and_self, Int.toNat_natCast, hc, e1, bsGo, hlt]
     exact hk
    ·obtain ⟨k, hk⟩ := ih lo ((lo + hi) / 2) (by omega) (by omega) (by omega)
     refine ⟨k + 1, ?_⟩
     simp only [slices_BinarySearchFunc_api_Dot_api_Dot_string.l0, hlt', decide_true, if_true, half_eq (show lo < 9223372036854775808 by omega) (show hi < 9223372036854775808 by omega), hr, and_self, Int.toNat_natCast, hc, decide_false, Bool.false_eq_true, if_false, bsGo, hlt]
     exact hk
   ·have : lo = hi := by omega
    subst this
    refine ⟨1, ?_⟩
    simp only [slices_BinarySearchFunc_api_Dot_api_Dot_string.l0, Int.lt_irrefl, decide_false, Bool.false_eq_true, if_false, bsGo, Nat.lt_irrefl, Int.toNat_natCast]
    rw [if_pos (fun h => ⟨by omega, by simpa using h⟩)]
 obtain ⟨k, hk⟩ := go x0.length 0 x0.length (by omega) (by omega) (Nat.le_refl _)
 exact ⟨k, by unfold slices_BinarySearchFunc_api_Dot_api_Dot_string.f; exact hk⟩
theorem slices_BinarySearchFunc_api_Dot_api_Dot_string.ct {s0 : St} {v0 : Value} {x0 : (List Dot)} {v1 : Value} {x1 : Str} {v2 : Value} {g2 : FuncId} {caps2 : List Value} {φ2 : Dot → Str → Int} (k0 : (kSl kDot).V s0 v0 x0) (k1 : kS.V s0 v1 x1) (e2 : v2 = .func (.func g2) #[] caps2.toArray) (F2 : ∀ {s : St} {w0 : Value} {y0 : Dot} {w1 : Value} {y1 : Str}, Ext s0 s → kDot.V s w0 y0 → kS.V s w1 y1 → Cl Try.prog g2 ([w0, w1] ++ caps2).toArray s (Okf s (Fact.v (kI .i64) (φ2 y0 y1)))) : Cl Try.prog 151 #[v0, v1, v2] s0 (Okf s0 (Fact.tup [Fact.v (kI .i64) ((bsD x0 x1 φ2).1), Fact.v kB ((bsD x0 x1 φ2).2)])) := by
 obtain ⟨k, h⟩ := slices_BinarySearchFunc_api_Dot_api_Dot_string.nice x0 x1 φ2 (Kn.V_bd k0) (Kn.V_bd k1)
 exact slices_BinarySearchFunc_api_Dot_api_Dot_string.ok k0 k1 e2 F2 h
def vector_find (x0 : (List Dot)) (x1 : Str) : Int × Bool := ((bsD x0 x1 (fun y0 y1 => (vector_find_1 y0 y1))).1, (bsD x0 x1 (fun y0 y1 => (vector_find_1 y0 y1))).2)
theorem vector_find.ok {s0 : St} {v0 : Value} {x0 : (List Dot)} {v1 : Value} {x1 : Str} (k0 : (kSl kDot).V s0 v0 x0) (k1 : kS.V s0 v1 x1) : Cl Try.prog 145 #[v0, v1] s0 (Okf s0 (Fact.tup [Fact.v (kI .i64) ((vector_find x0 x1).1), Fact.v kB ((vector_find x0 x1).2)])) := by
 obtain ⟨r, h⟩ : ∃ r, some (vector_find x0 x1) = some r := ⟨_, rfl⟩
 rw [Option.some.inj h]
 have h : (some ((bsD x0 x1 (fun y0 y1 => (vector_find_1 y0 y1))).1, (bsD x0 x1 (fun y0 y1 => (vector_find_1 y0 y1))).2)) = some r := by rw [← h]; unfold vector_find; first | rfl | simp only [apply_ite some] | (repeat' (first | rfl | split))
 refine cl_of_wp Try.func145 rfl en_145 fun a hz hd hp => ?_; have hz : a.tmps.size = 11 := hz; have E := Chg.refl (fun _ => False) s0; have h0 := V_at k0 E (hp 0 v0 rfl); have h1 := V_at k1 E (hp 1 v1 rfl); refine wp_sr ?_; refine sq_blk [⟨4, _, []⟩, ⟨5, _, []⟩] [] hz rfl ⟨(fun a s he hf hz => av rfl rfl i0), (fun a s he hf hz => av rfl rfl b_f), trivial⟩ ?_; intro a1 s2 he hf hz hd1; have ⟨hd, E⟩ := hdE hd1 hd E he; obtain ⟨h0, h1⟩ := va2 he hf h0 h1 rfl; refine wp_sr ?_; refine sq_blk [⟨6, _, []⟩, ⟨7, _, []⟩, ⟨8, _, [0, 1]⟩, ⟨9, _, [2]⟩, ⟨10, _, [2]⟩, ⟨4, _, [3]⟩, ⟨5, _, [4]⟩] [5, 6] hz rfl ⟨mvs rfl rfl h0 rfl, mvs rfl rfl h1 rfl, (fun a s he hf hz q0 q1 => opw rfl (op_call rfl (argc rfl (argc rfl (argc rfl rfl))) (slices_BinarySearchFunc_api_Dot_api_Dot_string.ct q0 q1 rfl (φ2 := (fun y0 y1 => (vector_find_1 y0 y1))) (fun he' hv0 hv1 => vector_find_1.ok hv0 hv1)))), (fun a s he hf hz q2 => opw rfl (op_extract (f := Fact.v _ _) rfl q2 rfl)), (fun a s he hf hz q2 => opw rfl (op_extract (f := Fact.v _ _) rfl q2 rfl)), avq rfl rfl, avq rfl rfl, trivial⟩ ?_
 intro a3 s4 he hf hz hd1 h4 h5; have ⟨hd, E⟩ := hdE hd1 hd E he; refine wp_ret ?_; cases h
 exact ⟨hd, _, results_tmp2 rfl _ _ _, E, tup2 h4 h5⟩
def vector_at.f (k : Nat) (x0 : (List Dot)) (x1 : Str) : Option (Int) := (if (vector_find x0 x1).2 = true then (if (0 ≤ ((vector_find x0 x1).1) ∧ ((vector_find x0 x1).1) < (x0.length : Int)) then (some ((List.getD x0 ((vector_find x0 x1).1).toNat default).n)) else none) else (some 0))
theorem vector_at.ok {s0 : St} {v0 : Value} {x0 : (List Dot)} {v1 : Value} {x1 : Str} {k : Nat} {r : Int} (k0 : (kSl kDot).V s0 v0 x0) (k1 : kS.V s0 v1 x1) (h : vector_at.f k x0 x1 = some r) : Cl Try.prog 128 #[v0, v1] s0 (Okf s0 (Fact.v (kI .i64) r)) := by
 unfold vector_at.f at h
 refine cl_of_wp Try.func128 rfl en_128 fun a hz hd hp => ?_; have hz : a.tmps.size = 19 := hz; have E := Chg.refl (fun _ => False) s0; have h0 := V_at k0 E (hp 0 v0 rfl); have h1 := V_at k1 E (hp 1 v1 rfl); refine wp_sr ?_; refine sq_blk [⟨4, _, []⟩] [] hz rfl ⟨(fun a s he hf hz => av rfl rfl i0), trivial⟩ ?_; intro a1 s2 he hf hz hd1; have ⟨hd, E⟩ := hdE hd1 hd E he; obtain ⟨h0, h1⟩ := va2 he hf h0 h1 rfl; refine wp_seq ?_; refine wp_sr ?_; refine sq_blk [⟨8, _, []⟩, ⟨9, _, []⟩, ⟨10, _, [0, 1]⟩, ⟨7, _, [2]⟩, ⟨11, _, [3]⟩, ⟨12, _, [3]⟩, ⟨5, _, [4]⟩, ⟨6, _, [5]⟩] [6, 7] hz rfl ⟨mvs rfl rfl h0 rfl, mvs rfl rfl h1 rfl, (fun a s he hf hz q0 q1 => opw rfl (op_call rfl rfl (vector_find.ok q0 q1))), (fun a s he hf hz q2 => opw rfl (op_move rfl (f := Fact.tup _) q2)), (fun a s he hf hz q3 => opw rfl (op_extract (f := Fact.v _ _) rfl q3 rfl)), (fun a s he hf hz q3 => opw rfl (op_extract (f := Fact.v _ _) rfl q3 rfl)), avq rfl rfl, avq rfl rfl, trivial⟩ ?_; intro a3 s4 he hf hz hd1 h5 h6; have ⟨hd, E⟩ := hdE hd1 hd E he; have h0 := V_at h0 he (hf 0 rfl)
 refine wp_sr ?_; refine sq_blk [⟨13, _, []⟩] [0] hz rfl ⟨mvs rfl rfl h6 rfl, trivial⟩ ?_; intro a5 s6 he hf hz hd1 h13; have ⟨hd, E⟩ := hdE hd1 hd E he; obtain ⟨h0, h5⟩ := va2 he hf h0 h5 rfl; refine wp_condV h13 (fun hb => ?_) (fun hb => ?_)
 ·have h := ite_t hb h; refine wp_sr ?_; obtain ⟨D7, h⟩ := need h; refine sq_blk [⟨14, _, []⟩, ⟨15, _, []⟩, ⟨16, _, [0, 1]⟩, ⟨17, _, [2]⟩, ⟨18, _, [3]⟩, ⟨4, _, [4]⟩] [5] hz rfl ⟨mvs rfl rfl h0 rfl, mvs rfl rfl h5 rfl, (fun a s he hf hz q0 q1 => ia rfl rfl sl_32 q0 q1 D7.1 D7.2), (fun a s he hf hz q2 => opw rfl (op_faddr_p rfl fa_70_1 kDot_s1 q2)), (fun a s he hf hz q3 => lp rfl rfl ty_2 (by decide) q3), avq rfl rfl, trivial⟩ ?_; intro a8 s9 he hf hz hd1 h4; have ⟨hd, E⟩ := hdE hd1 hd E he; refine wp_ret ?_; cases h
  exact ⟨hd, _, results_tmp rfl _ _ _, E, h4⟩
 ·have h := ite_f hb h; refine wp_skip ?_; refine wp_sr ?_; refine sq_blk [⟨4, _, []⟩] [0] hz rfl ⟨(fun a s he hf hz => av rfl rfl i0), trivial⟩ ?_; intro a10 s11 he hf hz hd1 h4; have ⟨hd, E⟩ := hdE hd1 hd E he; refine wp_ret ?_; cases h
  exact ⟨hd, _, results_tmp rfl _ _ _, E, h4⟩
def atB (x : List Dot) (w : Str) : Int := if (vector_find x w).2 = true then (x.getD (vector_find x w).1.toNat default).n else 0
theorem vector_at.nice (x0 : List Dot) (x1 : Str) (b0 : (kSl kDot).bd x0) (b1 : kS.bd x1) : ∃ k, vector_at.f k x0 x1 = some (atB x0 x1) := by
 refine ⟨0, ?_⟩
 unfold vector_at.f atB
 cases h : (vector_find x0 x1).2
 ·rfl
 ·have h' := h
  simp only [vector_find, bsD, Bool.and_eq_true, decide_eq_true_eq] at h'
  rw [if_pos rfl, if_pos rfl, if_pos]
  exact ⟨by simp only [vector_find, bsD]; omega, by simp only [vector_find, bsD]; exact h'.1⟩
theorem vector_at.ct {s0 : St} {v0 : Value} {x0 : (List Dot)} {v1 : Value} {x1 : Str} (k0 : (kSl kDot).V s0 v0 x0) (k1 : kS.V s0 v1 x1) : Cl Try.prog 128 #[v0, v1] s0 (Okf s0 (Fact.v (kI .i64) (atB x0 x1))) := by
 obtain ⟨k, h⟩ := vector_at.nice x0 x1 (Kn.V_bd k0) (Kn.V_bd k1)
 exact vector_at.ok k0 k1 h
def vector_Has (x0 : (List Dot)) (x1 : Dot) : Bool := (((rightV x0) && (vector_isDot x1)) && (decide (x1.n ≤ (atB x0 x1.who))))
theorem vector_Has.ok {s0 : St} {v0 : Value} {x0 : (List Dot)} {v1 : Value} {x1 : Dot} (k0 : (kSl kDot).V s0 v0 x0) (k1 : kDot.V s0 v1 x1) : Cl Try.prog 95 #[v0, v1] s0 (Okf s0 (Fact.v kB (vector_Has x0 x1))) := by
 obtain ⟨r, h⟩ : ∃ r, some (vector_Has x0 x1) = some r := ⟨_, rfl⟩
 rw [Option.some.inj h]
 have h : (some (((rightV x0) && (vector_isDot x1)) && (decide (x1.n ≤ (atB x0 x1.who))))) = some r := by rw [← h]; unfold vector_Has; first | rfl | simp only [apply_ite some] | (repeat' (first | rfl | split))
 refine cl_of_wp Try.func95 rfl en_95 fun a hz hd hp => ?_; have hz : a.tmps.size = 20 := hz; have E := Chg.refl (fun _ => False) s0; have h0 := V_at k0 E (hp 0 v0 rfl); have h1 := V_at k1 E (hp 1 v1 rfl); refine wp_sr ?_; refine sq_set hz rfl rfl rfl (op_boxn rfl rfl h1 (fun s2 e4 he BB3 r5 => fun a1 h3 hf hz hd1 => ?_)); obtain ⟨b10, hb10⟩ : ∃ b, b = s0.w.heap.size := ⟨_, rfl⟩; rw [← hb10] at BB3 h3; have B10 := BB3; have l10 : s0.w.heap.size ≤ b10 := by have := E.size; omega
 have ⟨hd, E⟩ := hdE hd1 hd E he; have h0 := V_at h0 he (hf 0 rfl); obtain ⟨u6, u7, rfl, c8, c9⟩ := kDot_open r5; refine sq_blk [⟨4, _, []⟩] [] hz rfl ⟨(fun a s he hf hz => av rfl rfl b_f), trivial⟩ ?_; intro a11 s12 he hf hz hd1; have ⟨hd, E⟩ := hdE hd1 hd E he; have h0 := V_at h0 he (hf 0 rfl); have h3 := (hf 3 rfl).trans h3; have B10 := B10.ext he; obtain ⟨c8, c9⟩ := vm2 he c8 c9; refine wp_seq ?_; have hz0 := hz; refine wp_draw [⟨5, _, []⟩, ⟨6, _, [0]⟩, ⟨7, _, [1]⟩, ⟨8, _, [2]⟩, ⟨9, _, [2, 3]⟩, ⟨10, _, [2, 4]⟩, ⟨11, _, [5]⟩, ⟨12, _, [6]⟩, ⟨13, _, [6, 7]⟩, ⟨14, _, [6]⟩, ⟨15, _, [6]⟩, ⟨16, _, [6, 10]⟩, ⟨17, _, [6, 9, 11]⟩, ⟨18, _, [6, 8, 12]⟩, ⟨19, _, [6, 13]⟩, ⟨4, _, [14]⟩] [15] mo hz (by kernel_rfl) ⟨mvs rfl rfl h0 rfl, (fun a s he hf hz q0 => opw rfl (op_call rfl rfl (vector_Right.ct q0))), mvq rfl rfl, (fun a s he hf hz q2 => og rfl rfl rfl hz hz0 rfl q2 (fun g => op_loadn rfl ty_70 rfl ((hf 3 rfl).trans h3) (B10.ext he) rfl (kDot_eta (x := x1) (vm he c8) (vm he c9)))), (fun a s he hf hz q2 q3 => og rfl rfl rfl hz hz0 rfl q2 (fun g => op_call rfl rfl (vector_isDot.ok (q3.1 g)))), (fun a s he hf hz q2 q4 => an rfl rfl q2 (q4.1)), mvq rfl rfl, (fun a s he hf hz q6 => og rfl rfl rfl hz hz0 rfl q6 (fun g => op_faddr_b rfl fa_70_1 ((hf 3 rfl).trans h3))), (fun a s he hf hz q6 q7 => og rfl rfl rfl hz hz0 rfl q6 (fun g => op_load1 rfl ty_2 (q7.1 g) (B10.ext he) rfl (vm he c9))), (fun a s he hf hz q6 => og rfl rfl rfl hz hz0 rfl q6 (fun g => op_move_v rfl (V_at h0 he (hf 0 rfl)))), (fun a s he hf hz q6 => og rfl rfl rfl hz hz0 rfl q6 (fun g => op_faddr_b rfl fa_70_0 ((hf 3 rfl).trans h3))), (fun a s he hf hz q6 q10 => og rfl rfl rfl hz hz0 rfl q6 (fun g => op_load1 rfl ty_9 (q10.1 g) (B10.ext he) rfl (vm he c8))), (fun a s he hf hz q6 q9 q11 => og rfl rfl rfl hz hz0 rfl q6 (fun g => op_call rfl rfl (vector_at.ct (q9.1 g) (q11.1 g)))), (fun a s he hf hz q6 q8 q12 => og rfl rfl rfl hz hz0 rfl q6 (fun g => op_leq rfl (q8.1 g) (q12.1 g))), (fun a s he hf hz q6 q13 => an rfl rfl q6 (q13.1)), avq rfl rfl, trivial⟩ ?_
 intro a13 s14 he hf hz hd1 h4; have ⟨hd, E⟩ := hdE hd1 hd E he; refine wp_ret ?_; cases h
 exact ⟨hd, _, results_tmp rfl _ _ _, E, h4⟩
theorem cmp_lt (x y : Str) : Lib.compareBytes x y < 0 ↔ sLt x y = true := by
 unfold sLt
 induction x generalizing y with
 | nil => cases y <;> simp [Lib.compareBytes, Op.bytesLess]
 | cons a x ih =>
  cases y with
  | nil => simp [Lib.compareBytes, Op.bytesLess]
  | cons b y =>
   simp only [Lib.compareBytes, Op.bytesLess]
   rcases Nat.lt_trichotomy a.toNat b.toNat with h | h | h
   ·have h1 : a < b := UInt8.lt_iff_toNat_lt.2 h
    simp [h1]
   ·have h0 : a = b := UInt8.toNat_inj.1 h
    subst h0
    have h2 : ¬ a < a := fun h' => by have := UInt8.lt_iff_toNat_lt.1 h'; omega
    simp [h2, ih y]
   ·have h1 : b < a := UInt8.lt_iff_toNat_lt.2 h
    have h2 : ¬ a < b := fun h' => by have := UInt8.lt_iff_toNat_lt.1 h'; omega
    have h3 : ¬ a = b := fun h' => by rw [h'] at h; omega
    simp [h1, h2, h3]
theorem cmp_eq (x y : Str) : Lib.compareBytes x y = 0 ↔ x = y := by
 induction x generalizing y with
 | nil => cases y <;> simp [Lib.compareBytes]
 | cons a x ih =>
  cases y with
  | nil => simp [Lib.compareBytes]
  | cons b y =>
   simp only [Lib.compareBytes]
   rcases Nat.lt_trichotomy a.toNat b.toNat with h | h | h
   ·have h1 : a < b := UInt8.lt_iff_toNat_lt.2 h
    have h3 : ¬ a = b := fun h' => by rw [h'] at h; omega
    simp [h1, h3]
   ·have h0 : a = b := UInt8.toNat_inj.1 h
    subst h0
    have h2 : ¬ a < a := fun h' => by have := UInt8.lt_iff_toNat_lt.1 h'; omega
    simp [h2, ih y]
   ·have h1 : b < a := UInt8.lt_iff_toNat_lt.2 h
    have h2 : ¬ a < b := fun h' => by have := UInt8.lt_iff_toNat_lt.1 h'; omega
    have h3 : ¬ a = b := fun h' => by rw [h'] at h; omega
    simp [h1, h2, h3]
theorem sLt_irrefl (x : Str) : sLt x x = false := by
 have := sLt_tri x x
 cases h : sLt x x
 ·rfl
 ·rw [h] at this; simp at this
theorem sLt_ne {x y : Str} (h : sLt x y = true) : ¬ x = y := fun e => by subst e; rw [sLt_irrefl] at h; cases h
theorem sLt_trans {x y z : Str} (h1 : sLt x y = true) (h2 : sLt y z = true) : sLt x z = true := by
 unfold sLt at *
 induction x generalizing y z with
 | nil => cases z with
  | nil => cases y <;> simp [Op.bytesLess] at h2
  | cons c z => simp [Op.bytesLess]
 | cons a x ih =>
  cases y with
  | nil => simp [Op.bytesLess] at h1
  | cons b y =>
   cases z with
   | nil => simp [Op.bytesLess] at h2
   | cons c z =>
    simp only [Op.bytesLess, Bool.or_eq_true, Bool.and_eq_true, decide_eq_true_eq, beq_iff_eq] at h1 h2 ⊢
    rcases h1 with h1 | ⟨rfl, h1⟩ <;> rcases h2 with h2 | ⟨rfl, h2⟩
    ·exact .inl (UInt8.lt_iff_toNat_lt.2 (Nat.lt_trans (UInt8.lt_iff_toNat_lt.1 h1) (UInt8.lt_iff_toNat_lt.1 h2)))
    ·exact .inl h1
    ·exact .inl h2
    ·exact .inr ⟨rfl, ih h1 h2⟩
theorem sLt_not {x y : Str} (h1 : sLt x y = false) (h2 : ¬ x = y) : sLt y x = true := by
 have := sLt_tri x y
 rw [h1] at this
 simp only [h2, decide_false, Bool.or_self] at this
 cases h : sLt y x
 ·rw [h] at this; cases this
 ·rfl
theorem chainP_all : ∀ (l : List Dot) (p : Str), chainP p l = true → ∀ d ∈ l, sLt p d.who = true
 | [], _, _, _, h => by simp at h
 | e :: l, p, hc, d, hd => by
  simp only [chainP, Bool.and_eq_true] at hc
  rcases List.mem_cons.1 hd with rfl | hd
  ·exact hc.1.2
  ·exact sLt_trans hc.1.2 (chainP_all l e.who hc.2 d hd)
theorem chainV_lt : ∀ (l : List Dot), chainV l = true → ∀ (i j : Nat) (d e : Dot), i < j → l[i]? = some d → l[j]? = some e → sLt d.who e.who = true
 | [], _, _, _, _, _, _, h, _ => by simp at h
 | c :: l, hc, i, j, d, e, hij, hi, hj => by
  simp only [chainV, Bool.and_eq_true] at hc
  cases j with
  | zero => omega
  | succ j =>
   have hj : l[j]? = some e := by simpa using hj
   cases i with
   | zero =>
    have : c = d := by simpa using hi
    subst this
    exact chainP_all l c.who hc.2 e (List.mem_of_getElem? hj)
   | succ i =>
    have hi : l[i]? = some d := by simpa using hi
    refine chainV_lt l ?_ i j d e (by omega) hi hj
    cases l with
    | nil => rfl
    | cons f l => have h2 := hc.2; simp only [chainP, Bool.and_eq_true] at h2; simp only [chainV, Bool.and_eq_true]; exact ⟨h2.1.1, h2.2⟩
theorem bsGo_split (x : List Dot) (w : Str) (hs : ∀ (i j : Nat) (d e : Dot), i < j → x[i]? = some d → x[j]? = some e → sLt d.who e.who = true) : ∀ f lo hi : Nat, hi - lo ≤ f → lo ≤ hi → hi ≤ x.length → (∀ i d, i < lo → x[i]? = some d → sLt d.who w = true) → (∀ i d, hi ≤ i → x[i]? = some d → sLt d.who w = false) →
    (∀ i d, i < bsGo (fun d => Lib.compareBytes d.who w) x f lo hi → x[i]? = some d → sLt d.who w = true) ∧ (∀ i d, bsGo (fun d => Lib.compareBytes d.who w) x f lo hi ≤ i → x[i]? = some d → sLt d.who w = false) := by
  intro f
  induction f with
  | zero => intro lo hi h1 h2 h3 hl hh; have : lo = hi := by omega
            subst this; exact ⟨hl, hh⟩
  | succ f ih =>
    intro lo hi h1 h2 h3 hl hh
    unfold bsGo
    split
    · rename_i hlt
      have hm : (lo + hi) / 2 < x.length := by omega
      have hx : x[(lo + hi) / 2]? = some (x.getD ((lo + hi) / 2) default) := by rw [getD_at hm]; exact List.getElem?_eq_getElem hm
      split
      · rename_i hc
        have hc := (cmp_lt _ _).1 hc
        refine ih _ _ (by omega) (by omega) h3 (fun i d hi' hd => ?_) hh
        rcases Nat.lt_or_ge i ((lo + hi) / 2) with h | h
        · exact sLt_trans (hs i _ d _ h hd hx) hc
        · have : i = (lo + hi) / 2 := by omega
          subst this
          rw [hx] at hd; cases hd; exact hc
      · rename_i hc
        have hc : sLt (x.getD ((lo + hi) / 2) default).who w = false := by
          cases h : sLt (x.getD ((lo + hi) / 2) default).who w
          · rfl
          · exact absurd ((cmp_lt _ _).2 h) hc
        refine ih _ _ (by omega) (by omega) (by omega) hl (fun i d hi' hd => ?_)
        rcases Nat.lt_or_ge ((lo + hi) / 2) i with h | h
        · cases h' : sLt d.who w
          · rfl
          · have := sLt_trans (hs _ i _ d h hx hd) h'
            rw [hc] at this; cases this
        · have : i = (lo + hi) / 2 := by omega
          subst this
          rw [hx] at hd; cases hd; exact hc
    · have : lo = hi := by omega
      subst this; exact ⟨hl, hh⟩
theorem at_found {x : List Dot} {w : Str} {r : Nat} (hr : r < x.length) (he : (x.getD r default).who = w) (hlt : ∀ i d, i < r → x[i]? = some d → ¬ d.who = w) : at_ x w = (x.getD r default).n := by
 have : x.find? (fun d => decide (d.who = w)) = some (x.getD r default) := by
  rw [List.find?_eq_some_iff_getElem]
  refine ⟨decide_eq_true he, r, hr, (getD_at hr).symm, fun j hj => ?_⟩
  have := hlt j x[j] hj (List.getElem?_eq_getElem (by omega))
  simpa using this
 unfold at_; rw [this]
theorem at_none {x : List Dot} {w : Str} (h : ∀ d ∈ x, ¬ d.who = w) : at_ x w = 0 := by
 have : x.find? (fun d => decide (d.who = w)) = none := List.find?_eq_none.2 fun d hd => by simpa using h d hd
 unfold at_; rw [this]
theorem atB_eq {x : List Dot} (w : Str) (h : chainV x = true) : atB x w = at_ x w := by
 have hs := chainV_lt x h
 obtain ⟨h1, h2⟩ := bsGo_split x w hs x.length 0 x.length (by omega) (by omega) (Nat.le_refl _) (fun i d hi => by omega) (fun i d hi hd => by have := (List.getElem?_eq_some_iff.1 hd).1; omega)
 have hf : vector_find x w = (((bsGo (fun d => Lib.compareBytes d.who w) x x.length 0 x.length : Nat) : Int), decide (((bsGo (fun d => Lib.compareBytes d.who w) x x.length 0 x.length : Nat) : Int) < (x.length : Int)) && decide (Lib.compareBytes (x.getD (bsGo (fun d => Lib.compareBytes d.who w) x x.length 0 x.length) default).who w = 0)) := rfl
 unfold atB
 rw [hf]
 generalize bsGo (fun d => Lib.compareBytes d.who w) x x.length 0 x.length = r at *
 show (if (decide ((r : Int) < (x.length : Int)) && decide (Lib.compareBytes (x.getD r default).who w = 0)) = true then (x.getD ((r : Nat) : Int).toNat default).n else 0) = _
 by_cases hc : (decide ((r : Int) < (x.length : Int)) && decide (Lib.compareBytes (x.getD r default).who w = 0)) = true
 ·rw [if_pos hc, Int.toNat_natCast]
  simp only [Bool.and_eq_true, decide_eq_true_eq, cmp_eq] at hc
  exact (at_found (by omega) hc.2 fun i d hi hd => sLt_ne (h1 i d hi hd)).symm
 ·rw [if_neg hc]
  refine (at_none fun d hd e => ?_).symm
  obtain ⟨i, hi⟩ := List.getElem?_of_mem hd
  rcases Nat.lt_or_ge i r with h' | h'
  ·exact sLt_ne (h1 i d h' hi) e
  ·have hil := (List.getElem?_eq_some_iff.1 hi).1
   have hrl : r < x.length := by omega
   have hx : x[r]? = some (x.getD r default) := by rw [getD_at hrl]; exact List.getElem?_eq_getElem hrl
   have hn : ¬ (x.getD r default).who = w := fun e' => hc (by simp only [Bool.and_eq_true, decide_eq_true_eq, cmp_eq]; exact ⟨by omega, e'⟩)
   have hgt := sLt_not (h2 r _ (Nat.le_refl _) hx) hn
   rcases Nat.lt_or_ge r i with h3 | h3
   ·have := sLt_trans hgt (hs r i _ d h3 hx hi)
    rw [e, sLt_irrefl] at this; cases this
   ·have : i = r := by omega
    subst this
    rw [hx] at hi; cases hi; exact hn e
def hasV (x : List Dot) (d : Dot) : Bool := rightV x && vector_isDot d && decide (d.n ≤ at_ x d.who)
theorem vector_Has_eq (x : List Dot) (d : Dot) : vector_Has x d = hasV x d := by
 unfold vector_Has hasV
 cases h : rightV x
 ·rfl
 ·have : chainV x = true := by unfold rightV at h; simp only [Bool.and_eq_true] at h; exact h.2
  rw [atB_eq _ this]
theorem vector_Has.ct {s0 : St} {v0 : Value} {x0 : List Dot} {v1 : Value} {x1 : Dot} (k0 : (kSl kDot).V s0 v0 x0) (k1 : kDot.V s0 v1 x1) : Cl Try.prog 95 #[v0, v1] s0 (Okf s0 (Fact.v kB (hasV x0 x1))) := by
 rw [← vector_Has_eq]; exact vector_Has.ok k0 k1
def ref07_Has (x0 : (List Dot)) (x1 : Dot) : Bool := (((rightV x0) && (vector_isDot x1)) && (decide (x1.n ≤ (at_ x0 x1.who))))
theorem ref07_Has.ok {s0 : St} {v0 : Value} {x0 : (List Dot)} {v1 : Value} {x1 : Dot} (k0 : (kSl kDot).V s0 v0 x0) (k1 : kDot.V s0 v1 x1) : Cl Try.prog 101 #[v0, v1] s0 (Okf s0 (Fact.v kB (ref07_Has x0 x1))) := by
 obtain ⟨r, h⟩ : ∃ r, some (ref07_Has x0 x1) = some r := ⟨_, rfl⟩
 rw [Option.some.inj h]
 have h : (some (((rightV x0) && (vector_isDot x1)) && (decide (x1.n ≤ (at_ x0 x1.who))))) = some r := by rw [← h]; unfold ref07_Has; first | rfl | simp only [apply_ite some] | (repeat' (first | rfl | split))
 refine cl_of_wp Try.func101 rfl en_101 fun a hz hd hp => ?_; have hz : a.tmps.size = 24 := hz; have E := Chg.refl (fun _ => False) s0; have h0 := V_at k0 E (hp 0 v0 rfl); have h1 := V_at k1 E (hp 1 v1 rfl); refine wp_sr ?_; refine sq_set hz rfl rfl rfl (op_boxn rfl rfl h1 (fun s2 e4 he BB3 r5 => fun a1 h3 hf hz hd1 => ?_)); obtain ⟨b10, hb10⟩ : ∃ b, b = s0.w.heap.size := ⟨_, rfl⟩; rw [← hb10] at BB3 h3; have B10 := BB3; have l10 : s0.w.heap.size ≤ b10 := by have := E.size; omega
 have ⟨hd, E⟩ := hdE hd1 hd E he; have h0 := V_at h0 he (hf 0 rfl); obtain ⟨u6, u7, rfl, c8, c9⟩ := kDot_open r5; refine sq_blk [⟨4, _, []⟩] [] hz rfl ⟨(fun a s he hf hz => av rfl rfl b_f), trivial⟩ ?_; intro a11 s12 he hf hz hd1; have ⟨hd, E⟩ := hdE hd1 hd E he; have h0 := V_at h0 he (hf 0 rfl); have h3 := (hf 3 rfl).trans h3; have B10 := B10.ext he; obtain ⟨c8, c9⟩ := vm2 he c8 c9; refine wp_sr ?_; refine sq_blk [⟨7, _, []⟩, ⟨8, _, [0]⟩, ⟨5, _, [1]⟩] [2] hz rfl ⟨mvs rfl rfl h0 rfl, (fun a s he hf hz q0 => opw rfl (op_call rfl rfl (ref07_Right.ct q0))), avq rfl rfl, trivial⟩ ?_; intro a13 s14 he hf hz hd1 h5; have ⟨hd, E⟩ := hdE hd1 hd E he; have h0 := V_at h0 he (hf 0 rfl); have h3 := (hf 3 rfl).trans h3; have B10 := B10.ext he; obtain ⟨c8, c9⟩ := vm2 he c8 c9; refine wp_sr ?_; refine sq_blk [⟨9, _, []⟩, ⟨10, _, [0]⟩, ⟨6, _, [1]⟩] [2] hz rfl ⟨(fun a s he hf hz => ld rfl rfl ty_70 rfl ((hf 3 rfl).trans h3) (B10.ext he) rfl (kDot_eta (x := x1) (vm he c8) (vm he c9))), (fun a s he hf hz q0 => opw rfl (op_call rfl rfl (ref07_IsDot.ok q0))), avq rfl rfl, trivial⟩ ?_
 intro a15 s16 he hf hz hd1 h6; have ⟨hd, E⟩ := hdE hd1 hd E he; obtain ⟨h0, h5⟩ := va2 he hf h0 h5 rfl; have h3 := (hf 3 rfl).trans h3; have B10 := B10.ext he; obtain ⟨c8, c9⟩ := vm2 he c8 c9; refine wp_seq ?_; have hz0 := hz; refine wp_draw [⟨11, _, []⟩, ⟨12, _, [0]⟩, ⟨13, _, [1]⟩, ⟨14, _, [1, 2]⟩, ⟨15, _, [3]⟩, ⟨16, _, [4]⟩, ⟨17, _, [4, 5]⟩, ⟨18, _, [4]⟩, ⟨19, _, [4]⟩, ⟨20, _, [4, 8]⟩, ⟨21, _, [4, 7, 9]⟩, ⟨22, _, [4, 6, 10]⟩, ⟨23, _, [4, 11]⟩, ⟨4, _, [12]⟩] [13] mo hz (by kernel_rfl) ⟨mvs rfl rfl h5 rfl, mvq rfl rfl, (fun a s he hf hz q1 => og rfl rfl rfl hz hz0 rfl q1 (fun g => op_move_v rfl (V_at h6 he (hf 6 rfl)))), (fun a s he hf hz q1 q2 => an rfl rfl q1 (q2.1)), mvq rfl rfl, (fun a s he hf hz q4 => og rfl rfl rfl hz hz0 rfl q4 (fun g => op_faddr_b rfl fa_70_1 ((hf 3 rfl).trans h3))), (fun a s he hf hz q4 q5 => og rfl rfl rfl hz hz0 rfl q4 (fun g => op_load1 rfl ty_2 (q5.1 g) (B10.ext he) rfl (vm he c9))), (fun a s he hf hz q4 => og rfl rfl rfl hz hz0 rfl q4 (fun g => op_move_v rfl (V_at h0 he (hf 0 rfl)))), (fun a s he hf hz q4 => og rfl rfl rfl hz hz0 rfl q4 (fun g => op_faddr_b rfl fa_70_0 ((hf 3 rfl).trans h3))), (fun a s he hf hz q4 q8 => og rfl rfl rfl hz hz0 rfl q4 (fun g => op_load1 rfl ty_9 (q8.1 g) (B10.ext he) rfl (vm he c8))), (fun a s he hf hz q4 q7 q9 => og rfl rfl rfl hz hz0 rfl q4 (fun g => op_call rfl rfl (ref07_At.ct (q7.1 g) (q9.1 g)))), (fun a s he hf hz q4 q6 q10 => og rfl rfl rfl hz hz0 rfl q4 (fun g => op_leq rfl (q6.1 g) (q10.1 g))), (fun a s he hf hz q4 q11 => an rfl rfl q4 (q11.1)), avq rfl rfl, trivial⟩ ?_
 intro a17 s18 he hf hz hd1 h4; have ⟨hd, E⟩ := hdE hd1 hd E he; refine wp_ret ?_; cases h
 exact ⟨hd, _, results_tmp rfl _ _ _, E, h4⟩
end
section
attribute [local irreducible] Kn.V PtrV
def dotB (d : Dot) : Str := numB d.who.length ++ d.who ++ numB d.n.toNat
def vecB (x : List Dot) : Str := numB x.length ++ (x.map dotB).flatten
def layV (b : Str) (x : List Dot) : Str × Int := if rightV x = true then (b ++ vecB x, 0) else ([], 2)
theorem chainP_dot : ∀ (l : List Dot) (p : Str), chainP p l = true → ∀ d ∈ l, vector_isDot d = true
 | [], _, _, _, h => by simp at h
 | e :: l, p, hc, d, hd => by
  simp only [chainP, Bool.and_eq_true] at hc
  rcases List.mem_cons.1 hd with rfl | hd
  ·exact hc.1.1
  ·exact chainP_dot l e.who hc.2 d hd
theorem rightV_dot {x : List Dot} (h : rightV x = true) : x.length ≤ 64 ∧ ∀ d ∈ x, vector_isDot d = true := by
 unfold rightV at h
 simp only [Bool.and_eq_true, decide_eq_true_eq] at h
 refine ⟨h.1, ?_⟩
 rw [← chainP_nil] at h
 exact chainP_dot x [] h.2
theorem isDot_parts {d : Dot} (h : vector_isDot d = true) : isName d.who = true ∧ 1 ≤ d.n ∧ d.n ≤ 4611686018427387904 := by
 unfold vector_isDot at h
 simp only [Bool.and_eq_true, decide_eq_true_eq] at h
 exact ⟨h.1.1, h.1.2, h.2⟩
theorem isName_len {x : Str} (h : isName x = true) : 1 ≤ x.length ∧ x.length ≤ 24 := by
 unfold isName at h
 simp only [Bool.and_eq_true, decide_eq_true_eq] at h
 exact ⟨h.1.2, h.2⟩
theorem numB_le (n : Nat) : (numB n).length ≤ 9 := by rw [numB_len]; have := ext_le8 n; omega
theorem dotB_len {d : Dot} (h : vector_isDot d = true) : (dotB d).length ≤ 42 := by
 have := isName_len (isDot_parts h).1
 have h1 := numB_le d.who.length
 have h2 := numB_le d.n.toNat
 unfold dotB; simp only [List.length_append]; omega
theorem dots_len : ∀ {l : List Dot}, (∀ d ∈ l, vector_isDot d = true) → ((l.map dotB).flatten).length ≤ 42 * l.length
 | [], _ => by simp
 | d :: l, h => by
  have h1 := dotB_len (h d (List.mem_cons_self ..))
  have h2 := dots_len (l := l) fun e he => h e (List.mem_cons_of_mem _ he)
  simp only [List.map_cons, List.flatten_cons, List.length_append, List.length_cons]; omega
theorem wrap_u64i {n : Int} (h0 : 0 ≤ n) (h1 : n < 18446744073709551616) : IntKind.wrap .u64 n = n := by
 obtain ⟨q, rfl⟩ := Int.eq_ofNat_of_zero_le h0
 rw [wrap_u64, Nat.mod_eq_of_lt (by omega)]
theorem dot_laid (b : Str) {d : Dot} (h : vector_isDot d = true) : number (text b d.who) (IntKind.wrap .u64 d.n) = b ++ dotB d := by
 obtain ⟨_, h1, h2⟩ := isDot_parts h
 rw [wrap_u64i (by omega) (by omega)]
 simp [number, text, dotB]
def vector_Lay.l0 : Nat → (List Dot) → (List UInt8) → Int → Option ((List UInt8) × Int)
 | 0, _, _, _ => none
 | m18 + 1, x1, y15, y17 => (if decide (y17 < (x1.length : Int)) = true then (if (0 ≤ y17 ∧ y17 < (x1.length : Int)) then (if y15.length + ((List.getD x1 (y17).toNat default).who).length + 9 ≤ 140737488355328 then (if (text y15 ((List.getD x1 (y17).toNat default).who)).length + 9 ≤ 140737488355328 then (vector_Lay.l0 m18 x1 (number (text y15 ((List.getD x1 (y17).toNat default).who)) (IntKind.wrap .u64 ((List.getD x1 (y17).toNat default).n))) (IntKind.wrap .i64 (y17 + 1))) else none) else none) else none) else (some (y15, 0)))
def vector_Lay.f (k : Nat) (x0 : (List UInt8)) (x1 : (List Dot)) : Option ((List UInt8) × Int) := (if (!(rightV x1)) = true then (some (([] : (List UInt8)), 2)) else (if x0.length + 9 ≤ 140737488355328 then (vector_Lay.l0 k x1 (number x0 (IntKind.wrap .u64 (x1.length : Int))) 0) else none))
theorem vector_Lay.ok {s0 : St} {v0 : Value} {x0 : (List UInt8)} {v1 : Value} {x1 : (List Dot)} {k : Nat} {r : (List UInt8) × Int} (k0 : (kSl kY).V s0 v0 x0) (k1 : (kSl kDot).V s0 v1 x1) (h : vector_Lay.f k x0 x1 = some r) : Cl Try.prog 71 #[v0, v1] s0 (Okf s0 (Fact.tup [Fact.v (kSl kY) r.1, Fact.v (kI .i64) r.2])) := by
 unfold vector_Lay.f at h
 refine cl_of_wp Try.func71 rfl en_71 fun a hz hd hp => ?_; have hz : a.tmps.size = 33 := hz; have E := Chg.refl (fun _ => False) s0; have h0 := V_at k0 E (hp 0 v0 rfl); have h1 := V_at k1 E (hp 1 v1 rfl); refine wp_sr ?_; refine sq_blk [⟨4, _, []⟩, ⟨5, _, []⟩] [] hz rfl ⟨(fun a s he hf hz => av rfl rfl (lit_nil (d := kY))), (fun a s he hf hz => av rfl rfl i0), trivial⟩ ?_; intro a1 s2 he hf hz hd1; have ⟨hd, E⟩ := hdE hd1 hd E he; obtain ⟨h0, h1⟩ := va2 he hf h0 h1 rfl; refine wp_seq ?_; refine wp_sr ?_; refine sq_blk [⟨9, _, []⟩, ⟨10, _, [0]⟩, ⟨11, _, [1]⟩] [2] hz rfl ⟨mvs rfl rfl h1 rfl, (fun a s he hf hz q0 => opw rfl (op_call rfl rfl (vector_Right.ct q0))), (fun a s he hf hz q1 => no_ rfl rfl q1), trivial⟩ ?_; intro a3 s4 he hf hz hd1 h11; have ⟨hd, E⟩ := hdE hd1 hd E he; obtain ⟨h0, h1⟩ := va2 he hf h0 h1 rfl; refine wp_condV h11 (fun hb => ?_) (fun hb => ?_)
 ·have h := ite_t hb h; refine wp_sr ?_; refine sq_blk [⟨4, _, []⟩, ⟨5, _, []⟩] [0, 1] hz rfl ⟨(fun a s he hf hz => av rfl rfl (lit_nil (d := kY))), (fun a s he hf hz => av rfl rfl (lit_i (k := .i64) (n := 2) (by decide))), trivial⟩ ?_; intro a5 s6 he hf hz hd1 h4 h5; have ⟨hd, E⟩ := hdE hd1 hd E he; refine wp_ret ?_; cases h
  exact ⟨hd, _, results_tmp2 rfl _ _ _, E, tup2 h4 h5⟩
 ·have h := ite_f hb h; refine wp_skip ?_; refine wp_sr ?_; obtain ⟨D7, h⟩ := need h; refine sq_blk [⟨12, _, []⟩, ⟨13, _, []⟩, ⟨14, _, [1]⟩, ⟨15, _, [2]⟩, ⟨16, _, [0, 3]⟩, ⟨6, _, [4]⟩] [5] hz rfl ⟨mvs rfl rfl h0 rfl, mvs rfl rfl h1 rfl, (fun a s he hf hz q1 => le_ rfl rfl u_32 q1), (fun a s he hf hz q2 => cv rfl rfl u_3 u_89 q2), (fun a s he hf hz q0 q3 => opw rfl (op_call_f rfl rfl (f := Fact.own (kSl kY) 5 1 (fun g => s4.w.heap.size ≤ g) (number x0 (IntKind.wrap .u64 (x1.length : Int)))) (Cl.mono (wire_Number.ct q0 q3 D7) (own_w he)))), (fun a s he hf hz q4 => opw rfl (op_assign rfl (f := Fact.own _ _ _ _ _) q4)), trivial⟩ ?_; intro a8 s9 he hf hz hd1 k6; have hd := hd1.trans hd; have f6' : ∀ g, sb (a8.get 6) = some g → s0.w.heap.size ≤ g := fun g hg => by have h1 := k6.2.2 g hg; have h2 := E.size; exact (by omega)
  have h1 := V_at h1 he (hf 1 rfl); have E := E.trans he; have h6 := k6.1; have p6 := k6.2.1; have f6 := f6'; refine wp_seq ?_; refine wp_sr ?_; refine sq_blk [⟨17, _, []⟩, ⟨18, _, [0]⟩, ⟨19, _, []⟩] [0, 1, 2] hz rfl ⟨mvs rfl rfl h1 rfl, (fun a s he hf hz q0 => le_ rfl rfl u_32 q0), (fun a s he hf hz => mv rfl rfl i0), trivial⟩ ?_; intro a11 s12 he hf hz hd1 h17 h18 h19; have ⟨hd, E⟩ := hdE hd1 hd E he; have p6 := pa he p6 (hf 6 rfl); have f6 := sb_at f6 (hf 6 rfl); have h6 := V_at h6 he (hf 6 rfl); refine wp_block ?_; refine wp_loop (k := k) (fun m18 a s => ∃ (y15 : (List UInt8)) (y17 : Int), vector_Lay.l0 m18 x1 y15 y17 = some r ∧ m18 ≤ k ∧ Ext s0 s ∧ a.tmps.size = 33 ∧ a.defers = [] ∧ (kSl kY).V s (a.get 6) y15 ∧ Sp s (a.get 6) 5 1 ∧ (∀ g, sb (a.get 6) = some g → s0.w.heap.size ≤ g) ∧ (kSl kDot).V s (a.get 17) x1 ∧ (kI .i64).V s (a.get 18) (x1.length : Int) ∧ (kI .i64).V s (a.get 19) y17) ⟨_, _, h, Nat.le_refl _, E, hz, hd, h6, p6, f6, h17, h18, h19⟩ ?_; rintro m18 a14 s13 ⟨y15, y17, h, hkm18, E, hz, hd, h6, p6, f6, h17, h18, h19⟩; obtain _ | m18 := m18
  ·cases h
  refine wp_sr ?_; refine sq_blk [⟨20, _, []⟩] [0] hz rfl ⟨(fun a s he hf hz => ls rfl rfl (V_at h19 he (hf 19 rfl)) (V_at h18 he (hf 18 rfl))), trivial⟩ ?_; intro a19 s20 he hf hz hd1 h20; have ⟨hd, E⟩ := hdE hd1 hd E he; have p6 := pa he p6 (hf 6 rfl); have f6 := sb_at f6 (hf 6 rfl); obtain ⟨h6, h17, h18, h19⟩ := va4 he hf h6 h17 h18 h19 rfl; refine wp_seq ?_; refine wp_condV h20 (fun hb => ?_) (fun hb => ?_)
  ·have h := ite_t hb h; refine wp_skip ?_; refine wp_seq ?_; refine wp_block ?_; refine wp_sr ?_; obtain ⟨D21, h⟩ := need h; refine sq_blk [⟨21, _, []⟩, ⟨22, _, [0]⟩] [1] hz rfl ⟨(fun a s he hf hz => ia rfl rfl sl_32 (V_at h17 he (hf 17 rfl)) (V_at h19 he (hf 19 rfl)) D21.1 D21.2), (fun a s he hf hz q0 => lp rfl rfl ty_70 (by decide) q0), trivial⟩ ?_; intro a22 s23 he hf hz hd1 h22; have ⟨hd, E⟩ := hdE hd1 hd E he; have p6 := pa he p6 (hf 6 rfl); have f6 := sb_at f6 (hf 6 rfl); obtain ⟨h6, h17, h18, h19⟩ := va4 he hf h6 h17 h18 h19 rfl; refine sq_set hz rfl rfl rfl (op_alloc (cs := [.string ⟨#[]⟩, .int .i64 0]) rfl zv_70 rfl (fun s25 he BB26 => fun a24 h8 hf hz hd1 => ?_)); obtain ⟨b29, hb29⟩ : ∃ b, b = s23.w.heap.size := ⟨_, rfl⟩; rw [← hb29] at BB26 h8; have B29 := BB26; have l29 : s0.w.heap.size ≤ b29 := by have := E.size; omega
   have f6 : ∀ g, sb (a22.get 6) = some g → s0.w.heap.size ≤ g ∧ g ≠ b29 := fun g hg => ⟨(f6 g hg), (by have := Spare.lt p6 hg; omega)⟩; have ⟨hd, E⟩ := hdE hd1 hd E he; have p6 := pa he p6 (hf 6 rfl); have f6 := sb_at f6 (hf 6 rfl); obtain ⟨h6, h17, h18, h19, h22⟩ := va5 he hf h6 h17 h18 h19 h22 rfl; have c27 : kS.V s25 (.string ⟨#[]⟩) ([] : Str) := s_0; have c28 : (kI .i64).V s25 (.int .i64 0) 0 := i0; refine sq_do rfl rfl (op_storen rfl ty_70 rfl h8 B29 h22 rfl (fun s31 e32 he B29n r33 => ?_)); have p6 := Sp_at p6 he (fun g hg => (fun e => (f6 g hg).2 e)) rfl; obtain ⟨h6, h17, h18, h19⟩ := vm4 he h6 h17 h18 h19; have E := Chg.chg E he (fun b e h => (fun e => absurd h (by cases e; exact Nat.not_lt.2 l29)) e); obtain ⟨u34, u35, rfl, c36, c37⟩ := kDot_open r33; have B29 : Bx s31 b29 70 [u34, u35] := B29n; obtain ⟨D38, h⟩ := need h; obtain ⟨D39, h⟩ := need h; refine wp_draw [⟨23, _, []⟩, ⟨24, _, []⟩, ⟨25, _, [1]⟩, ⟨26, _, [0, 2]⟩, ⟨27, _, []⟩, ⟨28, _, [4]⟩, ⟨29, _, [5]⟩, ⟨30, _, [3, 6]⟩] [7] mo hz (by kernel_rfl) ⟨(fun a s he hf hz => opw rfl (op_move rfl (f := Fact.own _ _ _ _ _) (own_at h6 p6 f6 he (hf 6 rfl)))), (fun a s he hf hz => fb rfl rfl fa_70_0 ((hf 8 rfl).trans h8)), (fun a s he hf hz q1 => lo rfl rfl ty_9 q1 (B29.ext he) rfl (vm he c36)), (fun a s he hf hz q0 q2 => opw rfl (op_call_f rfl rfl (f := Fact.own (kSl kY) 5 1 (fun g => s31.w.heap.size ≤ g) (text y15 ((List.getD x1 (y17).toNat default).who))) (Cl.mono (wire_Text.ct q0.1 q2 D38) (own_w he)))), (fun a s he hf hz => fb rfl rfl fa_70_1 ((hf 8 rfl).trans h8)), (fun a s he hf hz q4 => lo rfl rfl ty_2 q4 (B29.ext he) rfl (vm he c37)), (fun a s he hf hz q5 => cv rfl rfl u_2 u_89 q5), (fun a s he hf hz q3 q6 => opw rfl (op_call_f rfl rfl (f := Fact.own (kSl kY) 5 1 (fun g => s31.w.heap.size ≤ g) (number (text y15 ((List.getD x1 (y17).toNat default).who)) (IntKind.wrap .u64 ((List.getD x1 (y17).toNat default).n)))) (Cl.mono (wire_Number.ct q3.1 q6 D39) (own_w he)))), trivial⟩ ?_
   intro a40 s41 he hf hz hd1 k30; have hd := hd1.trans hd; have f30' : ∀ g, sb (a40.get 30) = some g → s0.w.heap.size ≤ g ∧ g ≠ b29 := fun g hg => by have h1 := k30.2.2 g hg; have h2 := E.size; have l29 := B29.lt; exact ⟨(by omega), (by omega)⟩
   obtain ⟨h17, h18, h19⟩ := va3 he hf h17 h18 h19 rfl; have E := E.trans he; have h30 := k30.1; have p30 := k30.2.1; have f30 := f30'; refine sq_blk [⟨6, _, []⟩] [0] hz rfl ⟨(fun a s he hf hz => opw rfl (op_assign rfl (f := Fact.own _ _ _ _ _) (own_at h30 p30 f30 he (hf 30 rfl)))), trivial⟩ ?_; intro a43 s44 he hf hz hd1 k6; have ⟨hd, E⟩ := hdE hd1 hd E he; obtain ⟨h17, h18, h19⟩ := va3 he hf h17 h18 h19 rfl; have h6 := k6.1; have p6 := k6.2.1; have f6 := k6.2.2; refine wp_region ?_; refine sq_blk [⟨31, _, []⟩] [0] hz rfl ⟨(fun a s he hf hz => ad rfl rfl (V_at h19 he (hf 19 rfl)) i1), trivial⟩ ?_; intro a45 s46 he hf hz hd1 h31; have ⟨hd, E⟩ := hdE hd1 hd E he; have p6 := pa he p6 (hf 6 rfl); have f6 := sb_at f6 (hf 6 rfl); obtain ⟨h6, h17, h18⟩ := va3 he hf h6 h17 h18 rfl; refine sq_blk [⟨19, _, []⟩] [0] hz rfl ⟨mvs rfl rfl h31 rfl, trivial⟩ ?_; intro a47 s48 he hf hz hd1 h19; have ⟨hd, E⟩ := hdE hd1 hd E he; have p6 := pa he p6 (hf 6 rfl); have f6 := sb_at f6 (hf 6 rfl); obtain ⟨h6, h17, h18⟩ := va3 he hf h6 h17 h18 rfl
   exact ⟨_, (by omega : m18 < m18 + 1), _, _, h, by omega, E, hz, hd, h6, p6, (fun g hg => (f6 g hg).1), h17, h18, h19⟩
  ·have h := ite_f hb h; refine wp_exit ?_; refine then_exit ?_; refine then_exit ?_; refine inBlock_hit ?_; refine wp_sr ?_; refine sq_blk [⟨32, _, []⟩, ⟨4, _, [0]⟩, ⟨5, _, []⟩] [1, 2] hz rfl ⟨(fun a s he hf hz => opw rfl (op_move rfl (f := Fact.own _ _ _ _ _) (own_at h6 p6 f6 he (hf 6 rfl)))), (fun a s he hf hz q0 => opw rfl (op_assign rfl (f := Fact.own _ _ _ _ _) q0)), (fun a s he hf hz => av rfl rfl i0), trivial⟩ ?_; intro a49 s50 he hf hz hd1 k4 h5; have ⟨hd, E⟩ := hdE hd1 hd E he; have h4 := k4.1; refine wp_ret ?_; cases h
   exact ⟨hd, _, results_tmp2 rfl _ _ _, E, tup2 h4 h5⟩
theorem vector_Lay.nice (x0 : Str) (x1 : List Dot) (b0 : (kSl kY).bd x0) (b1 : (kSl kDot).bd x1) (hl : x0.length + 4000 ≤ 140737488355328) : ∃ k, vector_Lay.f k x0 x1 = some (layV x0 x1) := by
 have hm := maxLen_lt
 unfold vector_Lay.f layV
 cases hr : rightV x1
 ·exact ⟨0, rfl⟩
 ·obtain ⟨h64, hd⟩ := rightV_dot hr
  have : ∀ y, y ≤ x1.length → ∀ acc : Str, acc.length + 42 * (x1.length - y) + 20 ≤ 140737488355328 → ∃ k, vector_Lay.l0 k x1 acc (y : Int) = some (acc ++ ((x1.drop y).map dotB).flatten, 0) := by
   refine rounds x1.length (fun acc _ => ⟨1, ?_⟩) fun y hy ih acc ha => ?_
   ·simp only [vector_Lay.l0, List.drop_length]; simp
   ·have hdy : vector_isDot (x1.getD y default) = true := hd _ (by rw [getD_at hy]; exact List.getElem_mem hy)
    have hw := isName_len (isDot_parts hdy).1
    have hlen := dotB_len hdy
    obtain ⟨k, hk⟩ := ih (acc ++ dotB (x1.getD y default)) (by rw [List.length_append]; omega)
    push_cast at hk
    have hr' : (0 : Int) ≤ y ∧ (y : Int) < x1.length := ⟨by omega, by omega⟩
    have ht : (text acc (x1.getD y default).who).length ≤ acc.length + 33 := by
     have := numB_le (x1.getD y default).who.length
     simp only [text, number, Int.toNat_natCast, List.length_append]; omega
    refine ⟨k + 1, ?_⟩
    simp only [vector_Lay.l0, Int.toNat_natCast, hr', and_self, decide_true, if_true]
    rw [if_pos (by omega), if_pos (by omega), dot_laid _ hdy, w64s (by omega), hk, drop_at default hy]
    simp
  have e : IntKind.wrap .u64 (x1.length : Int) = (x1.length : Int) := wrap_u64i (by omega) (by omega)
  have hn := numB_le x1.length
  obtain ⟨k, hk⟩ := this 0 (Nat.zero_le _) (number x0 (x1.length : Int)) (by simp only [number, Int.toNat_natCast, List.length_append]; omega)
  refine ⟨k, ?_⟩
  rw [if_neg (by simp), if_pos (by omega), if_pos rfl, e]
  refine hk.trans ?_
  simp [number, vecB]
theorem vector_Lay.ct {s0 : St} {v0 : Value} {x0 : (List UInt8)} {v1 : Value} {x1 : (List Dot)} (k0 : (kSl kY).V s0 v0 x0) (k1 : (kSl kDot).V s0 v1 x1) (hpre : x0.length + 4000 ≤ 140737488355328) : Cl Try.prog 71 #[v0, v1] s0 (Okf s0 (Fact.tup [Fact.v (kSl kY) ((layV x0 x1).1), Fact.v (kI .i64) ((layV x0 x1).2)])) := by
 obtain ⟨k, h⟩ := vector_Lay.nice x0 x1 (Kn.V_bd k0) (Kn.V_bd k1) hpre
 exact vector_Lay.ok k0 k1 h
def ref07_Lay.l0 : Nat → (List Dot) → (List UInt8) → Int → Option ((List UInt8) × Int)
 | 0, _, _, _ => none
 | m20 + 1, x1, y17, y19 => (if decide (y19 < (x1.length : Int)) = true then (if (0 ≤ y19 ∧ y19 < (x1.length : Int)) then (if y17.length + ((List.getD x1 (y19).toNat default).who).length + 9 ≤ 140737488355328 then (if (text y17 ((List.getD x1 (y19).toNat default).who)).length + 9 ≤ 140737488355328 then (ref07_Lay.l0 m20 x1 (number (text y17 ((List.getD x1 (y19).toNat default).who)) (IntKind.wrap .u64 ((List.getD x1 (y19).toNat default).n))) (IntKind.wrap .i64 (y19 + 1))) else none) else none) else none) else (some (y17, 0)))
def ref07_Lay.f (k : Nat) (x0 : (List UInt8)) (x1 : (List Dot)) : Option ((List UInt8) × Int) := (if (!(rightV x1)) = true then (some (([] : (List UInt8)), 2)) else (if x0.length + 9 ≤ 140737488355328 then (ref07_Lay.l0 k x1 (number x0 (IntKind.wrap .u64 (x1.length : Int))) 0) else none))
theorem ref07_Lay.ok {s0 : St} {v0 : Value} {x0 : (List UInt8)} {v1 : Value} {x1 : (List Dot)} {k : Nat} {r : (List UInt8) × Int} (k0 : (kSl kY).V s0 v0 x0) (k1 : (kSl kDot).V s0 v1 x1) (h : ref07_Lay.f k x0 x1 = some r) : Cl Try.prog 76 #[v0, v1] s0 (Okf s0 (Fact.tup [Fact.v (kSl kY) r.1, Fact.v (kI .i64) r.2])) := by
 unfold ref07_Lay.f at h
 refine cl_of_wp Try.func76 rfl en_76 fun a hz hd hp => ?_; have hz : a.tmps.size = 39 := hz; have E := Chg.refl (fun _ => False) s0; have h0 := V_at k0 E (hp 0 v0 rfl); have h1 := V_at k1 E (hp 1 v1 rfl); refine wp_sr ?_; refine sq_blk [⟨4, _, []⟩, ⟨5, _, []⟩] [] hz rfl ⟨(fun a s he hf hz => av rfl rfl (lit_nil (d := kY))), (fun a s he hf hz => av rfl rfl i0), trivial⟩ ?_; intro a1 s2 he hf hz hd1; have ⟨hd, E⟩ := hdE hd1 hd E he; obtain ⟨h0, h1⟩ := va2 he hf h0 h1 rfl; refine wp_sr ?_; refine sq_blk [⟨9, _, []⟩, ⟨10, _, [0]⟩, ⟨6, _, [1]⟩] [2] hz rfl ⟨mvs rfl rfl h1 rfl, (fun a s he hf hz q0 => opw rfl (op_call rfl rfl (ref07_Right.ct q0))), avq rfl rfl, trivial⟩ ?_; intro a3 s4 he hf hz hd1 h6; have ⟨hd, E⟩ := hdE hd1 hd E he; obtain ⟨h0, h1⟩ := va2 he hf h0 h1 rfl; refine wp_seq ?_; refine wp_sr ?_; refine sq_blk [⟨11, _, []⟩, ⟨12, _, [0]⟩] [1] hz rfl ⟨mvs rfl rfl h6 rfl, (fun a s he hf hz q0 => no_ rfl rfl q0), trivial⟩ ?_; intro a5 s6 he hf hz hd1 h12; have hd := hd1.trans hd
 obtain ⟨h0, h1⟩ := va2 he hf h0 h1 rfl; have E := E.trans he; refine wp_condV h12 (fun hb => ?_) (fun hb => ?_)
 ·have h := ite_t hb h; refine wp_sr ?_; refine sq_blk [⟨4, _, []⟩, ⟨5, _, []⟩] [0, 1] hz rfl ⟨(fun a s he hf hz => av rfl rfl (lit_nil (d := kY))), (fun a s he hf hz => av rfl rfl (lit_i (k := .i64) (n := 2) (by decide))), trivial⟩ ?_; intro a7 s8 he hf hz hd1 h4 h5; have ⟨hd, E⟩ := hdE hd1 hd E he; refine wp_ret ?_; cases h
  exact ⟨hd, _, results_tmp2 rfl _ _ _, E, tup2 h4 h5⟩
 ·have h := ite_f hb h; refine wp_skip ?_; refine wp_sr ?_; obtain ⟨D9, h⟩ := need h; refine sq_blk [⟨13, _, []⟩, ⟨14, _, []⟩, ⟨15, _, [1]⟩, ⟨16, _, [2]⟩, ⟨17, _, [0, 3]⟩, ⟨7, _, [4]⟩] [5] hz rfl ⟨mvs rfl rfl h0 rfl, mvs rfl rfl h1 rfl, (fun a s he hf hz q1 => le_ rfl rfl u_32 q1), (fun a s he hf hz q2 => cv rfl rfl u_3 u_89 q2), (fun a s he hf hz q0 q3 => opw rfl (op_call_f rfl rfl (f := Fact.own (kSl kY) 5 1 (fun g => s6.w.heap.size ≤ g) (number x0 (IntKind.wrap .u64 (x1.length : Int)))) (Cl.mono (ref02_Number.ct q0 q3 D9) (own_w he)))), (fun a s he hf hz q4 => opw rfl (op_assign rfl (f := Fact.own _ _ _ _ _) q4)), trivial⟩ ?_; intro a10 s11 he hf hz hd1 k7; have hd := hd1.trans hd; have f7' : ∀ g, sb (a10.get 7) = some g → s0.w.heap.size ≤ g := fun g hg => by have h1 := k7.2.2 g hg; have h2 := E.size; exact (by omega)
  have h1 := V_at h1 he (hf 1 rfl); have E := E.trans he; have h7 := k7.1; have p7 := k7.2.1; have f7 := f7'; refine wp_seq ?_; refine wp_sr ?_; refine sq_blk [⟨8, _, []⟩] [0] hz rfl ⟨(fun a s he hf hz => av rfl rfl i0), trivial⟩ ?_; intro a13 s14 he hf hz hd1 h8; have ⟨hd, E⟩ := hdE hd1 hd E he; have p7 := pa he p7 (hf 7 rfl); have f7 := sb_at f7 (hf 7 rfl); obtain ⟨h1, h7⟩ := va2 he hf h1 h7 rfl; refine wp_block ?_; refine wp_loop (k := k) (fun m20 a s => ∃ (y17 : (List UInt8)) (y19 : Int), ref07_Lay.l0 m20 x1 y17 y19 = some r ∧ m20 ≤ k ∧ Ext s0 s ∧ a.tmps.size = 39 ∧ a.defers = [] ∧ (kSl kDot).V s (a.get 1) x1 ∧ (kSl kY).V s (a.get 7) y17 ∧ Sp s (a.get 7) 5 1 ∧ (∀ g, sb (a.get 7) = some g → s0.w.heap.size ≤ g) ∧ (kI .i64).V s (a.get 8) y19) ⟨_, _, h, Nat.le_refl _, E, hz, hd, h1, h7, p7, f7, h8⟩ ?_; rintro m20 a16 s15 ⟨y17, y19, h, hkm20, E, hz, hd, h1, h7, p7, f7, h8⟩; obtain _ | m20 := m20
  ·cases h
  refine wp_seq ?_; refine wp_sr ?_; refine sq_blk [⟨18, _, []⟩, ⟨19, _, []⟩, ⟨20, _, [1]⟩, ⟨21, _, [0, 2]⟩] [3] hz rfl ⟨mvs rfl rfl h8 rfl, mvs rfl rfl h1 rfl, (fun a s he hf hz q1 => le_ rfl rfl u_32 q1), (fun a s he hf hz q0 q2 => ls rfl rfl q0 q2), trivial⟩ ?_; intro a21 s22 he hf hz hd1 h21; have ⟨hd, E⟩ := hdE hd1 hd E he; have p7 := pa he p7 (hf 7 rfl); have f7 := sb_at f7 (hf 7 rfl); obtain ⟨h1, h7, h8⟩ := va3 he hf h1 h7 h8 rfl; refine wp_condV h21 (fun hb => ?_) (fun hb => ?_)
  ·have h := ite_t hb h; refine wp_skip ?_; refine wp_seq ?_; refine wp_block ?_; obtain ⟨D23, h⟩ := need h; obtain ⟨D24, h⟩ := need h; obtain ⟨D25, h⟩ := need h; refine wp_draw [⟨24, _, []⟩, ⟨25, _, []⟩, ⟨26, _, []⟩, ⟨27, _, [1, 2]⟩, ⟨28, _, [3]⟩, ⟨29, _, [4]⟩, ⟨30, _, [0, 5]⟩, ⟨31, _, []⟩, ⟨32, _, []⟩, ⟨33, _, [7, 8]⟩, ⟨34, _, [9]⟩, ⟨35, _, [10]⟩, ⟨36, _, [11]⟩, ⟨37, _, [6, 12]⟩] [13] mo hz (by kernel_rfl) ⟨(fun a s he hf hz => opw rfl (op_move rfl (f := Fact.own _ _ _ _ _) (own_at h7 p7 f7 he (hf 7 rfl)))), mvs rfl rfl h1 rfl, mvs rfl rfl h8 rfl, (fun a s he hf hz q1 q2 => ia rfl rfl sl_32 q1 q2 D23.1 D23.2), (fun a s he hf hz q3 => opw rfl (op_faddr_p rfl fa_70_0 kDot_s0 q3)), (fun a s he hf hz q4 => lp rfl rfl ty_9 (by decide) q4), (fun a s he hf hz q0 q5 => opw rfl (op_call_f rfl rfl (f := Fact.own (kSl kY) 5 1 (fun g => s22.w.heap.size ≤ g) (text y17 ((List.getD x1 (y19).toNat default).who))) (Cl.mono (ref02_Text.ct q0.1 q5 D24) (own_w he)))), mvs rfl rfl h1 rfl, mvs rfl rfl h8 rfl, (fun a s he hf hz q7 q8 => ia rfl rfl sl_32 q7 q8 D23.1 D23.2), (fun a s he hf hz q9 => opw rfl (op_faddr_p rfl fa_70_1 kDot_s1 q9)), (fun a s he hf hz q10 => lp rfl rfl ty_2 (by decide) q10), (fun a s he hf hz q11 => cv rfl rfl u_2 u_89 q11), (fun a s he hf hz q6 q12 => opw rfl (op_call_f rfl rfl (f := Fact.own (kSl kY) 5 1 (fun g => s22.w.heap.size ≤ g) (number (text y17 ((List.getD x1 (y19).toNat default).who)) (IntKind.wrap .u64 ((List.getD x1 (y19).toNat default).n)))) (Cl.mono (ref02_Number.ct q6.1 q12 D25) (own_w he)))), trivial⟩ ?_
   intro a26 s27 he hf hz hd1 k37; have hd := hd1.trans hd; have f37' : ∀ g, sb (a26.get 37) = some g → s0.w.heap.size ≤ g := fun g hg => by have h1 := k37.2.2 g hg; have h2 := E.size; exact (by omega)
   obtain ⟨h1, h8⟩ := va2 he hf h1 h8 rfl; have E := E.trans he; have h37 := k37.1; have p37 := k37.2.1; have f37 := f37'; refine sq_blk [⟨7, _, []⟩] [0] hz rfl ⟨(fun a s he hf hz => opw rfl (op_assign rfl (f := Fact.own _ _ _ _ _) (own_at h37 p37 f37 he (hf 37 rfl)))), trivial⟩ ?_; intro a29 s30 he hf hz hd1 k7; have ⟨hd, E⟩ := hdE hd1 hd E he; obtain ⟨h1, h8⟩ := va2 he hf h1 h8 rfl; have h7 := k7.1; have p7 := k7.2.1; have f7 := k7.2.2; refine wp_region ?_; refine sq_blk [⟨22, _, []⟩, ⟨23, _, [0]⟩] [1] hz rfl ⟨mvs rfl rfl h8 rfl, (fun a s he hf hz q0 => ad rfl rfl q0 i1), trivial⟩ ?_; intro a31 s32 he hf hz hd1 h23; have ⟨hd, E⟩ := hdE hd1 hd E he; have p7 := pa he p7 (hf 7 rfl); have f7 := sb_at f7 (hf 7 rfl); obtain ⟨h1, h7⟩ := va2 he hf h1 h7 rfl; refine sq_blk [⟨8, _, []⟩] [0] hz rfl ⟨avs rfl rfl h23 rfl, trivial⟩ ?_; intro a33 s34 he hf hz hd1 h8; have ⟨hd, E⟩ := hdE hd1 hd E he; have p7 := pa he p7 (hf 7 rfl); have f7 := sb_at f7 (hf 7 rfl); obtain ⟨h1, h7⟩ := va2 he hf h1 h7 rfl
   exact ⟨_, (by omega : m20 < m20 + 1), _, _, h, by omega, E, hz, hd, h1, h7, p7, (fun g hg => (f7 g hg)), h8⟩
  ·have h := ite_f hb h; refine wp_exit ?_; refine then_exit ?_; refine then_exit ?_; refine inBlock_hit ?_; refine wp_sr ?_; refine sq_blk [⟨38, _, []⟩, ⟨4, _, [0]⟩, ⟨5, _, []⟩] [1, 2] hz rfl ⟨(fun a s he hf hz => opw rfl (op_move rfl (f := Fact.own _ _ _ _ _) (own_at h7 p7 f7 he (hf 7 rfl)))), (fun a s he hf hz q0 => opw rfl (op_assign rfl (f := Fact.own _ _ _ _ _) q0)), (fun a s he hf hz => av rfl rfl i0), trivial⟩ ?_; intro a35 s36 he hf hz hd1 k4 h5; have ⟨hd, E⟩ := hdE hd1 hd E he; have h4 := k4.1; refine wp_ret ?_; cases h
   exact ⟨hd, _, results_tmp2 rfl _ _ _, E, tup2 h4 h5⟩
theorem ref07_Lay.nice (x0 : Str) (x1 : List Dot) (b0 : (kSl kY).bd x0) (b1 : (kSl kDot).bd x1) (hl : x0.length + 4000 ≤ 140737488355328) : ∃ k, ref07_Lay.f k x0 x1 = some (layV x0 x1) := by
 have hm := maxLen_lt
 unfold ref07_Lay.f layV
 cases hr : rightV x1
 ·exact ⟨0, rfl⟩
 ·obtain ⟨h64, hd⟩ := rightV_dot hr
  have : ∀ y, y ≤ x1.length → ∀ acc : Str, acc.length + 42 * (x1.length - y) + 20 ≤ 140737488355328 → ∃ k, ref07_Lay.l0 k x1 acc (y : Int) = some (acc ++ ((x1.drop y).map dotB).flatten, 0) := by
   refine rounds x1.length (fun acc _ => ⟨1, ?_⟩) fun y hy ih acc ha => ?_
   ·simp only [ref07_Lay.l0, List.drop_length]; simp
   ·have hdy : vector_isDot (x1.getD y default) = true := hd _ (by rw [getD_at hy]; exact List.getElem_mem hy)
    have hw := isName_len (isDot_parts hdy).1
    have hlen := dotB_len hdy
    obtain ⟨k, hk⟩ := ih (acc ++ dotB (x1.getD y default)) (by rw [List.length_append]; omega)
    push_cast at hk
    have hr' : (0 : Int) ≤ y ∧ (y : Int) < x1.length := ⟨by omega, by omega⟩
    have ht : (text acc (x1.getD y default).who).length ≤ acc.length + 33 := by
     have := numB_le (x1.getD y default).who.length
     simp only [text, number, Int.toNat_natCast, List.length_append]; omega
    refine ⟨k + 1, ?_⟩
    simp only [ref07_Lay.l0, Int.toNat_natCast, hr', and_self, decide_true, if_true]
    rw [if_pos (by omega), if_pos (by omega), dot_laid _ hdy, w64s (by omega), hk, drop_at default hy]
    simp
  have e : IntKind.wrap .u64 (x1.length : Int) = (x1.length : Int) := wrap_u64i (by omega) (by omega)
  have hn := numB_le x1.length
  obtain ⟨k, hk⟩ := this 0 (Nat.zero_le _) (number x0 (x1.length : Int)) (by simp only [number, Int.toNat_natCast, List.length_append]; omega)
  refine ⟨k, ?_⟩
  rw [if_neg (by simp), if_pos (by omega), if_pos rfl, e]
  refine hk.trans ?_
  simp [number, vecB]
theorem ref07_Lay.ct {s0 : St} {v0 : Value} {x0 : (List UInt8)} {v1 : Value} {x1 : (List Dot)} (k0 : (kSl kY).V s0 v0 x0) (k1 : (kSl kDot).V s0 v1 x1) (hpre : x0.length + 4000 ≤ 140737488355328) : Cl Try.prog 76 #[v0, v1] s0 (Okf s0 (Fact.tup [Fact.v (kSl kY) ((layV x0 x1).1), Fact.v (kI .i64) ((layV x0 x1).2)])) := by
 obtain ⟨k, h⟩ := ref07_Lay.nice x0 x1 (Kn.V_bd k0) (Kn.V_bd k1) hpre
 exact ref07_Lay.ok k0 k1 h
def readDots : Nat → Str → Option (List Dot × Str)
 | 0, x => some ([], x)
 | j + 1, x => match readT 24 x with
  | none => none
  | some (w, r) => match readN r with
   | none => none
   | some (n, r) => if 4611686018427387904 < n then none else match readDots j r with
    | none => none
    | some (l, r) => some (⟨w, (n : Int)⟩ :: l, r)
def readV (x : Str) : Option (List Dot × Str) := match readN x with
 | none => none
 | some (n, r) => if 64 < n then none else match readDots n r with
  | none => none
  | some (l, r) => if rightV l = true then some (l, r) else none
def takeV (b : Str) (i : Int) : List Dot × Int × Int := if i < 0 then ([], 0, 70) else match readV (b.drop i.toNat) with
 | none => ([], 0, 70)
 | some (l, r) => (l, (b.length : Int) - r.length, 0)
theorem sfx_drop {r b : Str} (h : r <:+ b) : b.drop (b.length - r.length) = r := (List.suffix_iff_eq_drop.1 h).symm
theorem sfx_at {r b : Str} (h : r <:+ b) : ((b.length : Int) - r.length) = ((b.length - r.length : Nat) : Int) := by have := h.length_le; omega
theorem takeN_sfx {r b : Str} (h : r <:+ b) : takeN b ((b.length : Int) - r.length) = match readN r with
  | none => (0, 0, 20)
  | some (n, q) => ((n : Int), (b.length : Int) - q.length, 0) := by
 rw [sfx_at h]
 unfold takeN
 rw [if_neg (by omega), Int.toNat_natCast, sfx_drop h] <;> rfl
theorem takeT_sfx {r b : Str} (most : Int) (h : r <:+ b) : takeT b ((b.length : Int) - r.length) most = match readT most r with
  | none => ([], 0, 20)
  | some (x, q) => (x, (b.length : Int) - q.length, 0) := by
 rw [sfx_at h, takeT_at, sfx_drop h] <;> rfl
theorem readN_sfx {x r : Str} {n : Nat} (h : readN x = some (n, r)) : r <:+ x := ⟨numB n, (readN_lays h).1.symm⟩
theorem readT_sfx {x y r : Str} {most : Int} (h : readT most x = some (y, r)) : r <:+ x := ⟨numB y.length ++ y, (readT_lays h).1.symm⟩
theorem takeN_neg {b : Str} {i : Int} (h : i < 0) : takeN b i = (0, 0, 20) := takeN_off (.inl h)
theorem takeN_pos {b : Str} {i : Int} (h : ¬ i < 0) : takeN b i = match readN (b.drop i.toNat) with
  | none => (0, 0, 20)
  | some (n, q) => ((n : Int), (b.length : Int) - q.length, 0) := by
 unfold takeN; rw [if_neg h] <;> rfl
def vector_Take.l0 : Nat → (List UInt8) → Int → Int → (List Dot) → Int → Option ((List Dot) × Int × Int)
 | 0, _, _, _, _, _ => none
 | m24 + 1, x0, x1, y20, y21, y23 => (if decide (y23 < ((takeN x0 x1).1)) = true then (if (!decide (((takeT x0 y20 24).2.2) = 0)) = true then (some (([] : (List Dot)), 0, 70)) else (if ((!decide (((takeN x0 ((takeT x0 y20 24).2.1)).2.2) = 0)) || (decide (4611686018427387904 < ((takeN x0 ((takeT x0 y20 24).2.1)).1)))) = true then (some (([] : (List Dot)), 0, 70)) else (if (List.length y21 + List.length ([(⟨(takeT x0 y20 24).1, IntKind.wrap .i64 ((takeN x0 ((takeT x0 y20 24).2.1)).1)⟩ : Dot)] : List Dot)) * 24 ≤ 140737488355328 then (vector_Take.l0 m24 x0 x1 ((takeN x0 ((takeT x0 y20 24).2.1)).2.1) (y21 ++ ([(⟨(takeT x0 y20 24).1, IntKind.wrap .i64 ((takeN x0 ((takeT x0 y20 24).2.1)).1)⟩ : Dot)] : List Dot)) (IntKind.wrap .u64 (y23 + 1))) else none))) else (if (!(rightV y21)) = true then (some (([] : (List Dot)), 0, 70)) else (some (y21, y20, 0))))
def vector_Take.f (k : Nat) (x0 : (List UInt8)) (x1 : Int) : Option ((List Dot) × Int × Int) := (if ((!decide (((takeN x0 x1).2.2) = 0)) || (decide (64 < ((takeN x0 x1).1)))) = true then (some (([] : (List Dot)), 0, 70)) else (vector_Take.l0 k x0 x1 ((takeN x0 x1).2.1) ([] : (List Dot)) 0))
theorem vector_Take.ok {s0 : St} {v0 : Value} {x0 : (List UInt8)} {v1 : Value} {x1 : Int} {k : Nat} {r : (List Dot) × Int × Int} (k0 : (kSl kY).V s0 v0 x0) (k1 : (kI .i64).V s0 v1 x1) (h : vector_Take.f k x0 x1 = some r) : Cl Try.prog 62 #[v0, v1] s0 (Okf s0 (Fact.tup [Fact.v (kSl kDot) r.1, Fact.v (kI .i64) r.2.1, Fact.v (kI .i64) r.2.2])) := by
 unfold vector_Take.f at h
 refine cl_of_wp Try.func62 rfl en_62 fun a hz hd hp => ?_; have hz : a.tmps.size = 66 := hz; have E := Chg.refl (fun _ => False) s0; have h0 := V_at k0 E (hp 0 v0 rfl); have h1 := V_at k1 E (hp 1 v1 rfl); refine wp_sr ?_; refine sq_blk [⟨4, _, []⟩, ⟨5, _, []⟩, ⟨6, _, []⟩] [] hz rfl ⟨(fun a s he hf hz => opw rfl (op_assign rfl (f := Fact.own (kSl kDot) 70 2 (fun g => s0.w.heap.size ≤ g) []) own_nil)), (fun a s he hf hz => av rfl rfl i0), (fun a s he hf hz => av rfl rfl i0), trivial⟩ ?_; intro a2 s3 he hf hz hd1; have ⟨hd, E⟩ := hdE hd1 hd E he; obtain ⟨h0, h1⟩ := va2 he hf h0 h1 rfl; refine wp_sr ?_; refine sq_blk [⟨15, _, []⟩, ⟨16, _, []⟩, ⟨17, _, [0, 1]⟩, ⟨14, _, [2]⟩, ⟨18, _, [3]⟩, ⟨19, _, [3]⟩, ⟨20, _, [3]⟩, ⟨7, _, [4]⟩] [5, 6, 7] hz rfl ⟨mvs rfl rfl h0 rfl, mvs rfl rfl h1 rfl, (fun a s he hf hz q0 q1 => opw rfl (op_call rfl rfl (wire_TakeNumber.ct q0 q1))), (fun a s he hf hz q2 => opw rfl (op_move rfl (f := Fact.tup _) q2)), (fun a s he hf hz q3 => opw rfl (op_extract (f := Fact.v _ _) rfl q3 rfl)), (fun a s he hf hz q3 => opw rfl (op_extract (f := Fact.v _ _) rfl q3 rfl)), (fun a s he hf hz q3 => opw rfl (op_extract (f := Fact.v _ _) rfl q3 rfl)), avq rfl rfl, trivial⟩ ?_
 intro a4 s5 he hf hz hd1 h19 h20 h7; have ⟨hd, E⟩ := hdE hd1 hd E he; have h0 := V_at h0 he (hf 0 rfl); refine sq_blk [⟨1, _, []⟩, ⟨8, _, []⟩] [0, 1] hz rfl ⟨avs rfl rfl h19 rfl, avs rfl rfl h20 rfl, trivial⟩ ?_; intro a6 s7 he hf hz hd1 h1 h8; have ⟨hd, E⟩ := hdE hd1 hd E he; obtain ⟨h0, h7⟩ := va2 he hf h0 h7 rfl; refine wp_seq ?_; refine wp_sr ?_; have hz0 := hz; refine sq_blk [⟨21, _, []⟩, ⟨22, _, [0]⟩, ⟨23, _, [1]⟩, ⟨24, _, [2]⟩, ⟨25, _, [2, 3]⟩, ⟨26, _, [2, 4]⟩] [5] hz rfl ⟨mvs rfl rfl h8 rfl, (fun a s he hf hz q0 => ne_ rfl rfl q0 i0), mvq rfl rfl, (fun a s he hf hz q2 => og rfl rfl rfl hz hz0 rfl q2 (fun g => op_move_v rfl (V_at h7 he (hf 7 rfl)))), (fun a s he hf hz q2 q3 => og rfl rfl rfl hz hz0 rfl q2 (fun g => op_gtr rfl (q3.1 g) (lit_i (k := .u64) (n := 64) (by decide)))), (fun a s he hf hz q2 q4 => oe rfl rfl q2 (q4.1)), trivial⟩ ?_; intro a8 s9 he hf hz hd1 h26; have ⟨hd, E⟩ := hdE hd1 hd E he; obtain ⟨h0, h1, h7⟩ := va3 he hf h0 h1 h7 rfl; refine wp_condV h26 (fun hb => ?_) (fun hb => ?_)
 ·have h := ite_t hb h; refine wp_sr ?_; refine sq_blk [⟨4, _, []⟩, ⟨5, _, []⟩, ⟨6, _, []⟩] [0, 1, 2] hz rfl ⟨(fun a s he hf hz => opw rfl (op_assign rfl (f := Fact.own (kSl kDot) 70 2 (fun g => s0.w.heap.size ≤ g) []) own_nil)), (fun a s he hf hz => av rfl rfl i0), (fun a s he hf hz => av rfl rfl (lit_i (k := .i64) (n := 70) (by decide))), trivial⟩ ?_; intro a11 s12 he hf hz hd1 k4 h5 h6; have ⟨hd, E⟩ := hdE hd1 hd E he; have h4 := k4.1; refine wp_ret ?_; cases h
  exact ⟨hd, _, results_tmp3' rfl _ _ _, E, tup3 h4 h5 h6⟩
 ·have h := ite_f hb h; refine wp_skip ?_; refine wp_sr ?_; refine sq_blk [⟨9, _, []⟩] [0] hz rfl ⟨(fun a s he hf hz => opw rfl (op_assign rfl (f := Fact.own (kSl kDot) 70 2 (fun g => s0.w.heap.size ≤ g) []) own_nil)), trivial⟩ ?_; intro a14 s15 he hf hz hd1 k9; have ⟨hd, E⟩ := hdE hd1 hd E he; obtain ⟨h0, h1, h7⟩ := va3 he hf h0 h1 h7 rfl; have h9 := k9.1; have p9 := k9.2.1; have f9 := k9.2.2; refine wp_seq ?_; refine wp_sr ?_; refine sq_blk [⟨27, _, []⟩, ⟨28, _, []⟩] [0, 1] hz rfl ⟨mvs rfl rfl h7 rfl, (fun a s he hf hz => mv rfl rfl (lit_i (k := .u64) (n := 0) (by decide))), trivial⟩ ?_; intro a16 s17 he hf hz hd1 h27 h28; have ⟨hd, E⟩ := hdE hd1 hd E he; have p9 := pa he p9 (hf 9 rfl); have f9 := sb_at f9 (hf 9 rfl); obtain ⟨h0, h1, h9⟩ := va3 he hf h0 h1 h9 rfl; refine wp_block ?_
  refine wp_loop (k := k) (fun m24 a s => ∃ (y20 : Int) (y21 : (List Dot)) (y23 : Int), vector_Take.l0 m24 x0 x1 y20 y21 y23 = some r ∧ m24 ≤ k ∧ Ext s0 s ∧ a.tmps.size = 66 ∧ a.defers = [] ∧ (kSl kY).V s (a.get 0) x0 ∧ (kI .i64).V s (a.get 1) y20 ∧ (kSl kDot).V s (a.get 9) y21 ∧ Sp s (a.get 9) 70 2 ∧ (∀ g, sb (a.get 9) = some g → s0.w.heap.size ≤ g) ∧ (kI .u64).V s (a.get 27) ((takeN x0 x1).1) ∧ (kI .u64).V s (a.get 28) y23) ⟨_, _, _, h, Nat.le_refl _, E, hz, hd, h0, h1, h9, p9, f9, h27, h28⟩ ?_; rintro m24 a19 s18 ⟨y20, y21, y23, h, hkm24, E, hz, hd, h0, h1, h9, p9, f9, h27, h28⟩; obtain _ | m24 := m24
  ·cases h
  refine wp_sr ?_; refine sq_blk [⟨29, _, []⟩] [0] hz rfl ⟨(fun a s he hf hz => ls rfl rfl (V_at h28 he (hf 28 rfl)) (V_at h27 he (hf 27 rfl))), trivial⟩ ?_; intro a25 s26 he hf hz hd1 h29; have ⟨hd, E⟩ := hdE hd1 hd E he; have p9 := pa he p9 (hf 9 rfl); have f9 := sb_at f9 (hf 9 rfl); obtain ⟨h0, h1, h9, h27, h28⟩ := va5 he hf h0 h1 h9 h27 h28 rfl; refine wp_seq ?_; refine wp_condV h29 (fun hb => ?_) (fun hb => ?_)
  ·have h := ite_t hb h; refine wp_skip ?_; refine wp_seq ?_; refine wp_block ?_; refine wp_sr ?_; refine sq_blk [⟨31, _, []⟩, ⟨32, _, []⟩, ⟨33, _, [0, 1]⟩, ⟨30, _, [2]⟩, ⟨34, _, [3]⟩, ⟨35, _, [3]⟩, ⟨36, _, [3]⟩, ⟨10, _, [4]⟩, ⟨11, _, [5]⟩, ⟨12, _, [6]⟩] [7, 8, 9] hz rfl ⟨mvs rfl rfl h0 rfl, mvs rfl rfl h1 rfl, (fun a s he hf hz q0 q1 => opw rfl (op_call rfl rfl (wire_TakeText.ct q0 q1 (lit_i (k := .i64) (n := 24) (by decide))))), (fun a s he hf hz q2 => opw rfl (op_move rfl (f := Fact.tup _) q2)), (fun a s he hf hz q3 => opw rfl (op_extract (f := Fact.v _ _) rfl q3 rfl)), (fun a s he hf hz q3 => opw rfl (op_extract (f := Fact.v _ _) rfl q3 rfl)), (fun a s he hf hz q3 => opw rfl (op_extract (f := Fact.v _ _) rfl q3 rfl)), avq rfl rfl, avq rfl rfl, avq rfl rfl, trivial⟩ ?_; intro a27 s28 he hf hz hd1 h10 h11 h12; have ⟨hd, E⟩ := hdE hd1 hd E he; have p9 := pa he p9 (hf 9 rfl); have f9 := sb_at f9 (hf 9 rfl); obtain ⟨h0, h9, h27, h28⟩ := va4 he hf h0 h9 h27 h28 rfl; refine wp_seq ?_; refine wp_sr ?_; refine sq_blk [⟨37, _, []⟩, ⟨38, _, [0]⟩] [1] hz rfl ⟨mvs rfl rfl h12 rfl, (fun a s he hf hz q0 => ne_ rfl rfl q0 i0), trivial⟩ ?_
   intro a29 s30 he hf hz hd1 h38; have ⟨hd, E⟩ := hdE hd1 hd E he; have p9 := pa he p9 (hf 9 rfl); have f9 := sb_at f9 (hf 9 rfl); obtain ⟨h0, h9, h10, h11, h27, h28⟩ := va6 he hf h0 h9 h10 h11 h27 h28 rfl; refine wp_condV h38 (fun hb => ?_) (fun hb => ?_)
   ·have h := ite_t hb h; refine wp_sr ?_; refine sq_blk [⟨4, _, []⟩, ⟨5, _, []⟩, ⟨6, _, []⟩] [0, 1, 2] hz rfl ⟨(fun a s he hf hz => opw rfl (op_assign rfl (f := Fact.own (kSl kDot) 70 2 (fun g => s0.w.heap.size ≤ g) []) own_nil)), (fun a s he hf hz => av rfl rfl i0), (fun a s he hf hz => av rfl rfl (lit_i (k := .i64) (n := 70) (by decide))), trivial⟩ ?_; intro a32 s33 he hf hz hd1 k4 h5 h6; have ⟨hd, E⟩ := hdE hd1 hd E he; have h4 := k4.1; refine wp_ret ?_; cases h
    exact ⟨hd, _, results_tmp3' rfl _ _ _, E, tup3 h4 h5 h6⟩
   ·have h := ite_f hb h; refine wp_skip ?_; refine wp_sr ?_; refine sq_blk [⟨40, _, []⟩, ⟨41, _, []⟩, ⟨42, _, [0, 1]⟩, ⟨39, _, [2]⟩, ⟨43, _, [3]⟩, ⟨44, _, [3]⟩, ⟨45, _, [3]⟩, ⟨13, _, [4]⟩] [5, 6, 7] hz rfl ⟨mvs rfl rfl h0 rfl, mvs rfl rfl h11 rfl, (fun a s he hf hz q0 q1 => opw rfl (op_call rfl rfl (wire_TakeNumber.ct q0 q1))), (fun a s he hf hz q2 => opw rfl (op_move rfl (f := Fact.tup _) q2)), (fun a s he hf hz q3 => opw rfl (op_extract (f := Fact.v _ _) rfl q3 rfl)), (fun a s he hf hz q3 => opw rfl (op_extract (f := Fact.v _ _) rfl q3 rfl)), (fun a s he hf hz q3 => opw rfl (op_extract (f := Fact.v _ _) rfl q3 rfl)), avq rfl rfl, trivial⟩ ?_; intro a34 s35 he hf hz hd1 h44 h45 h13; have ⟨hd, E⟩ := hdE hd1 hd E he; have p9 := pa he p9 (hf 9 rfl); have f9 := sb_at f9 (hf 9 rfl); obtain ⟨h0, h9, h10, h27, h28⟩ := va5 he hf h0 h9 h10 h27 h28 rfl; refine sq_blk [⟨11, _, []⟩, ⟨12, _, []⟩] [0, 1] hz rfl ⟨avs rfl rfl h44 rfl, avs rfl rfl h45 rfl, trivial⟩ ?_; intro a36 s37 he hf hz hd1 h11 h12; have hd := hd1.trans hd; have p9 := pa he p9 (hf 9 rfl); have f9 := sb_at f9 (hf 9 rfl)
    obtain ⟨h0, h9, h10, h13, h27, h28⟩ := va6 he hf h0 h9 h10 h13 h27 h28 rfl; have E := E.trans he; refine wp_seq ?_; refine wp_sr ?_; have hz0 := hz; refine sq_blk [⟨46, _, []⟩, ⟨47, _, [0]⟩, ⟨48, _, [1]⟩, ⟨49, _, [2]⟩, ⟨50, _, [2, 3]⟩, ⟨51, _, [2, 4]⟩] [5] hz rfl ⟨mvs rfl rfl h12 rfl, (fun a s he hf hz q0 => ne_ rfl rfl q0 i0), mvq rfl rfl, (fun a s he hf hz q2 => og rfl rfl rfl hz hz0 rfl q2 (fun g => op_move_v rfl (V_at h13 he (hf 13 rfl)))), (fun a s he hf hz q2 q3 => og rfl rfl rfl hz hz0 rfl q2 (fun g => op_gtr rfl (q3.1 g) (lit_i (k := .u64) (n := 4611686018427387904) (by decide)))), (fun a s he hf hz q2 q4 => oe rfl rfl q2 (q4.1)), trivial⟩ ?_; intro a38 s39 he hf hz hd1 h51; have ⟨hd, E⟩ := hdE hd1 hd E he; have p9 := pa he p9 (hf 9 rfl); have f9 := sb_at f9 (hf 9 rfl); obtain ⟨h0, h9, h10, h11, h13, h27, h28⟩ := va7 he hf h0 h9 h10 h11 h13 h27 h28 rfl; refine wp_condV h51 (fun hb => ?_) (fun hb => ?_)
    ·have h := ite_t hb h; refine wp_sr ?_; refine sq_blk [⟨4, _, []⟩, ⟨5, _, []⟩, ⟨6, _, []⟩] [0, 1, 2] hz rfl ⟨(fun a s he hf hz => opw rfl (op_assign rfl (f := Fact.own (kSl kDot) 70 2 (fun g => s0.w.heap.size ≤ g) []) own_nil)), (fun a s he hf hz => av rfl rfl i0), (fun a s he hf hz => av rfl rfl (lit_i (k := .i64) (n := 70) (by decide))), trivial⟩ ?_; intro a41 s42 he hf hz hd1 k4 h5 h6; have ⟨hd, E⟩ := hdE hd1 hd E he; have h4 := k4.1; refine wp_ret ?_; cases h
     exact ⟨hd, _, results_tmp3' rfl _ _ _, E, tup3 h4 h5 h6⟩
    ·have h := ite_f hb h; refine wp_skip ?_; refine wp_region ?_; refine sq_blk [⟨52, _, []⟩, ⟨53, _, []⟩, ⟨54, _, []⟩, ⟨55, _, [2]⟩, ⟨56, _, [1, 3]⟩, ⟨57, _, [4]⟩] [0, 5] hz rfl ⟨(fun a s he hf hz => opw rfl (op_move rfl (f := Fact.own _ _ _ _ _) (own_at h9 p9 f9 he (hf 9 rfl)))), mvs rfl rfl h10 rfl, mvs rfl rfl h13 rfl, (fun a s he hf hz q2 => cv rfl rfl u_89 u_2 q2), (fun a s he hf hz q1 q3 => opw rfl (op_build rfl bt_70 (ps := [(0, [(a.get 53)]), (1, [(a.get 55)])]) ⟨rfl, V_cells1 (s := s) rfl q1, rfl, V_cells1 (s := s) rfl q3, trivial⟩ rfl (f := Fact.v kDot (⟨(takeT x0 y20 24).1, IntKind.wrap .i64 ((takeN x0 ((takeT x0 y20 24).2.1)).1)⟩ : Dot)) (V_mk rfl (kDot_close q1 q3)))), (fun a s he hf hz q4 => opw rfl ((by obtain ⟨e43, w45, r44⟩ := V_open rfl q4; obtain ⟨u46, u47, rfl, c48, c49⟩ := kDot_open r44; exact op_lit_o (Q := fun g => s0.w.heap.size ≤ g) (d := kDot) rfl lt_32 (zc := [.string ⟨#[]⟩, .int .i64 0]) (by kernel_rfl) (ps := [(0, [u46, u47])]) ⟨rfl, congrArg Value.cells w45, trivial⟩ rfl (by decide) (ys := ([(⟨(takeT x0 y20 24).1, IntKind.wrap .i64 ((takeN x0 ((takeT x0 y20 24).2.1)).1)⟩ : Dot)] : List Dot)) rfl (by decide) rfl (lit_rows1 (show kDot.R _ [u46, u47] (⟨(takeT x0 y20 24).1, IntKind.wrap .i64 ((takeN x0 ((takeT x0 y20 24).2.1)).1)⟩ : Dot) from kDot_close c48 c49))))), trivial⟩ ?_
     intro a51 s52 he hf hz hd1 k52 k57; have ⟨hd, E⟩ := hdE hd1 hd E he; obtain ⟨h0, h11, h27, h28⟩ := va4 he hf h0 h11 h27 h28 rfl; have h52 := k52.1; have p52 := k52.2.1; have f52 := k52.2.2; have h57 := k57.1; obtain ⟨D55, h⟩ := need h; refine sq_set hz rfl rfl rfl (op_append2 rfl el_32 h52 p52 h57 D55 rfl (fun v s54 he hv hp hq => fun a53 hd' hf hz hd1 => ?_)); have f58' : ∀ g, sb (a53.get 58) = some g → s0.w.heap.size ≤ g := by
      intro g hg; rw [hd'] at hg; rcases hq g hg with h | h
      ·have h1 := f52 g h; exact h1
      ·have h2 := E.size; exact (by omega)
     have hd := hd1.trans hd; obtain ⟨h0, h11, h27, h28⟩ := va4 he hf h0 h11 h27 h28 rfl; have E := Chg.chg E he (fun b e h => absurd h (Nat.not_lt.2 (f52 b e))); have h58 := V_eq hd' hv; have p58 := Sp_at hp (Chg.refl (fun _ => False) _) (fun _ _ hf => hf) hd'; have f58 := f58'; refine sq_blk [⟨59, _, []⟩, ⟨9, _, []⟩, ⟨1, _, [0]⟩] [1, 2] hz rfl ⟨mvs rfl rfl h11 rfl, (fun a s he hf hz => opw rfl (op_assign rfl (f := Fact.own _ _ _ _ _) (own_at h58 p58 f58 he (hf 58 rfl)))), avq rfl rfl, trivial⟩ ?_; intro a57 s58 he hf hz hd1 k9 h1; have hd := hd1.trans hd; obtain ⟨h0, h27, h28⟩ := va3 he hf h0 h27 h28 rfl; have E := E.trans he; have h9 := k9.1; have p9 := k9.2.1; have f9 := k9.2.2; refine wp_region ?_; refine sq_blk [⟨60, _, []⟩] [0] hz rfl ⟨(fun a s he hf hz => ad rfl rfl (V_at h28 he (hf 28 rfl)) (lit_i (k := .u64) (n := 1) (by decide))), trivial⟩ ?_; intro a59 s60 he hf hz hd1 h60; have ⟨hd, E⟩ := hdE hd1 hd E he; have p9 := pa he p9 (hf 9 rfl); have f9 := sb_at f9 (hf 9 rfl); obtain ⟨h0, h1, h9, h27⟩ := va4 he hf h0 h1 h9 h27 rfl; refine sq_blk [⟨28, _, []⟩] [0] hz rfl ⟨mvs rfl rfl h60 rfl, trivial⟩ ?_
     intro a61 s62 he hf hz hd1 h28; have ⟨hd, E⟩ := hdE hd1 hd E he; have p9 := pa he p9 (hf 9 rfl); have f9 := sb_at f9 (hf 9 rfl); obtain ⟨h0, h1, h9, h27⟩ := va4 he hf h0 h1 h9 h27 rfl; exact ⟨_, (by omega : m24 < m24 + 1), _, _, _, h, by omega, E, hz, hd, h0, h1, h9, p9, (fun g hg => (f9 g hg)), h27, h28⟩
  ·have h := ite_f hb h; refine wp_exit ?_; refine then_exit ?_; refine then_exit ?_; refine inBlock_hit ?_; refine wp_seq ?_; refine wp_sr ?_; refine sq_blk [⟨61, _, []⟩, ⟨62, _, [0]⟩, ⟨63, _, [1]⟩] [2] hz rfl ⟨(fun a s he hf hz => opw rfl (op_move rfl (f := Fact.own _ _ _ _ _) (own_at h9 p9 f9 he (hf 9 rfl)))), (fun a s he hf hz q0 => opw rfl (op_call rfl rfl (vector_Right.ct q0.1))), (fun a s he hf hz q1 => no_ rfl rfl q1), trivial⟩ ?_; intro a63 s64 he hf hz hd1 h63; have ⟨hd, E⟩ := hdE hd1 hd E he; have p9 := pa he p9 (hf 9 rfl); have f9 := sb_at f9 (hf 9 rfl); obtain ⟨h1, h9⟩ := va2 he hf h1 h9 rfl; refine wp_condV h63 (fun hb => ?_) (fun hb => ?_)
   ·have h := ite_t hb h; refine wp_sr ?_; refine sq_blk [⟨4, _, []⟩, ⟨5, _, []⟩, ⟨6, _, []⟩] [0, 1, 2] hz rfl ⟨(fun a s he hf hz => opw rfl (op_assign rfl (f := Fact.own (kSl kDot) 70 2 (fun g => s0.w.heap.size ≤ g) []) own_nil)), (fun a s he hf hz => av rfl rfl i0), (fun a s he hf hz => av rfl rfl (lit_i (k := .i64) (n := 70) (by decide))), trivial⟩ ?_; intro a66 s67 he hf hz hd1 k4 h5 h6; have ⟨hd, E⟩ := hdE hd1 hd E he; have h4 := k4.1; refine wp_ret ?_; cases h
    exact ⟨hd, _, results_tmp3' rfl _ _ _, E, tup3 h4 h5 h6⟩
   ·have h := ite_f hb h; refine wp_skip ?_; refine wp_sr ?_; refine sq_blk [⟨64, _, []⟩, ⟨65, _, []⟩, ⟨4, _, [0]⟩, ⟨5, _, [1]⟩, ⟨6, _, []⟩] [2, 3, 4] hz rfl ⟨(fun a s he hf hz => opw rfl (op_move rfl (f := Fact.own _ _ _ _ _) (own_at h9 p9 f9 he (hf 9 rfl)))), mvs rfl rfl h1 rfl, (fun a s he hf hz q0 => opw rfl (op_assign rfl (f := Fact.own _ _ _ _ _) q0)), avq rfl rfl, (fun a s he hf hz => av rfl rfl i0), trivial⟩ ?_; intro a68 s69 he hf hz hd1 k4 h5 h6; have ⟨hd, E⟩ := hdE hd1 hd E he; have h4 := k4.1; refine wp_ret ?_; cases h
    exact ⟨hd, _, results_tmp3' rfl _ _ _, E, tup3 h4 h5 h6⟩
theorem vector_Take.e0 {b : Str} {x1 : Int} {n : Nat} (hb : b.length ≤ maxLen) (hn : (takeN b x1).1 = (n : Int)) (h64 : n ≤ 64) : ∀ j, j ≤ n → ∀ (r : Str) (acc : List Dot), r <:+ b → acc.length = n - j → ∃ k, vector_Take.l0 k b x1 ((b.length : Int) - r.length) acc ((n - j : Nat) : Int) =
  some (match readDots j r with | none => ([], 0, 70) | some (l, q) => if rightV (acc ++ l) = true then (acc ++ l, (b.length : Int) - q.length, 0) else ([], 0, 70)) := by
 intro j
 induction j with
 | zero =>
  intro _ r acc hr ha
  refine ⟨1, ?_⟩
  simp only [vector_Take.l0, hn, Nat.sub_zero, Int.lt_irrefl, decide_false, Bool.false_eq_true, if_false, readDots, List.append_nil]
  cases rightV acc <;> simp
 | succ j ih =>
  intro hj r acc hr ha
  have h1 : ((n - (j + 1) : Nat) : Int) < (n : Int) := by omega
  simp only [readDots]
  have ht := takeT_sfx 24 hr
  cases e1 : readT 24 r with
  | none =>
   rw [e1] at ht
   refine ⟨1, ?_⟩
   simp only [vector_Take.l0, hn, h1, decide_true, if_true, ht]
   rfl
  | some wr =>
   obtain ⟨w, r1⟩ := wr
   rw [e1] at ht
   have hr1 := (readT_sfx e1).trans hr
   have hnn := takeN_sfx hr1
   simp only []
   cases e2 : readN r1 with
   | none =>
    rw [e2] at hnn
    refine ⟨1, ?_⟩
    simp only [vector_Take.l0, hn, h1, decide_true, if_true, ht, hnn]
    rfl
   | some nr =>
    obtain ⟨m, r2⟩ := nr
    rw [e2] at hnn
    have hr2 := (readN_sfx e2).trans hr1
    simp only []
    by_cases hm : 4611686018427387904 < m
    ·have hm' : (4611686018427387904 : Int) < (m : Int) := by omega
     refine ⟨1, ?_⟩
     simp only [vector_Take.l0, hn, h1, decide_true, if_true, ht, hnn, hm', if_pos hm]
     rfl
    ·have hm' : ¬ (4611686018427387904 : Int) < (m : Int) := by omega
     obtain ⟨k, hk⟩ := ih (by omega) r2 (acc ++ [⟨w, (m : Int)⟩]) hr2 (by simp; omega)
     refine ⟨k + 1, ?_⟩
     have ew : IntKind.wrap .i64 (m : Int) = (m : Int) := w64 (by omega) (by omega)
     have en : IntKind.wrap .u64 (((n - (j + 1) : Nat) : Int) + 1) = ((n - j : Nat) : Int) := by rw [wrap_u64i (by omega) (by omega)]; omega
     simp only [vector_Take.l0, hn, h1, decide_true, if_true, ht, hnn, hm', decide_false, Bool.not_true, Bool.or_self, Bool.false_eq_true, if_false, if_neg hm, ew, en]
     rw [if_pos (by simp; omega), hk]
     cases readDots j r2 with
     | none => rfl
     | some lq => obtain ⟨l, q⟩ := lq; simp
theorem vector_Take.nice (x0 : Str) (x1 : Int) (b0 : (kSl kY).bd x0) (b1 : (kI .i64).bd x1) : ∃ k, vector_Take.f k x0 x1 = some (takeV x0 x1) := by
 have hb : x0.length ≤ maxLen := b0.1
 unfold vector_Take.f takeV readV
 by_cases h0 : x1 < 0
 ·exact ⟨0, by rw [takeN_neg h0, if_pos h0]; rfl⟩
 ·have ht := takeN_pos (b := x0) h0
  rw [if_neg h0]
  cases e1 : readN (x0.drop x1.toNat) with
  | none =>
   rw [e1] at ht
   exact ⟨0, by rw [ht]; rfl⟩
  | some nr =>
   obtain ⟨n, r⟩ := nr
   rw [e1] at ht
   simp only [ht]
   by_cases h64 : 64 < n
   ·have h64' : (64 : Int) < (n : Int) := by omega
    exact ⟨0, by simp only [h64', decide_true, if_pos h64]; rfl⟩
   ·have h64' : ¬ (64 : Int) < (n : Int) := by omega
    have hr : r <:+ x0 := (readN_sfx e1).trans (List.drop_suffix _ _)
    obtain ⟨k, hk⟩ := vector_Take.e0 hb (by rw [ht]) (by omega) n (Nat.le_refl _) r [] hr (by simp)
    refine ⟨k, ?_⟩
    simp only [h64', decide_true, decide_false, Bool.not_true, Bool.or_self, Bool.false_eq_true, if_false, if_neg h64]
    rw [Nat.sub_self] at hk
    refine hk.trans ?_
    cases readDots n r with
    | none => rfl
    | some lq => obtain ⟨l, q⟩ := lq; simp only [List.nil_append]; cases rightV l <;> rfl
theorem vector_Take.ct {s0 : St} {v0 : Value} {x0 : (List UInt8)} {v1 : Value} {x1 : Int} (k0 : (kSl kY).V s0 v0 x0) (k1 : (kI .i64).V s0 v1 x1) : Cl Try.prog 62 #[v0, v1] s0 (Okf s0 (Fact.tup [Fact.v (kSl kDot) ((takeV x0 x1).1), Fact.v (kI .i64) ((takeV x0 x1).2.1), Fact.v (kI .i64) ((takeV x0 x1).2.2)])) := by
 obtain ⟨k, h⟩ := vector_Take.nice x0 x1 (Kn.V_bd k0) (Kn.V_bd k1)
 exact vector_Take.ok k0 k1 h
def ref07_Take.l0 : Nat → (List UInt8) → Int → Int → (List Dot) → Int → Option ((List Dot) × Int × Int)
 | 0, _, _, _, _, _ => none
 | m22 + 1, x0, x1, y18, y19, y21 => (if decide (y21 < (IntKind.wrap .i64 ((takeN x0 x1).1))) = true then (if (((!decide (((takeT x0 y18 24).2.2) = 0)) || (!decide (((takeN x0 ((takeT x0 y18 24).2.1)).2.2) = 0))) || (decide (4611686018427387904 < ((takeN x0 ((takeT x0 y18 24).2.1)).1)))) = true then (some (([] : (List Dot)), 0, 70)) else (if (List.length y19 + List.length ([(⟨(takeT x0 y18 24).1, IntKind.wrap .i64 ((takeN x0 ((takeT x0 y18 24).2.1)).1)⟩ : Dot)] : List Dot)) * 24 ≤ 140737488355328 then (ref07_Take.l0 m22 x0 x1 ((takeN x0 ((takeT x0 y18 24).2.1)).2.1) (y19 ++ ([(⟨(takeT x0 y18 24).1, IntKind.wrap .i64 ((takeN x0 ((takeT x0 y18 24).2.1)).1)⟩ : Dot)] : List Dot)) (IntKind.wrap .i64 (y21 + 1))) else none)) else (if (!(rightV y19)) = true then (some (([] : (List Dot)), 0, 70)) else (some (y19, y18, 0))))
def ref07_Take.f (k : Nat) (x0 : (List UInt8)) (x1 : Int) : Option ((List Dot) × Int × Int) := (if ((!decide (((takeN x0 x1).2.2) = 0)) || (decide (64 < ((takeN x0 x1).1)))) = true then (some (([] : (List Dot)), 0, 70)) else (ref07_Take.l0 k x0 x1 ((takeN x0 x1).2.1) ([] : (List Dot)) 0))
theorem ref07_Take.ok {s0 : St} {v0 : Value} {x0 : (List UInt8)} {v1 : Value} {x1 : Int} {k : Nat} {r : (List Dot) × Int × Int} (k0 : (kSl kY).V s0 v0 x0) (k1 : (kI .i64).V s0 v1 x1) (h : ref07_Take.f k x0 x1 = some r) : Cl Try.prog 67 #[v0, v1] s0 (Okf s0 (Fact.tup [Fact.v (kSl kDot) r.1, Fact.v (kI .i64) r.2.1, Fact.v (kI .i64) r.2.2])) := by
 unfold ref07_Take.f at h
 refine cl_of_wp Try.func67 rfl en_67 fun a hz hd hp => ?_; have hz : a.tmps.size = 76 := hz; have E := Chg.refl (fun _ => False) s0; have h0 := V_at k0 E (hp 0 v0 rfl); have h1 := V_at k1 E (hp 1 v1 rfl); refine wp_sr ?_; refine sq_blk [⟨4, _, []⟩, ⟨5, _, []⟩, ⟨6, _, []⟩] [] hz rfl ⟨(fun a s he hf hz => opw rfl (op_assign rfl (f := Fact.own (kSl kDot) 70 2 (fun g => s0.w.heap.size ≤ g) []) own_nil)), (fun a s he hf hz => av rfl rfl i0), (fun a s he hf hz => av rfl rfl i0), trivial⟩ ?_; intro a2 s3 he hf hz hd1; have ⟨hd, E⟩ := hdE hd1 hd E he; obtain ⟨h0, h1⟩ := va2 he hf h0 h1 rfl; refine wp_sr ?_; refine sq_blk [⟨20, _, []⟩, ⟨21, _, []⟩, ⟨22, _, [0, 1]⟩, ⟨19, _, [2]⟩, ⟨23, _, [3]⟩, ⟨24, _, [3]⟩, ⟨25, _, [3]⟩, ⟨7, _, [4]⟩, ⟨8, _, [5]⟩, ⟨9, _, [6]⟩] [7, 8, 9] hz rfl ⟨mvs rfl rfl h0 rfl, mvs rfl rfl h1 rfl, (fun a s he hf hz q0 q1 => opw rfl (op_call rfl rfl (ref02_TakeNumber.ct q0 q1))), (fun a s he hf hz q2 => opw rfl (op_move rfl (f := Fact.tup _) q2)), (fun a s he hf hz q3 => opw rfl (op_extract (f := Fact.v _ _) rfl q3 rfl)), (fun a s he hf hz q3 => opw rfl (op_extract (f := Fact.v _ _) rfl q3 rfl)), (fun a s he hf hz q3 => opw rfl (op_extract (f := Fact.v _ _) rfl q3 rfl)), avq rfl rfl, avq rfl rfl, avq rfl rfl, trivial⟩ ?_
 intro a4 s5 he hf hz hd1 h7 h8 h9; have ⟨hd, E⟩ := hdE hd1 hd E he; have h0 := V_at h0 he (hf 0 rfl); refine wp_seq ?_; refine wp_sr ?_; have hz0 := hz; refine sq_blk [⟨26, _, []⟩, ⟨27, _, [0]⟩, ⟨28, _, [1]⟩, ⟨29, _, [2]⟩, ⟨30, _, [2, 3]⟩, ⟨31, _, [2, 4]⟩] [5] hz rfl ⟨mvs rfl rfl h9 rfl, (fun a s he hf hz q0 => ne_ rfl rfl q0 i0), mvq rfl rfl, (fun a s he hf hz q2 => og rfl rfl rfl hz hz0 rfl q2 (fun g => op_move_v rfl (V_at h7 he (hf 7 rfl)))), (fun a s he hf hz q2 q3 => og rfl rfl rfl hz hz0 rfl q2 (fun g => op_gtr rfl (q3.1 g) (lit_i (k := .u64) (n := 64) (by decide)))), (fun a s he hf hz q2 q4 => oe rfl rfl q2 (q4.1)), trivial⟩ ?_; intro a6 s7 he hf hz hd1 h31; have ⟨hd, E⟩ := hdE hd1 hd E he; obtain ⟨h0, h7, h8⟩ := va3 he hf h0 h7 h8 rfl; refine wp_condV h31 (fun hb => ?_) (fun hb => ?_)
 ·have h := ite_t hb h; refine wp_sr ?_; refine sq_blk [⟨4, _, []⟩, ⟨5, _, []⟩, ⟨6, _, []⟩] [0, 1, 2] hz rfl ⟨(fun a s he hf hz => opw rfl (op_assign rfl (f := Fact.own (kSl kDot) 70 2 (fun g => s0.w.heap.size ≤ g) []) own_nil)), (fun a s he hf hz => av rfl rfl i0), (fun a s he hf hz => av rfl rfl (lit_i (k := .i64) (n := 70) (by decide))), trivial⟩ ?_; intro a9 s10 he hf hz hd1 k4 h5 h6; have ⟨hd, E⟩ := hdE hd1 hd E he; have h4 := k4.1; refine wp_ret ?_; cases h
  exact ⟨hd, _, results_tmp3' rfl _ _ _, E, tup3 h4 h5 h6⟩
 ·have h := ite_f hb h; refine wp_skip ?_; refine wp_sr ?_; refine sq_blk [⟨10, _, []⟩] [0] hz rfl ⟨(fun a s he hf hz => opw rfl (op_assign rfl (f := Fact.own (kSl kDot) 70 2 (fun g => s0.w.heap.size ≤ g) []) own_nil)), trivial⟩ ?_; intro a12 s13 he hf hz hd1 k10; have ⟨hd, E⟩ := hdE hd1 hd E he; obtain ⟨h0, h7, h8⟩ := va3 he hf h0 h7 h8 rfl; have h10 := k10.1; have p10 := k10.2.1; have f10 := k10.2.2; refine wp_seq ?_; refine wp_sr ?_; refine sq_blk [⟨11, _, []⟩] [0] hz rfl ⟨(fun a s he hf hz => av rfl rfl i0), trivial⟩ ?_; intro a14 s15 he hf hz hd1 h11; have ⟨hd, E⟩ := hdE hd1 hd E he; have p10 := pa he p10 (hf 10 rfl); have f10 := sb_at f10 (hf 10 rfl); obtain ⟨h0, h7, h8, h10⟩ := va4 he hf h0 h7 h8 h10 rfl; refine wp_block ?_
  refine wp_loop (k := k) (fun m22 a s => ∃ (y18 : Int) (y19 : (List Dot)) (y21 : Int), ref07_Take.l0 m22 x0 x1 y18 y19 y21 = some r ∧ m22 ≤ k ∧ Ext s0 s ∧ a.tmps.size = 76 ∧ a.defers = [] ∧ (kSl kY).V s (a.get 0) x0 ∧ (kI .u64).V s (a.get 7) ((takeN x0 x1).1) ∧ (kI .i64).V s (a.get 8) y18 ∧ (kSl kDot).V s (a.get 10) y19 ∧ Sp s (a.get 10) 70 2 ∧ (∀ g, sb (a.get 10) = some g → s0.w.heap.size ≤ g) ∧ (kI .i64).V s (a.get 11) y21) ⟨_, _, _, h, Nat.le_refl _, E, hz, hd, h0, h7, h8, h10, p10, f10, h11⟩ ?_; rintro m22 a17 s16 ⟨y18, y19, y21, h, hkm22, E, hz, hd, h0, h7, h8, h10, p10, f10, h11⟩; obtain _ | m22 := m22
  ·cases h
  refine wp_seq ?_; refine wp_sr ?_; refine sq_blk [⟨32, _, []⟩, ⟨33, _, []⟩, ⟨34, _, [1]⟩, ⟨35, _, [0, 2]⟩] [3] hz rfl ⟨mvs rfl rfl h11 rfl, mvs rfl rfl h7 rfl, (fun a s he hf hz q1 => cv rfl rfl u_89 u_3 q1), (fun a s he hf hz q0 q2 => ls rfl rfl q0 q2), trivial⟩ ?_; intro a23 s24 he hf hz hd1 h35; have ⟨hd, E⟩ := hdE hd1 hd E he; have p10 := pa he p10 (hf 10 rfl); have f10 := sb_at f10 (hf 10 rfl); obtain ⟨h0, h7, h8, h10, h11⟩ := va5 he hf h0 h7 h8 h10 h11 rfl; refine wp_condV h35 (fun hb => ?_) (fun hb => ?_)
  ·have h := ite_t hb h; refine wp_skip ?_; refine wp_seq ?_; refine wp_block ?_; refine wp_sr ?_; refine sq_blk [⟨39, _, []⟩, ⟨40, _, []⟩, ⟨41, _, [0, 1]⟩, ⟨38, _, [2]⟩, ⟨42, _, [3]⟩, ⟨43, _, [3]⟩, ⟨44, _, [3]⟩, ⟨12, _, [4]⟩, ⟨13, _, [5]⟩, ⟨14, _, [6]⟩] [7, 8, 9] hz rfl ⟨mvs rfl rfl h0 rfl, mvs rfl rfl h8 rfl, (fun a s he hf hz q0 q1 => opw rfl (op_call rfl rfl (ref02_TakeText.ct q0 q1 (lit_i (k := .i64) (n := 24) (by decide))))), (fun a s he hf hz q2 => opw rfl (op_move rfl (f := Fact.tup _) q2)), (fun a s he hf hz q3 => opw rfl (op_extract (f := Fact.v _ _) rfl q3 rfl)), (fun a s he hf hz q3 => opw rfl (op_extract (f := Fact.v _ _) rfl q3 rfl)), (fun a s he hf hz q3 => opw rfl (op_extract (f := Fact.v _ _) rfl q3 rfl)), avq rfl rfl, avq rfl rfl, avq rfl rfl, trivial⟩ ?_; intro a25 s26 he hf hz hd1 h12 h13 h14; have ⟨hd, E⟩ := hdE hd1 hd E he; have p10 := pa he p10 (hf 10 rfl); have f10 := sb_at f10 (hf 10 rfl); obtain ⟨h0, h7, h10, h11⟩ := va4 he hf h0 h7 h10 h11 rfl; refine wp_sr ?_
   refine sq_blk [⟨46, _, []⟩, ⟨47, _, []⟩, ⟨48, _, [0, 1]⟩, ⟨45, _, [2]⟩, ⟨49, _, [3]⟩, ⟨50, _, [3]⟩, ⟨51, _, [3]⟩, ⟨15, _, [4]⟩, ⟨16, _, [5]⟩, ⟨17, _, [6]⟩] [7, 8, 9] hz rfl ⟨mvs rfl rfl h0 rfl, mvs rfl rfl h13 rfl, (fun a s he hf hz q0 q1 => opw rfl (op_call rfl rfl (ref02_TakeNumber.ct q0 q1))), (fun a s he hf hz q2 => opw rfl (op_move rfl (f := Fact.tup _) q2)), (fun a s he hf hz q3 => opw rfl (op_extract (f := Fact.v _ _) rfl q3 rfl)), (fun a s he hf hz q3 => opw rfl (op_extract (f := Fact.v _ _) rfl q3 rfl)), (fun a s he hf hz q3 => opw rfl (op_extract (f := Fact.v _ _) rfl q3 rfl)), avq rfl rfl, avq rfl rfl, avq rfl rfl, trivial⟩ ?_; intro a27 s28 he hf hz hd1 h15 h16 h17; have ⟨hd, E⟩ := hdE hd1 hd E he; have p10 := pa he p10 (hf 10 rfl); have f10 := sb_at f10 (hf 10 rfl); obtain ⟨h0, h7, h10, h11, h12, h14⟩ := va6 he hf h0 h7 h10 h11 h12 h14 rfl; refine wp_seq ?_; refine wp_sr ?_; have hz0 := hz; refine sq_blk [⟨52, _, []⟩, ⟨53, _, [0]⟩, ⟨54, _, [1]⟩, ⟨55, _, [2]⟩, ⟨56, _, [2, 3]⟩, ⟨57, _, [2, 4]⟩, ⟨58, _, [5]⟩, ⟨59, _, [6]⟩, ⟨60, _, [6, 7]⟩, ⟨61, _, [6, 8]⟩] [9] hz rfl ⟨mvs rfl rfl h14 rfl, (fun a s he hf hz q0 => ne_ rfl rfl q0 i0), mvq rfl rfl, (fun a s he hf hz q2 => og rfl rfl rfl hz hz0 rfl q2 (fun g => op_move_v rfl (V_at h17 he (hf 17 rfl)))), (fun a s he hf hz q2 q3 => og rfl rfl rfl hz hz0 rfl q2 (fun g => op_neq rfl (q3.1 g) i0)), (fun a s he hf hz q2 q4 => oe rfl rfl q2 (q4.1)), mvq rfl rfl, (fun a s he hf hz q6 => og rfl rfl rfl hz hz0 rfl q6 (fun g => op_move_v rfl (V_at h15 he (hf 15 rfl)))), (fun a s he hf hz q6 q7 => og rfl rfl rfl hz hz0 rfl q6 (fun g => op_gtr rfl (q7.1 g) (lit_i (k := .u64) (n := 4611686018427387904) (by decide)))), (fun a s he hf hz q6 q8 => oe rfl rfl q6 (q8.1)), trivial⟩ ?_
   intro a29 s30 he hf hz hd1 h61; have ⟨hd, E⟩ := hdE hd1 hd E he; have p10 := pa he p10 (hf 10 rfl); have f10 := sb_at f10 (hf 10 rfl); obtain ⟨h0, h7, h10, h11, h12, h15, h16⟩ := va7 he hf h0 h7 h10 h11 h12 h15 h16 rfl; refine wp_condV h61 (fun hb => ?_) (fun hb => ?_)
   ·have h := ite_t hb h; refine wp_sr ?_; refine sq_blk [⟨4, _, []⟩, ⟨5, _, []⟩, ⟨6, _, []⟩] [0, 1, 2] hz rfl ⟨(fun a s he hf hz => opw rfl (op_assign rfl (f := Fact.own (kSl kDot) 70 2 (fun g => s0.w.heap.size ≤ g) []) own_nil)), (fun a s he hf hz => av rfl rfl i0), (fun a s he hf hz => av rfl rfl (lit_i (k := .i64) (n := 70) (by decide))), trivial⟩ ?_; intro a32 s33 he hf hz hd1 k4 h5 h6; have ⟨hd, E⟩ := hdE hd1 hd E he; have h4 := k4.1; refine wp_ret ?_; cases h
    exact ⟨hd, _, results_tmp3' rfl _ _ _, E, tup3 h4 h5 h6⟩
   ·have h := ite_f hb h; refine wp_skip ?_; refine wp_sr ?_; refine sq_blk [⟨62, _, []⟩, ⟨63, _, []⟩, ⟨64, _, []⟩, ⟨65, _, [2]⟩, ⟨66, _, [1, 3]⟩, ⟨67, _, [4]⟩] [0, 5] hz rfl ⟨(fun a s he hf hz => opw rfl (op_move rfl (f := Fact.own _ _ _ _ _) (own_at h10 p10 f10 he (hf 10 rfl)))), mvs rfl rfl h12 rfl, mvs rfl rfl h15 rfl, (fun a s he hf hz q2 => cv rfl rfl u_89 u_2 q2), (fun a s he hf hz q1 q3 => opw rfl (op_build rfl bt_70 (ps := [(0, [(a.get 63)]), (1, [(a.get 65)])]) ⟨rfl, V_cells1 (s := s) rfl q1, rfl, V_cells1 (s := s) rfl q3, trivial⟩ rfl (f := Fact.v kDot (⟨(takeT x0 y18 24).1, IntKind.wrap .i64 ((takeN x0 ((takeT x0 y18 24).2.1)).1)⟩ : Dot)) (V_mk rfl (kDot_close q1 q3)))), (fun a s he hf hz q4 => opw rfl ((by obtain ⟨e34, w36, r35⟩ := V_open rfl q4; obtain ⟨u37, u38, rfl, c39, c40⟩ := kDot_open r35; exact op_lit_o (Q := fun g => s0.w.heap.size ≤ g) (d := kDot) rfl lt_32 (zc := [.string ⟨#[]⟩, .int .i64 0]) (by kernel_rfl) (ps := [(0, [u37, u38])]) ⟨rfl, congrArg Value.cells w36, trivial⟩ rfl (by decide) (ys := ([(⟨(takeT x0 y18 24).1, IntKind.wrap .i64 ((takeN x0 ((takeT x0 y18 24).2.1)).1)⟩ : Dot)] : List Dot)) rfl (by decide) rfl (lit_rows1 (show kDot.R _ [u37, u38] (⟨(takeT x0 y18 24).1, IntKind.wrap .i64 ((takeN x0 ((takeT x0 y18 24).2.1)).1)⟩ : Dot) from kDot_close c39 c40))))), trivial⟩ ?_
    intro a42 s43 he hf hz hd1 k62 k67; have ⟨hd, E⟩ := hdE hd1 hd E he; obtain ⟨h0, h7, h11, h16⟩ := va4 he hf h0 h7 h11 h16 rfl; have h62 := k62.1; have p62 := k62.2.1; have f62 := k62.2.2; have h67 := k67.1; obtain ⟨D46, h⟩ := need h; refine sq_set hz rfl rfl rfl (op_append2 rfl el_32 h62 p62 h67 D46 rfl (fun v s45 he hv hp hq => fun a44 hd' hf hz hd1 => ?_)); have f68' : ∀ g, sb (a44.get 68) = some g → s0.w.heap.size ≤ g := by
     intro g hg; rw [hd'] at hg; rcases hq g hg with h | h
     ·have h1 := f62 g h; exact h1
     ·have h2 := E.size; exact (by omega)
    have hd := hd1.trans hd; obtain ⟨h0, h7, h11, h16⟩ := va4 he hf h0 h7 h11 h16 rfl; have E := Chg.chg E he (fun b e h => absurd h (Nat.not_lt.2 (f62 b e))); have h68 := V_eq hd' hv; have p68 := Sp_at hp (Chg.refl (fun _ => False) _) (fun _ _ hf => hf) hd'; have f68 := f68'; refine sq_blk [⟨10, _, []⟩] [0] hz rfl ⟨(fun a s he hf hz => opw rfl (op_assign rfl (f := Fact.own _ _ _ _ _) (own_at h68 p68 f68 he (hf 68 rfl)))), trivial⟩ ?_; intro a48 s49 he hf hz hd1 k10; have hd := hd1.trans hd; obtain ⟨h0, h7, h11, h16⟩ := va4 he hf h0 h7 h11 h16 rfl; have E := E.trans he; have h10 := k10.1; have p10 := k10.2.1; have f10 := k10.2.2; refine wp_region ?_; refine sq_blk [⟨69, _, []⟩, ⟨8, _, [0]⟩] [1] hz rfl ⟨mvs rfl rfl h16 rfl, avq rfl rfl, trivial⟩ ?_; intro a50 s51 he hf hz hd1 h8; have ⟨hd, E⟩ := hdE hd1 hd E he; have p10 := pa he p10 (hf 10 rfl); have f10 := sb_at f10 (hf 10 rfl); obtain ⟨h0, h7, h10, h11⟩ := va4 he hf h0 h7 h10 h11 rfl; refine wp_region ?_; refine sq_blk [⟨36, _, []⟩, ⟨37, _, [0]⟩] [1] hz rfl ⟨mvs rfl rfl h11 rfl, (fun a s he hf hz q0 => ad rfl rfl q0 i1), trivial⟩ ?_
    intro a52 s53 he hf hz hd1 h37; have ⟨hd, E⟩ := hdE hd1 hd E he; have p10 := pa he p10 (hf 10 rfl); have f10 := sb_at f10 (hf 10 rfl); obtain ⟨h0, h7, h8, h10⟩ := va4 he hf h0 h7 h8 h10 rfl; refine sq_blk [⟨11, _, []⟩] [0] hz rfl ⟨avs rfl rfl h37 rfl, trivial⟩ ?_; intro a54 s55 he hf hz hd1 h11; have ⟨hd, E⟩ := hdE hd1 hd E he; have p10 := pa he p10 (hf 10 rfl); have f10 := sb_at f10 (hf 10 rfl); obtain ⟨h0, h7, h8, h10⟩ := va4 he hf h0 h7 h8 h10 rfl; exact ⟨_, (by omega : m22 < m22 + 1), _, _, _, h, by omega, E, hz, hd, h0, h7, h8, h10, p10, (fun g hg => (f10 g hg)), h11⟩
  ·have h := ite_f hb h; refine wp_exit ?_; refine then_exit ?_; refine then_exit ?_; refine inBlock_hit ?_; refine wp_sr ?_; refine sq_blk [⟨70, _, []⟩, ⟨71, _, [0]⟩, ⟨18, _, [1]⟩] [2] hz rfl ⟨(fun a s he hf hz => opw rfl (op_move rfl (f := Fact.own _ _ _ _ _) (own_at h10 p10 f10 he (hf 10 rfl)))), (fun a s he hf hz q0 => opw rfl (op_call rfl rfl (ref07_Right.ct q0.1))), avq rfl rfl, trivial⟩ ?_; intro a56 s57 he hf hz hd1 h18; have ⟨hd, E⟩ := hdE hd1 hd E he; have p10 := pa he p10 (hf 10 rfl); have f10 := sb_at f10 (hf 10 rfl); obtain ⟨h8, h10⟩ := va2 he hf h8 h10 rfl; refine wp_seq ?_; refine wp_sr ?_; refine sq_blk [⟨72, _, []⟩, ⟨73, _, [0]⟩] [1] hz rfl ⟨mvs rfl rfl h18 rfl, (fun a s he hf hz q0 => no_ rfl rfl q0), trivial⟩ ?_; intro a58 s59 he hf hz hd1 h73; have ⟨hd, E⟩ := hdE hd1 hd E he; have p10 := pa he p10 (hf 10 rfl); have f10 := sb_at f10 (hf 10 rfl); obtain ⟨h8, h10⟩ := va2 he hf h8 h10 rfl; refine wp_condV h73 (fun hb => ?_) (fun hb => ?_)
   ·have h := ite_t hb h; refine wp_sr ?_; refine sq_blk [⟨4, _, []⟩, ⟨5, _, []⟩, ⟨6, _, []⟩] [0, 1, 2] hz rfl ⟨(fun a s he hf hz => opw rfl (op_assign rfl (f := Fact.own (kSl kDot) 70 2 (fun g => s0.w.heap.size ≤ g) []) own_nil)), (fun a s he hf hz => av rfl rfl i0), (fun a s he hf hz => av rfl rfl (lit_i (k := .i64) (n := 70) (by decide))), trivial⟩ ?_; intro a61 s62 he hf hz hd1 k4 h5 h6; have ⟨hd, E⟩ := hdE hd1 hd E he; have h4 := k4.1; refine wp_ret ?_; cases h
    exact ⟨hd, _, results_tmp3' rfl _ _ _, E, tup3 h4 h5 h6⟩
   ·have h := ite_f hb h; refine wp_skip ?_; refine wp_sr ?_; refine sq_blk [⟨74, _, []⟩, ⟨75, _, []⟩, ⟨4, _, [0]⟩, ⟨5, _, [1]⟩, ⟨6, _, []⟩] [2, 3, 4] hz rfl ⟨(fun a s he hf hz => opw rfl (op_move rfl (f := Fact.own _ _ _ _ _) (own_at h10 p10 f10 he (hf 10 rfl)))), mvs rfl rfl h8 rfl, (fun a s he hf hz q0 => opw rfl (op_assign rfl (f := Fact.own _ _ _ _ _) q0)), avq rfl rfl, (fun a s he hf hz => av rfl rfl i0), trivial⟩ ?_; intro a63 s64 he hf hz hd1 k4 h5 h6; have ⟨hd, E⟩ := hdE hd1 hd E he; have h4 := k4.1; refine wp_ret ?_; cases h
    exact ⟨hd, _, results_tmp3' rfl _ _ _, E, tup3 h4 h5 h6⟩
theorem ref07_Take.e0 {b : Str} {x1 : Int} {n : Nat} (hb : b.length ≤ maxLen) (hn : (takeN b x1).1 = (n : Int)) (h64 : n ≤ 64) : ∀ j, j ≤ n → ∀ (r : Str) (acc : List Dot), r <:+ b → acc.length = n - j → ∃ k, ref07_Take.l0 k b x1 ((b.length : Int) - r.length) acc ((n - j : Nat) : Int) =
  some (match readDots j r with | none => ([], 0, 70) | some (l, q) => if rightV (acc ++ l) = true then (acc ++ l, (b.length : Int) - q.length, 0) else ([], 0, 70)) := by
 have hn64 : IntKind.wrap .i64 (n : Int) = (n : Int) := w64 (by omega) (by omega)
 intro j
 induction j with
 | zero =>
  intro _ r acc hr ha
  refine ⟨1, ?_⟩
  simp only [ref07_Take.l0, hn, hn64, Nat.sub_zero, Int.lt_irrefl, decide_false, Bool.false_eq_true, if_false, readDots, List.append_nil]
  cases rightV acc <;> simp
 | succ j ih =>
  intro hj r acc hr ha
  have h1 : ((n - (j + 1) : Nat) : Int) < (n : Int) := by omega
  simp only [readDots]
  have ht := takeT_sfx 24 hr
  cases e1 : readT 24 r with
  | none =>
   rw [e1] at ht
   refine ⟨1, ?_⟩
   simp only [ref07_Take.l0, hn, hn64, h1, decide_true, if_true, ht]
   simp
  | some wr =>
   obtain ⟨w, r1⟩ := wr
   rw [e1] at ht
   have hr1 := (readT_sfx e1).trans hr
   have hnn := takeN_sfx hr1
   simp only []
   cases e2 : readN r1 with
   | none =>
    rw [e2] at hnn
    refine ⟨1, ?_⟩
    simp only [ref07_Take.l0, hn, hn64, h1, decide_true, if_true, ht, hnn]
    simp
   | some nr =>
    obtain ⟨m, r2⟩ := nr
    rw [e2] at hnn
    have hr2 := (readN_sfx e2).trans hr1
    simp only []
    by_cases hm : 4611686018427387904 < m
    ·have hm' : (4611686018427387904 : Int) < (m : Int) := by omega
     refine ⟨1, ?_⟩
     simp only [ref07_Take.l0, hn, hn64, h1, decide_true, if_true, ht, hnn, hm', if_pos hm]
     simp
    ·have hm' : ¬ (4611686018427387904 : Int) < (m : Int) := by omega
     obtain ⟨k, hk⟩ := ih (by omega) r2 (acc ++ [⟨w, (m : Int)⟩]) hr2 (by simp; omega)
     refine ⟨k + 1, ?_⟩
     have ew : IntKind.wrap .i64 (m : Int) = (m : Int) := w64 (by omega) (by omega)
     have en : IntKind.wrap .i64 (((n - (j + 1) : Nat) : Int) + 1) = ((n - j : Nat) : Int) := by rw [w64 (by omega) (by omega)]; omega
     simp only [ref07_Take.l0, hn, hn64, h1, decide_true, if_true, ht, hnn, hm', decide_false, Bool.not_true, Bool.or_self, Bool.false_eq_true, if_false, if_neg hm, ew, en]
     rw [if_pos (by simp; omega), hk]
     cases readDots j r2 with
     | none => rfl
     | some lq => obtain ⟨l, q⟩ := lq; simp
theorem ref07_Take.nice (x0 : Str) (x1 : Int) (b0 : (kSl kY).bd x0) (b1 : (kI .i64).bd x1) : ∃ k, ref07_Take.f k x0 x1 = some (takeV x0 x1) := by
 have hb : x0.length ≤ maxLen := b0.1
 unfold ref07_Take.f takeV readV
 by_cases h0 : x1 < 0
 ·exact ⟨0, by rw [takeN_neg h0, if_pos h0]; rfl⟩
 ·have ht := takeN_pos (b := x0) h0
  rw [if_neg h0]
  cases e1 : readN (x0.drop x1.toNat) with
  | none =>
   rw [e1] at ht
   exact ⟨0, by rw [ht]; rfl⟩
  | some nr =>
   obtain ⟨n, r⟩ := nr
   rw [e1] at ht
   simp only [ht]
   by_cases h64 : 64 < n
   ·have h64' : (64 : Int) < (n : Int) := by omega
    exact ⟨0, by simp only [h64', decide_true, if_pos h64]; rfl⟩
   ·have h64' : ¬ (64 : Int) < (n : Int) := by omega
    have hr : r <:+ x0 := (readN_sfx e1).trans (List.drop_suffix _ _)
    obtain ⟨k, hk⟩ := ref07_Take.e0 hb (by rw [ht]) (by omega) n (Nat.le_refl _) r [] hr (by simp)
    refine ⟨k, ?_⟩
    simp only [h64', decide_true, decide_false, Bool.not_true, Bool.or_self, Bool.false_eq_true, if_false, if_neg h64]
    rw [Nat.sub_self] at hk
    refine hk.trans ?_
    cases readDots n r with
    | none => rfl
    | some lq => obtain ⟨l, q⟩ := lq; simp only [List.nil_append]; cases rightV l <;> rfl
theorem ref07_Take.ct {s0 : St} {v0 : Value} {x0 : (List UInt8)} {v1 : Value} {x1 : Int} (k0 : (kSl kY).V s0 v0 x0) (k1 : (kI .i64).V s0 v1 x1) : Cl Try.prog 67 #[v0, v1] s0 (Okf s0 (Fact.tup [Fact.v (kSl kDot) ((takeV x0 x1).1), Fact.v (kI .i64) ((takeV x0 x1).2.1), Fact.v (kI .i64) ((takeV x0 x1).2.2)])) := by
 obtain ⟨k, h⟩ := ref07_Take.nice x0 x1 (Kn.V_bd k0) (Kn.V_bd k1)
 exact ref07_Take.ok k0 k1 h
end
section
attribute [local irreducible] Kn.V PtrV
def cmp_isNaN_int64 (x0 : Int) : Bool := (!decide (x0 = x0))
theorem cmp_isNaN_int64.ok {s0 : St} {v0 : Value} {x0 : Int} (k0 : (kI .i64).V s0 v0 x0) : Cl Try.prog 147 #[v0] s0 (Okf s0 (Fact.v kB (cmp_isNaN_int64 x0))) := by
 obtain ⟨r, h⟩ : ∃ r, some (cmp_isNaN_int64 x0) = some r := ⟨_, rfl⟩
 rw [Option.some.inj h]
 have h : (some (!decide (x0 = x0))) = some r := by rw [← h]; unfold cmp_isNaN_int64; first | rfl | simp only [apply_ite some] | (repeat' (first | rfl | split))
 refine cl_of_wp Try.func147 rfl en_147 fun a hz hd hp => ?_; have hz : a.tmps.size = 6 := hz; have E := Chg.refl (fun _ => False) s0; have h0 := V_at k0 E (hp 0 v0 rfl); refine wp_sr ?_; refine sq_blk [⟨2, _, []⟩] [] hz rfl ⟨(fun a s he hf hz => av rfl rfl b_f), trivial⟩ ?_; intro a1 s2 he hf hz hd1; have ⟨hd, E⟩ := hdE hd1 hd E he; have h0 := V_at h0 he (hf 0 rfl); refine wp_sr ?_; refine sq_blk [⟨3, _, []⟩, ⟨4, _, []⟩, ⟨5, _, [0, 1]⟩, ⟨2, _, [2]⟩] [3] hz rfl ⟨mvs rfl rfl h0 rfl, mvs rfl rfl h0 rfl, (fun a s he hf hz q0 q1 => ne_ rfl rfl q0 q1), avq rfl rfl, trivial⟩ ?_; intro a3 s4 he hf hz hd1 h2; have ⟨hd, E⟩ := hdE hd1 hd E he; refine wp_ret ?_; cases h
 exact ⟨hd, _, results_tmp rfl _ _ _, E, h2⟩
def cmp_Compare_int64 (x0 : Int) (x1 : Int) : Int := if (cmp_isNaN_int64 x0) = true then (if (cmp_isNaN_int64 x1) = true then (0) else ((-1))) else (if (cmp_isNaN_int64 x1) = true then (1) else (if decide (x0 < x1) = true then ((-1)) else (if decide (x1 < x0) = true then (1) else (0))))
theorem cmp_Compare_int64.ok {s0 : St} {v0 : Value} {x0 : Int} {v1 : Value} {x1 : Int} (k0 : (kI .i64).V s0 v0 x0) (k1 : (kI .i64).V s0 v1 x1) : Cl Try.prog 130 #[v0, v1] s0 (Okf s0 (Fact.v (kI .i64) (cmp_Compare_int64 x0 x1))) := by
 obtain ⟨r, h⟩ : ∃ r, some (cmp_Compare_int64 x0 x1) = some r := ⟨_, rfl⟩
 rw [Option.some.inj h]
 have h : (if (cmp_isNaN_int64 x0) = true then (if (cmp_isNaN_int64 x1) = true then (some 0) else (some (-1))) else (if (cmp_isNaN_int64 x1) = true then (some 1) else (if decide (x0 < x1) = true then (some (-1)) else (if decide (x1 < x0) = true then (some 1) else (some 0))))) = some r := by rw [← h]; unfold cmp_Compare_int64; first | rfl | simp only [apply_ite some] | (repeat' (first | rfl | split))
 refine cl_of_wp Try.func130 rfl en_130 fun a hz hd hp => ?_; have hz : a.tmps.size = 20 := hz; have E := Chg.refl (fun _ => False) s0; have h0 := V_at k0 E (hp 0 v0 rfl); have h1 := V_at k1 E (hp 1 v1 rfl); refine wp_sr ?_; refine sq_blk [⟨4, _, []⟩] [] hz rfl ⟨(fun a s he hf hz => av rfl rfl i0), trivial⟩ ?_; intro a1 s2 he hf hz hd1; have ⟨hd, E⟩ := hdE hd1 hd E he; obtain ⟨h0, h1⟩ := va2 he hf h0 h1 rfl; refine wp_sr ?_; refine sq_blk [⟨7, _, []⟩, ⟨8, _, [0]⟩, ⟨5, _, [1]⟩] [2] hz rfl ⟨mvs rfl rfl h0 rfl, (fun a s he hf hz q0 => opw rfl (op_call rfl rfl (cmp_isNaN_int64.ok q0))), avq rfl rfl, trivial⟩ ?_; intro a3 s4 he hf hz hd1 h5; have ⟨hd, E⟩ := hdE hd1 hd E he; obtain ⟨h0, h1⟩ := va2 he hf h0 h1 rfl; refine wp_sr ?_; refine sq_blk [⟨9, _, []⟩, ⟨10, _, [0]⟩, ⟨6, _, [1]⟩] [2] hz rfl ⟨mvs rfl rfl h1 rfl, (fun a s he hf hz q0 => opw rfl (op_call rfl rfl (cmp_isNaN_int64.ok q0))), avq rfl rfl, trivial⟩ ?_; intro a5 s6 he hf hz hd1 h6; have hd := hd1.trans hd; obtain ⟨h0, h1, h5⟩ := va3 he hf h0 h1 h5 rfl
 have E := E.trans he; refine wp_seq ?_; refine wp_sr ?_; refine sq_blk [⟨11, _, []⟩] [0] hz rfl ⟨mvs rfl rfl h5 rfl, trivial⟩ ?_; intro a7 s8 he hf hz hd1 h11; have ⟨hd, E⟩ := hdE hd1 hd E he; obtain ⟨h0, h1, h6⟩ := va3 he hf h0 h1 h6 rfl; refine wp_condV h11 (fun hb => ?_) (fun hb => ?_)
 ·have h := ite_t hb h; refine wp_seq ?_; refine wp_sr ?_; refine sq_blk [⟨12, _, []⟩] [0] hz rfl ⟨mvs rfl rfl h6 rfl, trivial⟩ ?_; intro a9 s10 he hf hz hd1 h12; have ⟨hd, E⟩ := hdE hd1 hd E he; refine wp_condV h12 (fun hb => ?_) (fun hb => ?_)
  ·have h := ite_t hb h; refine wp_sr ?_; refine sq_blk [⟨4, _, []⟩] [0] hz rfl ⟨(fun a s he hf hz => av rfl rfl i0), trivial⟩ ?_; intro a11 s12 he hf hz hd1 h4; have ⟨hd, E⟩ := hdE hd1 hd E he; refine wp_ret ?_; cases h
   exact ⟨hd, _, results_tmp rfl _ _ _, E, h4⟩
  ·have h := ite_f hb h; refine wp_skip ?_; refine wp_sr ?_; refine sq_blk [⟨4, _, []⟩] [0] hz rfl ⟨(fun a s he hf hz => av rfl rfl (lit_i (k := .i64) (n := (-1)) (by decide))), trivial⟩ ?_; intro a13 s14 he hf hz hd1 h4; have ⟨hd, E⟩ := hdE hd1 hd E he; refine wp_ret ?_; cases h
   exact ⟨hd, _, results_tmp rfl _ _ _, E, h4⟩
 ·have h := ite_f hb h; refine wp_skip ?_; refine wp_seq ?_; refine wp_sr ?_; refine sq_blk [⟨13, _, []⟩] [0] hz rfl ⟨mvs rfl rfl h6 rfl, trivial⟩ ?_; intro a15 s16 he hf hz hd1 h13; have ⟨hd, E⟩ := hdE hd1 hd E he; obtain ⟨h0, h1⟩ := va2 he hf h0 h1 rfl; refine wp_condV h13 (fun hb => ?_) (fun hb => ?_)
  ·have h := ite_t hb h; refine wp_sr ?_; refine sq_blk [⟨4, _, []⟩] [0] hz rfl ⟨(fun a s he hf hz => av rfl rfl i1), trivial⟩ ?_; intro a17 s18 he hf hz hd1 h4; have ⟨hd, E⟩ := hdE hd1 hd E he; refine wp_ret ?_; cases h
   exact ⟨hd, _, results_tmp rfl _ _ _, E, h4⟩
  ·have h := ite_f hb h; refine wp_skip ?_; refine wp_seq ?_; refine wp_sr ?_; refine sq_blk [⟨14, _, []⟩, ⟨15, _, []⟩, ⟨16, _, [0, 1]⟩] [2] hz rfl ⟨mvs rfl rfl h0 rfl, mvs rfl rfl h1 rfl, (fun a s he hf hz q0 q1 => ls rfl rfl q0 q1), trivial⟩ ?_; intro a19 s20 he hf hz hd1 h16; have ⟨hd, E⟩ := hdE hd1 hd E he; obtain ⟨h0, h1⟩ := va2 he hf h0 h1 rfl; refine wp_condV h16 (fun hb => ?_) (fun hb => ?_)
   ·have h := ite_t hb h; refine wp_sr ?_; refine sq_blk [⟨4, _, []⟩] [0] hz rfl ⟨(fun a s he hf hz => av rfl rfl (lit_i (k := .i64) (n := (-1)) (by decide))), trivial⟩ ?_; intro a21 s22 he hf hz hd1 h4; have ⟨hd, E⟩ := hdE hd1 hd E he; refine wp_ret ?_; cases h
    exact ⟨hd, _, results_tmp rfl _ _ _, E, h4⟩
   ·have h := ite_f hb h; refine wp_skip ?_; refine wp_seq ?_; refine wp_sr ?_; refine sq_blk [⟨17, _, []⟩, ⟨18, _, []⟩, ⟨19, _, [0, 1]⟩] [2] hz rfl ⟨mvs rfl rfl h0 rfl, mvs rfl rfl h1 rfl, (fun a s he hf hz q0 q1 => gt_ rfl rfl q0 q1), trivial⟩ ?_; intro a23 s24 he hf hz hd1 h19; have ⟨hd, E⟩ := hdE hd1 hd E he; refine wp_condV h19 (fun hb => ?_) (fun hb => ?_)
    ·have h := ite_t hb h; refine wp_sr ?_; refine sq_blk [⟨4, _, []⟩] [0] hz rfl ⟨(fun a s he hf hz => av rfl rfl i1), trivial⟩ ?_; intro a25 s26 he hf hz hd1 h4; have ⟨hd, E⟩ := hdE hd1 hd E he; refine wp_ret ?_; cases h
     exact ⟨hd, _, results_tmp rfl _ _ _, E, h4⟩
    ·have h := ite_f hb h; refine wp_skip ?_; refine wp_sr ?_; refine sq_blk [⟨4, _, []⟩] [0] hz rfl ⟨(fun a s he hf hz => av rfl rfl i0), trivial⟩ ?_; intro a27 s28 he hf hz hd1 h4; have ⟨hd, E⟩ := hdE hd1 hd E he; refine wp_ret ?_; cases h
     exact ⟨hd, _, results_tmp rfl _ _ _, E, h4⟩
def cmp_Or_int.l0 : Nat → (List Int) → Int → Option (Int)
 | 0, _, _ => none
 | m10 + 1, x0, y9 => (if decide (y9 < (x0.length : Int)) = true then (if (0 ≤ y9 ∧ y9 < (x0.length : Int)) then (if (!decide ((List.getD x0 (y9).toNat default) = 0)) = true then (some (List.getD x0 (y9).toNat default)) else (cmp_Or_int.l0 m10 x0 (IntKind.wrap .i64 (y9 + 1)))) else none) else (some 0))
def cmp_Or_int.f (k : Nat) (x0 : (List Int)) : Option (Int) := (cmp_Or_int.l0 k x0 0)
theorem cmp_Or_int.ok {s0 : St} {v0 : Value} {x0 : (List Int)} {k : Nat} {r : Int} (k0 : (kSl (kI .i64)).V s0 v0 x0) (h : cmp_Or_int.f k x0 = some r) : Cl Try.prog 126 #[v0] s0 (Okf s0 (Fact.v (kI .i64) r)) := by
 unfold cmp_Or_int.f at h
 refine cl_of_wp Try.func126 rfl en_126 fun a hz hd hp => ?_; have hz : a.tmps.size = 18 := hz; have E := Chg.refl (fun _ => False) s0; have h0 := V_at k0 E (hp 0 v0 rfl); refine wp_sr ?_; refine sq_blk [⟨2, _, []⟩] [] hz rfl ⟨(fun a s he hf hz => av rfl rfl i0), trivial⟩ ?_; intro a1 s2 he hf hz hd1; have ⟨hd, E⟩ := hdE hd1 hd E he; have h0 := V_at h0 he (hf 0 rfl); refine wp_sr ?_; refine sq_blk [⟨3, _, []⟩] [0] hz rfl ⟨(fun a s he hf hz => av rfl rfl i0), trivial⟩ ?_; intro a3 s4 he hf hz hd1 h3; have ⟨hd, E⟩ := hdE hd1 hd E he; have h0 := V_at h0 he (hf 0 rfl); refine wp_seq ?_; refine wp_sr ?_; refine sq_blk [⟨6, _, []⟩, ⟨7, _, [0]⟩, ⟨8, _, []⟩] [0, 1, 2] hz rfl ⟨mvs rfl rfl h0 rfl, (fun a s he hf hz q0 => le_ rfl rfl u_175 q0), (fun a s he hf hz => mv rfl rfl i0), trivial⟩ ?_; intro a5 s6 he hf hz hd1 h6 h7 h8; have ⟨hd, E⟩ := hdE hd1 hd E he; have h3 := V_at h3 he (hf 3 rfl); refine wp_block ?_
 refine wp_loop (k := k) (fun m10 a s => ∃ (y9 : Int), cmp_Or_int.l0 m10 x0 y9 = some r ∧ m10 ≤ k ∧ Ext s0 s ∧ a.tmps.size = 18 ∧ a.defers = [] ∧ (kI .i64).V s (a.get 3) 0 ∧ (kSl (kI .i64)).V s (a.get 6) x0 ∧ (kI .i64).V s (a.get 7) (x0.length : Int) ∧ (kI .i64).V s (a.get 8) y9) ⟨_, h, Nat.le_refl _, E, hz, hd, h3, h6, h7, h8⟩ ?_; rintro m10 a8 s7 ⟨y9, h, hkm10, E, hz, hd, h3, h6, h7, h8⟩; obtain _ | m10 := m10
 ·cases h
 refine wp_sr ?_; refine sq_blk [⟨9, _, []⟩] [0] hz rfl ⟨(fun a s he hf hz => ls rfl rfl (V_at h8 he (hf 8 rfl)) (V_at h7 he (hf 7 rfl))), trivial⟩ ?_; intro a11 s12 he hf hz hd1 h9; have ⟨hd, E⟩ := hdE hd1 hd E he; obtain ⟨h3, h6, h7, h8⟩ := va4 he hf h3 h6 h7 h8 rfl; refine wp_seq ?_; refine wp_condV h9 (fun hb => ?_) (fun hb => ?_)
 ·have h := ite_t hb h; refine wp_skip ?_; refine wp_seq ?_; refine wp_block ?_; refine wp_sr ?_; obtain ⟨D13, h⟩ := need h; refine sq_blk [⟨10, _, []⟩, ⟨11, _, [0]⟩, ⟨5, _, [1]⟩] [2] hz rfl ⟨(fun a s he hf hz => ia rfl rfl sl_175 (V_at h6 he (hf 6 rfl)) (V_at h8 he (hf 8 rfl)) D13.1 D13.2), (fun a s he hf hz q0 => lp rfl rfl ty_3 (by decide) q0), avq rfl rfl, trivial⟩ ?_; intro a14 s15 he hf hz hd1 h5; have ⟨hd, E⟩ := hdE hd1 hd E he; obtain ⟨h3, h6, h7, h8⟩ := va4 he hf h3 h6 h7 h8 rfl; refine wp_sr ?_; refine sq_blk [⟨12, _, []⟩, ⟨13, _, []⟩, ⟨14, _, [0, 1]⟩] [2] hz rfl ⟨mvs rfl rfl h5 rfl, mvs rfl rfl h3 rfl, (fun a s he hf hz q0 q1 => ne_ rfl rfl q0 q1), trivial⟩ ?_; intro a16 s17 he hf hz hd1 h14; have ⟨hd, E⟩ := hdE hd1 hd E he; obtain ⟨h3, h5, h6, h7, h8⟩ := va5 he hf h3 h5 h6 h7 h8 rfl; refine wp_condV h14 (fun hb => ?_) (fun hb => ?_)
  ·have h := ite_t hb h; refine wp_sr ?_; refine sq_blk [⟨15, _, []⟩, ⟨2, _, [0]⟩] [1] hz rfl ⟨mvs rfl rfl h5 rfl, avq rfl rfl, trivial⟩ ?_; intro a18 s19 he hf hz hd1 h2; have ⟨hd, E⟩ := hdE hd1 hd E he; refine wp_ret ?_; cases h
   exact ⟨hd, _, results_tmp rfl _ _ _, E, h2⟩
  ·have h := ite_f hb h; refine wp_skip ?_; refine wp_region ?_; refine sq_blk [⟨16, _, []⟩] [0] hz rfl ⟨(fun a s he hf hz => ad rfl rfl (V_at h8 he (hf 8 rfl)) i1), trivial⟩ ?_; intro a20 s21 he hf hz hd1 h16; have ⟨hd, E⟩ := hdE hd1 hd E he; obtain ⟨h3, h6, h7⟩ := va3 he hf h3 h6 h7 rfl; refine sq_blk [⟨8, _, []⟩] [0] hz rfl ⟨mvs rfl rfl h16 rfl, trivial⟩ ?_; intro a22 s23 he hf hz hd1 h8; have ⟨hd, E⟩ := hdE hd1 hd E he; obtain ⟨h3, h6, h7⟩ := va3 he hf h3 h6 h7 rfl; exact ⟨_, (by omega : m10 < m10 + 1), _, h, by omega, E, hz, hd, h3, h6, h7, h8⟩
 ·have h := ite_f hb h; refine wp_exit ?_; refine then_exit ?_; refine then_exit ?_; refine inBlock_hit ?_; refine wp_sr ?_; refine sq_blk [⟨17, _, []⟩, ⟨2, _, [0]⟩] [1] hz rfl ⟨mvs rfl rfl h3 rfl, avq rfl rfl, trivial⟩ ?_; intro a24 s25 he hf hz hd1 h2; have ⟨hd, E⟩ := hdE hd1 hd E he; refine wp_ret ?_; cases h
  exact ⟨hd, _, results_tmp rfl _ _ _, E, h2⟩
def orL (l : List Int) : Int := match l with
 | [] => 0
 | a :: l => if a = 0 then orL l else a
theorem cmp_Or_int.nice (x0 : List Int) (b0 : (kSl (kI .i64)).bd x0) : ∃ k, cmp_Or_int.f k x0 = some (orL x0) := by
 have hb : x0.length ≤ maxLen := b0.1
 have hm := maxLen_lt
 have : ∀ y, y ≤ x0.length → ∃ k, cmp_Or_int.l0 k x0 (y : Int) = some (orL (x0.drop y)) := by
  refine rounds x0.length ⟨1, ?_⟩ fun y hy ⟨k, hk⟩ => ?_
  ·simp only [cmp_Or_int.l0, List.drop_length]; simp [orL]
  ·push_cast at hk
   have hr : (0 : Int) ≤ y ∧ (y : Int) < x0.length := ⟨by omega, by omega⟩
   rw [drop_at default hy]
   have hu : ∀ k, cmp_Or_int.l0 (k + 1) x0 (y : Int) = if (!decide (x0.getD y default = 0)) = true then some (x0.getD y default) else cmp_Or_int.l0 k x0 ((y : Int) + 1) := fun k => by
    simp only [cmp_Or_int.l0, Int.toNat_natCast, hr, and_self, decide_true, if_true]
    rw [w64s (by omega)]
   generalize x0.getD y default = d at *
   by_cases e : d = 0
   ·exact ⟨k + 1, by rw [hu]; simp [e, hk, orL]⟩
   ·exact ⟨1, by rw [hu 0]; simp [e, orL]⟩
 obtain ⟨k, hk⟩ := this 0 (Nat.zero_le _)
 exact ⟨k, by unfold cmp_Or_int.f; exact hk⟩
theorem cmp_Or_int.ct {s0 : St} {v0 : Value} {x0 : (List Int)} (k0 : (kSl (kI .i64)).V s0 v0 x0) : Cl Try.prog 126 #[v0] s0 (Okf s0 (Fact.v (kI .i64) (orL x0))) := by
 obtain ⟨k, h⟩ := cmp_Or_int.nice x0 (Kn.V_bd k0)
 exact cmp_Or_int.ok k0 h
def order_stands (x0 : Dot) (x1 : Dot) : Int := (orL ([(strings_Compare x0.who x1.who), (cmp_Compare_int64 x0.n x1.n)] : List Int))
theorem order_stands.ok {s0 : St} {v0 : Value} {x0 : Dot} {v1 : Value} {x1 : Dot} (k0 : kDot.V s0 v0 x0) (k1 : kDot.V s0 v1 x1) : Cl Try.prog 96 #[v0, v1] s0 (Okf s0 (Fact.v (kI .i64) (order_stands x0 x1))) := by
 obtain ⟨r, h⟩ : ∃ r, some (order_stands x0 x1) = some r := ⟨_, rfl⟩
 rw [Option.some.inj h]
 have h : (some (orL ([(strings_Compare x0.who x1.who), (cmp_Compare_int64 x0.n x1.n)] : List Int))) = some r := by rw [← h]; unfold order_stands; first | rfl | simp only [apply_ite some] | (repeat' (first | rfl | split))
 refine cl_of_wp Try.func96 rfl en_96 fun a hz hd hp => ?_; have hz : a.tmps.size = 17 := hz; have E := Chg.refl (fun _ => False) s0; have h0 := V_at k0 E (hp 0 v0 rfl); have h1 := V_at k1 E (hp 1 v1 rfl); refine wp_sr ?_; refine sq_set hz rfl rfl rfl (op_boxn rfl rfl h0 (fun s2 e4 he BB3 r5 => fun a1 h2 hf hz hd1 => ?_)); obtain ⟨b10, hb10⟩ : ∃ b, b = s0.w.heap.size := ⟨_, rfl⟩; rw [← hb10] at BB3 h2; have B10 := BB3; have l10 : s0.w.heap.size ≤ b10 := by have := E.size; omega
 have ⟨hd, E⟩ := hdE hd1 hd E he; have h1 := V_at h1 he (hf 1 rfl); obtain ⟨u6, u7, rfl, c8, c9⟩ := kDot_open r5; refine sq_set hz rfl rfl rfl (op_boxn rfl rfl h1 (fun s12 e14 he BB13 r15 => fun a11 h3 hf hz hd1 => ?_)); obtain ⟨b20, hb20⟩ : ∃ b, b = s2.w.heap.size := ⟨_, rfl⟩; rw [← hb20] at BB13 h3; have B20 := BB13; have l20 : s0.w.heap.size ≤ b20 := by have := E.size; omega
 have ⟨hd, E⟩ := hdE hd1 hd E he; have h2 := (hf 2 rfl).trans h2; have B10 := B10.ext he; obtain ⟨c8, c9⟩ := vm2 he c8 c9; obtain ⟨u16, u17, rfl, c18, c19⟩ := kDot_open r15; refine sq_blk [⟨4, _, []⟩] [] hz rfl ⟨(fun a s he hf hz => av rfl rfl i0), trivial⟩ ?_; intro a21 s22 he hf hz hd1; have ⟨hd, E⟩ := hdE hd1 hd E he; obtain ⟨h2, h3⟩ := ea2 hf h2 h3 rfl; obtain ⟨B10, B20⟩ := bx2 he B10 B20; obtain ⟨c8, c9, c18, c19⟩ := vm4 he c8 c9 c18 c19; refine wp_seq ?_; refine wp_draw [⟨5, _, []⟩, ⟨6, _, [0]⟩, ⟨7, _, []⟩, ⟨8, _, [2]⟩, ⟨9, _, [1, 3]⟩, ⟨10, _, []⟩, ⟨11, _, [5]⟩, ⟨12, _, []⟩, ⟨13, _, [7]⟩, ⟨14, _, [6, 8]⟩, ⟨15, _, [4, 9]⟩, ⟨16, _, [10]⟩, ⟨4, _, [11]⟩] [12] mo hz (by kernel_rfl) ⟨(fun a s he hf hz => fb rfl rfl fa_70_0 ((hf 2 rfl).trans h2)), (fun a s he hf hz q0 => lo rfl rfl ty_9 q0 (B10.ext he) rfl (vm he c8)), (fun a s he hf hz => fb rfl rfl fa_70_0 ((hf 3 rfl).trans h3)), (fun a s he hf hz q2 => lo rfl rfl ty_9 q2 (B20.ext he) rfl (vm he c18)), (fun a s he hf hz q1 q3 => opw rfl (op_call rfl rfl (strings_Compare.ok q1 q3))), (fun a s he hf hz => fb rfl rfl fa_70_1 ((hf 2 rfl).trans h2)), (fun a s he hf hz q5 => lo rfl rfl ty_2 q5 (B10.ext he) rfl (vm he c9)), (fun a s he hf hz => fb rfl rfl fa_70_1 ((hf 3 rfl).trans h3)), (fun a s he hf hz q7 => lo rfl rfl ty_2 q7 (B20.ext he) rfl (vm he c19)), (fun a s he hf hz q6 q8 => opw rfl (op_call rfl rfl (cmp_Compare_int64.ok q6 q8))), (fun a s he hf hz q4 q9 => opw rfl (op_lit_v (d := (kI .i64)) rfl lt_175 (zc := [.int .i64 0, .int .i64 0]) (by kernel_rfl) (ps := [(0, [(a.get 9)]), (1, [(a.get 14)])]) ⟨rfl, V_cells1 (s := s) rfl q4, rfl, V_cells1 (s := s) rfl q9, trivial⟩ rfl (by decide) (ys := ([(strings_Compare x0.who x1.who), (cmp_Compare_int64 x0.n x1.n)] : List Int)) rfl (by decide) rfl (lit_rows2 (V_one rfl q4) (V_one rfl q9)))), (fun a s he hf hz q10 => opw rfl (op_call rfl rfl (cmp_Or_int.ct q10))), avq rfl rfl, trivial⟩ ?_
 intro a23 s24 he hf hz hd1 h4; have ⟨hd, E⟩ := hdE hd1 hd E he; refine wp_ret ?_; cases h
 exact ⟨hd, _, results_tmp rfl _ _ _, E, h4⟩
theorem stands_eq (a b : Dot) : decide (0 ≤ order_stands a b) = !ref08_ahead a b := by
 have hi : cmp_Compare_int64 a.n b.n = if a.n < b.n then -1 else if b.n < a.n then 1 else 0 := by
  simp [cmp_Compare_int64, cmp_isNaN_int64]
 have hs : strings_Compare a.who b.who = Lib.compareBytes a.who b.who := rfl
 have hv : order_stands a b = if Lib.compareBytes a.who b.who = 0 then (if a.n < b.n then -1 else if b.n < a.n then 1 else 0) else Lib.compareBytes a.who b.who := by
  unfold order_stands
  rw [hi, hs]
  simp only [orL]
  have : ∀ c : Int, (if c = 0 then 0 else c) = c := fun c => by split <;> omega
  rw [this]
 rw [hv]
 unfold ref08_ahead
 by_cases e : a.who = b.who
 ·rw [(cmp_eq _ _).2 e, e, sLt_irrefl]
  by_cases h1 : a.n < b.n
  ·simp [h1]
  ·by_cases h2 : b.n < a.n <;> simp [h1, h2]
 ·have h0 : ¬ Lib.compareBytes a.who b.who = 0 := fun h => e ((cmp_eq _ _).1 h)
  rw [if_neg h0]
  cases h : sLt a.who b.who
  ·have : ¬ Lib.compareBytes a.who b.who < 0 := fun h' => by rw [(cmp_lt _ _).1 h'] at h; cases h
   simp [e]; omega
  ·have := (cmp_lt _ _).2 h
   simp; omega
def seenP (v : List Dot) (p : Dot) : List Dot → Bool
 | [] => true
 | d :: l => hasV v d && ref08_ahead p d && seenP v d l
def seenV (v : List Dot) : List Dot → Bool
 | [] => true
 | d :: l => hasV v d && seenP v d l
def kindOk (o : Op) : Bool := if o.kind = 1 then decide (1 ≤ o.qty) && decide (o.qty ≤ 9999) && decide (o.seen.length = 0) else if o.kind = 2 then decide (1 ≤ o.qty) && decide (o.qty ≤ 9999) else decide (o.kind = 3) && decide (o.qty = 0)
def textOk (x : Str) : Bool := decide (1 ≤ x.length) && decide (x.length ≤ 32)
def rightO (o : Op) : Bool := vector_isDot o.dot && rightV o.deps && decide (at_ o.deps o.dot.who = o.dot.n - 1) && textOk o.cart && textOk o.item && decide (o.seen.length ≤ 128) && seenV o.deps o.seen && kindOk o
theorem rightV_one (d : Dot) : rightV [d] = vector_isDot d := by simp [rightV, chainV, chainP]
theorem isText_eq (x : Str) : order_isText x = textOk x := by
 unfold order_isText textOk
 cases x with
 | nil => rfl
 | cons c l =>
  have h1 : decide (1 ≤ (c :: l).length) = true := by simp
  have h2 : decide (((c :: l).length : Int) ≤ 32) = decide ((c :: l).length ≤ 32) := by rw [decide_eq_decide]; omega
  rw [h1, h2]; simp
def order_Right.l0 : Nat → Op → Int → Option (Bool)
 | 0, _, _ => none
 | m43 + 1, x0, y42 => (if decide (y42 < (x0.seen.length : Int)) = true then (if (0 ≤ y42 ∧ y42 < (x0.seen.length : Int)) then (if (((!(hasV x0.deps (List.getD x0.seen (y42).toNat default))) = false ∧ (decide (0 < y42)) = true) → (0 ≤ (IntKind.wrap .i64 (y42 - 1)) ∧ (IntKind.wrap .i64 (y42 - 1)) < (x0.seen.length : Int))) then (if ((!(hasV x0.deps (List.getD x0.seen (y42).toNat default))) || ((decide (0 < y42)) && (decide (0 ≤ (order_stands (List.getD x0.seen (IntKind.wrap .i64 (y42 - 1)).toNat default) (List.getD x0.seen (y42).toNat default)))))) = true then (some false) else (order_Right.l0 m43 x0 (IntKind.wrap .i64 (y42 + 1)))) else none) else none) else (if decide (x0.kind = 1) = true then (some (((decide ((x0.seen.length : Int) = 0)) && (decide (1 ≤ x0.qty))) && (decide (x0.qty ≤ 9999)))) else (if decide (x0.kind = 2) = true then (some ((decide (1 ≤ x0.qty)) && (decide (x0.qty ≤ 9999)))) else (some ((decide (x0.kind = 3)) && (decide (x0.qty = 0)))))))
def order_Right.f (k : Nat) (x0 : Op) : Option (Bool) := (if ((((((!(rightV ([x0.dot] : List Dot))) || (!(rightV x0.deps))) || (!decide ((at_ x0.deps x0.dot.who) = (IntKind.wrap .i64 (x0.dot.n - 1))))) || (!(order_isText x0.cart))) || (!(order_isText x0.item))) || (decide (128 < (x0.seen.length : Int)))) = true then (some false) else (order_Right.l0 k x0 0))
theorem order_Right.ok {s0 : St} {v0 : Value} {x0 : Op} {k : Nat} {r : Bool} (k0 : kOp.V s0 v0 x0) (h : order_Right.f k x0 = some r) : Cl Try.prog 47 #[v0] s0 (Okf s0 (Fact.v kB r)) := by
 unfold order_Right.f at h
 refine cl_of_wp Try.func47 rfl en_47 fun a hz hd hp => ?_; have hz : a.tmps.size = 114 := hz; have E := Chg.refl (fun _ => False) s0; have h0 := V_at k0 E (hp 0 v0 rfl); refine wp_sr ?_; refine sq_set hz rfl rfl rfl (op_boxn rfl rfl h0 (fun s2 e4 he BB3 r5 => fun a1 h1 hf hz hd1 => ?_)); obtain ⟨b22, hb22⟩ : ∃ b, b = s0.w.heap.size := ⟨_, rfl⟩; rw [← hb22] at BB3 h1; have B22 := BB3; have l22 : s0.w.heap.size ≤ b22 := by have := E.size; omega
 have ⟨hd, E⟩ := hdE hd1 hd E he; obtain ⟨u6, u7, u8, u9, u10, u11, u12, u13, rfl, c14, c15, c16, c17, c18, c19, c20, c21⟩ := kOp_open r5; refine sq_blk [⟨2, _, []⟩] [] hz rfl ⟨(fun a s he hf hz => av rfl rfl b_f), trivial⟩ ?_; intro a23 s24 he hf hz hd1; have ⟨hd, E⟩ := hdE hd1 hd E he; have h1 := (hf 1 rfl).trans h1; have B22 := B22.ext he; obtain ⟨c14, c15, c16, c17, c18, c19, c20, c21⟩ := vm8 he c14 c15 c16 c17 c18 c19 c20 c21; refine wp_sr ?_; refine sq_blk [⟨6, _, []⟩, ⟨7, _, [0]⟩, ⟨8, _, [1]⟩, ⟨3, _, [2]⟩] [3] hz rfl ⟨(fun a s he hf hz => fb rfl rfl fa_72_0 ((hf 1 rfl).trans h1)), (fun a s he hf hz q0 => ld rfl rfl ty_70 rfl q0 (B22.ext he) rfl (kDot_eta (x := x0.dot) (vm he c14) (vm he c15))), (fun a s he hf hz q1 => opw rfl ((by obtain ⟨e25, w27, r26⟩ := V_open rfl q1; obtain ⟨u28, u29, rfl, c30, c31⟩ := kDot_open r26; exact op_lit_v (d := kDot) rfl lt_32 (zc := [.string ⟨#[]⟩, .int .i64 0]) (by kernel_rfl) (ps := [(0, [u28, u29])]) ⟨rfl, congrArg Value.cells w27, trivial⟩ rfl (by decide) (ys := ([x0.dot] : List Dot)) rfl (by decide) rfl (lit_rows1 (show kDot.R _ [u28, u29] x0.dot from kDot_close c30 c31))))), (fun a s he hf hz q2 => av rfl rfl q2), trivial⟩ ?_
 intro a32 s33 he hf hz hd1 h3; have ⟨hd, E⟩ := hdE hd1 hd E he; have h1 := (hf 1 rfl).trans h1; have B22 := B22.ext he; obtain ⟨c14, c15, c16, c17, c18, c19, c20, c21⟩ := vm8 he c14 c15 c16 c17 c18 c19 c20 c21; refine wp_seq ?_; refine wp_seq ?_; have hz0 := hz; refine wp_draw (⟨9, _, []⟩ :: ⟨10, _, [0]⟩ :: ⟨11, _, [1]⟩ :: ⟨12, _, [2]⟩ :: ⟨13, _, [3]⟩ :: ⟨14, _, [3, 4]⟩ :: ⟨15, _, [3, 5]⟩ :: ⟨16, _, [3, 6]⟩ :: ⟨17, _, [3, 7]⟩ :: ⟨18, _, [8]⟩ :: ⟨19, _, [9]⟩ :: ⟨20, _, [9, 10]⟩ :: ⟨21, _, [9]⟩ :: ⟨22, _, [9, 12]⟩ :: ⟨23, _, [9, 13]⟩ :: ⟨24, _, [9, 11, 14]⟩ :: ⟨25, _, [9]⟩ :: ⟨26, _, [9, 16]⟩ :: ⟨27, _, [9, 17]⟩ :: ⟨28, _, [9, 18]⟩ :: ⟨29, _, [9, 15, 19]⟩ :: ⟨30, _, [9, 20]⟩ :: ⟨31, _, [21]⟩ :: ⟨32, _, [22]⟩ :: ⟨33, _, [22, 23]⟩ :: ⟨34, _, [22, 24]⟩ :: ⟨35, _, [22, 25]⟩ :: ⟨36, _, [22, 26]⟩ :: ⟨37, _, [27]⟩ :: ⟨38, _, [28]⟩ :: ⟨39, _, [28, 29]⟩ :: ⟨40, _, [28, 30]⟩ :: ⟨41, _, [28, 31]⟩ :: ⟨42, _, [28, 32]⟩ :: ⟨43, _, [33]⟩ :: ⟨44, _, [34]⟩ :: ⟨45, _, [34, 35]⟩ :: ⟨46, _, [34, 36]⟩ :: ⟨47, _, [34, 37]⟩ :: ⟨48, _, [34, 38]⟩ :: []) [39] mo hz (by kernel_rfl) ⟨mvs rfl rfl h3 rfl, (fun a s he hf hz q0 => opw rfl (op_call rfl rfl (vector_Right.ct q0))), (fun a s he hf hz q1 => no_ rfl rfl q1), mvq rfl rfl, (fun a s he hf hz q3 => og rfl rfl rfl hz hz0 rfl q3 (fun g => op_faddr_b rfl fa_72_1 ((hf 1 rfl).trans h1))), (fun a s he hf hz q3 q4 => og rfl rfl rfl hz hz0 rfl q3 (fun g => op_load1 rfl ty_32 (q4.1 g) (B22.ext he) rfl (vm he c16))), (fun a s he hf hz q3 q5 => og rfl rfl rfl hz hz0 rfl q3 (fun g => op_call rfl rfl (vector_Right.ct (q5.1 g)))), (fun a s he hf hz q3 q6 => og rfl rfl rfl hz hz0 rfl q3 (fun g => op_not rfl (q6.1 g))), (fun a s he hf hz q3 q7 => oe rfl rfl q3 (q7.1)), mvq rfl rfl, (fun a s he hf hz q9 => og rfl rfl rfl hz hz0 rfl q9 (fun g => op_faddr_b rfl fa_72_1 ((hf 1 rfl).trans h1))), (fun a s he hf hz q9 q10 => og rfl rfl rfl hz hz0 rfl q9 (fun g => op_load1 rfl ty_32 (q10.1 g) (B22.ext he) rfl (vm he c16))), (fun a s he hf hz q9 => og rfl rfl rfl hz hz0 rfl q9 (fun g => op_faddr_b rfl fa_72_0 ((hf 1 rfl).trans h1))), (fun a s he hf hz q9 q12 => og rfl rfl rfl hz hz0 rfl q9 (fun g => op_faddr_b rfl fa_70_0 (q12.1 g))), (fun a s he hf hz q9 q13 => og rfl rfl rfl hz hz0 rfl q9 (fun g => op_load1 rfl ty_9 (q13.1 g) (B22.ext he) rfl (vm he c14))), (fun a s he hf hz q9 q11 q14 => og rfl rfl rfl hz hz0 rfl q9 (fun g => op_call rfl rfl (vector_At.ct (q11.1 g) (q14.1 g)))), (fun a s he hf hz q9 => og rfl rfl rfl hz hz0 rfl q9 (fun g => op_faddr_b rfl fa_72_0 ((hf 1 rfl).trans h1))), (fun a s he hf hz q9 q16 => og rfl rfl rfl hz hz0 rfl q9 (fun g => op_faddr_b rfl fa_70_1 (q16.1 g))), (fun a s he hf hz q9 q17 => og rfl rfl rfl hz hz0 rfl q9 (fun g => op_load1 rfl ty_2 (q17.1 g) (B22.ext he) rfl (vm he c15))), (fun a s he hf hz q9 q18 => og rfl rfl rfl hz hz0 rfl q9 (fun g => op_sub rfl (q18.1 g) i1)), (fun a s he hf hz q9 q15 q19 => og rfl rfl rfl hz hz0 rfl q9 (fun g => op_neq rfl (q15.1 g) (q19.1 g))), (fun a s he hf hz q9 q20 => oe rfl rfl q9 (q20.1)), mvq rfl rfl, (fun a s he hf hz q22 => og rfl rfl rfl hz hz0 rfl q22 (fun g => op_faddr_b rfl fa_72_2 ((hf 1 rfl).trans h1))), (fun a s he hf hz q22 q23 => og rfl rfl rfl hz hz0 rfl q22 (fun g => op_load1 rfl ty_9 (q23.1 g) (B22.ext he) rfl (vm he c17))), (fun a s he hf hz q22 q24 => og rfl rfl rfl hz hz0 rfl q22 (fun g => op_call rfl rfl (order_isText.ok (q24.1 g)))), (fun a s he hf hz q22 q25 => og rfl rfl rfl hz hz0 rfl q22 (fun g => op_not rfl (q25.1 g))), (fun a s he hf hz q22 q26 => oe rfl rfl q22 (q26.1)), mvq rfl rfl, (fun a s he hf hz q28 => og rfl rfl rfl hz hz0 rfl q28 (fun g => op_faddr_b rfl fa_72_4 ((hf 1 rfl).trans h1))), (fun a s he hf hz q28 q29 => og rfl rfl rfl hz hz0 rfl q28 (fun g => op_load1 rfl ty_9 (q29.1 g) (B22.ext he) rfl (vm he c19))), (fun a s he hf hz q28 q30 => og rfl rfl rfl hz hz0 rfl q28 (fun g => op_call rfl rfl (order_isText.ok (q30.1 g)))), (fun a s he hf hz q28 q31 => og rfl rfl rfl hz hz0 rfl q28 (fun g => op_not rfl (q31.1 g))), (fun a s he hf hz q28 q32 => oe rfl rfl q28 (q32.1)), mvq rfl rfl, (fun a s he hf hz q34 => og rfl rfl rfl hz hz0 rfl q34 (fun g => op_faddr_b rfl fa_72_6 ((hf 1 rfl).trans h1))), (fun a s he hf hz q34 q35 => og rfl rfl rfl hz hz0 rfl q34 (fun g => op_load1 rfl ty_32 (q35.1 g) (B22.ext he) rfl (vm he c21))), (fun a s he hf hz q34 q36 => og rfl rfl rfl hz hz0 rfl q34 (fun g => op_len rfl u_32 (q36.1 g))), (fun a s he hf hz q34 q37 => og rfl rfl rfl hz hz0 rfl q34 (fun g => op_gtr rfl (q37.1 g) (lit_i (k := .i64) (n := 128) (by decide)))), (fun a s he hf hz q34 q38 => oe rfl rfl q34 (q38.1)), trivial⟩ ?_
 intro a34 s35 he hf hz hd1 h48; have ⟨hd, E⟩ := hdE hd1 hd E he; have h1 := (hf 1 rfl).trans h1; have B22 := B22.ext he; obtain ⟨c14, c15, c16, c17, c18, c19, c20, c21⟩ := vm8 he c14 c15 c16 c17 c18 c19 c20 c21; refine wp_condV h48 (fun hb => ?_) (fun hb => ?_)
 ·have h := ite_t hb h; refine wp_sr ?_; refine sq_blk [⟨2, _, []⟩] [0] hz rfl ⟨(fun a s he hf hz => av rfl rfl b_f), trivial⟩ ?_; intro a36 s37 he hf hz hd1 h2; have ⟨hd, E⟩ := hdE hd1 hd E he; refine wp_ret ?_; cases h
  exact ⟨hd, _, results_tmp rfl _ _ _, E, h2⟩
 ·have h := ite_f hb h; refine wp_skip ?_; refine wp_seq ?_; refine wp_sr ?_; refine sq_blk [⟨49, _, []⟩, ⟨50, _, [0]⟩, ⟨51, _, [1]⟩, ⟨52, _, []⟩] [1, 2, 3] hz rfl ⟨(fun a s he hf hz => fb rfl rfl fa_72_6 ((hf 1 rfl).trans h1)), (fun a s he hf hz q0 => lo rfl rfl ty_32 q0 (B22.ext he) rfl (vm he c21)), (fun a s he hf hz q1 => le_ rfl rfl u_32 q1), (fun a s he hf hz => mv rfl rfl i0), trivial⟩ ?_; intro a38 s39 he hf hz hd1 h50 h51 h52; have ⟨hd, E⟩ := hdE hd1 hd E he; have h1 := (hf 1 rfl).trans h1; have B22 := B22.ext he; obtain ⟨c14, c15, c16, c17, c18, c19, c20, c21⟩ := vm8 he c14 c15 c16 c17 c18 c19 c20 c21; refine wp_block ?_
  refine wp_loop (k := k) (fun m43 a s => ∃ (y42 : Int), order_Right.l0 m43 x0 y42 = some r ∧ m43 ≤ k ∧ Ext s0 s ∧ a.tmps.size = 114 ∧ a.defers = [] ∧ a.get 1 = .pointer (some ⟨b22, 0, none⟩) ∧ (kSl kDot).V s (a.get 50) x0.seen ∧ (kI .i64).V s (a.get 51) (x0.seen.length : Int) ∧ (kI .i64).V s (a.get 52) y42 ∧ Bx s b22 72 [u6, u7, u8, u9, u10, u11, u12, u13] ∧ kS.V s u6 x0.dot.who ∧ (kI .i64).V s u7 x0.dot.n ∧ (kSl kDot).V s u8 x0.deps ∧ kS.V s u9 x0.cart ∧ (kI .i64).V s u10 x0.kind ∧ kS.V s u11 x0.item ∧ (kI .i64).V s u12 x0.qty ∧ (kSl kDot).V s u13 x0.seen) ⟨_, h, Nat.le_refl _, E, hz, hd, h1, h50, h51, h52, B22, c14, c15, c16, c17, c18, c19, c20, c21⟩ ?_; rintro m43 a41 s40 ⟨y42, h, hkm43, E, hz, hd, h1, h50, h51, h52, B22, c14, c15, c16, c17, c18, c19, c20, c21⟩; obtain _ | m43 := m43
  ·cases h
  refine wp_sr ?_; refine sq_blk [⟨53, _, []⟩] [0] hz rfl ⟨(fun a s he hf hz => ls rfl rfl (V_at h52 he (hf 52 rfl)) (V_at h51 he (hf 51 rfl))), trivial⟩ ?_; intro a44 s45 he hf hz hd1 h53; have ⟨hd, E⟩ := hdE hd1 hd E he; obtain ⟨h50, h51, h52⟩ := va3 he hf h50 h51 h52 rfl; have h1 := (hf 1 rfl).trans h1; have B22 := B22.ext he; obtain ⟨c14, c15, c16, c17, c18, c19, c20, c21⟩ := vm8 he c14 c15 c16 c17 c18 c19 c20 c21; refine wp_seq ?_; refine wp_condV h53 (fun hb => ?_) (fun hb => ?_)
  ·have h := ite_t hb h; refine wp_skip ?_; refine wp_seq ?_; refine wp_block ?_; refine wp_sr ?_; obtain ⟨D46, h⟩ := need h; refine sq_blk [⟨54, _, []⟩, ⟨55, _, []⟩, ⟨56, _, [1]⟩] [0, 2] hz rfl ⟨mvs rfl rfl h52 rfl, (fun a s he hf hz => ia rfl rfl sl_32 (V_at h50 he (hf 50 rfl)) (V_at h52 he (hf 52 rfl)) D46.1 D46.2), (fun a s he hf hz q1 => lp rfl rfl ty_70 (by decide) q1), trivial⟩ ?_; intro a47 s48 he hf hz hd1 h54 h56; have ⟨hd, E⟩ := hdE hd1 hd E he; obtain ⟨h50, h51, h52⟩ := va3 he hf h50 h51 h52 rfl; have h1 := (hf 1 rfl).trans h1; have B22 := B22.ext he; obtain ⟨c14, c15, c16, c17, c18, c19, c20, c21⟩ := vm8 he c14 c15 c16 c17 c18 c19 c20 c21; refine sq_set hz rfl rfl rfl (op_alloc (cs := [.string ⟨#[]⟩, .int .i64 0]) rfl zv_70 rfl (fun s50 he BB51 => fun a49 h5 hf hz hd1 => ?_)); obtain ⟨b54, hb54⟩ : ∃ b, b = s48.w.heap.size := ⟨_, rfl⟩; rw [← hb54] at BB51 h5; have B54 := BB51; have l54 : s0.w.heap.size ≤ b54 := by have := E.size; omega
   have n54_22 : b54 ≠ b22 := by have := B22.lt; omega
   have ⟨hd, E⟩ := hdE hd1 hd E he; obtain ⟨h50, h51, h52, h54, h56⟩ := va5 he hf h50 h51 h52 h54 h56 rfl; have h1 := (hf 1 rfl).trans h1; have B22 := B22.ext he; obtain ⟨c14, c15, c16, c17, c18, c19, c20, c21⟩ := vm8 he c14 c15 c16 c17 c18 c19 c20 c21; have c52 : kS.V s50 (.string ⟨#[]⟩) ([] : Str) := s_0; have c53 : (kI .i64).V s50 (.int .i64 0) 0 := i0; refine sq_blk [⟨4, _, []⟩] [0] hz rfl ⟨avs rfl rfl h54 rfl, trivial⟩ ?_; intro a55 s56 he hf hz hd1 h4; have ⟨hd, E⟩ := hdE hd1 hd E he; obtain ⟨h50, h51, h52, h56⟩ := va4 he hf h50 h51 h52 h56 rfl; obtain ⟨h1, h5⟩ := ea2 hf h1 h5 rfl; obtain ⟨B22, B54⟩ := bx2 he B22 B54; obtain ⟨c14, c15, c16, c17, c18, c19, c20, c21⟩ := vm8 he c14 c15 c16 c17 c18 c19 c20 c21; refine sq_do rfl rfl (op_storen rfl ty_70 rfl h5 B54 h56 rfl (fun s58 e59 he B54n r60 => ?_)); obtain ⟨h4, h50, h51, h52⟩ := vm4 he h4 h50 h51 h52; have B22 := B22.chg he (fun e => (Ne.symm n54_22) e); obtain ⟨c14, c15, c16, c17, c18, c19, c20, c21⟩ := vm8 he c14 c15 c16 c17 c18 c19 c20 c21
   have E := Chg.chg E he (fun b e h => (fun e => absurd h (by cases e; exact Nat.not_lt.2 l54)) e); obtain ⟨u61, u62, rfl, c63, c64⟩ := kDot_open r60; have B54 : Bx s58 b54 70 [u61, u62] := B54n; refine wp_seq ?_; obtain ⟨D65, h⟩ := need h; have hz0 := hz; refine wp_draw [⟨57, _, []⟩, ⟨58, _, [0]⟩, ⟨59, _, []⟩, ⟨60, _, [1, 2]⟩, ⟨61, _, [3]⟩, ⟨62, _, [4]⟩, ⟨63, _, [5]⟩, ⟨64, _, [5, 6]⟩, ⟨65, _, [5, 7]⟩, ⟨66, _, [8]⟩, ⟨67, _, [8, 9]⟩, ⟨68, _, [8]⟩, ⟨69, _, [8, 11]⟩, ⟨70, _, [8, 10, 12]⟩, ⟨71, _, [8, 13]⟩, ⟨72, _, [8]⟩, ⟨73, _, [8, 14, 15]⟩, ⟨74, _, [8, 16]⟩, ⟨75, _, [5, 8, 17]⟩, ⟨76, _, [5, 18]⟩] [19] mo hz (by kernel_rfl) ⟨(fun a s he hf hz => fb rfl rfl fa_72_1 ((hf 1 rfl).trans h1)), (fun a s he hf hz q0 => lo rfl rfl ty_32 q0 (B22.ext he) rfl (vm he c16)), (fun a s he hf hz => ld rfl rfl ty_70 rfl ((hf 5 rfl).trans h5) (B54.ext he) rfl (kDot_eta (x := (List.getD x0.seen (y42).toNat default)) (vm he c63) (vm he c64))), (fun a s he hf hz q1 q2 => opw rfl (op_call rfl rfl (vector_Has.ct q1 q2))), (fun a s he hf hz q3 => no_ rfl rfl q3), mvq rfl rfl, (fun a s he hf hz q5 => og rfl rfl rfl hz hz0 rfl q5 (fun g => op_move_v rfl (V_at h4 he (hf 4 rfl)))), (fun a s he hf hz q5 q6 => og rfl rfl rfl hz hz0 rfl q5 (fun g => op_gtr rfl (q6.1 g) i0)), (fun a s he hf hz q5 q7 => og rfl rfl rfl hz hz0 rfl q5 (fun g => op_move_v rfl (q7.1 g))), (fun a s he hf hz q8 => ogg rfl rfl rfl hz hz0 rfl q8 (fun g => op_faddr_b rfl fa_72_6 ((hf 1 rfl).trans h1))), (fun a s he hf hz q8 q9 => ogg rfl rfl rfl hz hz0 rfl q8 (fun g => op_load1 rfl ty_32 (q9.1 g) (B22.ext he) rfl (vm he c21))), (fun a s he hf hz q8 => ogg rfl rfl rfl hz hz0 rfl q8 (fun g => op_move_v rfl (V_at h4 he (hf 4 rfl)))), (fun a s he hf hz q8 q11 => ogg rfl rfl rfl hz hz0 rfl q8 (fun g => op_sub rfl (q11.1 g) i1)), (fun a s he hf hz q8 q10 q12 => ogg rfl rfl rfl hz hz0 rfl q8 (fun g => op_iaddr rfl sl_32 (q10.1 g) (q12.1 g) (D65 g).1 (D65 g).2)), (fun a s he hf hz q8 q13 => ogg rfl rfl rfl hz hz0 rfl q8 (fun g => op_load_p rfl ty_70 (by decide) (q13.1 g))), (fun a s he hf hz q8 => ogg rfl rfl rfl hz hz0 rfl q8 (fun g => op_loadn rfl ty_70 rfl ((hf 5 rfl).trans h5) (B54.ext he) rfl (kDot_eta (x := (List.getD x0.seen (y42).toNat default)) (vm he c63) (vm he c64)))), (fun a s he hf hz q8 q14 q15 => ogg rfl rfl rfl hz hz0 rfl q8 (fun g => op_call rfl rfl (order_stands.ok (q14.1 g) (q15.1 g)))), (fun a s he hf hz q8 q16 => ogg rfl rfl rfl hz hz0 rfl q8 (fun g => op_geq rfl (q16.1 g) i0)), (fun a s he hf hz q5 q8 q17 => og rfl rfl rfl hz hz0 rfl q5 (fun g => op_and_then rfl (q8.1 g) (fun e => q17.1 ⟨g, e⟩))), (fun a s he hf hz q5 q18 => oe rfl rfl q5 (q18.1)), trivial⟩ ?_
   intro a66 s67 he hf hz hd1 h76; have ⟨hd, E⟩ := hdE hd1 hd E he; obtain ⟨h50, h51, h52⟩ := va3 he hf h50 h51 h52 rfl; have h1 := (hf 1 rfl).trans h1; have B22 := B22.ext he; obtain ⟨c14, c15, c16, c17, c18, c19, c20, c21⟩ := vm8 he c14 c15 c16 c17 c18 c19 c20 c21; refine wp_condV h76 (fun hb => ?_) (fun hb => ?_)
   ·have h := ite_t hb h; refine wp_sr ?_; refine sq_blk [⟨2, _, []⟩] [0] hz rfl ⟨(fun a s he hf hz => av rfl rfl b_f), trivial⟩ ?_; intro a68 s69 he hf hz hd1 h2; have ⟨hd, E⟩ := hdE hd1 hd E he; refine wp_ret ?_; cases h
    exact ⟨hd, _, results_tmp rfl _ _ _, E, h2⟩
   ·have h := ite_f hb h; refine wp_skip ?_; refine wp_region ?_; refine sq_blk [⟨77, _, []⟩] [0] hz rfl ⟨(fun a s he hf hz => ad rfl rfl (V_at h52 he (hf 52 rfl)) i1), trivial⟩ ?_; intro a70 s71 he hf hz hd1 h77; have ⟨hd, E⟩ := hdE hd1 hd E he; obtain ⟨h50, h51⟩ := va2 he hf h50 h51 rfl; have h1 := (hf 1 rfl).trans h1; have B22 := B22.ext he; obtain ⟨c14, c15, c16, c17, c18, c19, c20, c21⟩ := vm8 he c14 c15 c16 c17 c18 c19 c20 c21; refine sq_blk [⟨52, _, []⟩] [0] hz rfl ⟨mvs rfl rfl h77 rfl, trivial⟩ ?_; intro a72 s73 he hf hz hd1 h52; have ⟨hd, E⟩ := hdE hd1 hd E he; obtain ⟨h50, h51⟩ := va2 he hf h50 h51 rfl; have h1 := (hf 1 rfl).trans h1; have B22 := B22.ext he; obtain ⟨c14, c15, c16, c17, c18, c19, c20, c21⟩ := vm8 he c14 c15 c16 c17 c18 c19 c20 c21; exact ⟨_, (by omega : m43 < m43 + 1), _, h, by omega, E, hz, hd, h1, h50, h51, h52, B22, c14, c15, c16, c17, c18, c19, c20, c21⟩
  ·have h := ite_f hb h; refine wp_exit ?_; refine then_exit ?_; refine then_exit ?_; refine inBlock_hit ?_; refine wp_seq ?_; refine wp_sr ?_; refine sq_blk [⟨78, _, []⟩, ⟨79, _, [0]⟩] [1] hz rfl ⟨(fun a s he hf hz => fb rfl rfl fa_72_3 ((hf 1 rfl).trans h1)), (fun a s he hf hz q0 => lo rfl rfl ty_3 q0 (B22.ext he) rfl (vm he c18)), trivial⟩ ?_; intro a74 s75 he hf hz hd1 h79; have ⟨hd, E⟩ := hdE hd1 hd E he; have h1 := (hf 1 rfl).trans h1; have B22 := B22.ext he; obtain ⟨c18, c20, c21⟩ := vm3 he c18 c20 c21; refine wp_block ?_; refine wp_sr ?_; refine sq_blk [⟨81, _, []⟩, ⟨80, _, [0]⟩] [1] hz rfl ⟨(fun a s he hf hz => eq_ rfl rfl (V_at h79 he (hf 79 rfl)) i1), avq rfl rfl, trivial⟩ ?_; intro a76 s77 he hf hz hd1 h80; have ⟨hd, E⟩ := hdE hd1 hd E he; have h79 := V_at h79 he (hf 79 rfl); have h1 := (hf 1 rfl).trans h1; have B22 := B22.ext he; obtain ⟨c18, c20, c21⟩ := vm3 he c18 c20 c21; refine wp_condV h80 (fun hb => ?_) (fun hb => ?_)
   ·have h := ite_t hb h; refine wp_sr ?_; have hz0 := hz; refine sq_blk [⟨82, _, []⟩, ⟨83, _, [0]⟩, ⟨84, _, [1]⟩, ⟨85, _, [2]⟩, ⟨86, _, [3]⟩, ⟨87, _, [4]⟩, ⟨88, _, [4, 5]⟩, ⟨89, _, [4, 6]⟩, ⟨90, _, [4, 7]⟩, ⟨91, _, [8]⟩, ⟨92, _, [9]⟩, ⟨93, _, [9, 10]⟩, ⟨94, _, [9, 11]⟩, ⟨95, _, [9, 12]⟩, ⟨2, _, [13]⟩] [14] hz rfl ⟨(fun a s he hf hz => fb rfl rfl fa_72_6 ((hf 1 rfl).trans h1)), (fun a s he hf hz q0 => lo rfl rfl ty_32 q0 (B22.ext he) rfl (vm he c21)), (fun a s he hf hz q1 => le_ rfl rfl u_32 q1), (fun a s he hf hz q2 => eq_ rfl rfl q2 i0), mvq rfl rfl, (fun a s he hf hz q4 => og rfl rfl rfl hz hz0 rfl q4 (fun g => op_faddr_b rfl fa_72_5 ((hf 1 rfl).trans h1))), (fun a s he hf hz q4 q5 => og rfl rfl rfl hz hz0 rfl q4 (fun g => op_load1 rfl ty_2 (q5.1 g) (B22.ext he) rfl (vm he c20))), (fun a s he hf hz q4 q6 => og rfl rfl rfl hz hz0 rfl q4 (fun g => op_geq rfl (q6.1 g) i1)), (fun a s he hf hz q4 q7 => an rfl rfl q4 (q7.1)), mvq rfl rfl, (fun a s he hf hz q9 => og rfl rfl rfl hz hz0 rfl q9 (fun g => op_faddr_b rfl fa_72_5 ((hf 1 rfl).trans h1))), (fun a s he hf hz q9 q10 => og rfl rfl rfl hz hz0 rfl q9 (fun g => op_load1 rfl ty_2 (q10.1 g) (B22.ext he) rfl (vm he c20))), (fun a s he hf hz q9 q11 => og rfl rfl rfl hz hz0 rfl q9 (fun g => op_leq rfl (q11.1 g) (lit_i (k := .i64) (n := 9999) (by decide)))), (fun a s he hf hz q9 q12 => an rfl rfl q9 (q12.1)), avq rfl rfl, trivial⟩ ?_
    intro a78 s79 he hf hz hd1 h2; have ⟨hd, E⟩ := hdE hd1 hd E he; refine wp_ret ?_; cases h
    exact ⟨hd, _, results_tmp rfl _ _ _, E, h2⟩
   ·have h := ite_f hb h; refine wp_sr ?_; refine sq_blk [⟨97, _, []⟩, ⟨96, _, [0]⟩] [1] hz rfl ⟨(fun a s he hf hz => eq_ rfl rfl (V_at h79 he (hf 79 rfl)) (lit_i (k := .i64) (n := 2) (by decide))), avq rfl rfl, trivial⟩ ?_; intro a80 s81 he hf hz hd1 h96; have ⟨hd, E⟩ := hdE hd1 hd E he; have h1 := (hf 1 rfl).trans h1; have B22 := B22.ext he; obtain ⟨c18, c20⟩ := vm2 he c18 c20; refine wp_condV h96 (fun hb => ?_) (fun hb => ?_)
    ·have h := ite_t hb h; refine wp_sr ?_; have hz0 := hz; refine sq_blk [⟨98, _, []⟩, ⟨99, _, [0]⟩, ⟨100, _, [1]⟩, ⟨101, _, [2]⟩, ⟨102, _, [3]⟩, ⟨103, _, [3, 4]⟩, ⟨104, _, [3, 5]⟩, ⟨105, _, [3, 6]⟩, ⟨2, _, [7]⟩] [8] hz rfl ⟨(fun a s he hf hz => fb rfl rfl fa_72_5 ((hf 1 rfl).trans h1)), (fun a s he hf hz q0 => lo rfl rfl ty_2 q0 (B22.ext he) rfl (vm he c20)), (fun a s he hf hz q1 => opw rfl (op_geq rfl q1 i1)), mvq rfl rfl, (fun a s he hf hz q3 => og rfl rfl rfl hz hz0 rfl q3 (fun g => op_faddr_b rfl fa_72_5 ((hf 1 rfl).trans h1))), (fun a s he hf hz q3 q4 => og rfl rfl rfl hz hz0 rfl q3 (fun g => op_load1 rfl ty_2 (q4.1 g) (B22.ext he) rfl (vm he c20))), (fun a s he hf hz q3 q5 => og rfl rfl rfl hz hz0 rfl q3 (fun g => op_leq rfl (q5.1 g) (lit_i (k := .i64) (n := 9999) (by decide)))), (fun a s he hf hz q3 q6 => an rfl rfl q3 (q6.1)), avq rfl rfl, trivial⟩ ?_; intro a82 s83 he hf hz hd1 h2; have ⟨hd, E⟩ := hdE hd1 hd E he; refine wp_ret ?_; cases h
     exact ⟨hd, _, results_tmp rfl _ _ _, E, h2⟩
    ·have h := ite_f hb h; refine wp_skip ?_; refine wp_sr ?_; have hz0 := hz; refine sq_blk [⟨106, _, []⟩, ⟨107, _, [0]⟩, ⟨108, _, [1]⟩, ⟨109, _, [2]⟩, ⟨110, _, [3]⟩, ⟨111, _, [3, 4]⟩, ⟨112, _, [3, 5]⟩, ⟨113, _, [3, 6]⟩, ⟨2, _, [7]⟩] [8] hz rfl ⟨(fun a s he hf hz => fb rfl rfl fa_72_3 ((hf 1 rfl).trans h1)), (fun a s he hf hz q0 => lo rfl rfl ty_3 q0 (B22.ext he) rfl (vm he c18)), (fun a s he hf hz q1 => eq_ rfl rfl q1 (lit_i (k := .i64) (n := 3) (by decide))), mvq rfl rfl, (fun a s he hf hz q3 => og rfl rfl rfl hz hz0 rfl q3 (fun g => op_faddr_b rfl fa_72_5 ((hf 1 rfl).trans h1))), (fun a s he hf hz q3 q4 => og rfl rfl rfl hz hz0 rfl q3 (fun g => op_load1 rfl ty_2 (q4.1 g) (B22.ext he) rfl (vm he c20))), (fun a s he hf hz q3 q5 => og rfl rfl rfl hz hz0 rfl q3 (fun g => op_eql rfl (q5.1 g) i0)), (fun a s he hf hz q3 q6 => an rfl rfl q3 (q6.1)), avq rfl rfl, trivial⟩ ?_; intro a84 s85 he hf hz hd1 h2; have ⟨hd, E⟩ := hdE hd1 hd E he; refine wp_ret ?_; cases h
     exact ⟨hd, _, results_tmp rfl _ _ _, E, h2⟩
theorem order_Right.nice (x0 : Op) (b0 : kOp.bd x0) : ∃ k, order_Right.f k x0 = some (rightO x0) := by
 have hm := maxLen_lt
 have hb : x0.seen.length ≤ maxLen := b0.2.2.2.2.2.2.1
 have hn := inK64 (show inK .i64 x0.dot.n from b0.1.2)
 have fin : order_Right.l0 1 x0 (x0.seen.length : Int) = some (kindOk x0) := by
  simp only [order_Right.l0, Int.lt_irrefl, decide_false, Bool.false_eq_true, if_false]
  unfold kindOk
  by_cases h1 : x0.kind = 1
  ·simp [h1]; cases decide (x0.seen = []) <;> simp
  ·by_cases h2 : x0.kind = 2
   ·simp [h2]
   ·simp [h1, h2]
 have : ∀ y, y ≤ x0.seen.length → ∃ k, order_Right.l0 k x0 (y : Int) = some ((if y = 0 then seenV x0.deps x0.seen else seenP x0.deps (x0.seen.getD (y - 1) default) (x0.seen.drop y)) && kindOk x0) := by
  refine rounds x0.seen.length ⟨1, ?_⟩ fun y hy ⟨k, hk⟩ => ?_
  ·rw [fin, List.drop_length]
   by_cases h : x0.seen.length = 0
   ·rw [if_pos h, List.length_eq_zero_iff.1 h] <;> rfl
   ·rw [if_neg h] <;> rfl
  ·rw [if_neg (by omega), Nat.add_sub_cancel] at hk
   push_cast at hk
   have hr : (0 : Int) ≤ y ∧ (y : Int) < x0.seen.length := ⟨by omega, by omega⟩
   have hu : ∀ k, order_Right.l0 (k + 1) x0 (y : Int) = if ((!hasV x0.deps (x0.seen.getD y default)) || (decide (0 < y) && !ref08_ahead (x0.seen.getD (y - 1) default) (x0.seen.getD y default))) = true then some false else order_Right.l0 k x0 ((y : Int) + 1) := fun k => by
    have hg : ((!(hasV x0.deps (x0.seen.getD y default))) = false ∧ decide ((0 : Int) < (y : Int)) = true) → (0 ≤ IntKind.wrap .i64 ((y : Int) - 1) ∧ IntKind.wrap .i64 ((y : Int) - 1) < (x0.seen.length : Int)) := fun ⟨_, h⟩ => by
     have : (0 : Int) < y := by simpa using h
     rw [w64 (by omega) (by omega)]; omega
    simp only [order_Right.l0, Int.toNat_natCast, hr, and_self, decide_true, if_true, if_pos hg]
    rw [w64s (by omega)]
    by_cases h0 : y = 0
    ·subst h0; simp
    ·have e1 : IntKind.wrap .i64 ((y : Int) - 1) = ((y - 1 : Nat) : Int) := by rw [w64 (by omega) (by omega)]; omega
     have h1 : (0 : Int) < (y : Int) := by omega
     have h2 : 0 < y := by omega
     rw [e1]
     simp only [Int.toNat_natCast, h1, h2, decide_true, stands_eq]
   refine ⟨k + 1, ?_⟩
   rw [hu]
   by_cases h0 : y = 0
   ·subst h0
    have hd := drop_at (xs := x0.seen) (y := 0) default hy
    rw [List.drop_zero] at hd
    rw [if_pos rfl]
    conv => rhs; rw [hd]
    generalize x0.seen.getD 0 default = d at *
    simp only [seenV]
    cases h1 : hasV x0.deps d
    ·simp
    ·simp only [Bool.not_true, Nat.lt_irrefl, decide_false, Bool.false_and, Bool.or_self, Bool.false_eq_true, if_false, Bool.true_and]; exact hk
   ·rw [if_neg h0, drop_at default hy]
    have h2 : 0 < y := by omega
    generalize x0.seen.getD y default = d at *
    generalize x0.seen.getD (y - 1) default = e at *
    simp only [seenP, h2, decide_true, Bool.true_and]
    cases h1 : hasV x0.deps d
    ·simp
    ·cases h3 : ref08_ahead e d
     ·simp
     ·simp only [Bool.not_true, Bool.or_self, Bool.false_eq_true, if_false, Bool.true_and]; exact hk
 have hw : IntKind.wrap .i64 (x0.dot.n - 1) = x0.dot.n - 1 ∨ vector_isDot x0.dot = false := by
  cases h : vector_isDot x0.dot
  ·exact .inr rfl
  ·obtain ⟨_, h1, h2⟩ := isDot_parts h
   exact .inl (w64 (by omega) (by omega))
 obtain ⟨k, hk⟩ := this 0 (Nat.zero_le _)
 rw [if_pos rfl] at hk
 unfold order_Right.f rightO
 simp only [rightV_one, isText_eq]
 cases h1 : vector_isDot x0.dot
 ·exact ⟨0, by simp⟩
 have hw : IntKind.wrap .i64 (x0.dot.n - 1) = x0.dot.n - 1 := by
  rcases hw with h | h
  ·exact h
  ·rw [h1] at h; cases h
 rw [hw]
 cases h2 : rightV x0.deps
 ·exact ⟨0, by simp⟩
 by_cases h3 : at_ x0.deps x0.dot.who = x0.dot.n - 1
 ·cases h4 : textOk x0.cart
  ·exact ⟨0, by simp⟩
  cases h5 : textOk x0.item
  ·exact ⟨0, by simp⟩
  by_cases h6 : x0.seen.length ≤ 128
  ·have h6' : ¬ (128 : Int) < x0.seen.length := by omega
   refine ⟨k, ?_⟩
   simp only [h3, h6, h6', decide_true, decide_false, Bool.not_true, Bool.or_self, Bool.false_eq_true, if_false, Bool.true_and]
   exact hk
  ·have h6' : (128 : Int) < x0.seen.length := by omega
   exact ⟨0, by simp [h6, h6']⟩
 ·exact ⟨0, by simp [h3]⟩
theorem order_Right.ct {s0 : St} {v0 : Value} {x0 : Op} (k0 : kOp.V s0 v0 x0) : Cl Try.prog 47 #[v0] s0 (Okf s0 (Fact.v kB (rightO x0))) := by
 obtain ⟨k, h⟩ := order_Right.nice x0 (Kn.V_bd k0)
 exact order_Right.ok k0 h
def ref08_Right.l0 : Nat → Op → Int → Option (Bool)
 | 0, _, _ => none
 | m42 + 1, x0, y41 => (if decide (y41 < (x0.seen.length : Int)) = true then (if (0 ≤ y41 ∧ y41 < (x0.seen.length : Int)) then (if (((!(hasV x0.deps (List.getD x0.seen (y41).toNat default))) = false ∧ (decide (0 < y41)) = true) → (0 ≤ (IntKind.wrap .i64 (y41 - 1)) ∧ (IntKind.wrap .i64 (y41 - 1)) < (x0.seen.length : Int))) then (if ((!(hasV x0.deps (List.getD x0.seen (y41).toNat default))) || ((decide (0 < y41)) && (!(ref08_ahead (List.getD x0.seen (IntKind.wrap .i64 (y41 - 1)).toNat default) (List.getD x0.seen (y41).toNat default))))) = true then (some false) else (ref08_Right.l0 m42 x0 (IntKind.wrap .i64 (y41 + 1)))) else none) else none) else (if decide (x0.kind = 1) = true then (some (((decide (1 ≤ x0.qty)) && (decide (x0.qty ≤ 9999))) && (decide ((x0.seen.length : Int) = 0)))) else (if decide (x0.kind = 2) = true then (some ((decide (1 ≤ x0.qty)) && (decide (x0.qty ≤ 9999)))) else (if decide (x0.kind = 3) = true then (some (decide (x0.qty = 0))) else (some false)))))
def ref08_Right.f (k : Nat) (x0 : Op) : Option (Bool) := (if ((((!(vector_isDot x0.dot)) || (!(rightV x0.deps))) || (!decide ((at_ x0.deps x0.dot.who) = (IntKind.wrap .i64 (x0.dot.n - 1))))) || (decide (128 < (x0.seen.length : Int)))) = true then (some false) else (if ((((decide ((x0.cart.length : Int) < 1)) || (decide (32 < (x0.cart.length : Int)))) || (decide ((x0.item.length : Int) < 1))) || (decide (32 < (x0.item.length : Int)))) = true then (some false) else (ref08_Right.l0 k x0 0)))
theorem ref08_Right.ok {s0 : St} {v0 : Value} {x0 : Op} {k : Nat} {r : Bool} (k0 : kOp.V s0 v0 x0) (h : ref08_Right.f k x0 = some r) : Cl Try.prog 52 #[v0] s0 (Okf s0 (Fact.v kB r)) := by
 unfold ref08_Right.f at h
 refine cl_of_wp Try.func52 rfl en_52 fun a hz hd hp => ?_; have hz : a.tmps.size = 124 := hz; have E := Chg.refl (fun _ => False) s0; have h0 := V_at k0 E (hp 0 v0 rfl); refine wp_sr ?_; refine sq_set hz rfl rfl rfl (op_boxn rfl rfl h0 (fun s2 e4 he BB3 r5 => fun a1 h1 hf hz hd1 => ?_)); obtain ⟨b22, hb22⟩ : ∃ b, b = s0.w.heap.size := ⟨_, rfl⟩; rw [← hb22] at BB3 h1; have B22 := BB3; have l22 : s0.w.heap.size ≤ b22 := by have := E.size; omega
 have ⟨hd, E⟩ := hdE hd1 hd E he; obtain ⟨u6, u7, u8, u9, u10, u11, u12, u13, rfl, c14, c15, c16, c17, c18, c19, c20, c21⟩ := kOp_open r5; refine sq_blk [⟨2, _, []⟩] [] hz rfl ⟨(fun a s he hf hz => av rfl rfl b_f), trivial⟩ ?_; intro a23 s24 he hf hz hd1; have ⟨hd, E⟩ := hdE hd1 hd E he; have h1 := (hf 1 rfl).trans h1; have B22 := B22.ext he; obtain ⟨c14, c15, c16, c17, c18, c19, c20, c21⟩ := vm8 he c14 c15 c16 c17 c18 c19 c20 c21; refine wp_sr ?_; refine sq_blk [⟨8, _, []⟩, ⟨9, _, [0]⟩, ⟨10, _, [1]⟩, ⟨3, _, [2]⟩] [3] hz rfl ⟨(fun a s he hf hz => fb rfl rfl fa_72_0 ((hf 1 rfl).trans h1)), (fun a s he hf hz q0 => ld rfl rfl ty_70 rfl q0 (B22.ext he) rfl (kDot_eta (x := x0.dot) (vm he c14) (vm he c15))), (fun a s he hf hz q1 => opw rfl (op_call rfl rfl (ref07_IsDot.ok q1))), avq rfl rfl, trivial⟩ ?_; intro a25 s26 he hf hz hd1 h3; have ⟨hd, E⟩ := hdE hd1 hd E he; have h1 := (hf 1 rfl).trans h1; have B22 := B22.ext he; obtain ⟨c14, c15, c16, c17, c18, c19, c20, c21⟩ := vm8 he c14 c15 c16 c17 c18 c19 c20 c21; refine wp_sr ?_
 refine sq_blk [⟨11, _, []⟩, ⟨12, _, [0]⟩, ⟨13, _, [1]⟩, ⟨4, _, [2]⟩] [3] hz rfl ⟨(fun a s he hf hz => fb rfl rfl fa_72_1 ((hf 1 rfl).trans h1)), (fun a s he hf hz q0 => lo rfl rfl ty_32 q0 (B22.ext he) rfl (vm he c16)), (fun a s he hf hz q1 => opw rfl (op_call rfl rfl (ref07_Right.ct q1))), avq rfl rfl, trivial⟩ ?_; intro a27 s28 he hf hz hd1 h4; have ⟨hd, E⟩ := hdE hd1 hd E he; have h3 := V_at h3 he (hf 3 rfl); have h1 := (hf 1 rfl).trans h1; have B22 := B22.ext he; obtain ⟨c14, c15, c16, c17, c18, c19, c20, c21⟩ := vm8 he c14 c15 c16 c17 c18 c19 c20 c21; refine wp_seq ?_; refine wp_seq ?_; have hz0 := hz; refine wp_draw (⟨14, _, []⟩ :: ⟨15, _, [0]⟩ :: ⟨16, _, [1]⟩ :: ⟨17, _, [2]⟩ :: ⟨18, _, [2, 3]⟩ :: ⟨19, _, [2, 4]⟩ :: ⟨20, _, [5]⟩ :: ⟨21, _, [6]⟩ :: ⟨22, _, [6, 7]⟩ :: ⟨23, _, [6]⟩ :: ⟨24, _, [6, 9]⟩ :: ⟨25, _, [6, 10]⟩ :: ⟨26, _, [6, 8, 11]⟩ :: ⟨27, _, [6]⟩ :: ⟨28, _, [6, 13]⟩ :: ⟨29, _, [6, 14]⟩ :: ⟨30, _, [6, 15]⟩ :: ⟨31, _, [6, 12, 16]⟩ :: ⟨32, _, [6, 17]⟩ :: ⟨33, _, [18]⟩ :: ⟨34, _, [19]⟩ :: ⟨35, _, [19, 20]⟩ :: ⟨36, _, [19, 21]⟩ :: ⟨37, _, [19, 22]⟩ :: ⟨38, _, [19, 23]⟩ :: []) [24] mo hz (by kernel_rfl) ⟨mvs rfl rfl h3 rfl, (fun a s he hf hz q0 => no_ rfl rfl q0), mvq rfl rfl, (fun a s he hf hz q2 => og rfl rfl rfl hz hz0 rfl q2 (fun g => op_move_v rfl (V_at h4 he (hf 4 rfl)))), (fun a s he hf hz q2 q3 => og rfl rfl rfl hz hz0 rfl q2 (fun g => op_not rfl (q3.1 g))), (fun a s he hf hz q2 q4 => oe rfl rfl q2 (q4.1)), mvq rfl rfl, (fun a s he hf hz q6 => og rfl rfl rfl hz hz0 rfl q6 (fun g => op_faddr_b rfl fa_72_1 ((hf 1 rfl).trans h1))), (fun a s he hf hz q6 q7 => og rfl rfl rfl hz hz0 rfl q6 (fun g => op_load1 rfl ty_32 (q7.1 g) (B22.ext he) rfl (vm he c16))), (fun a s he hf hz q6 => og rfl rfl rfl hz hz0 rfl q6 (fun g => op_faddr_b rfl fa_72_0 ((hf 1 rfl).trans h1))), (fun a s he hf hz q6 q9 => og rfl rfl rfl hz hz0 rfl q6 (fun g => op_faddr_b rfl fa_70_0 (q9.1 g))), (fun a s he hf hz q6 q10 => og rfl rfl rfl hz hz0 rfl q6 (fun g => op_load1 rfl ty_9 (q10.1 g) (B22.ext he) rfl (vm he c14))), (fun a s he hf hz q6 q8 q11 => og rfl rfl rfl hz hz0 rfl q6 (fun g => op_call rfl rfl (ref07_At.ct (q8.1 g) (q11.1 g)))), (fun a s he hf hz q6 => og rfl rfl rfl hz hz0 rfl q6 (fun g => op_faddr_b rfl fa_72_0 ((hf 1 rfl).trans h1))), (fun a s he hf hz q6 q13 => og rfl rfl rfl hz hz0 rfl q6 (fun g => op_faddr_b rfl fa_70_1 (q13.1 g))), (fun a s he hf hz q6 q14 => og rfl rfl rfl hz hz0 rfl q6 (fun g => op_load1 rfl ty_2 (q14.1 g) (B22.ext he) rfl (vm he c15))), (fun a s he hf hz q6 q15 => og rfl rfl rfl hz hz0 rfl q6 (fun g => op_sub rfl (q15.1 g) i1)), (fun a s he hf hz q6 q12 q16 => og rfl rfl rfl hz hz0 rfl q6 (fun g => op_neq rfl (q12.1 g) (q16.1 g))), (fun a s he hf hz q6 q17 => oe rfl rfl q6 (q17.1)), mvq rfl rfl, (fun a s he hf hz q19 => og rfl rfl rfl hz hz0 rfl q19 (fun g => op_faddr_b rfl fa_72_6 ((hf 1 rfl).trans h1))), (fun a s he hf hz q19 q20 => og rfl rfl rfl hz hz0 rfl q19 (fun g => op_load1 rfl ty_32 (q20.1 g) (B22.ext he) rfl (vm he c21))), (fun a s he hf hz q19 q21 => og rfl rfl rfl hz hz0 rfl q19 (fun g => op_len rfl u_32 (q21.1 g))), (fun a s he hf hz q19 q22 => og rfl rfl rfl hz hz0 rfl q19 (fun g => op_gtr rfl (q22.1 g) (lit_i (k := .i64) (n := 128) (by decide)))), (fun a s he hf hz q19 q23 => oe rfl rfl q19 (q23.1)), trivial⟩ ?_
 intro a29 s30 he hf hz hd1 h38; have ⟨hd, E⟩ := hdE hd1 hd E he; have h1 := (hf 1 rfl).trans h1; have B22 := B22.ext he; obtain ⟨c14, c15, c16, c17, c18, c19, c20, c21⟩ := vm8 he c14 c15 c16 c17 c18 c19 c20 c21; refine wp_condV h38 (fun hb => ?_) (fun hb => ?_)
 ·have h := ite_t hb h; refine wp_sr ?_; refine sq_blk [⟨2, _, []⟩] [0] hz rfl ⟨(fun a s he hf hz => av rfl rfl b_f), trivial⟩ ?_; intro a31 s32 he hf hz hd1 h2; have ⟨hd, E⟩ := hdE hd1 hd E he; refine wp_ret ?_; cases h
  exact ⟨hd, _, results_tmp rfl _ _ _, E, h2⟩
 ·have h := ite_f hb h; refine wp_skip ?_; refine wp_seq ?_; refine wp_sr ?_; have hz0 := hz; refine sq_blk [⟨39, _, []⟩, ⟨40, _, [0]⟩, ⟨41, _, [1]⟩, ⟨42, _, [2]⟩, ⟨43, _, [3]⟩, ⟨44, _, [4]⟩, ⟨45, _, [4, 5]⟩, ⟨46, _, [4, 6]⟩, ⟨47, _, [4, 7]⟩, ⟨48, _, [4, 8]⟩, ⟨49, _, [9]⟩, ⟨50, _, [10]⟩, ⟨51, _, [10, 11]⟩, ⟨52, _, [10, 12]⟩, ⟨53, _, [10, 13]⟩, ⟨54, _, [10, 14]⟩, ⟨55, _, [15]⟩, ⟨56, _, [16]⟩, ⟨57, _, [16, 17]⟩, ⟨58, _, [16, 18]⟩, ⟨59, _, [16, 19]⟩, ⟨60, _, [16, 20]⟩] [21] hz rfl ⟨(fun a s he hf hz => fb rfl rfl fa_72_2 ((hf 1 rfl).trans h1)), (fun a s he hf hz q0 => lo rfl rfl ty_9 q0 (B22.ext he) rfl (vm he c17)), (fun a s he hf hz q1 => lns rfl rfl u_9 q1), (fun a s he hf hz q2 => ls rfl rfl q2 i1), mvq rfl rfl, (fun a s he hf hz q4 => og rfl rfl rfl hz hz0 rfl q4 (fun g => op_faddr_b rfl fa_72_2 ((hf 1 rfl).trans h1))), (fun a s he hf hz q4 q5 => og rfl rfl rfl hz hz0 rfl q4 (fun g => op_load1 rfl ty_9 (q5.1 g) (B22.ext he) rfl (vm he c17))), (fun a s he hf hz q4 q6 => og rfl rfl rfl hz hz0 rfl q4 (fun g => op_len_s rfl u_9 (q6.1 g))), (fun a s he hf hz q4 q7 => og rfl rfl rfl hz hz0 rfl q4 (fun g => op_gtr rfl (q7.1 g) (lit_i (k := .i64) (n := 32) (by decide)))), (fun a s he hf hz q4 q8 => oe rfl rfl q4 (q8.1)), mvq rfl rfl, (fun a s he hf hz q10 => og rfl rfl rfl hz hz0 rfl q10 (fun g => op_faddr_b rfl fa_72_4 ((hf 1 rfl).trans h1))), (fun a s he hf hz q10 q11 => og rfl rfl rfl hz hz0 rfl q10 (fun g => op_load1 rfl ty_9 (q11.1 g) (B22.ext he) rfl (vm he c19))), (fun a s he hf hz q10 q12 => og rfl rfl rfl hz hz0 rfl q10 (fun g => op_len_s rfl u_9 (q12.1 g))), (fun a s he hf hz q10 q13 => og rfl rfl rfl hz hz0 rfl q10 (fun g => op_lss rfl (q13.1 g) i1)), (fun a s he hf hz q10 q14 => oe rfl rfl q10 (q14.1)), mvq rfl rfl, (fun a s he hf hz q16 => og rfl rfl rfl hz hz0 rfl q16 (fun g => op_faddr_b rfl fa_72_4 ((hf 1 rfl).trans h1))), (fun a s he hf hz q16 q17 => og rfl rfl rfl hz hz0 rfl q16 (fun g => op_load1 rfl ty_9 (q17.1 g) (B22.ext he) rfl (vm he c19))), (fun a s he hf hz q16 q18 => og rfl rfl rfl hz hz0 rfl q16 (fun g => op_len_s rfl u_9 (q18.1 g))), (fun a s he hf hz q16 q19 => og rfl rfl rfl hz hz0 rfl q16 (fun g => op_gtr rfl (q19.1 g) (lit_i (k := .i64) (n := 32) (by decide)))), (fun a s he hf hz q16 q20 => oe rfl rfl q16 (q20.1)), trivial⟩ ?_
  intro a33 s34 he hf hz hd1 h60; have ⟨hd, E⟩ := hdE hd1 hd E he; have h1 := (hf 1 rfl).trans h1; have B22 := B22.ext he; obtain ⟨c14, c15, c16, c17, c18, c19, c20, c21⟩ := vm8 he c14 c15 c16 c17 c18 c19 c20 c21; refine wp_condV h60 (fun hb => ?_) (fun hb => ?_)
  ·have h := ite_t hb h; refine wp_sr ?_; refine sq_blk [⟨2, _, []⟩] [0] hz rfl ⟨(fun a s he hf hz => av rfl rfl b_f), trivial⟩ ?_; intro a35 s36 he hf hz hd1 h2; have ⟨hd, E⟩ := hdE hd1 hd E he; refine wp_ret ?_; cases h
   exact ⟨hd, _, results_tmp rfl _ _ _, E, h2⟩
  ·have h := ite_f hb h; refine wp_skip ?_; refine wp_seq ?_; refine wp_sr ?_; refine sq_blk [⟨5, _, []⟩] [0] hz rfl ⟨(fun a s he hf hz => av rfl rfl i0), trivial⟩ ?_; intro a37 s38 he hf hz hd1 h5; have ⟨hd, E⟩ := hdE hd1 hd E he; have h1 := (hf 1 rfl).trans h1; have B22 := B22.ext he; obtain ⟨c14, c15, c16, c17, c18, c19, c20, c21⟩ := vm8 he c14 c15 c16 c17 c18 c19 c20 c21; refine wp_block ?_; refine wp_loop (k := k) (fun m42 a s => ∃ (y41 : Int), ref08_Right.l0 m42 x0 y41 = some r ∧ m42 ≤ k ∧ Ext s0 s ∧ a.tmps.size = 124 ∧ a.defers = [] ∧ a.get 1 = .pointer (some ⟨b22, 0, none⟩) ∧ (kI .i64).V s (a.get 5) y41 ∧ Bx s b22 72 [u6, u7, u8, u9, u10, u11, u12, u13] ∧ kS.V s u6 x0.dot.who ∧ (kI .i64).V s u7 x0.dot.n ∧ (kSl kDot).V s u8 x0.deps ∧ kS.V s u9 x0.cart ∧ (kI .i64).V s u10 x0.kind ∧ kS.V s u11 x0.item ∧ (kI .i64).V s u12 x0.qty ∧ (kSl kDot).V s u13 x0.seen) ⟨_, h, Nat.le_refl _, E, hz, hd, h1, h5, B22, c14, c15, c16, c17, c18, c19, c20, c21⟩ ?_; rintro m42 a40 s39 ⟨y41, h, hkm42, E, hz, hd, h1, h5, B22, c14, c15, c16, c17, c18, c19, c20, c21⟩; obtain _ | m42 := m42
   ·cases h
   refine wp_seq ?_; refine wp_sr ?_; refine sq_blk [⟨61, _, []⟩, ⟨62, _, []⟩, ⟨63, _, [1]⟩, ⟨64, _, [2]⟩, ⟨65, _, [0, 3]⟩] [4] hz rfl ⟨mvs rfl rfl h5 rfl, (fun a s he hf hz => fb rfl rfl fa_72_6 ((hf 1 rfl).trans h1)), (fun a s he hf hz q1 => lo rfl rfl ty_32 q1 (B22.ext he) rfl (vm he c21)), (fun a s he hf hz q2 => le_ rfl rfl u_32 q2), (fun a s he hf hz q0 q3 => ls rfl rfl q0 q3), trivial⟩ ?_; intro a43 s44 he hf hz hd1 h65; have ⟨hd, E⟩ := hdE hd1 hd E he; have h5 := V_at h5 he (hf 5 rfl); have h1 := (hf 1 rfl).trans h1; have B22 := B22.ext he; obtain ⟨c14, c15, c16, c17, c18, c19, c20, c21⟩ := vm8 he c14 c15 c16 c17 c18 c19 c20 c21; refine wp_condV h65 (fun hb => ?_) (fun hb => ?_)
   ·have h := ite_t hb h; refine wp_skip ?_; refine wp_seq ?_; refine wp_block ?_; refine wp_seq ?_; obtain ⟨D45, h⟩ := need h; refine wp_draw [⟨68, _, []⟩, ⟨69, _, [0]⟩, ⟨70, _, []⟩, ⟨71, _, [2]⟩, ⟨72, _, []⟩, ⟨73, _, [3, 4]⟩, ⟨74, _, [5]⟩, ⟨75, _, [1, 6]⟩, ⟨6, _, [7]⟩] [8] mo hz (by kernel_rfl) ⟨(fun a s he hf hz => fb rfl rfl fa_72_1 ((hf 1 rfl).trans h1)), (fun a s he hf hz q0 => lo rfl rfl ty_32 q0 (B22.ext he) rfl (vm he c16)), (fun a s he hf hz => fb rfl rfl fa_72_6 ((hf 1 rfl).trans h1)), (fun a s he hf hz q2 => lo rfl rfl ty_32 q2 (B22.ext he) rfl (vm he c21)), mvs rfl rfl h5 rfl, (fun a s he hf hz q3 q4 => ia rfl rfl sl_32 q3 q4 D45.1 D45.2), (fun a s he hf hz q5 => lp rfl rfl ty_70 (by decide) q5), (fun a s he hf hz q1 q6 => opw rfl (op_call rfl rfl (ref07_Has.ok q1 q6))), avq rfl rfl, trivial⟩ ?_; intro a46 s47 he hf hz hd1 h6; have ⟨hd, E⟩ := hdE hd1 hd E he; have h5 := V_at h5 he (hf 5 rfl); have h1 := (hf 1 rfl).trans h1; have B22 := B22.ext he; obtain ⟨c14, c15, c16, c17, c18, c19, c20, c21⟩ := vm8 he c14 c15 c16 c17 c18 c19 c20 c21; refine wp_seq ?_; obtain ⟨D48, h⟩ := need h; have hz0 := hz
    refine wp_draw [⟨76, _, []⟩, ⟨77, _, [0]⟩, ⟨78, _, [1]⟩, ⟨79, _, [2]⟩, ⟨80, _, [2, 3]⟩, ⟨81, _, [2, 4]⟩, ⟨82, _, [5]⟩, ⟨83, _, [5, 6]⟩, ⟨84, _, [5]⟩, ⟨85, _, [5, 8]⟩, ⟨86, _, [5, 7, 9]⟩, ⟨87, _, [5, 10]⟩, ⟨88, _, [5]⟩, ⟨89, _, [5, 12]⟩, ⟨90, _, [5]⟩, ⟨91, _, [5, 13, 14]⟩, ⟨92, _, [5, 15]⟩, ⟨93, _, [5, 11, 16]⟩, ⟨94, _, [5, 17]⟩, ⟨95, _, [2, 5, 18]⟩, ⟨96, _, [2, 19]⟩] [20] mo hz (by kernel_rfl) ⟨mvs rfl rfl h6 rfl, (fun a s he hf hz q0 => no_ rfl rfl q0), mvq rfl rfl, (fun a s he hf hz q2 => og rfl rfl rfl hz hz0 rfl q2 (fun g => op_move_v rfl (V_at h5 he (hf 5 rfl)))), (fun a s he hf hz q2 q3 => og rfl rfl rfl hz hz0 rfl q2 (fun g => op_gtr rfl (q3.1 g) i0)), (fun a s he hf hz q2 q4 => og rfl rfl rfl hz hz0 rfl q2 (fun g => op_move_v rfl (q4.1 g))), (fun a s he hf hz q5 => ogg rfl rfl rfl hz hz0 rfl q5 (fun g => op_faddr_b rfl fa_72_6 ((hf 1 rfl).trans h1))), (fun a s he hf hz q5 q6 => ogg rfl rfl rfl hz hz0 rfl q5 (fun g => op_load1 rfl ty_32 (q6.1 g) (B22.ext he) rfl (vm he c21))), (fun a s he hf hz q5 => ogg rfl rfl rfl hz hz0 rfl q5 (fun g => op_move_v rfl (V_at h5 he (hf 5 rfl)))), (fun a s he hf hz q5 q8 => ogg rfl rfl rfl hz hz0 rfl q5 (fun g => op_sub rfl (q8.1 g) i1)), (fun a s he hf hz q5 q7 q9 => ogg rfl rfl rfl hz hz0 rfl q5 (fun g => op_iaddr rfl sl_32 (q7.1 g) (q9.1 g) (D48 g).1 (D48 g).2)), (fun a s he hf hz q5 q10 => ogg rfl rfl rfl hz hz0 rfl q5 (fun g => op_load_p rfl ty_70 (by decide) (q10.1 g))), (fun a s he hf hz q5 => ogg rfl rfl rfl hz hz0 rfl q5 (fun g => op_faddr_b rfl fa_72_6 ((hf 1 rfl).trans h1))), (fun a s he hf hz q5 q12 => ogg rfl rfl rfl hz hz0 rfl q5 (fun g => op_load1 rfl ty_32 (q12.1 g) (B22.ext he) rfl (vm he c21))), (fun a s he hf hz q5 => ogg rfl rfl rfl hz hz0 rfl q5 (fun g => op_move_v rfl (V_at h5 he (hf 5 rfl)))), (fun a s he hf hz q5 q13 q14 => ogg rfl rfl rfl hz hz0 rfl q5 (fun g => op_iaddr rfl sl_32 (q13.1 g) (q14.1 g) D45.1 D45.2)), (fun a s he hf hz q5 q15 => ogg rfl rfl rfl hz hz0 rfl q5 (fun g => op_load_p rfl ty_70 (by decide) (q15.1 g))), (fun a s he hf hz q5 q11 q16 => ogg rfl rfl rfl hz hz0 rfl q5 (fun g => op_call rfl rfl (ref08_ahead.ok (q11.1 g) (q16.1 g)))), (fun a s he hf hz q5 q17 => ogg rfl rfl rfl hz hz0 rfl q5 (fun g => op_not rfl (q17.1 g))), (fun a s he hf hz q2 q5 q18 => og rfl rfl rfl hz hz0 rfl q2 (fun g => op_and_then rfl (q5.1 g) (fun e => q18.1 ⟨g, e⟩))), (fun a s he hf hz q2 q19 => oe rfl rfl q2 (q19.1)), trivial⟩ ?_
    intro a49 s50 he hf hz hd1 h96; have ⟨hd, E⟩ := hdE hd1 hd E he; have h5 := V_at h5 he (hf 5 rfl); have h1 := (hf 1 rfl).trans h1; have B22 := B22.ext he; obtain ⟨c14, c15, c16, c17, c18, c19, c20, c21⟩ := vm8 he c14 c15 c16 c17 c18 c19 c20 c21; refine wp_condV h96 (fun hb => ?_) (fun hb => ?_)
    ·have h := ite_t hb h; refine wp_sr ?_; refine sq_blk [⟨2, _, []⟩] [0] hz rfl ⟨(fun a s he hf hz => av rfl rfl b_f), trivial⟩ ?_; intro a51 s52 he hf hz hd1 h2; have ⟨hd, E⟩ := hdE hd1 hd E he; refine wp_ret ?_; cases h
     exact ⟨hd, _, results_tmp rfl _ _ _, E, h2⟩
    ·have h := ite_f hb h; refine wp_skip ?_; refine wp_region ?_; refine sq_blk [⟨66, _, []⟩, ⟨67, _, [0]⟩] [1] hz rfl ⟨mvs rfl rfl h5 rfl, (fun a s he hf hz q0 => ad rfl rfl q0 i1), trivial⟩ ?_; intro a53 s54 he hf hz hd1 h67; have ⟨hd, E⟩ := hdE hd1 hd E he; have h1 := (hf 1 rfl).trans h1; have B22 := B22.ext he; obtain ⟨c14, c15, c16, c17, c18, c19, c20, c21⟩ := vm8 he c14 c15 c16 c17 c18 c19 c20 c21; refine sq_blk [⟨5, _, []⟩] [0] hz rfl ⟨avs rfl rfl h67 rfl, trivial⟩ ?_; intro a55 s56 he hf hz hd1 h5; have ⟨hd, E⟩ := hdE hd1 hd E he; have h1 := (hf 1 rfl).trans h1; have B22 := B22.ext he; obtain ⟨c14, c15, c16, c17, c18, c19, c20, c21⟩ := vm8 he c14 c15 c16 c17 c18 c19 c20 c21; exact ⟨_, (by omega : m42 < m42 + 1), _, h, by omega, E, hz, hd, h1, h5, B22, c14, c15, c16, c17, c18, c19, c20, c21⟩
   ·have h := ite_f hb h; refine wp_exit ?_; refine then_exit ?_; refine then_exit ?_; refine inBlock_hit ?_; refine wp_sr ?_; have hz0 := hz; refine sq_blk [⟨97, _, []⟩, ⟨98, _, [0]⟩, ⟨99, _, [1]⟩, ⟨100, _, [2]⟩, ⟨101, _, [3]⟩, ⟨102, _, [3, 4]⟩, ⟨103, _, [3, 5]⟩, ⟨104, _, [3, 6]⟩, ⟨7, _, [7]⟩] [8] hz rfl ⟨(fun a s he hf hz => fb rfl rfl fa_72_5 ((hf 1 rfl).trans h1)), (fun a s he hf hz q0 => lo rfl rfl ty_2 q0 (B22.ext he) rfl (vm he c20)), (fun a s he hf hz q1 => opw rfl (op_geq rfl q1 i1)), mvq rfl rfl, (fun a s he hf hz q3 => og rfl rfl rfl hz hz0 rfl q3 (fun g => op_faddr_b rfl fa_72_5 ((hf 1 rfl).trans h1))), (fun a s he hf hz q3 q4 => og rfl rfl rfl hz hz0 rfl q3 (fun g => op_load1 rfl ty_2 (q4.1 g) (B22.ext he) rfl (vm he c20))), (fun a s he hf hz q3 q5 => og rfl rfl rfl hz hz0 rfl q3 (fun g => op_leq rfl (q5.1 g) (lit_i (k := .i64) (n := 9999) (by decide)))), (fun a s he hf hz q3 q6 => an rfl rfl q3 (q6.1)), avq rfl rfl, trivial⟩ ?_; intro a57 s58 he hf hz hd1 h7; have hd := hd1.trans hd; have h1 := (hf 1 rfl).trans h1; have B22 := B22.ext he; obtain ⟨c18, c20, c21⟩ := vm3 he c18 c20 c21
    have E := E.trans he; refine wp_seq ?_; refine wp_sr ?_; refine sq_blk [⟨105, _, []⟩, ⟨106, _, [0]⟩] [1] hz rfl ⟨(fun a s he hf hz => fb rfl rfl fa_72_3 ((hf 1 rfl).trans h1)), (fun a s he hf hz q0 => lo rfl rfl ty_3 q0 (B22.ext he) rfl (vm he c18)), trivial⟩ ?_; intro a59 s60 he hf hz hd1 h106; have ⟨hd, E⟩ := hdE hd1 hd E he; have h7 := V_at h7 he (hf 7 rfl); have h1 := (hf 1 rfl).trans h1; have B22 := B22.ext he; obtain ⟨c20, c21⟩ := vm2 he c20 c21; refine wp_block ?_; refine wp_sr ?_; refine sq_blk [⟨108, _, []⟩, ⟨107, _, [0]⟩] [1] hz rfl ⟨(fun a s he hf hz => eq_ rfl rfl (V_at h106 he (hf 106 rfl)) i1), avq rfl rfl, trivial⟩ ?_; intro a61 s62 he hf hz hd1 h107; have ⟨hd, E⟩ := hdE hd1 hd E he; obtain ⟨h7, h106⟩ := va2 he hf h7 h106 rfl; have h1 := (hf 1 rfl).trans h1; have B22 := B22.ext he; obtain ⟨c20, c21⟩ := vm2 he c20 c21; refine wp_condV h107 (fun hb => ?_) (fun hb => ?_)
    ·have h := ite_t hb h; refine wp_sr ?_; have hz0 := hz; refine sq_blk [⟨109, _, []⟩, ⟨110, _, [0]⟩, ⟨111, _, [1]⟩, ⟨112, _, [1, 2]⟩, ⟨113, _, [1, 3]⟩, ⟨114, _, [1, 4]⟩, ⟨115, _, [1, 5]⟩, ⟨2, _, [6]⟩] [7] hz rfl ⟨mvs rfl rfl h7 rfl, mvq rfl rfl, (fun a s he hf hz q1 => og rfl rfl rfl hz hz0 rfl q1 (fun g => op_faddr_b rfl fa_72_6 ((hf 1 rfl).trans h1))), (fun a s he hf hz q1 q2 => og rfl rfl rfl hz hz0 rfl q1 (fun g => op_load1 rfl ty_32 (q2.1 g) (B22.ext he) rfl (vm he c21))), (fun a s he hf hz q1 q3 => og rfl rfl rfl hz hz0 rfl q1 (fun g => op_len rfl u_32 (q3.1 g))), (fun a s he hf hz q1 q4 => og rfl rfl rfl hz hz0 rfl q1 (fun g => op_eql rfl (q4.1 g) i0)), (fun a s he hf hz q1 q5 => an rfl rfl q1 (q5.1)), avq rfl rfl, trivial⟩ ?_; intro a63 s64 he hf hz hd1 h2; have ⟨hd, E⟩ := hdE hd1 hd E he; refine wp_ret ?_; cases h
     exact ⟨hd, _, results_tmp rfl _ _ _, E, h2⟩
    ·have h := ite_f hb h; refine wp_sr ?_; refine sq_blk [⟨117, _, []⟩, ⟨116, _, [0]⟩] [1] hz rfl ⟨(fun a s he hf hz => eq_ rfl rfl (V_at h106 he (hf 106 rfl)) (lit_i (k := .i64) (n := 2) (by decide))), avq rfl rfl, trivial⟩ ?_; intro a65 s66 he hf hz hd1 h116; have ⟨hd, E⟩ := hdE hd1 hd E he; obtain ⟨h7, h106⟩ := va2 he hf h7 h106 rfl; have h1 := (hf 1 rfl).trans h1; have B22 := B22.ext he; have c20 := vm he c20; refine wp_condV h116 (fun hb => ?_) (fun hb => ?_)
     ·have h := ite_t hb h; refine wp_sr ?_; refine sq_blk [⟨118, _, []⟩, ⟨2, _, [0]⟩] [1] hz rfl ⟨mvs rfl rfl h7 rfl, avq rfl rfl, trivial⟩ ?_; intro a67 s68 he hf hz hd1 h2; have ⟨hd, E⟩ := hdE hd1 hd E he; refine wp_ret ?_; cases h
      exact ⟨hd, _, results_tmp rfl _ _ _, E, h2⟩
     ·have h := ite_f hb h; refine wp_sr ?_; refine sq_blk [⟨120, _, []⟩, ⟨119, _, [0]⟩] [1] hz rfl ⟨(fun a s he hf hz => eq_ rfl rfl (V_at h106 he (hf 106 rfl)) (lit_i (k := .i64) (n := 3) (by decide))), avq rfl rfl, trivial⟩ ?_; intro a69 s70 he hf hz hd1 h119; have ⟨hd, E⟩ := hdE hd1 hd E he; have h1 := (hf 1 rfl).trans h1; have B22 := B22.ext he; have c20 := vm he c20; refine wp_condV h119 (fun hb => ?_) (fun hb => ?_)
      ·have h := ite_t hb h; refine wp_sr ?_; refine sq_blk [⟨121, _, []⟩, ⟨122, _, [0]⟩, ⟨123, _, [1]⟩, ⟨2, _, [2]⟩] [3] hz rfl ⟨(fun a s he hf hz => fb rfl rfl fa_72_5 ((hf 1 rfl).trans h1)), (fun a s he hf hz q0 => lo rfl rfl ty_2 q0 (B22.ext he) rfl (vm he c20)), (fun a s he hf hz q1 => eq_ rfl rfl q1 i0), avq rfl rfl, trivial⟩ ?_; intro a71 s72 he hf hz hd1 h2; have ⟨hd, E⟩ := hdE hd1 hd E he; refine wp_ret ?_; cases h
       exact ⟨hd, _, results_tmp rfl _ _ _, E, h2⟩
      ·have h := ite_f hb h; refine wp_skip ?_; refine wp_sr ?_; refine sq_blk [⟨2, _, []⟩] [0] hz rfl ⟨(fun a s he hf hz => av rfl rfl b_f), trivial⟩ ?_; intro a73 s74 he hf hz hd1 h2; have ⟨hd, E⟩ := hdE hd1 hd E he; refine wp_ret ?_; cases h
       exact ⟨hd, _, results_tmp rfl _ _ _, E, h2⟩
theorem ref08_Right.nice (x0 : Op) (b0 : kOp.bd x0) : ∃ k, ref08_Right.f k x0 = some (rightO x0) := by
 have hm := maxLen_lt
 have hb : x0.seen.length ≤ maxLen := b0.2.2.2.2.2.2.1
 have hn := inK64 (show inK .i64 x0.dot.n from b0.1.2)
 have fin : ref08_Right.l0 1 x0 (x0.seen.length : Int) = some (kindOk x0) := by
  simp only [ref08_Right.l0, Int.lt_irrefl, decide_false, Bool.false_eq_true, if_false]
  unfold kindOk
  by_cases h1 : x0.kind = 1
  ·simp [h1]; skip
  ·by_cases h2 : x0.kind = 2
   ·simp [h2]
   ·by_cases h3 : x0.kind = 3 <;> simp [h1, h2, h3]
 have : ∀ y, y ≤ x0.seen.length → ∃ k, ref08_Right.l0 k x0 (y : Int) = some ((if y = 0 then seenV x0.deps x0.seen else seenP x0.deps (x0.seen.getD (y - 1) default) (x0.seen.drop y)) && kindOk x0) := by
  refine rounds x0.seen.length ⟨1, ?_⟩ fun y hy ⟨k, hk⟩ => ?_
  ·rw [fin, List.drop_length]
   by_cases h : x0.seen.length = 0
   ·rw [if_pos h, List.length_eq_zero_iff.1 h] <;> rfl
   ·rw [if_neg h] <;> rfl
  ·rw [if_neg (by omega), Nat.add_sub_cancel] at hk
   push_cast at hk
   have hr : (0 : Int) ≤ y ∧ (y : Int) < x0.seen.length := ⟨by omega, by omega⟩
   have hu : ∀ k, ref08_Right.l0 (k + 1) x0 (y : Int) = if ((!hasV x0.deps (x0.seen.getD y default)) || (decide (0 < y) && !ref08_ahead (x0.seen.getD (y - 1) default) (x0.seen.getD y default))) = true then some false else ref08_Right.l0 k x0 ((y : Int) + 1) := fun k => by
    have hg : ((!(hasV x0.deps (x0.seen.getD y default))) = false ∧ decide ((0 : Int) < (y : Int)) = true) → (0 ≤ IntKind.wrap .i64 ((y : Int) - 1) ∧ IntKind.wrap .i64 ((y : Int) - 1) < (x0.seen.length : Int)) := fun ⟨_, h⟩ => by
     have : (0 : Int) < y := by simpa using h
     rw [w64 (by omega) (by omega)]; omega
    simp only [ref08_Right.l0, Int.toNat_natCast, hr, and_self, decide_true, if_true, if_pos hg]
    rw [w64s (by omega)]
    by_cases h0 : y = 0
    ·subst h0; simp
    ·have e1 : IntKind.wrap .i64 ((y : Int) - 1) = ((y - 1 : Nat) : Int) := by rw [w64 (by omega) (by omega)]; omega
     have h1 : (0 : Int) < (y : Int) := by omega
     have h2 : 0 < y := by omega
     rw [e1]
     simp only [Int.toNat_natCast, h1, h2, decide_true, Bool.true_and]
   refine ⟨k + 1, ?_⟩
   rw [hu]
   by_cases h0 : y = 0
   ·subst h0
    have hd := drop_at (xs := x0.seen) (y := 0) default hy
    rw [List.drop_zero] at hd
    rw [if_pos rfl]
    conv => rhs; rw [hd]
    generalize x0.seen.getD 0 default = d at *
    simp only [seenV]
    cases h1 : hasV x0.deps d
    ·simp
    ·simp only [Bool.not_true, Nat.lt_irrefl, decide_false, Bool.false_and, Bool.or_self, Bool.false_eq_true, if_false, Bool.true_and]; exact hk
   ·rw [if_neg h0, drop_at default hy]
    have h2 : 0 < y := by omega
    generalize x0.seen.getD y default = d at *
    generalize x0.seen.getD (y - 1) default = e at *
    simp only [seenP, h2, decide_true, Bool.true_and]
    cases h1 : hasV x0.deps d
    ·simp
    ·cases h3 : ref08_ahead e d
     ·simp
     ·simp only [Bool.not_true, Bool.or_self, Bool.false_eq_true, if_false, Bool.true_and]; exact hk
 have hw : IntKind.wrap .i64 (x0.dot.n - 1) = x0.dot.n - 1 ∨ vector_isDot x0.dot = false := by
  cases h : vector_isDot x0.dot
  ·exact .inr rfl
  ·obtain ⟨_, h1, h2⟩ := isDot_parts h
   exact .inl (w64 (by omega) (by omega))
 obtain ⟨k, hk⟩ := this 0 (Nat.zero_le _)
 rw [if_pos rfl] at hk
 unfold ref08_Right.f rightO
 have ht : ∀ x : Str, textOk x = (!(decide ((x.length : Int) < 1) || decide ((32 : Int) < (x.length : Int)))) := fun x => by
  unfold textOk
  by_cases a1 : 1 ≤ x.length <;> by_cases a2 : x.length ≤ 32 <;> simp [a1, a2] <;> omega
 cases h1 : vector_isDot x0.dot
 ·exact ⟨0, by simp [h1]⟩
 have hw : IntKind.wrap .i64 (x0.dot.n - 1) = x0.dot.n - 1 := by
  rcases hw with h | h
  ·exact h
  ·rw [h1] at h; cases h
 simp only [h1, hw]
 cases h2 : rightV x0.deps
 ·exact ⟨0, by simp⟩
 by_cases h3 : at_ x0.deps x0.dot.who = x0.dot.n - 1
 ·by_cases h6 : x0.seen.length ≤ 128
  ·have h6' : ¬ (128 : Int) < x0.seen.length := by omega
   cases h4 : textOk x0.cart
   ·rw [ht] at h4
    exact ⟨0, by
     simp only [h3, h6, h6', decide_true, decide_false, Bool.not_true, Bool.or_self, Bool.false_eq_true, if_false, Bool.true_and, Bool.false_and]
     rw [if_pos]
     simp only [Bool.not_eq_false'] at h4
     rw [h4]; rfl⟩
   ·cases h5 : textOk x0.item
    ·rw [ht] at h4 h5
     exact ⟨0, by
      simp only [h3, h6, h6', decide_true, decide_false, Bool.not_true, Bool.or_self, Bool.false_eq_true, if_false, Bool.true_and, Bool.false_and]
      rw [if_pos]
      simp only [Bool.not_eq_false', Bool.not_eq_true'] at h4 h5
      rw [h4, Bool.false_or, h5]⟩
    ·rw [ht] at h4 h5
     refine ⟨k, ?_⟩
     simp only [h3, h6, h6', decide_true, decide_false, Bool.not_true, Bool.or_self, Bool.false_eq_true, if_false, Bool.true_and]
     rw [if_neg]
     ·exact hk
     ·simp only [Bool.not_eq_true'] at h4 h5
      rw [h4, Bool.false_or, h5]; simp
  ·have h6' : (128 : Int) < x0.seen.length := by omega
   exact ⟨0, by simp [h6, h6']⟩
 ·exact ⟨0, by simp [h3]⟩
theorem ref08_Right.ct {s0 : St} {v0 : Value} {x0 : Op} (k0 : kOp.V s0 v0 x0) : Cl Try.prog 52 #[v0] s0 (Okf s0 (Fact.v kB (rightO x0))) := by
 obtain ⟨k, h⟩ := ref08_Right.nice x0 (Kn.V_bd k0)
 exact ref08_Right.ok k0 h
end
end Go.Proofs.Ytfaenhhiogcacaa.Px
