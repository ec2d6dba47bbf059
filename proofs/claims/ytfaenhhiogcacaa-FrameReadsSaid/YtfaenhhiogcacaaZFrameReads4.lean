/-
  PARTS OF ONE PROOF: W13 PxJ PxQ W14 W15 W16 W17. CONDITIONS: none of their own; each line names its own.
-/
import Derived.Test.YtfaenhhiogcacaaZFrameReads3
import Derived.Test.YtfaenhhiogcacaaProg
import Derived.KernelRfl
import Derived.Test.YtfaenhhiogcacaaZFrameReads1
import Derived.RangeFuncLeaves
import Derived.RangeFuncRecord
import Derived.RangeFuncSeq
set_option linter.unusedSimpArgs false
set_option linter.unusedVariables false
set_option maxRecDepth 4000
set_option maxHeartbeats 1000000
namespace Go.Proofs.Ytfaenhhiogcacaa.Px
open Go Go.RowKit
section
attribute [local irreducible] Kn.V PtrV
def order_layDot.f (k : Nat) (x0 : (List UInt8)) (x1 : Dot) : Option ((List UInt8)) := (if x0.length + x1.who.length + 9 ≤ 140737488355328 then (if (text x0 x1.who).length + 9 ≤ 140737488355328 then (some (number (text x0 x1.who) (IntKind.wrap .u64 x1.n))) else none) else none)
theorem order_layDot.ok {s0 : St} {v0 : Value} {x0 : (List UInt8)} {v1 : Value} {x1 : Dot} {k : Nat} {r : (List UInt8)} (k0 : (kSl kY).V s0 v0 x0) (k1 : kDot.V s0 v1 x1) (h : order_layDot.f k x0 x1 = some r) : Cl Try.prog 138 #[v0, v1] s0 (Okf s0 (Fact.v (kSl kY) r)) := by
 unfold order_layDot.f at h
 refine cl_of_wp Try.func138 rfl en_138 fun a hz hd hp => ?_; have hz : a.tmps.size = 13 := hz; have E := Chg.refl (fun _ => False) s0; have h0 := V_at k0 E (hp 0 v0 rfl); have h1 := V_at k1 E (hp 1 v1 rfl); refine wp_sr ?_; refine sq_set hz rfl rfl rfl (op_boxn rfl rfl h1 (fun s2 e4 he BB3 r5 => fun a1 h3 hf hz hd1 => ?_)); obtain ⟨b10, hb10⟩ : ∃ b, b = s0.w.heap.size := ⟨_, rfl⟩; rw [← hb10] at BB3 h3; have B10 := BB3; have l10 : s0.w.heap.size ≤ b10 := by have := E.size; omega
 have ⟨hd, E⟩ := hdE hd1 hd E he; have h0 := V_at h0 he (hf 0 rfl); obtain ⟨u6, u7, rfl, c8, c9⟩ := kDot_open r5; refine sq_blk [⟨4, _, []⟩] [] hz rfl ⟨(fun a s he hf hz => av rfl rfl (lit_nil (d := kY))), trivial⟩ ?_; intro a11 s12 he hf hz hd1; have ⟨hd, E⟩ := hdE hd1 hd E he; have h0 := V_at h0 he (hf 0 rfl); have h3 := (hf 3 rfl).trans h3; have B10 := B10.ext he; obtain ⟨c8, c9⟩ := vm2 he c8 c9; refine wp_seq ?_; obtain ⟨D13, h⟩ := need h; obtain ⟨D14, h⟩ := need h; refine wp_draw [⟨5, _, []⟩, ⟨6, _, []⟩, ⟨7, _, [1]⟩, ⟨8, _, [0, 2]⟩, ⟨9, _, []⟩, ⟨10, _, [4]⟩, ⟨11, _, [5]⟩, ⟨12, _, [3, 6]⟩, ⟨4, _, [7]⟩] [8] mo hz (by kernel_rfl) ⟨mvs rfl rfl h0 rfl, (fun a s he hf hz => fb rfl rfl fa_70_0 ((hf 3 rfl).trans h3)), (fun a s he hf hz q1 => lo rfl rfl ty_9 q1 (B10.ext he) rfl (vm he c8)), (fun a s he hf hz q0 q2 => opw rfl (op_call_f rfl rfl (f := Fact.own (kSl kY) 5 1 (fun g => s12.w.heap.size ≤ g) (text x0 x1.who)) (Cl.mono (wire_Text.ct q0 q2 D13) (own_w he)))), (fun a s he hf hz => fb rfl rfl fa_70_1 ((hf 3 rfl).trans h3)), (fun a s he hf hz q4 => lo rfl rfl ty_2 q4 (B10.ext he) rfl (vm he c9)), (fun a s he hf hz q5 => cv rfl rfl u_2 u_89 q5), (fun a s he hf hz q3 q6 => opw rfl (op_call_f rfl rfl (f := Fact.own (kSl kY) 5 1 (fun g => s12.w.heap.size ≤ g) (number (text x0 x1.who) (IntKind.wrap .u64 x1.n))) (Cl.mono (wire_Number.ct q3.1 q6 D14) (own_w he)))), (fun a s he hf hz q7 => opw rfl (op_assign rfl (f := Fact.own _ _ _ _ _) q7)), trivial⟩ ?_
 intro a15 s16 he hf hz hd1 k4; have hd := hd1.trans hd; have f4' : ∀ g, sb (a15.get 4) = some g → s0.w.heap.size ≤ g ∧ g ≠ b10 := fun g hg => by have h1 := k4.2.2 g hg; have h2 := E.size; have l10 := B10.lt; exact ⟨(by omega), (by omega)⟩
 have E := E.trans he; have h4 := k4.1; refine wp_ret ?_; cases h
 exact ⟨hd, _, results_tmp rfl _ _ _, E, h4⟩
def dotL (b : Str) (d : Dot) : Str := number (text b d.who) (IntKind.wrap .u64 d.n)
theorem order_layDot.nice (x0 : Str) (x1 : Dot) (b0 : (kSl kY).bd x0) (b1 : kDot.bd x1) (hl : x0.length + x1.who.length + 30 ≤ 140737488355328) : ∃ k, order_layDot.f k x0 x1 = some (dotL x0 x1) := by
 refine ⟨0, ?_⟩
 have := numB_le x1.who.length
 unfold order_layDot.f
 rw [if_pos (by omega), if_pos (by simp only [text, number, Int.toNat_natCast, List.length_append]; omega)]
 rfl
theorem order_layDot.ct {s0 : St} {v0 : Value} {x0 : (List UInt8)} {v1 : Value} {x1 : Dot} (k0 : (kSl kY).V s0 v0 x0) (k1 : kDot.V s0 v1 x1) (hpre : x0.length + x1.who.length + 30 ≤ 140737488355328) : Cl Try.prog 138 #[v0, v1] s0 (Okf s0 (Fact.v (kSl kY) (dotL x0 x1))) := by
 obtain ⟨k, h⟩ := order_layDot.nice x0 x1 (Kn.V_bd k0) (Kn.V_bd k1) hpre
 exact order_layDot.ok k0 k1 h
def ref08_dot.f (k : Nat) (x0 : (List UInt8)) (x1 : Dot) : Option ((List UInt8)) := (if x0.length + x1.who.length + 9 ≤ 140737488355328 then (if (text x0 x1.who).length + 9 ≤ 140737488355328 then (some (number (text x0 x1.who) (IntKind.wrap .u64 x1.n))) else none) else none)
theorem ref08_dot.ok {s0 : St} {v0 : Value} {x0 : (List UInt8)} {v1 : Value} {x1 : Dot} {k : Nat} {r : (List UInt8)} (k0 : (kSl kY).V s0 v0 x0) (k1 : kDot.V s0 v1 x1) (h : ref08_dot.f k x0 x1 = some r) : Cl Try.prog 116 #[v0, v1] s0 (Okf s0 (Fact.v (kSl kY) r)) := by
 unfold ref08_dot.f at h
 refine cl_of_wp Try.func116 rfl en_116 fun a hz hd hp => ?_; have hz : a.tmps.size = 13 := hz; have E := Chg.refl (fun _ => False) s0; have h0 := V_at k0 E (hp 0 v0 rfl); have h1 := V_at k1 E (hp 1 v1 rfl); refine wp_sr ?_; refine sq_set hz rfl rfl rfl (op_boxn rfl rfl h1 (fun s2 e4 he BB3 r5 => fun a1 h3 hf hz hd1 => ?_)); obtain ⟨b10, hb10⟩ : ∃ b, b = s0.w.heap.size := ⟨_, rfl⟩; rw [← hb10] at BB3 h3; have B10 := BB3; have l10 : s0.w.heap.size ≤ b10 := by have := E.size; omega
 have ⟨hd, E⟩ := hdE hd1 hd E he; have h0 := V_at h0 he (hf 0 rfl); obtain ⟨u6, u7, rfl, c8, c9⟩ := kDot_open r5; refine sq_blk [⟨4, _, []⟩] [] hz rfl ⟨(fun a s he hf hz => av rfl rfl (lit_nil (d := kY))), trivial⟩ ?_; intro a11 s12 he hf hz hd1; have ⟨hd, E⟩ := hdE hd1 hd E he; have h0 := V_at h0 he (hf 0 rfl); have h3 := (hf 3 rfl).trans h3; have B10 := B10.ext he; obtain ⟨c8, c9⟩ := vm2 he c8 c9; refine wp_seq ?_; obtain ⟨D13, h⟩ := need h; obtain ⟨D14, h⟩ := need h; refine wp_draw [⟨5, _, []⟩, ⟨6, _, []⟩, ⟨7, _, [1]⟩, ⟨8, _, [0, 2]⟩, ⟨9, _, []⟩, ⟨10, _, [4]⟩, ⟨11, _, [5]⟩, ⟨12, _, [3, 6]⟩, ⟨4, _, [7]⟩] [8] mo hz (by kernel_rfl) ⟨mvs rfl rfl h0 rfl, (fun a s he hf hz => fb rfl rfl fa_70_0 ((hf 3 rfl).trans h3)), (fun a s he hf hz q1 => lo rfl rfl ty_9 q1 (B10.ext he) rfl (vm he c8)), (fun a s he hf hz q0 q2 => opw rfl (op_call_f rfl rfl (f := Fact.own (kSl kY) 5 1 (fun g => s12.w.heap.size ≤ g) (text x0 x1.who)) (Cl.mono (ref02_Text.ct q0 q2 D13) (own_w he)))), (fun a s he hf hz => fb rfl rfl fa_70_1 ((hf 3 rfl).trans h3)), (fun a s he hf hz q4 => lo rfl rfl ty_2 q4 (B10.ext he) rfl (vm he c9)), (fun a s he hf hz q5 => cv rfl rfl u_2 u_89 q5), (fun a s he hf hz q3 q6 => opw rfl (op_call_f rfl rfl (f := Fact.own (kSl kY) 5 1 (fun g => s12.w.heap.size ≤ g) (number (text x0 x1.who) (IntKind.wrap .u64 x1.n))) (Cl.mono (ref02_Number.ct q3.1 q6 D14) (own_w he)))), (fun a s he hf hz q7 => opw rfl (op_assign rfl (f := Fact.own _ _ _ _ _) q7)), trivial⟩ ?_
 intro a15 s16 he hf hz hd1 k4; have hd := hd1.trans hd; have f4' : ∀ g, sb (a15.get 4) = some g → s0.w.heap.size ≤ g ∧ g ≠ b10 := fun g hg => by have h1 := k4.2.2 g hg; have h2 := E.size; have l10 := B10.lt; exact ⟨(by omega), (by omega)⟩
 have E := E.trans he; have h4 := k4.1; refine wp_ret ?_; cases h
 exact ⟨hd, _, results_tmp rfl _ _ _, E, h4⟩
theorem ref08_dot.nice (x0 : Str) (x1 : Dot) (b0 : (kSl kY).bd x0) (b1 : kDot.bd x1) (hl : x0.length + x1.who.length + 30 ≤ 140737488355328) : ∃ k, ref08_dot.f k x0 x1 = some (dotL x0 x1) := by
 refine ⟨0, ?_⟩
 have := numB_le x1.who.length
 unfold ref08_dot.f
 rw [if_pos (by omega), if_pos (by simp only [text, number, Int.toNat_natCast, List.length_append]; omega)]
 rfl
theorem ref08_dot.ct {s0 : St} {v0 : Value} {x0 : (List UInt8)} {v1 : Value} {x1 : Dot} (k0 : (kSl kY).V s0 v0 x0) (k1 : kDot.V s0 v1 x1) (hpre : x0.length + x1.who.length + 30 ≤ 140737488355328) : Cl Try.prog 116 #[v0, v1] s0 (Okf s0 (Fact.v (kSl kY) (dotL x0 x1))) := by
 obtain ⟨k, h⟩ := ref08_dot.nice x0 x1 (Kn.V_bd k0) (Kn.V_bd k1) hpre
 exact ref08_dot.ok k0 k1 h
def textB (x : Str) : Str := numB x.length ++ x
def opH (o : Op) : Str := dotB o.dot ++ vecB o.deps ++ textB o.cart ++ textB o.item
def opN (o : Op) : Str := numB o.kind.toNat ++ numB o.qty.toNat ++ numB o.seen.length
def opB (o : Op) : Str := opH o ++ opN o ++ (o.seen.map dotB).flatten
def layO (o : Op) : Str × Int := if rightO o = true then (opB o, 0) else ([], 2)
theorem seenP_dot (v : List Dot) : ∀ (l : List Dot) (p : Dot), seenP v p l = true → ∀ d ∈ l, vector_isDot d = true
 | [], _, _, _, h => by simp at h
 | e :: l, p, hc, d, hd => by
  simp only [seenP, Bool.and_eq_true] at hc
  rcases List.mem_cons.1 hd with rfl | hd
  ·have := hc.1.1; unfold hasV at this; simp only [Bool.and_eq_true] at this; exact this.1.2
  ·exact seenP_dot v l e hc.2 d hd
theorem seenV_dot {v l : List Dot} (h : seenV v l = true) : ∀ d ∈ l, vector_isDot d = true := by
 cases l with
 | nil => intro d hd; simp at hd
 | cons e l =>
  simp only [seenV, Bool.and_eq_true] at h
  intro d hd
  rcases List.mem_cons.1 hd with rfl | hd
  ·have := h.1; unfold hasV at this; simp only [Bool.and_eq_true] at this; exact this.1.2
  ·exact seenP_dot v l e h.2 d hd
theorem rightO_parts {o : Op} (h : rightO o = true) : vector_isDot o.dot = true ∧ rightV o.deps = true ∧ (1 ≤ o.cart.length ∧ o.cart.length ≤ 32) ∧ (1 ≤ o.item.length ∧ o.item.length ≤ 32) ∧ o.seen.length ≤ 128 ∧ (∀ d ∈ o.seen, vector_isDot d = true) ∧ (1 ≤ o.kind ∧ o.kind ≤ 3) ∧ (0 ≤ o.qty ∧ o.qty ≤ 9999) := by
 unfold rightO textOk at h
 simp only [Bool.and_eq_true, decide_eq_true_eq] at h
 obtain ⟨⟨⟨⟨⟨⟨⟨h1, h2⟩, h3⟩, h4⟩, h5⟩, h6⟩, h7⟩, h8⟩ := h
 refine ⟨h1, h2, h4, h5, h6, seenV_dot h7, ?_⟩
 unfold kindOk at h8
 split at h8
 ·simp only [Bool.and_eq_true, decide_eq_true_eq] at h8; omega
 ·split at h8
  ·simp only [Bool.and_eq_true, decide_eq_true_eq] at h8; omega
  ·simp only [Bool.and_eq_true, decide_eq_true_eq] at h8; omega
theorem dotL_eq (b : Str) {d : Dot} (h : vector_isDot d = true) : dotL b d = b ++ dotB d := dot_laid b h
theorem vecB_len {x : List Dot} (h : rightV x = true) : (vecB x).length ≤ 2697 := by
 obtain ⟨h1, h2⟩ := rightV_dot h
 have := dots_len h2
 have := numB_le x.length
 unfold vecB; rw [List.length_append]; omega
theorem textB_len (x : Str) : (textB x).length ≤ x.length + 9 := by have := numB_le x.length; unfold textB; rw [List.length_append]; omega
theorem text_eq (b x : Str) : text b x = b ++ textB x := by simp [text, number, textB]
theorem opH_len {o : Op} (h : rightO o = true) : (opH o).length ≤ 2821 := by
 obtain ⟨h1, h2, h3, h4, _⟩ := rightO_parts h
 have a1 := dotB_len h1
 have a2 := vecB_len h2
 have a3 := textB_len o.cart
 have a4 := textB_len o.item
 unfold opH; simp only [List.length_append]; omega
theorem opN_len (o : Op) : (opN o).length ≤ 27 := by
 have a1 := numB_le o.kind.toNat
 have a2 := numB_le o.qty.toNat
 have a3 := numB_le o.seen.length
 unfold opN; simp only [List.length_append]; omega
theorem opB_len {o : Op} (h : rightO o = true) : (opB o).length ≤ 8300 := by
 have a1 := opH_len h
 have a2 := opN_len o
 obtain ⟨_, _, _, _, h5, h6, _⟩ := rightO_parts h
 have a3 := dots_len h6
 unfold opB; simp only [List.length_append]; omega
theorem head_eq {o : Op} (h : rightO o = true) : text (text ((layV (dotL ([] : Str) o.dot) o.deps).1) o.cart) o.item = opH o := by
 obtain ⟨h1, h2, _⟩ := rightO_parts h
 unfold layV
 rw [if_pos h2, dotL_eq _ h1, text_eq, text_eq]
 simp [opH]
mutual
def order_Lay.l1 : Nat → Op → (List UInt8) → Int → Option (Str × Int)
 | 0, _, _, _ => none
 | m68 + 1, x0, y66, y67 => (if decide (y67 < (x0.seen.length : Int)) = true then (if (0 ≤ y67 ∧ y67 < (x0.seen.length : Int)) then (if y66.length + (List.getD x0.seen (y67).toNat default).who.length + 30 ≤ 140737488355328 then (order_Lay.l1 m68 x0 (dotL y66 (List.getD x0.seen (y67).toNat default)) (IntKind.wrap .i64 (y67 + 1))) else none) else none) else (some (y66, 0)))
def order_Lay.l0 : Nat → Op → (List UInt8) → Int → Option (Str × Int)
 | 0, _, _, _ => none
 | m46 + 1, x0, y44, y45 => (if decide (y45 < (([x0.kind, x0.qty, (x0.seen.length : Int)] : List Int).length : Int)) = true then (if (0 ≤ y45 ∧ y45 < (([x0.kind, x0.qty, (x0.seen.length : Int)] : List Int).length : Int)) then (if y44.length + 9 ≤ 140737488355328 then (order_Lay.l0 m46 x0 (number y44 (IntKind.wrap .u64 (List.getD ([x0.kind, x0.qty, (x0.seen.length : Int)] : List Int) (y45).toNat default))) (IntKind.wrap .i64 (y45 + 1))) else none) else none) else (order_Lay.l1 m46 x0 y44 0))
end
def order_Lay.f (k : Nat) (x0 : Op) : Option (Str × Int) := (if (!(rightO x0)) = true then (some (([] : Str), 2)) else (if ([] : (List UInt8)).length + x0.dot.who.length + 30 ≤ 140737488355328 then (if (dotL ([] : (List UInt8)) x0.dot).length + 4000 ≤ 140737488355328 then (if ((layV (dotL ([] : (List UInt8)) x0.dot) x0.deps).1).length + x0.cart.length + 9 ≤ 140737488355328 then (if (text ((layV (dotL ([] : (List UInt8)) x0.dot) x0.deps).1) x0.cart).length + x0.item.length + 9 ≤ 140737488355328 then (order_Lay.l0 k x0 (text (text ((layV (dotL ([] : (List UInt8)) x0.dot) x0.deps).1) x0.cart) x0.item) 0) else none) else none) else none) else none))
theorem order_Lay.ok {s0 : St} {v0 : Value} {x0 : Op} {k : Nat} {r : Str × Int} (k0 : kOp.V s0 v0 x0) (h : order_Lay.f k x0 = some r) : Cl Try.prog 113 #[v0] s0 (Okf s0 (Fact.tup [Fact.v kS r.1, Fact.v (kI .i64) r.2])) := by
 unfold order_Lay.f at h
 refine cl_of_wp Try.func113 rfl en_113 fun a hz hd hp => ?_; have hz : a.tmps.size = 60 := hz; have E := Chg.refl (fun _ => False) s0; have h0 := V_at k0 E (hp 0 v0 rfl); refine wp_sr ?_; refine sq_set hz rfl rfl rfl (op_boxn rfl rfl h0 (fun s2 e4 he BB3 r5 => fun a1 h1 hf hz hd1 => ?_)); obtain ⟨b22, hb22⟩ : ∃ b, b = s0.w.heap.size := ⟨_, rfl⟩; rw [← hb22] at BB3 h1; have B22 := BB3; have l22 : s0.w.heap.size ≤ b22 := by have := E.size; omega
 have ⟨hd, E⟩ := hdE hd1 hd E he; obtain ⟨u6, u7, u8, u9, u10, u11, u12, u13, rfl, c14, c15, c16, c17, c18, c19, c20, c21⟩ := kOp_open r5; refine sq_blk [⟨2, _, []⟩, ⟨3, _, []⟩] [] hz rfl ⟨(fun a s he hf hz => av rfl rfl s_0), (fun a s he hf hz => av rfl rfl i0), trivial⟩ ?_; intro a23 s24 he hf hz hd1; have ⟨hd, E⟩ := hdE hd1 hd E he; have h1 := (hf 1 rfl).trans h1; have B22 := B22.ext he; obtain ⟨c14, c15, c16, c17, c18, c19, c20, c21⟩ := vm8 he c14 c15 c16 c17 c18 c19 c20 c21; refine wp_seq ?_; refine wp_sr ?_; refine sq_blk [⟨10, _, []⟩, ⟨11, _, [0]⟩, ⟨12, _, [1]⟩] [2] hz rfl ⟨(fun a s he hf hz => ld rfl rfl ty_72 rfl ((hf 1 rfl).trans h1) (B22.ext he) rfl (kOp_eta (x := x0) (vm he c14) (vm he c15) (vm he c16) (vm he c17) (vm he c18) (vm he c19) (vm he c20) (vm he c21))), (fun a s he hf hz q0 => opw rfl (op_call rfl rfl (order_Right.ct q0))), (fun a s he hf hz q1 => no_ rfl rfl q1), trivial⟩ ?_; intro a25 s26 he hf hz hd1 h12; have hd := hd1.trans hd; have h1 := (hf 1 rfl).trans h1; have B22 := B22.ext he
 obtain ⟨c14, c15, c16, c17, c18, c19, c20, c21⟩ := vm8 he c14 c15 c16 c17 c18 c19 c20 c21; have E := E.trans he; refine wp_condV h12 (fun hb => ?_) (fun hb => ?_)
 ·have h := ite_t hb h; refine wp_sr ?_; refine sq_blk [⟨2, _, []⟩, ⟨3, _, []⟩] [0, 1] hz rfl ⟨(fun a s he hf hz => av rfl rfl s_0), (fun a s he hf hz => av rfl rfl (lit_i (k := .i64) (n := 2) (by decide))), trivial⟩ ?_; intro a27 s28 he hf hz hd1 h2 h3; have ⟨hd, E⟩ := hdE hd1 hd E he; refine wp_ret ?_; cases h
  exact ⟨hd, _, results_tmp2 rfl _ _ _, E, tup2 h2 h3⟩
 ·have h := ite_f hb h; refine wp_skip ?_; refine wp_seq ?_; obtain ⟨D29, h⟩ := need h; obtain ⟨D30, h⟩ := need h; refine wp_draw [⟨14, _, []⟩, ⟨15, _, [0]⟩, ⟨16, _, [1]⟩, ⟨17, _, []⟩, ⟨18, _, [3]⟩, ⟨19, _, [2, 4]⟩, ⟨13, _, [5]⟩, ⟨20, _, [6]⟩, ⟨21, _, [6]⟩, ⟨4, _, [7]⟩, ⟨5, _, [8]⟩] [9] mo hz (by kernel_rfl) ⟨(fun a s he hf hz => fb rfl rfl fa_72_0 ((hf 1 rfl).trans h1)), (fun a s he hf hz q0 => ld rfl rfl ty_70 rfl q0 (B22.ext he) rfl (kDot_eta (x := x0.dot) (vm he c14) (vm he c15))), (fun a s he hf hz q1 => opw rfl (op_call rfl rfl (order_layDot.ct (lit_nil (d := kY)) q1 D29))), (fun a s he hf hz => fb rfl rfl fa_72_1 ((hf 1 rfl).trans h1)), (fun a s he hf hz q3 => lo rfl rfl ty_32 q3 (B22.ext he) rfl (vm he c16)), (fun a s he hf hz q2 q4 => opw rfl (op_call rfl rfl (vector_Lay.ct q2 q4 D30))), (fun a s he hf hz q5 => opw rfl (op_move rfl (f := Fact.tup _) q5)), (fun a s he hf hz q6 => opw rfl (op_extract (f := Fact.v _ _) rfl q6 rfl)), (fun a s he hf hz q6 => opw rfl (op_extract (f := Fact.v _ _) rfl q6 rfl)), avq rfl rfl, avq rfl rfl, trivial⟩ ?_; intro a31 s32 he hf hz hd1 h4; have hd := hd1.trans hd; have h1 := (hf 1 rfl).trans h1; have B22 := B22.ext he
  obtain ⟨c14, c15, c16, c17, c18, c19, c20, c21⟩ := vm8 he c14 c15 c16 c17 c18 c19 c20 c21; have E := E.trans he; refine wp_seq ?_; obtain ⟨D33, h⟩ := need h; obtain ⟨D34, h⟩ := need h; refine wp_draw [⟨22, _, []⟩, ⟨23, _, []⟩, ⟨24, _, [1]⟩, ⟨25, _, [0, 2]⟩, ⟨26, _, []⟩, ⟨27, _, [4]⟩, ⟨28, _, [3, 5]⟩] [6] mo hz (by kernel_rfl) ⟨mvs rfl rfl h4 rfl, (fun a s he hf hz => fb rfl rfl fa_72_2 ((hf 1 rfl).trans h1)), (fun a s he hf hz q1 => lo rfl rfl ty_9 q1 (B22.ext he) rfl (vm he c17)), (fun a s he hf hz q0 q2 => opw rfl (op_call_f rfl rfl (f := Fact.own (kSl kY) 5 1 (fun g => s32.w.heap.size ≤ g) (text ((layV (dotL ([] : (List UInt8)) x0.dot) x0.deps).1) x0.cart)) (Cl.mono (wire_Text.ct q0 q2 D33) (own_w he)))), (fun a s he hf hz => fb rfl rfl fa_72_4 ((hf 1 rfl).trans h1)), (fun a s he hf hz q4 => lo rfl rfl ty_9 q4 (B22.ext he) rfl (vm he c19)), (fun a s he hf hz q3 q5 => opw rfl (op_call_f rfl rfl (f := Fact.own (kSl kY) 5 1 (fun g => s32.w.heap.size ≤ g) (text (text ((layV (dotL ([] : (List UInt8)) x0.dot) x0.deps).1) x0.cart) x0.item)) (Cl.mono (wire_Text.ct q3.1 q5 D34) (own_w he)))), trivial⟩ ?_
  intro a35 s36 he hf hz hd1 k28; have hd := hd1.trans hd; have f28' : ∀ g, sb (a35.get 28) = some g → s0.w.heap.size ≤ g ∧ g ≠ b22 := fun g hg => by have h1 := k28.2.2 g hg; have h2 := E.size; have l22 := B22.lt; exact ⟨(by omega), (by omega)⟩
  have h1 := (hf 1 rfl).trans h1; have B22 := B22.ext he; obtain ⟨c14, c15, c16, c17, c18, c19, c20, c21⟩ := vm8 he c14 c15 c16 c17 c18 c19 c20 c21; have E := E.trans he; have h28 := k28.1; have p28 := k28.2.1; have f28 := f28'; refine sq_blk [⟨4, _, []⟩] [0] hz rfl ⟨(fun a s he hf hz => opw rfl (op_assign rfl (f := Fact.own _ _ _ _ _) (own_at h28 p28 f28 he (hf 28 rfl)))), trivial⟩ ?_; intro a38 s39 he hf hz hd1 k4; have ⟨hd, E⟩ := hdE hd1 hd E he; have h1 := (hf 1 rfl).trans h1; have B22 := B22.ext he; obtain ⟨c14, c15, c16, c17, c18, c19, c20, c21⟩ := vm8 he c14 c15 c16 c17 c18 c19 c20 c21; have h4 := k4.1; refine wp_seq ?_; refine wp_sr ?_; refine sq_blk [⟨29, _, []⟩, ⟨30, _, [0]⟩, ⟨31, _, []⟩, ⟨32, _, [2]⟩, ⟨33, _, []⟩, ⟨34, _, [4]⟩, ⟨35, _, [5]⟩, ⟨36, _, [1, 3, 6]⟩, ⟨37, _, [7]⟩, ⟨38, _, []⟩] [7, 8, 9] hz rfl ⟨(fun a s he hf hz => fb rfl rfl fa_72_3 ((hf 1 rfl).trans h1)), (fun a s he hf hz q0 => lo rfl rfl ty_3 q0 (B22.ext he) rfl (vm he c18)), (fun a s he hf hz => fb rfl rfl fa_72_5 ((hf 1 rfl).trans h1)), (fun a s he hf hz q2 => lo rfl rfl ty_2 q2 (B22.ext he) rfl (vm he c20)), (fun a s he hf hz => fb rfl rfl fa_72_6 ((hf 1 rfl).trans h1)), (fun a s he hf hz q4 => lo rfl rfl ty_32 q4 (B22.ext he) rfl (vm he c21)), (fun a s he hf hz q5 => le_ rfl rfl u_32 q5), (fun a s he hf hz q1 q3 q6 => opw rfl (op_lit_v (d := (kI .i64)) rfl lt_170 (zc := [.int .i64 0, .int .i64 0, .int .i64 0]) (by kernel_rfl) (ps := [(0, [(a.get 30)]), (1, [(a.get 32)]), (2, [(a.get 35)])]) ⟨rfl, V_cells1 (s := s) rfl q1, rfl, V_cells1 (s := s) rfl q3, rfl, V_cells1 (s := s) rfl q6, trivial⟩ rfl (by decide) (ys := ([x0.kind, x0.qty, (x0.seen.length : Int)] : List Int)) rfl (by decide) rfl (lit_rows3 (V_one rfl q1) (V_one rfl q3) (V_one rfl q6)))), (fun a s he hf hz q7 => le_ rfl rfl u_170 q7), (fun a s he hf hz => mv rfl rfl i0), trivial⟩ ?_
  intro a40 s41 he hf hz hd1 h36 h37 h38; have ⟨hd, E⟩ := hdE hd1 hd E he; have h4 := V_at h4 he (hf 4 rfl); have h1 := (hf 1 rfl).trans h1; have B22 := B22.ext he; obtain ⟨c14, c15, c16, c17, c18, c19, c20, c21⟩ := vm8 he c14 c15 c16 c17 c18 c19 c20 c21; refine wp_block ?_; refine wp_loop (k := k) (fun m46 a s => ∃ (y44 : (List UInt8)) (y45 : Int), order_Lay.l0 m46 x0 y44 y45 = some r ∧ m46 ≤ k ∧ Ext s0 s ∧ a.tmps.size = 60 ∧ a.defers = [] ∧ a.get 1 = .pointer (some ⟨b22, 0, none⟩) ∧ (kSl kY).V s (a.get 4) y44 ∧ (kSl (kI .i64)).V s (a.get 36) ([x0.kind, x0.qty, (x0.seen.length : Int)] : List Int) ∧ (kI .i64).V s (a.get 37) (([x0.kind, x0.qty, (x0.seen.length : Int)] : List Int).length : Int) ∧ (kI .i64).V s (a.get 38) y45 ∧ Bx s b22 72 [u6, u7, u8, u9, u10, u11, u12, u13] ∧ kS.V s u6 x0.dot.who ∧ (kI .i64).V s u7 x0.dot.n ∧ (kSl kDot).V s u8 x0.deps ∧ kS.V s u9 x0.cart ∧ (kI .i64).V s u10 x0.kind ∧ kS.V s u11 x0.item ∧ (kI .i64).V s u12 x0.qty ∧ (kSl kDot).V s u13 x0.seen) ⟨_, _, h, Nat.le_refl _, E, hz, hd, h1, h4, h36, h37, h38, B22, c14, c15, c16, c17, c18, c19, c20, c21⟩ ?_
  rintro m46 a43 s42 ⟨y44, y45, h, hkm46, E, hz, hd, h1, h4, h36, h37, h38, B22, c14, c15, c16, c17, c18, c19, c20, c21⟩
  obtain _ | m46 := m46
  ·cases h
  refine wp_sr ?_; refine sq_blk [⟨39, _, []⟩] [0] hz rfl ⟨(fun a s he hf hz => ls rfl rfl (V_at h38 he (hf 38 rfl)) (V_at h37 he (hf 37 rfl))), trivial⟩ ?_; intro a47 s48 he hf hz hd1 h39; have ⟨hd, E⟩ := hdE hd1 hd E he; obtain ⟨h4, h36, h37, h38⟩ := va4 he hf h4 h36 h37 h38 rfl; have h1 := (hf 1 rfl).trans h1; have B22 := B22.ext he; obtain ⟨c14, c15, c16, c17, c18, c19, c20, c21⟩ := vm8 he c14 c15 c16 c17 c18 c19 c20 c21; refine wp_seq ?_; refine wp_condV h39 (fun hb => ?_) (fun hb => ?_)
  ·have h := ite_t hb h; refine wp_skip ?_; refine wp_seq ?_; refine wp_block ?_; refine wp_sr ?_; obtain ⟨D49, h⟩ := need h; refine sq_blk [⟨40, _, []⟩, ⟨41, _, [0]⟩, ⟨7, _, [1]⟩] [2] hz rfl ⟨(fun a s he hf hz => ia rfl rfl sl_170 (V_at h36 he (hf 36 rfl)) (V_at h38 he (hf 38 rfl)) D49.1 D49.2), (fun a s he hf hz q0 => lp rfl rfl ty_2 (by decide) q0), avq rfl rfl, trivial⟩ ?_; intro a50 s51 he hf hz hd1 h7; have ⟨hd, E⟩ := hdE hd1 hd E he; obtain ⟨h4, h36, h37, h38⟩ := va4 he hf h4 h36 h37 h38 rfl; have h1 := (hf 1 rfl).trans h1; have B22 := B22.ext he; obtain ⟨c14, c15, c16, c17, c18, c19, c20, c21⟩ := vm8 he c14 c15 c16 c17 c18 c19 c20 c21; refine wp_region ?_; obtain ⟨D52, h⟩ := need h; refine sq_blk [⟨42, _, []⟩, ⟨43, _, []⟩, ⟨44, _, [1]⟩, ⟨45, _, [0, 2]⟩] [3] hz rfl ⟨mvs rfl rfl h4 rfl, mvs rfl rfl h7 rfl, (fun a s he hf hz q1 => cv rfl rfl u_2 u_89 q1), (fun a s he hf hz q0 q2 => opw rfl (op_call_f rfl rfl (f := Fact.own (kSl kY) 5 1 (fun g => s51.w.heap.size ≤ g) (number y44 (IntKind.wrap .u64 (List.getD ([x0.kind, x0.qty, (x0.seen.length : Int)] : List Int) (y45).toNat default)))) (Cl.mono (wire_Number.ct q0 q2 D52) (own_w he)))), trivial⟩ ?_
   intro a53 s54 he hf hz hd1 k45; have hd := hd1.trans hd; have f45' : ∀ g, sb (a53.get 45) = some g → s0.w.heap.size ≤ g ∧ g ≠ b22 := fun g hg => by have h1 := k45.2.2 g hg; have h2 := E.size; have l22 := B22.lt; exact ⟨(by omega), (by omega)⟩
   obtain ⟨h36, h37, h38⟩ := va3 he hf h36 h37 h38 rfl; have h1 := (hf 1 rfl).trans h1; have B22 := B22.ext he; obtain ⟨c14, c15, c16, c17, c18, c19, c20, c21⟩ := vm8 he c14 c15 c16 c17 c18 c19 c20 c21; have E := E.trans he; have h45 := k45.1; have p45 := k45.2.1; have f45 := f45'; refine sq_blk [⟨4, _, []⟩] [0] hz rfl ⟨(fun a s he hf hz => opw rfl (op_assign rfl (f := Fact.own _ _ _ _ _) (own_at h45 p45 f45 he (hf 45 rfl)))), trivial⟩ ?_; intro a56 s57 he hf hz hd1 k4; have ⟨hd, E⟩ := hdE hd1 hd E he; obtain ⟨h36, h37, h38⟩ := va3 he hf h36 h37 h38 rfl; have h1 := (hf 1 rfl).trans h1; have B22 := B22.ext he; obtain ⟨c14, c15, c16, c17, c18, c19, c20, c21⟩ := vm8 he c14 c15 c16 c17 c18 c19 c20 c21; have h4 := k4.1; refine wp_region ?_; refine sq_blk [⟨46, _, []⟩] [0] hz rfl ⟨(fun a s he hf hz => ad rfl rfl (V_at h38 he (hf 38 rfl)) i1), trivial⟩ ?_; intro a58 s59 he hf hz hd1 h46; have hd := hd1.trans hd; obtain ⟨h4, h36, h37⟩ := va3 he hf h4 h36 h37 rfl; have h1 := (hf 1 rfl).trans h1; have B22 := B22.ext he; obtain ⟨c14, c15, c16, c17, c18, c19, c20, c21⟩ := vm8 he c14 c15 c16 c17 c18 c19 c20 c21
   have E := E.trans he; refine sq_blk [⟨38, _, []⟩] [0] hz rfl ⟨mvs rfl rfl h46 rfl, trivial⟩ ?_; intro a60 s61 he hf hz hd1 h38; have ⟨hd, E⟩ := hdE hd1 hd E he; obtain ⟨h4, h36, h37⟩ := va3 he hf h4 h36 h37 rfl; have h1 := (hf 1 rfl).trans h1; have B22 := B22.ext he; obtain ⟨c14, c15, c16, c17, c18, c19, c20, c21⟩ := vm8 he c14 c15 c16 c17 c18 c19 c20 c21; exact ⟨_, (by omega : m46 < m46 + 1), _, _, h, by omega, E, hz, hd, h1, h4, h36, h37, h38, B22, c14, c15, c16, c17, c18, c19, c20, c21⟩
  ·have h := ite_f hb h; refine wp_exit ?_; refine then_exit ?_; refine then_exit ?_; refine inBlock_hit ?_; refine wp_seq ?_; refine wp_sr ?_; refine sq_blk [⟨47, _, []⟩, ⟨48, _, [0]⟩, ⟨49, _, [1]⟩, ⟨50, _, []⟩] [1, 2, 3] hz rfl ⟨(fun a s he hf hz => fb rfl rfl fa_72_6 ((hf 1 rfl).trans h1)), (fun a s he hf hz q0 => lo rfl rfl ty_32 q0 (B22.ext he) rfl (vm he c21)), (fun a s he hf hz q1 => le_ rfl rfl u_32 q1), (fun a s he hf hz => mv rfl rfl i0), trivial⟩ ?_; intro a62 s63 he hf hz hd1 h48 h49 h50; have ⟨hd, E⟩ := hdE hd1 hd E he; have h4 := V_at h4 he (hf 4 rfl); refine wp_block ?_; refine wp_loop (k := m46) (fun m68 a s => ∃ (y66 : (List UInt8)) (y67 : Int), order_Lay.l1 m68 x0 y66 y67 = some r ∧ m68 ≤ m46 ∧ Ext s0 s ∧ a.tmps.size = 60 ∧ a.defers = [] ∧ (kSl kY).V s (a.get 4) y66 ∧ (kSl kDot).V s (a.get 48) x0.seen ∧ (kI .i64).V s (a.get 49) (x0.seen.length : Int) ∧ (kI .i64).V s (a.get 50) y67) ⟨_, _, h, Nat.le_refl _, E, hz, hd, h4, h48, h49, h50⟩ ?_; rintro m68 a65 s64 ⟨y66, y67, h, hkm68, E, hz, hd, h4, h48, h49, h50⟩; obtain _ | m68 := m68
   ·cases h
   refine wp_sr ?_; refine sq_blk [⟨51, _, []⟩] [0] hz rfl ⟨(fun a s he hf hz => ls rfl rfl (V_at h50 he (hf 50 rfl)) (V_at h49 he (hf 49 rfl))), trivial⟩ ?_; intro a69 s70 he hf hz hd1 h51; have ⟨hd, E⟩ := hdE hd1 hd E he; obtain ⟨h4, h48, h49, h50⟩ := va4 he hf h4 h48 h49 h50 rfl; refine wp_seq ?_; refine wp_condV h51 (fun hb => ?_) (fun hb => ?_)
   ·have h := ite_t hb h; refine wp_skip ?_; refine wp_seq ?_; refine wp_block ?_; refine wp_sr ?_; obtain ⟨D71, h⟩ := need h; refine sq_blk [⟨52, _, []⟩, ⟨53, _, [0]⟩] [1] hz rfl ⟨(fun a s he hf hz => ia rfl rfl sl_32 (V_at h48 he (hf 48 rfl)) (V_at h50 he (hf 50 rfl)) D71.1 D71.2), (fun a s he hf hz q0 => lp rfl rfl ty_70 (by decide) q0), trivial⟩ ?_; intro a72 s73 he hf hz hd1 h53; have ⟨hd, E⟩ := hdE hd1 hd E he; obtain ⟨h4, h48, h49, h50⟩ := va4 he hf h4 h48 h49 h50 rfl; refine sq_set hz rfl rfl rfl (op_alloc (cs := [.string ⟨#[]⟩, .int .i64 0]) rfl zv_70 rfl (fun s75 he BB76 => fun a74 h9 hf hz hd1 => ?_)); obtain ⟨b79, hb79⟩ : ∃ b, b = s73.w.heap.size := ⟨_, rfl⟩; rw [← hb79] at BB76 h9; have B79 := BB76; have l79 : s0.w.heap.size ≤ b79 := by have := E.size; omega
    have ⟨hd, E⟩ := hdE hd1 hd E he; obtain ⟨h4, h48, h49, h50, h53⟩ := va5 he hf h4 h48 h49 h50 h53 rfl; have c77 : kS.V s75 (.string ⟨#[]⟩) ([] : Str) := s_0; have c78 : (kI .i64).V s75 (.int .i64 0) 0 := i0; refine sq_do rfl rfl (op_storen rfl ty_70 rfl h9 B79 h53 rfl (fun s81 e82 he B79n r83 => ?_)); obtain ⟨h4, h48, h49, h50⟩ := vm4 he h4 h48 h49 h50; have E := Chg.chg E he (fun b e h => (fun e => absurd h (by cases e; exact Nat.not_lt.2 l79)) e); obtain ⟨u84, u85, rfl, c86, c87⟩ := kDot_open r83; have B79 : Bx s81 b79 70 [u84, u85] := B79n; refine wp_region ?_; obtain ⟨D88, h⟩ := need h; refine sq_blk [⟨54, _, []⟩, ⟨55, _, []⟩, ⟨56, _, [0, 1]⟩] [2] hz rfl ⟨mvs rfl rfl h4 rfl, (fun a s he hf hz => ld rfl rfl ty_70 rfl ((hf 9 rfl).trans h9) (B79.ext he) rfl (kDot_eta (x := (List.getD x0.seen (y67).toNat default)) (vm he c86) (vm he c87))), (fun a s he hf hz q0 q1 => opw rfl (op_call rfl rfl (order_layDot.ct q0 q1 D88))), trivial⟩ ?_; intro a89 s90 he hf hz hd1 h56; have ⟨hd, E⟩ := hdE hd1 hd E he; obtain ⟨h48, h49, h50⟩ := va3 he hf h48 h49 h50 rfl
    refine sq_blk [⟨4, _, []⟩] [0] hz rfl ⟨avs rfl rfl h56 rfl, trivial⟩ ?_; intro a91 s92 he hf hz hd1 h4; have ⟨hd, E⟩ := hdE hd1 hd E he; obtain ⟨h48, h49, h50⟩ := va3 he hf h48 h49 h50 rfl; refine wp_region ?_; refine sq_blk [⟨57, _, []⟩] [0] hz rfl ⟨(fun a s he hf hz => ad rfl rfl (V_at h50 he (hf 50 rfl)) i1), trivial⟩ ?_; intro a93 s94 he hf hz hd1 h57; have ⟨hd, E⟩ := hdE hd1 hd E he; obtain ⟨h4, h48, h49⟩ := va3 he hf h4 h48 h49 rfl; refine sq_blk [⟨50, _, []⟩] [0] hz rfl ⟨mvs rfl rfl h57 rfl, trivial⟩ ?_; intro a95 s96 he hf hz hd1 h50; have ⟨hd, E⟩ := hdE hd1 hd E he; obtain ⟨h4, h48, h49⟩ := va3 he hf h4 h48 h49 rfl; exact ⟨_, (by omega : m68 < m68 + 1), _, _, h, by omega, E, hz, hd, h4, h48, h49, h50⟩
   ·have h := ite_f hb h; refine wp_exit ?_; refine then_exit ?_; refine then_exit ?_; refine inBlock_hit ?_; refine wp_sr ?_; refine sq_blk [⟨58, _, []⟩, ⟨59, _, [0]⟩, ⟨2, _, [1]⟩, ⟨3, _, []⟩] [2, 3] hz rfl ⟨mvs rfl rfl h4 rfl, (fun a s he hf hz q0 => opw rfl (op_tostr rfl u_53 u_5 u_9 q0)), avq rfl rfl, (fun a s he hf hz => av rfl rfl i0), trivial⟩ ?_; intro a97 s98 he hf hz hd1 h2 h3; have ⟨hd, E⟩ := hdE hd1 hd E he; refine wp_ret ?_; cases h
    exact ⟨hd, _, results_tmp2 rfl _ _ _, E, tup2 h2 h3⟩
theorem order_Lay.nice (x0 : Op) (b0 : kOp.bd x0) : ∃ k, order_Lay.f k x0 = some (layO x0) := by
 have hm := maxLen_lt
 have hb : x0.seen.length ≤ maxLen := b0.2.2.2.2.2.2.1
 unfold order_Lay.f layO
 cases hr : rightO x0
 ·exact ⟨0, rfl⟩
 ·obtain ⟨h1, h2, h3, h4, h5, h6, h7, h8⟩ := rightO_parts hr
  have hw := isName_len (isDot_parts h1).1
  have hH := opH_len hr
  have a1 := dotB_len h1
  have a2 := vecB_len h2
  have c1 : (dotL ([] : Str) x0.dot).length ≤ 42 := by rw [dotL_eq _ h1]; simpa using a1
  have c2 : ((layV (dotL ([] : Str) x0.dot) x0.deps).1).length ≤ 2739 := by
   unfold layV; rw [if_pos h2]; rw [List.length_append]; omega
  have c3 : (text ((layV (dotL ([] : Str) x0.dot) x0.deps).1) x0.cart).length ≤ 2780 := by
   rw [text_eq, List.length_append]; have := textB_len x0.cart; omega
  have seen : ∀ y, y ≤ x0.seen.length → ∀ acc : Str, acc.length + 42 * (x0.seen.length - y) + 60 ≤ 140737488355328 → ∃ k, order_Lay.l1 k x0 acc (y : Int) = some (acc ++ ((x0.seen.drop y).map dotB).flatten, 0) := by
   refine rounds x0.seen.length (fun acc _ => ⟨1, ?_⟩) fun y hy ih acc ha => ?_
   ·simp only [order_Lay.l1, List.drop_length]; simp
   ·have hdy : vector_isDot (x0.seen.getD y default) = true := h6 _ (by rw [getD_at hy]; exact List.getElem_mem hy)
    have hwy := isName_len (isDot_parts hdy).1
    have hlen := dotB_len hdy
    obtain ⟨k, hk⟩ := ih (acc ++ dotB (x0.seen.getD y default)) (by rw [List.length_append]; omega)
    push_cast at hk
    have hr' : (0 : Int) ≤ y ∧ (y : Int) < x0.seen.length := ⟨by omega, by omega⟩
    refine ⟨k + 1, ?_⟩
    simp only [order_Lay.l1, Int.toNat_natCast, hr', and_self, decide_true, if_true]
    rw [if_pos (by omega), dotL_eq _ hdy, w64s (by omega), hk, drop_at default hy]
    simp
  have e1 : IntKind.wrap .u64 x0.kind = x0.kind := wrap_u64i (by omega) (by omega)
  have e2 : IntKind.wrap .u64 x0.qty = x0.qty := wrap_u64i (by omega) (by omega)
  have e3 : IntKind.wrap .u64 (x0.seen.length : Int) = (x0.seen.length : Int) := wrap_u64i (by omega) (by omega)
  have n1 := numB_le x0.kind.toNat
  have n2 := numB_le x0.qty.toNat
  have n3 := numB_le x0.seen.length
  obtain ⟨k, hk⟩ := seen 0 (Nat.zero_le _) (opH x0 ++ opN x0) (by have := opN_len x0; rw [List.length_append]; omega)
  rw [List.drop_zero] at hk
  refine ⟨k + 1 + 1 + 1 + 1, ?_⟩
  rw [if_neg (by simp), if_pos (by simp; omega), if_pos (by omega), if_pos (by omega), if_pos (by omega), if_pos rfl, head_eq hr]
  have s0 : ∀ k acc, acc.length + 9 ≤ 140737488355328 → order_Lay.l0 (k + 1) x0 acc 0 = order_Lay.l0 k x0 (number acc x0.kind) 1 := fun k acc h => by
   show (if decide ((0 : Int) < 3) = true then (if ((0 : Int) ≤ 0 ∧ (0 : Int) < 3) then (if acc.length + 9 ≤ 140737488355328 then order_Lay.l0 k x0 (number acc (IntKind.wrap .u64 x0.kind)) 1 else none) else none) else order_Lay.l1 k x0 acc 0) = _
   rw [if_pos (by decide), if_pos (by decide), if_pos h, e1]
  have s1 : ∀ k acc, acc.length + 9 ≤ 140737488355328 → order_Lay.l0 (k + 1) x0 acc 1 = order_Lay.l0 k x0 (number acc x0.qty) 2 := fun k acc h => by
   show (if decide ((1 : Int) < 3) = true then (if ((0 : Int) ≤ 1 ∧ (1 : Int) < 3) then (if acc.length + 9 ≤ 140737488355328 then order_Lay.l0 k x0 (number acc (IntKind.wrap .u64 x0.qty)) 2 else none) else none) else order_Lay.l1 k x0 acc 0) = _
   rw [if_pos (by decide), if_pos (by decide), if_pos h, e2]
  have s2 : ∀ k acc, acc.length + 9 ≤ 140737488355328 → order_Lay.l0 (k + 1) x0 acc 2 = order_Lay.l0 k x0 (number acc (x0.seen.length : Int)) 3 := fun k acc h => by
   show (if decide ((2 : Int) < 3) = true then (if ((0 : Int) ≤ 2 ∧ (2 : Int) < 3) then (if acc.length + 9 ≤ 140737488355328 then order_Lay.l0 k x0 (number acc (IntKind.wrap .u64 (x0.seen.length : Int))) 3 else none) else none) else order_Lay.l1 k x0 acc 0) = _
   rw [if_pos (by decide), if_pos (by decide), if_pos h, e3]
  have s3 : ∀ k acc, order_Lay.l0 (k + 1) x0 acc 3 = order_Lay.l1 k x0 acc 0 := fun k acc => by
   show (if decide ((3 : Int) < 3) = true then _ else order_Lay.l1 k x0 acc 0) = _
   rw [if_neg (by decide)]
  rw [s0 _ _ (by omega), s1 _ _ (by simp only [number, List.length_append]; omega), s2 _ _ (by simp only [number, List.length_append]; omega), s3]
  have : number (number (number (opH x0) x0.kind) x0.qty) (x0.seen.length : Int) = opH x0 ++ opN x0 := by simp [number, opN]
  rw [this]
  exact hk
theorem order_Lay.ct {s0 : St} {v0 : Value} {x0 : Op} (k0 : kOp.V s0 v0 x0) : Cl Try.prog 113 #[v0] s0 (Okf s0 (Fact.tup [Fact.v kS ((layO x0).1), Fact.v (kI .i64) ((layO x0).2)])) := by
 obtain ⟨k, h⟩ := order_Lay.nice x0 (Kn.V_bd k0)
 exact order_Lay.ok k0 h
def ref08_Lay.l0 : Nat → Op → (List UInt8) → Int → Option (Str × Int)
 | 0, _, _, _ => none
 | m61 + 1, x0, y59, y60 => (if decide (y60 < (x0.seen.length : Int)) = true then (if (0 ≤ y60 ∧ y60 < (x0.seen.length : Int)) then (if y59.length + (List.getD x0.seen (y60).toNat default).who.length + 30 ≤ 140737488355328 then (ref08_Lay.l0 m61 x0 (dotL y59 (List.getD x0.seen (y60).toNat default)) (IntKind.wrap .i64 (y60 + 1))) else none) else none) else (some (y59, 0)))
def ref08_Lay.f (k : Nat) (x0 : Op) : Option (Str × Int) := (if (!(rightO x0)) = true then (some (([] : Str), 2)) else (if ([] : (List UInt8)).length + x0.dot.who.length + 30 ≤ 140737488355328 then (if (dotL ([] : (List UInt8)) x0.dot).length + 4000 ≤ 140737488355328 then (if ((layV (dotL ([] : (List UInt8)) x0.dot) x0.deps).1).length + x0.cart.length + 9 ≤ 140737488355328 then (if (text ((layV (dotL ([] : (List UInt8)) x0.dot) x0.deps).1) x0.cart).length + x0.item.length + 9 ≤ 140737488355328 then (if (text (text ((layV (dotL ([] : (List UInt8)) x0.dot) x0.deps).1) x0.cart) x0.item).length + 9 ≤ 140737488355328 then (if (number (text (text ((layV (dotL ([] : (List UInt8)) x0.dot) x0.deps).1) x0.cart) x0.item) (IntKind.wrap .u64 x0.kind)).length + 9 ≤ 140737488355328 then (if (number (number (text (text ((layV (dotL ([] : (List UInt8)) x0.dot) x0.deps).1) x0.cart) x0.item) (IntKind.wrap .u64 x0.kind)) (IntKind.wrap .u64 x0.qty)).length + 9 ≤ 140737488355328 then (ref08_Lay.l0 k x0 (number (number (number (text (text ((layV (dotL ([] : (List UInt8)) x0.dot) x0.deps).1) x0.cart) x0.item) (IntKind.wrap .u64 x0.kind)) (IntKind.wrap .u64 x0.qty)) (IntKind.wrap .u64 (x0.seen.length : Int))) 0) else none) else none) else none) else none) else none) else none) else none))
theorem ref08_Lay.ok {s0 : St} {v0 : Value} {x0 : Op} {k : Nat} {r : Str × Int} (k0 : kOp.V s0 v0 x0) (h : ref08_Lay.f k x0 = some r) : Cl Try.prog 77 #[v0] s0 (Okf s0 (Fact.tup [Fact.v kS r.1, Fact.v (kI .i64) r.2])) := by
 unfold ref08_Lay.f at h
 refine cl_of_wp Try.func77 rfl en_77 fun a hz hd hp => ?_; have hz : a.tmps.size = 59 := hz; have E := Chg.refl (fun _ => False) s0; have h0 := V_at k0 E (hp 0 v0 rfl); refine wp_sr ?_; refine sq_set hz rfl rfl rfl (op_boxn rfl rfl h0 (fun s2 e4 he BB3 r5 => fun a1 h1 hf hz hd1 => ?_)); obtain ⟨b22, hb22⟩ : ∃ b, b = s0.w.heap.size := ⟨_, rfl⟩; rw [← hb22] at BB3 h1; have B22 := BB3; have l22 : s0.w.heap.size ≤ b22 := by have := E.size; omega
 have ⟨hd, E⟩ := hdE hd1 hd E he; obtain ⟨u6, u7, u8, u9, u10, u11, u12, u13, rfl, c14, c15, c16, c17, c18, c19, c20, c21⟩ := kOp_open r5; refine sq_blk [⟨2, _, []⟩, ⟨3, _, []⟩] [] hz rfl ⟨(fun a s he hf hz => av rfl rfl s_0), (fun a s he hf hz => av rfl rfl i0), trivial⟩ ?_; intro a23 s24 he hf hz hd1; have ⟨hd, E⟩ := hdE hd1 hd E he; have h1 := (hf 1 rfl).trans h1; have B22 := B22.ext he; obtain ⟨c14, c15, c16, c17, c18, c19, c20, c21⟩ := vm8 he c14 c15 c16 c17 c18 c19 c20 c21; refine wp_sr ?_; refine sq_blk [⟨8, _, []⟩, ⟨9, _, [0]⟩, ⟨4, _, [1]⟩] [2] hz rfl ⟨(fun a s he hf hz => ld rfl rfl ty_72 rfl ((hf 1 rfl).trans h1) (B22.ext he) rfl (kOp_eta (x := x0) (vm he c14) (vm he c15) (vm he c16) (vm he c17) (vm he c18) (vm he c19) (vm he c20) (vm he c21))), (fun a s he hf hz q0 => opw rfl (op_call rfl rfl (ref08_Right.ct q0))), avq rfl rfl, trivial⟩ ?_; intro a25 s26 he hf hz hd1 h4; have hd := hd1.trans hd; have h1 := (hf 1 rfl).trans h1; have B22 := B22.ext he
 obtain ⟨c14, c15, c16, c17, c18, c19, c20, c21⟩ := vm8 he c14 c15 c16 c17 c18 c19 c20 c21; have E := E.trans he; refine wp_seq ?_; refine wp_sr ?_; refine sq_blk [⟨10, _, []⟩, ⟨11, _, [0]⟩] [1] hz rfl ⟨mvs rfl rfl h4 rfl, (fun a s he hf hz q0 => no_ rfl rfl q0), trivial⟩ ?_; intro a27 s28 he hf hz hd1 h11; have ⟨hd, E⟩ := hdE hd1 hd E he; have h1 := (hf 1 rfl).trans h1; have B22 := B22.ext he; obtain ⟨c14, c15, c16, c17, c18, c19, c20, c21⟩ := vm8 he c14 c15 c16 c17 c18 c19 c20 c21; refine wp_condV h11 (fun hb => ?_) (fun hb => ?_)
 ·have h := ite_t hb h; refine wp_sr ?_; refine sq_blk [⟨2, _, []⟩, ⟨3, _, []⟩] [0, 1] hz rfl ⟨(fun a s he hf hz => av rfl rfl s_0), (fun a s he hf hz => av rfl rfl (lit_i (k := .i64) (n := 2) (by decide))), trivial⟩ ?_; intro a29 s30 he hf hz hd1 h2 h3; have ⟨hd, E⟩ := hdE hd1 hd E he; refine wp_ret ?_; cases h
  exact ⟨hd, _, results_tmp2 rfl _ _ _, E, tup2 h2 h3⟩
 ·have h := ite_f hb h; refine wp_skip ?_; refine wp_seq ?_; obtain ⟨D31, h⟩ := need h; obtain ⟨D32, h⟩ := need h; refine wp_draw [⟨13, _, []⟩, ⟨14, _, [0]⟩, ⟨15, _, [1]⟩, ⟨16, _, []⟩, ⟨17, _, [3]⟩, ⟨18, _, [2, 4]⟩, ⟨12, _, [5]⟩, ⟨19, _, [6]⟩, ⟨20, _, [6]⟩, ⟨5, _, [7]⟩, ⟨6, _, [8]⟩] [9] mo hz (by kernel_rfl) ⟨(fun a s he hf hz => fb rfl rfl fa_72_0 ((hf 1 rfl).trans h1)), (fun a s he hf hz q0 => ld rfl rfl ty_70 rfl q0 (B22.ext he) rfl (kDot_eta (x := x0.dot) (vm he c14) (vm he c15))), (fun a s he hf hz q1 => opw rfl (op_call rfl rfl (ref08_dot.ct (lit_nil (d := kY)) q1 D31))), (fun a s he hf hz => fb rfl rfl fa_72_1 ((hf 1 rfl).trans h1)), (fun a s he hf hz q3 => lo rfl rfl ty_32 q3 (B22.ext he) rfl (vm he c16)), (fun a s he hf hz q2 q4 => opw rfl (op_call rfl rfl (ref07_Lay.ct q2 q4 D32))), (fun a s he hf hz q5 => opw rfl (op_move rfl (f := Fact.tup _) q5)), (fun a s he hf hz q6 => opw rfl (op_extract (f := Fact.v _ _) rfl q6 rfl)), (fun a s he hf hz q6 => opw rfl (op_extract (f := Fact.v _ _) rfl q6 rfl)), avq rfl rfl, avq rfl rfl, trivial⟩ ?_; intro a33 s34 he hf hz hd1 h5; have hd := hd1.trans hd; have h1 := (hf 1 rfl).trans h1; have B22 := B22.ext he
  obtain ⟨c14, c15, c16, c17, c18, c19, c20, c21⟩ := vm8 he c14 c15 c16 c17 c18 c19 c20 c21; have E := E.trans he; refine wp_seq ?_; obtain ⟨D35, h⟩ := need h; obtain ⟨D36, h⟩ := need h; refine wp_draw [⟨21, _, []⟩, ⟨22, _, []⟩, ⟨23, _, [1]⟩, ⟨24, _, [0, 2]⟩, ⟨25, _, []⟩, ⟨26, _, [4]⟩, ⟨27, _, [3, 5]⟩] [6] mo hz (by kernel_rfl) ⟨mvs rfl rfl h5 rfl, (fun a s he hf hz => fb rfl rfl fa_72_2 ((hf 1 rfl).trans h1)), (fun a s he hf hz q1 => lo rfl rfl ty_9 q1 (B22.ext he) rfl (vm he c17)), (fun a s he hf hz q0 q2 => opw rfl (op_call_f rfl rfl (f := Fact.own (kSl kY) 5 1 (fun g => s34.w.heap.size ≤ g) (text ((layV (dotL ([] : (List UInt8)) x0.dot) x0.deps).1) x0.cart)) (Cl.mono (ref02_Text.ct q0 q2 D35) (own_w he)))), (fun a s he hf hz => fb rfl rfl fa_72_4 ((hf 1 rfl).trans h1)), (fun a s he hf hz q4 => lo rfl rfl ty_9 q4 (B22.ext he) rfl (vm he c19)), (fun a s he hf hz q3 q5 => opw rfl (op_call_f rfl rfl (f := Fact.own (kSl kY) 5 1 (fun g => s34.w.heap.size ≤ g) (text (text ((layV (dotL ([] : (List UInt8)) x0.dot) x0.deps).1) x0.cart) x0.item)) (Cl.mono (ref02_Text.ct q3.1 q5 D36) (own_w he)))), trivial⟩ ?_
  intro a37 s38 he hf hz hd1 k27; have hd := hd1.trans hd; have f27' : ∀ g, sb (a37.get 27) = some g → s0.w.heap.size ≤ g ∧ g ≠ b22 := fun g hg => by have h1 := k27.2.2 g hg; have h2 := E.size; have l22 := B22.lt; exact ⟨(by omega), (by omega)⟩
  have h1 := (hf 1 rfl).trans h1; have B22 := B22.ext he; obtain ⟨c14, c15, c16, c17, c18, c19, c20, c21⟩ := vm8 he c14 c15 c16 c17 c18 c19 c20 c21; have E := E.trans he; have h27 := k27.1; have p27 := k27.2.1; have f27 := f27'; refine sq_blk [⟨5, _, []⟩] [0] hz rfl ⟨(fun a s he hf hz => opw rfl (op_assign rfl (f := Fact.own _ _ _ _ _) (own_at h27 p27 f27 he (hf 27 rfl)))), trivial⟩ ?_; intro a40 s41 he hf hz hd1 k5; have ⟨hd, E⟩ := hdE hd1 hd E he; have h1 := (hf 1 rfl).trans h1; have B22 := B22.ext he; obtain ⟨c14, c15, c16, c17, c18, c19, c20, c21⟩ := vm8 he c14 c15 c16 c17 c18 c19 c20 c21; have h5 := k5.1; have p5 := k5.2.1; have f5 := k5.2.2; refine wp_seq ?_; obtain ⟨D42, h⟩ := need h; obtain ⟨D43, h⟩ := need h; refine wp_draw [⟨28, _, []⟩, ⟨29, _, []⟩, ⟨30, _, [1]⟩, ⟨31, _, [2]⟩, ⟨32, _, [0, 3]⟩, ⟨33, _, []⟩, ⟨34, _, [5]⟩, ⟨35, _, [6]⟩, ⟨36, _, [4, 7]⟩] [8] mo hz (by kernel_rfl) ⟨(fun a s he hf hz => opw rfl (op_move rfl (f := Fact.own _ _ _ _ _) (own_at h5 p5 f5 he (hf 5 rfl)))), (fun a s he hf hz => fb rfl rfl fa_72_3 ((hf 1 rfl).trans h1)), (fun a s he hf hz q1 => lo rfl rfl ty_3 q1 (B22.ext he) rfl (vm he c18)), (fun a s he hf hz q2 => cv rfl rfl u_3 u_89 q2), (fun a s he hf hz q0 q3 => opw rfl (op_call_f rfl rfl (f := Fact.own (kSl kY) 5 1 (fun g => s41.w.heap.size ≤ g) (number (text (text ((layV (dotL ([] : (List UInt8)) x0.dot) x0.deps).1) x0.cart) x0.item) (IntKind.wrap .u64 x0.kind))) (Cl.mono (ref02_Number.ct q0.1 q3 D42) (own_w he)))), (fun a s he hf hz => fb rfl rfl fa_72_5 ((hf 1 rfl).trans h1)), (fun a s he hf hz q5 => lo rfl rfl ty_2 q5 (B22.ext he) rfl (vm he c20)), (fun a s he hf hz q6 => cv rfl rfl u_2 u_89 q6), (fun a s he hf hz q4 q7 => opw rfl (op_call_f rfl rfl (f := Fact.own (kSl kY) 5 1 (fun g => s41.w.heap.size ≤ g) (number (number (text (text ((layV (dotL ([] : (List UInt8)) x0.dot) x0.deps).1) x0.cart) x0.item) (IntKind.wrap .u64 x0.kind)) (IntKind.wrap .u64 x0.qty))) (Cl.mono (ref02_Number.ct q4.1 q7 D43) (own_w he)))), trivial⟩ ?_
  intro a44 s45 he hf hz hd1 k36; have hd := hd1.trans hd; have f36' : ∀ g, sb (a44.get 36) = some g → s0.w.heap.size ≤ g ∧ g ≠ b22 := fun g hg => by have h1 := k36.2.2 g hg; have h2 := E.size; have l22 := B22.lt; exact ⟨(by omega), (by omega)⟩
  have h1 := (hf 1 rfl).trans h1; have B22 := B22.ext he; obtain ⟨c14, c15, c16, c17, c18, c19, c20, c21⟩ := vm8 he c14 c15 c16 c17 c18 c19 c20 c21; have E := E.trans he; have h36 := k36.1; have p36 := k36.2.1; have f36 := f36'; refine sq_blk [⟨5, _, []⟩] [0] hz rfl ⟨(fun a s he hf hz => opw rfl (op_assign rfl (f := Fact.own _ _ _ _ _) (own_at h36 p36 f36 he (hf 36 rfl)))), trivial⟩ ?_; intro a47 s48 he hf hz hd1 k5; have ⟨hd, E⟩ := hdE hd1 hd E he; have h1 := (hf 1 rfl).trans h1; have B22 := B22.ext he; obtain ⟨c14, c15, c16, c17, c18, c19, c20, c21⟩ := vm8 he c14 c15 c16 c17 c18 c19 c20 c21; have h5 := k5.1; have p5 := k5.2.1; have f5 := k5.2.2; refine wp_sr ?_; obtain ⟨D49, h⟩ := need h; refine sq_blk [⟨37, _, []⟩, ⟨38, _, []⟩, ⟨39, _, [1]⟩, ⟨40, _, [2]⟩, ⟨41, _, [3]⟩, ⟨42, _, [0, 4]⟩] [5] hz rfl ⟨(fun a s he hf hz => opw rfl (op_move rfl (f := Fact.own _ _ _ _ _) (own_at h5 p5 f5 he (hf 5 rfl)))), (fun a s he hf hz => fb rfl rfl fa_72_6 ((hf 1 rfl).trans h1)), (fun a s he hf hz q1 => lo rfl rfl ty_32 q1 (B22.ext he) rfl (vm he c21)), (fun a s he hf hz q2 => le_ rfl rfl u_32 q2), (fun a s he hf hz q3 => cv rfl rfl u_3 u_89 q3), (fun a s he hf hz q0 q4 => opw rfl (op_call_f rfl rfl (f := Fact.own (kSl kY) 5 1 (fun g => s48.w.heap.size ≤ g) (number (number (number (text (text ((layV (dotL ([] : (List UInt8)) x0.dot) x0.deps).1) x0.cart) x0.item) (IntKind.wrap .u64 x0.kind)) (IntKind.wrap .u64 x0.qty)) (IntKind.wrap .u64 (x0.seen.length : Int)))) (Cl.mono (ref02_Number.ct q0.1 q4 D49) (own_w he)))), trivial⟩ ?_
  intro a50 s51 he hf hz hd1 k42; have hd := hd1.trans hd; have f42' : ∀ g, sb (a50.get 42) = some g → s0.w.heap.size ≤ g ∧ g ≠ b22 := fun g hg => by have h1 := k42.2.2 g hg; have h2 := E.size; have l22 := B22.lt; exact ⟨(by omega), (by omega)⟩
  have h1 := (hf 1 rfl).trans h1; have B22 := B22.ext he; obtain ⟨c14, c15, c16, c17, c18, c19, c20, c21⟩ := vm8 he c14 c15 c16 c17 c18 c19 c20 c21; have E := E.trans he; have h42 := k42.1; have p42 := k42.2.1; have f42 := f42'; refine sq_blk [⟨5, _, []⟩] [0] hz rfl ⟨(fun a s he hf hz => opw rfl (op_assign rfl (f := Fact.own _ _ _ _ _) (own_at h42 p42 f42 he (hf 42 rfl)))), trivial⟩ ?_; intro a53 s54 he hf hz hd1 k5; have ⟨hd, E⟩ := hdE hd1 hd E he; have h1 := (hf 1 rfl).trans h1; have B22 := B22.ext he; obtain ⟨c14, c15, c16, c17, c18, c19, c20, c21⟩ := vm8 he c14 c15 c16 c17 c18 c19 c20 c21; have h5 := k5.1; refine wp_seq ?_; refine wp_sr ?_; refine sq_blk [⟨7, _, []⟩] [0] hz rfl ⟨(fun a s he hf hz => av rfl rfl i0), trivial⟩ ?_; intro a55 s56 he hf hz hd1 h7; have ⟨hd, E⟩ := hdE hd1 hd E he; have h5 := V_at h5 he (hf 5 rfl); have h1 := (hf 1 rfl).trans h1; have B22 := B22.ext he; obtain ⟨c14, c15, c16, c17, c18, c19, c20, c21⟩ := vm8 he c14 c15 c16 c17 c18 c19 c20 c21; refine wp_block ?_
  refine wp_loop (k := k) (fun m61 a s => ∃ (y59 : (List UInt8)) (y60 : Int), ref08_Lay.l0 m61 x0 y59 y60 = some r ∧ m61 ≤ k ∧ Ext s0 s ∧ a.tmps.size = 59 ∧ a.defers = [] ∧ a.get 1 = .pointer (some ⟨b22, 0, none⟩) ∧ (kSl kY).V s (a.get 5) y59 ∧ (kI .i64).V s (a.get 7) y60 ∧ Bx s b22 72 [u6, u7, u8, u9, u10, u11, u12, u13] ∧ kS.V s u6 x0.dot.who ∧ (kI .i64).V s u7 x0.dot.n ∧ (kSl kDot).V s u8 x0.deps ∧ kS.V s u9 x0.cart ∧ (kI .i64).V s u10 x0.kind ∧ kS.V s u11 x0.item ∧ (kI .i64).V s u12 x0.qty ∧ (kSl kDot).V s u13 x0.seen) ⟨_, _, h, Nat.le_refl _, E, hz, hd, h1, h5, h7, B22, c14, c15, c16, c17, c18, c19, c20, c21⟩ ?_; rintro m61 a58 s57 ⟨y59, y60, h, hkm61, E, hz, hd, h1, h5, h7, B22, c14, c15, c16, c17, c18, c19, c20, c21⟩; obtain _ | m61 := m61
  ·cases h
  refine wp_seq ?_; refine wp_sr ?_; refine sq_blk [⟨43, _, []⟩, ⟨44, _, []⟩, ⟨45, _, [1]⟩, ⟨46, _, [2]⟩, ⟨47, _, [0, 3]⟩] [4] hz rfl ⟨mvs rfl rfl h7 rfl, (fun a s he hf hz => fb rfl rfl fa_72_6 ((hf 1 rfl).trans h1)), (fun a s he hf hz q1 => lo rfl rfl ty_32 q1 (B22.ext he) rfl (vm he c21)), (fun a s he hf hz q2 => le_ rfl rfl u_32 q2), (fun a s he hf hz q0 q3 => ls rfl rfl q0 q3), trivial⟩ ?_; intro a62 s63 he hf hz hd1 h47; have ⟨hd, E⟩ := hdE hd1 hd E he; obtain ⟨h5, h7⟩ := va2 he hf h5 h7 rfl; have h1 := (hf 1 rfl).trans h1; have B22 := B22.ext he; obtain ⟨c14, c15, c16, c17, c18, c19, c20, c21⟩ := vm8 he c14 c15 c16 c17 c18 c19 c20 c21; refine wp_condV h47 (fun hb => ?_) (fun hb => ?_)
  ·have h := ite_t hb h; refine wp_skip ?_; refine wp_seq ?_; refine wp_block ?_; refine wp_region ?_; obtain ⟨D64, h⟩ := need h; obtain ⟨D65, h⟩ := need h; refine sq_blk [⟨50, _, []⟩, ⟨51, _, []⟩, ⟨52, _, [1]⟩, ⟨53, _, []⟩, ⟨54, _, [2, 3]⟩, ⟨55, _, [4]⟩, ⟨56, _, [0, 5]⟩] [6] hz rfl ⟨mvs rfl rfl h5 rfl, (fun a s he hf hz => fb rfl rfl fa_72_6 ((hf 1 rfl).trans h1)), (fun a s he hf hz q1 => lo rfl rfl ty_32 q1 (B22.ext he) rfl (vm he c21)), mvs rfl rfl h7 rfl, (fun a s he hf hz q2 q3 => ia rfl rfl sl_32 q2 q3 D64.1 D64.2), (fun a s he hf hz q4 => lp rfl rfl ty_70 (by decide) q4), (fun a s he hf hz q0 q5 => opw rfl (op_call rfl rfl (ref08_dot.ct q0 q5 D65))), trivial⟩ ?_; intro a66 s67 he hf hz hd1 h56; have ⟨hd, E⟩ := hdE hd1 hd E he; have h7 := V_at h7 he (hf 7 rfl); have h1 := (hf 1 rfl).trans h1; have B22 := B22.ext he; obtain ⟨c14, c15, c16, c17, c18, c19, c20, c21⟩ := vm8 he c14 c15 c16 c17 c18 c19 c20 c21; refine sq_blk [⟨5, _, []⟩] [0] hz rfl ⟨avs rfl rfl h56 rfl, trivial⟩ ?_; intro a68 s69 he hf hz hd1 h5; have hd := hd1.trans hd; have h7 := V_at h7 he (hf 7 rfl); have h1 := (hf 1 rfl).trans h1; have B22 := B22.ext he
   obtain ⟨c14, c15, c16, c17, c18, c19, c20, c21⟩ := vm8 he c14 c15 c16 c17 c18 c19 c20 c21; have E := E.trans he; refine wp_region ?_; refine sq_blk [⟨48, _, []⟩, ⟨49, _, [0]⟩] [1] hz rfl ⟨mvs rfl rfl h7 rfl, (fun a s he hf hz q0 => ad rfl rfl q0 i1), trivial⟩ ?_; intro a70 s71 he hf hz hd1 h49; have ⟨hd, E⟩ := hdE hd1 hd E he; have h5 := V_at h5 he (hf 5 rfl); have h1 := (hf 1 rfl).trans h1; have B22 := B22.ext he; obtain ⟨c14, c15, c16, c17, c18, c19, c20, c21⟩ := vm8 he c14 c15 c16 c17 c18 c19 c20 c21; refine sq_blk [⟨7, _, []⟩] [0] hz rfl ⟨avs rfl rfl h49 rfl, trivial⟩ ?_; intro a72 s73 he hf hz hd1 h7; have ⟨hd, E⟩ := hdE hd1 hd E he; have h5 := V_at h5 he (hf 5 rfl); have h1 := (hf 1 rfl).trans h1; have B22 := B22.ext he; obtain ⟨c14, c15, c16, c17, c18, c19, c20, c21⟩ := vm8 he c14 c15 c16 c17 c18 c19 c20 c21; exact ⟨_, (by omega : m61 < m61 + 1), _, _, h, by omega, E, hz, hd, h1, h5, h7, B22, c14, c15, c16, c17, c18, c19, c20, c21⟩
  ·have h := ite_f hb h; refine wp_exit ?_; refine then_exit ?_; refine then_exit ?_; refine inBlock_hit ?_; refine wp_sr ?_; refine sq_blk [⟨57, _, []⟩, ⟨58, _, [0]⟩, ⟨2, _, [1]⟩, ⟨3, _, []⟩] [2, 3] hz rfl ⟨mvs rfl rfl h5 rfl, (fun a s he hf hz q0 => opw rfl (op_tostr rfl u_53 u_5 u_9 q0)), avq rfl rfl, (fun a s he hf hz => av rfl rfl i0), trivial⟩ ?_; intro a74 s75 he hf hz hd1 h2 h3; have ⟨hd, E⟩ := hdE hd1 hd E he; refine wp_ret ?_; cases h
   exact ⟨hd, _, results_tmp2 rfl _ _ _, E, tup2 h2 h3⟩
theorem ref08_Lay.nice (x0 : Op) (b0 : kOp.bd x0) : ∃ k, ref08_Lay.f k x0 = some (layO x0) := by
 have hm := maxLen_lt
 have hb : x0.seen.length ≤ maxLen := b0.2.2.2.2.2.2.1
 unfold ref08_Lay.f layO
 cases hr : rightO x0
 ·exact ⟨0, rfl⟩
 ·obtain ⟨h1, h2, h3, h4, h5, h6, h7, h8⟩ := rightO_parts hr
  have hw := isName_len (isDot_parts h1).1
  have hH := opH_len hr
  have a1 := dotB_len h1
  have a2 := vecB_len h2
  have c1 : (dotL ([] : Str) x0.dot).length ≤ 42 := by rw [dotL_eq _ h1]; simpa using a1
  have c2 : ((layV (dotL ([] : Str) x0.dot) x0.deps).1).length ≤ 2739 := by
   unfold layV; rw [if_pos h2]; rw [List.length_append]; omega
  have c3 : (text ((layV (dotL ([] : Str) x0.dot) x0.deps).1) x0.cart).length ≤ 2780 := by
   rw [text_eq, List.length_append]; have := textB_len x0.cart; omega
  have seen : ∀ y, y ≤ x0.seen.length → ∀ acc : Str, acc.length + 42 * (x0.seen.length - y) + 60 ≤ 140737488355328 → ∃ k, ref08_Lay.l0 k x0 acc (y : Int) = some (acc ++ ((x0.seen.drop y).map dotB).flatten, 0) := by
   refine rounds x0.seen.length (fun acc _ => ⟨1, ?_⟩) fun y hy ih acc ha => ?_
   ·simp only [ref08_Lay.l0, List.drop_length]; simp
   ·have hdy : vector_isDot (x0.seen.getD y default) = true := h6 _ (by rw [getD_at hy]; exact List.getElem_mem hy)
    have hwy := isName_len (isDot_parts hdy).1
    have hlen := dotB_len hdy
    obtain ⟨k, hk⟩ := ih (acc ++ dotB (x0.seen.getD y default)) (by rw [List.length_append]; omega)
    push_cast at hk
    have hr' : (0 : Int) ≤ y ∧ (y : Int) < x0.seen.length := ⟨by omega, by omega⟩
    refine ⟨k + 1, ?_⟩
    simp only [ref08_Lay.l0, Int.toNat_natCast, hr', and_self, decide_true, if_true]
    rw [if_pos (by omega), dotL_eq _ hdy, w64s (by omega), hk, drop_at default hy]
    simp
  have e1 : IntKind.wrap .u64 x0.kind = x0.kind := wrap_u64i (by omega) (by omega)
  have e2 : IntKind.wrap .u64 x0.qty = x0.qty := wrap_u64i (by omega) (by omega)
  have e3 : IntKind.wrap .u64 (x0.seen.length : Int) = (x0.seen.length : Int) := wrap_u64i (by omega) (by omega)
  have n1 := numB_le x0.kind.toNat
  have n2 := numB_le x0.qty.toNat
  have n3 := numB_le x0.seen.length
  obtain ⟨k, hk⟩ := seen 0 (Nat.zero_le _) (opH x0 ++ opN x0) (by have := opN_len x0; rw [List.length_append]; omega)
  rw [List.drop_zero] at hk
  refine ⟨k, ?_⟩
  rw [if_neg (by simp), if_pos (by simp; omega), if_pos (by omega), if_pos (by omega), if_pos (by omega), if_pos rfl, head_eq hr, e1, e2, e3]
  rw [if_pos (by omega), if_pos (by simp only [number, List.length_append]; omega), if_pos (by simp only [number, List.length_append]; omega)]
  have : number (number (number (opH x0) x0.kind) x0.qty) (x0.seen.length : Int) = opH x0 ++ opN x0 := by simp [number, opN]
  rw [this]
  exact hk
theorem ref08_Lay.ct {s0 : St} {v0 : Value} {x0 : Op} (k0 : kOp.V s0 v0 x0) : Cl Try.prog 77 #[v0] s0 (Okf s0 (Fact.tup [Fact.v kS ((layO x0).1), Fact.v (kI .i64) ((layO x0).2)])) := by
 obtain ⟨k, h⟩ := ref08_Lay.nice x0 (Kn.V_bd k0)
 exact ref08_Lay.ok k0 h
end
section
def LeF (f : Fact) : Prop := ∀ (s t : St) (v : Value), Le s t → f.φ s v → f.φ t v
theorem leF_v {α : Type} {d : Kn α} {x : α} : LeF (Fact.v d x) := fun _ _ _ h hv => Kn.V_mono h hv
theorem leF_eq {v : Value} : LeF (Fact.eq v) := fun _ _ _ _ h => h
def AllLe (j0 : Nat) : List It → Nat → Prop
  | [], _ => True
  | it :: l, i => (i = j0 ∨ LeF it.f) ∧ AllLe j0 l (i + 1)
theorem allLe_at {j0 : Nat} : ∀ {l : List It} {i j : Nat} {it : It}, AllLe j0 l i → l[j]? = some it → i + j ≠ j0 → LeF it.f
  | [], _, _, _, _, h, _ => by simp at h
  | x :: l, i, 0, it, h, hk, hne => by
    simp at hk; subst hk
    rcases h.1 with h' | h'
    · exact absurd h' hne
    · exact h'
  | x :: l, i, j + 1, it, h, hk, hne => allLe_at (i := i + 1) h.2 (by simpa using hk) (by omega)
section
variable {P : Program} {ro : Option Nat}
/-- What is to be shown of an operation: of the one that turns M, and of the others. -/
def ObM (P : Program) (ro : Option Nat) (ops : Array Oper) (its : List It) (a0 : Act) (s0 : St) (M : Nat → Prop) (J : St → Prop) (turns : Bool) (o : Oper) (it : It) : Prop :=
  match turns with
  | false => ∀ (a : Act) (s : St), Chg M s0 s → (∀ x, isIn x (dsts its) = false → a.get x = a0.get x) → a.tmps.size = a0.tmps.size → Nd its a s (OpW P ro ops o a s it.f) it.need
  | true => o.guard = none ∧ ∀ (a : Act) (s : St), Ext s0 s → (∀ x, isIn x (dsts its) = false → a.get x = a0.get x) → a.tmps.size = a0.tmps.size → Nd its a s (OpR P ro o a s (fun v t => Chg M s t ∧ J t ∧ it.f.φ t (match o.dst with | none => undef | some _ => v))) it.need
def AllObM (P : Program) (ro : Option Nat) (ops : Array Oper) (its : List It) (a0 : Act) (s0 : St) (M : Nat → Prop) (J : St → Prop) (j0 : Nat) : List Oper → List It → Nat → Prop
  | _, [], _ => True
  | [], _ :: _, _ => False
  | o :: l, it :: k, i => ObM P ro ops its a0 s0 M J (Nat.beq i j0) o it ∧ AllObM P ro ops its a0 s0 M J j0 l k (i + 1)
theorem allObM_at {ops : Array Oper} {its : List It} {a0 : Act} {s0 : St} {M : Nat → Prop} {J : St → Prop} {j0 : Nat} {l : List Oper} : ∀ {k : List It} {i j : Nat} {o : Oper} {it : It}, AllObM P ro ops its a0 s0 M J j0 l k i → l[j]? = some o → k[j]? = some it → ObM P ro ops its a0 s0 M J (Nat.beq (i + j) j0) o it := by
  induction l with
  | nil => intro k i j o it _ h; cases h
  | cons x l ih =>
    intro k i j o it h ho hk
    cases k with
    | nil => cases hk
    | cons y k =>
      cases j with
      | zero => simp at ho hk; subst ho hk; exact h.1
      | succ j => have := ih h.2 (by simpa using ho) (by simpa using hk); rwa [show i + 1 + j = i + (j + 1) from by omega] at this
def needOkM (N j0 : Nat) (ds : List Nat) : List Oper → List It → List Nat → Nat → Bool
  | _, [], _, _ => true
  | [], _ :: _, _, _ => false
  | o :: l, it :: k, seen, i => (match o.dst with | some d => Nat.beq d it.d && Nat.ble (it.d + 1) N | none => Nat.ble N it.d && Nat.beq i j0) && !isIn it.d seen && it.need.all (fun j => Nat.ble (j + 1) i && (ds.getD i 0).testBit j) && needOkM N j0 ds l k (it.d :: seen) (i + 1)
def chkDrawM (N j0 : Nat) (ops : List Oper) (its : List It) : Bool :=
  let ds := deps ops [] ops
  onBelow 0 ops && depOk ds 0 ops && needOkM N j0 ds ops its [] 0 && restOk ds its.length ops.length && Nat.ble its.length ops.length && Nat.ble (j0 + 1) its.length
theorem needOkM_at {N j0 : Nat} {ds : List Nat} {l : List Oper} : ∀ {k : List It} {seen : List Nat} {i j : Nat} {o : Oper} {it : It}, needOkM N j0 ds l k seen i = true → l[j]? = some o → k[j]? = some it →
    ((o.dst = some it.d ∧ it.d < N) ∨ (o.dst = none ∧ N ≤ it.d)) ∧ isIn it.d seen = false ∧ ∀ x ∈ it.need, x < i + j ∧ (ds.getD (i + j) 0).testBit x = true := by
  induction l with
  | nil => intro k seen i j o it _ h; cases h
  | cons x l ih =>
    intro k seen i j o it hc ho hk
    cases k with
    | nil => cases hk
    | cons y k =>
      simp only [needOkM, Bool.and_eq_true, Bool.not_eq_true', List.all_eq_true] at hc
      obtain ⟨⟨⟨hdst, hns⟩, hnd⟩, hc⟩ := hc
      cases j with
      | zero =>
        simp at ho hk; subst ho hk
        refine ⟨?_, hns, fun z hz => ⟨by have := Nat.le_of_ble_eq_true (hnd z hz).1; omega, (hnd z hz).2⟩⟩
        cases e : x.dst with
        | none => simp only [e, Bool.and_eq_true] at hdst; exact .inr ⟨rfl, Nat.le_of_ble_eq_true hdst.1⟩
        | some d => simp only [e, Bool.and_eq_true] at hdst; rw [Nat.eq_of_beq_eq_true hdst.1]; exact .inl ⟨rfl, by have := Nat.le_of_ble_eq_true hdst.2; omega⟩
      | succ j =>
        obtain ⟨h1, h3, h4⟩ := ih hc (by simpa using ho) (by simpa using hk)
        refine ⟨h1, ?_, fun z hz => by have := h4 z hz; rw [show i + (j + 1) = i + 1 + j from by omega]; exact this⟩
        simp only [isIn, Bool.or_eq_false_iff] at h3
        exact h3.2
theorem needOkM_none {N j0 : Nat} {ds : List Nat} {l : List Oper} : ∀ {k : List It} {seen : List Nat} {i j : Nat} {o : Oper} {it : It}, needOkM N j0 ds l k seen i = true → l[j]? = some o → k[j]? = some it → o.dst = none → i + j = j0 := by
  induction l with
  | nil => intro k seen i j o it _ h; cases h
  | cons x l ih =>
    intro k seen i j o it hc ho hk he
    cases k with
    | nil => cases hk
    | cons y k =>
      simp only [needOkM, Bool.and_eq_true, Bool.not_eq_true', List.all_eq_true] at hc
      obtain ⟨⟨⟨hdst, hns⟩, hnd⟩, hc⟩ := hc
      cases j with
      | zero =>
        simp at ho; subst ho
        simp only [he, Bool.and_eq_true] at hdst
        exact Nat.eq_of_beq_eq_true hdst.2
      | succ j =>
        have := ih hc (by simpa using ho) (by simpa using hk) he
        omega
theorem needOkM_ne {N j0 : Nat} {ds : List Nat} {l : List Oper} : ∀ {k : List It} {seen : List Nat} {i j j' : Nat} {it it' : It}, needOkM N j0 ds l k seen i = true → k[j]? = some it → k[j']? = some it' → j < j' → it.d ≠ it'.d := by
  have len : ∀ (l : List Oper) (k : List It) (seen : List Nat) (i : Nat), needOkM N j0 ds l k seen i = true → k.length ≤ l.length := by
    intro l
    induction l with
    | nil => intro k _ _ h; cases k with
      | nil => simp
      | cons _ _ => simp [needOkM] at h
    | cons _ l ih => intro k _ _ h; cases k with
      | nil => simp
      | cons _ k => simp only [needOkM, Bool.and_eq_true] at h; have := ih _ _ _ h.2; simp; omega
  induction l with
  | nil => intro k seen i j j' it it' hc hk; cases k with
    | nil => cases hk
    | cons y k => simp [needOkM] at hc
  | cons x l ih =>
    intro k seen i j j' it it' hc hk hk' hjj
    cases k with
    | nil => cases hk
    | cons y k =>
      have hc' := hc
      simp only [needOkM, Bool.and_eq_true, Bool.not_eq_true', List.all_eq_true] at hc
      obtain ⟨⟨⟨hdst, hns⟩, hnd⟩, hc⟩ := hc
      cases j' with
      | zero => omega
      | succ j' =>
        cases j with
        | zero =>
          simp at hk; subst hk
          intro e
          have hj : j' < l.length := by
            have h1 := len _ _ _ _ hc
            have h2 := (List.getElem?_eq_some_iff.1 (show k[j']? = some it' by simpa using hk')).1
            omega
          have := (needOkM_at hc (List.getElem?_eq_getElem hj) (show k[j']? = some it' by simpa using hk')).2.1
          rw [← e] at this
          simp [isIn] at this
        | succ j => exact ih hc (by simpa using hk) (by simpa using hk') (by omega)
theorem put_none (a : Act) (v : Value) : a.put none v = a := rfl
/-- The operations that may come in one order or another. -/
theorem any_preM {ops : List Oper} {its : List It} {a0 : Act} {s0 : St} {M : Nat → Prop} {J : St → Prop} {j0 : Nat} {Q : Exit → Act → World → Prop} {K : Act → St → Prop} (hc : chkDrawM a0.tmps.size j0 ops its = true) (hJ : ∀ s t, J s → Ext s t → J t) (hle0 : AllLe j0 its 0) (hQ : ∀ a t, K a t → Q .normal a t.w)
    (ho : AllObM P ro ops.toArray its a0 s0 M J j0 ops its 0)
    (hK : ∀ a s, Chg M s0 s → J s → (∀ x, isIn x (dsts its) = false → a.get x = a0.get x) → a.tmps.size = a0.tmps.size → a.defers = a0.defers → (∀ (j : Nat) (it : It), its[j]? = some it → it.f.φ s (a.get it.d)) → Sq P ro ops.toArray (ops.drop its.length) a s K) :
    ∀ (fuel : Nat) (l : Array Bool) (a : Act) (s : St), l.size = ops.length → unl l ops.length ≤ fuel → (∀ j, Lst l j → j < its.length) →
      (∀ i o, Lst l i → ops[i]? = some o → ∀ e ∈ o.after.toList, Region.binds .any e = true → Lst l e.on) → ((¬ Lst l j0 → Ext s0 s) ∧ (Lst l j0 → Chg M s0 s ∧ J s)) → (∀ x, isIn x (dsts its) = false → a.get x = a0.get x) → a.tmps.size = a0.tmps.size → a.defers = a0.defers →
      (∀ (j : Nat) (it : It), Lst l j → its[j]? = some it → it.f.φ s (a.get it.d)) → wpAnyIn (FN ro) 0 P .any ops.toArray Q fuel l a s.w := by
  simp only [chkDrawM, Bool.and_eq_true] at hc
  obtain ⟨⟨⟨⟨⟨hb, hd⟩, hn⟩, hr⟩, hle⟩, hj0⟩ := hc
  have hj0 := Nat.le_of_ble_eq_true hj0
  have hle := Nat.le_of_ble_eq_true hle
  intro fuel
  induction fuel with
  | zero =>
    intro l a s hz hu hp hcl he hf hsz hdf hfs
    have hall := unl_zero (Nat.le_zero.1 hu)
    refine any_rest hb hd hr hQ 0 its.length l a s hz (Nat.le_refl _) hle ?_ (fun j hj => ⟨hp j, fun _ => hall j hj⟩) (hK a s (he.2 (hall j0 (by omega))).1 (he.2 (hall j0 (by omega))).2 hf hsz hdf fun j it hit => hfs j it (hall j (by have := (List.getElem?_eq_some_iff.1 hit).1; omega)) hit)
    rcases Nat.lt_or_ge its.length ops.length with h | h
    · have := hp _ (hall its.length h); omega
    · omega
  | succ fuel ih =>
    intro l a s hz hu hp hcl he hf hsz hdf hfs
    by_cases hall : ∀ j, j < its.length → Lst l j
    · refine any_rest hb hd hr hQ (fuel + 1) its.length l a s hz (Nat.le_refl _) hle ?_ (fun j hj => ⟨hp j, fun h => hall j h⟩) (hK a s (he.2 (hall j0 (by omega))).1 (he.2 (hall j0 (by omega))).2 hf hsz hdf fun j it hit => hfs j it (hall j (List.getElem?_eq_some_iff.1 hit).1) hit)
      have : ∀ k, k ≤ ops.length → k - its.length ≤ unl l k := by
        intro k
        induction k with
        | zero => intro _; simp
        | succ k ihk =>
          intro hk
          have := ihk (by omega)
          simp only [unl]
          rcases Nat.lt_or_ge k its.length with h | h
          · omega
          · rw [if_neg (fun hx => by have := hp k hx; omega)]; omega
      have := this ops.length (Nat.le_refl _)
      omega
    · have hex : ∃ j, j < its.length ∧ ¬ Lst l j := by
        refine Classical.byContradiction fun hn => hall fun j hj => Classical.byContradiction fun hx => hn ⟨j, hj, hx⟩
      refine ⟨fun hnil => ?_, fun j hj => ?_⟩
      · exfalso
        obtain ⟨k, ⟨hk, hkl⟩, hmin⟩ := least hex
        have hk' : k < ops.length := by omega
        have : k ∈ Region.ready .any ops.toArray l := by
          refine mem_ready.2 ⟨by simpa using hk', ?_, ops[k], by simp [hk'], ?_⟩
          · unfold Lst at hkl
            rw [Array.getD_eq_getD_getElem?, Array.getElem?_eq_getElem (by omega)]
            rw [Array.getElem?_eq_getElem (by omega)] at hkl
            simpa using hkl
          · intro e hee hbd
            have hon := onBelow_at (i := 0) hb (List.getElem?_eq_getElem hk') e hee hbd
            have : Lst l e.on := Classical.byContradiction fun hx => by have := hmin e.on ⟨by omega, hx⟩; omega
            unfold Lst at this
            simp [Array.getD_eq_getD_getElem?, this]
        rw [hnil] at this; cases this
      · obtain ⟨h1, h2, o, hoo, h3⟩ := mem_ready.1 hj
        have h1 : j < ops.length := by simpa using h1
        have ho' : ops[j]? = some o := by simpa using hoo
        have hnl : ¬ Lst l j := fun h => by unfold Lst at h; simp [Array.getD_eq_getD_getElem?, h] at h2
        have hL3 : ∀ e ∈ o.after.toList, Region.binds .any e = true → Lst l e.on := fun e hee hbd => by
          have := h3 e hee hbd
          have hon := onBelow_at (i := 0) hb ho' e hee hbd
          unfold Lst
          rw [Array.getD_eq_getD_getElem?, Array.getElem?_eq_getElem (by omega)] at this
          rw [Array.getElem?_eq_getElem (by omega)]
          simpa using this
        have hin := dep_in hb hd hcl j o ho' hL3
        have hjm : j < its.length := by
          rcases Nat.lt_or_ge j its.length with h | h
          · exact h
          · exfalso
            obtain ⟨k, hk, hkl⟩ := hex
            refine hkl (hin k (by omega) ?_)
            simp only [restOk, List.all_eq_true, List.mem_range] at hr
            have := hr (j - its.length) (by omega) k (by omega)
            rwa [show its.length + (j - its.length) = j from by omega] at this
        have hit : its[j]? = some its[j] := List.getElem?_eq_getElem hjm
        obtain ⟨hdst, _, hneed⟩ := needOkM_at (i := 0) hn ho' hit
        rw [Nat.zero_add] at hneed
        have hm : Chg M s0 s := by
          by_cases h : Lst l j0
          · exact (he.2 h).1
          · exact Chg.of_ext (he.1 h)
        have hobs := allObM_at ho ho' hit
        rw [Nat.zero_add] at hobs
        have hmem : isIn its[j].d (dsts its) = true := isIn_iff.2 (List.mem_map.2 ⟨_, List.mem_of_getElem? hit, rfl⟩)
        have next : ∀ v t, (∀ (x : Nat) (it : It), Lst l x → x ≠ j → its[x]? = some it → it.f.φ t (a.get it.d)) → its[j].f.φ t (if o.dst = none then a.get its[j].d else v) → ((¬ Lst (l.setIfInBounds j true) j0 → Ext s0 t) ∧ (Lst (l.setIfInBounds j true) j0 → Chg M s0 t ∧ J t)) → wpAnyIn (FN ro) 0 P .any ops.toArray Q fuel (l.setIfInBounds j true) (a.put o.dst v) t.w := by
          intro v t hold hv hrel
          refine ih _ _ t (by simpa using hz) (by have := unl_set_lt l j (by omega) hnl ops.length h1; omega) ?_ ?_ hrel ?_ (by rw [size_put]; exact hsz) (by rw [defers_put]; exact hdf) ?_
          · intro x hx
            rcases (lst_set (by omega) x).1 hx with h | h
            · omega
            · exact hp x h
          · intro x ox hx hox e hee hbd
            rw [lst_set (by omega)]
            rcases (lst_set (by omega) x).1 hx with h | h
            · subst h
              rw [ho'] at hox; cases hox
              exact .inr (hL3 e hee hbd)
            · exact .inr (hcl x ox h hox e hee hbd)
          · intro x hx
            have hne : x ≠ its[j].d := fun e => by rw [e, hmem] at hx; cases hx
            rcases hdst with ⟨e, _⟩ | ⟨e, _⟩
            · rw [e, get_put_ne _ _ _ _ hne]; exact hf x hx
            · rw [e, put_none]; exact hf x hx
          · intro x it' hx hxi
            by_cases hxj : x = j
            · subst hxj
              rw [hit] at hxi; cases hxi
              rcases hdst with ⟨e, hlt⟩ | ⟨e, _⟩
              · rw [e, get_put_eq _ _ _ (by rw [hsz]; exact hlt)]
                rw [if_neg (by rw [e]; simp)] at hv; exact hv
              · rw [e, put_none]; rw [if_pos e] at hv; exact hv
            · have hLx : Lst l x := by
                rcases (lst_set (by omega) x).1 hx with h | h
                · exact absurd h hxj
                · exact h
              have hne : it'.d ≠ its[j].d := by
                rcases Nat.lt_or_gt_of_ne hxj with h | h
                · exact needOkM_ne hn hxi hit h
                · exact (needOkM_ne hn hit hxi h).symm
              rcases hdst with ⟨e, _⟩ | ⟨e, _⟩
              · rw [e, get_put_ne _ _ _ _ hne]; exact hold x it' hLx hxj hxi
              · rw [e, put_none]; exact hold x it' hLx hxj hxi
        by_cases hjj : j = j0
        · subst hjj
          rw [Nat.beq_refl] at hobs
          have hext := he.1 hnl
          have hw := nd_intro (hobs.2 a s hext hf hsz) fun x hx it hxi => hfs x it (hin x (hneed x hx).1 (hneed x hx).2) hxi
          simp only [wpOpIn, hoo]
          rw [if_pos (by simp [Region.wanted, hobs.1])]
          refine hw _ _ fun v t ⟨c1, c2, c3⟩ => next v t (fun x it hx hxj hxi => allLe_at (i := 0) hle0 hxi (by omega) s t _ c1.le (hfs x it hx hxi)) ?_ ⟨fun hh => absurd ((lst_set (by omega) j).2 (.inl rfl)) hh, fun _ => ⟨(Chg.of_ext hext).trans c1, c2⟩⟩
          rcases hdst with ⟨e, _⟩ | ⟨e, hge⟩
          · rw [if_neg (by rw [e]; simp)]
            simp only [e] at c3; exact c3
          · rw [if_pos e]
            simp only [e] at c3
            have : a.get its[j].d = undef := by simp [Act.get, Array.getD_eq_getD_getElem?, Array.getElem?_eq_none (show a.tmps.size ≤ its[j].d by rw [hsz]; exact hge)]
            rw [this]; exact c3
        · have hbf : Nat.beq j j0 = false := by
            cases e : Nat.beq j j0
            · rfl
            · exact absurd (Nat.eq_of_beq_eq_true e) hjj
          rw [hbf] at hobs
          have hw := nd_intro (hobs a s hm hf hsz) fun x hx it hxi => hfs x it (hin x (hneed x hx).1 (hneed x hx).2) hxi
          have hsome : o.dst ≠ none := by
            intro e
            have := needOkM_none hn ho' hit e
            omega
          have rel : ∀ t, Ext s t → ((¬ Lst (l.setIfInBounds j true) j0 → Ext s0 t) ∧ (Lst (l.setIfInBounds j true) j0 → Chg M s0 t ∧ J t)) := fun t het => by
            have hiff : Lst (l.setIfInBounds j true) j0 ↔ Lst l j0 := by
              rw [lst_set (by omega)]
              exact ⟨fun h => h.resolve_left (fun e => hjj e.symm), .inr⟩
            rw [hiff]
            exact ⟨fun h => (he.1 h).trans het, fun h => ⟨(he.2 h).1.trans (Chg.of_ext het), hJ _ _ (he.2 h).2 het⟩⟩
          have go : ∀ v t, Ext s t → its[j].f.φ t v → wpAnyIn (FN ro) 0 P .any ops.toArray Q fuel (l.setIfInBounds j true) (a.put o.dst v) t.w := fun v t het hv =>
            next v t (fun x it hx hxj hxi => it.f.mono het (hfs x it hx hxi)) (by rw [if_neg hsome]; exact hv) (rel t het)
          simp only [wpOpIn, hoo]
          unfold OpW at hw
          split at hw
          · rename_i hww
            rw [if_pos hww]
            exact hw _ _ fun v t ⟨h1, h2⟩ => go v t h1 h2
          · rename_i hww
            rw [if_neg hww]
            exact ⟨fun _ _ => trivial, go _ s (Chg.refl _ _) hw⟩
/-- A region that draws its order, one operation of which turns M. -/
theorem wp_drawM {ops : List Oper} {id : Nat} {a0 : Act} {s0 : St} {M : Nat → Prop} (J : St → Prop) (j0 : Nat) {Q : Exit → Act → St → Prop} (its : List It) (outs : List Nat) {N : Nat} (hm : P.follows .mixedOrders = true) (hN : a0.tmps.size = N) (hc : chkDrawM N j0 ops its = true)
    (hJ : ∀ s t, J s → Ext s t → J t) (hle : AllLe j0 its 0)
    (ho : AllObM P ro ops.toArray its a0 s0 M J j0 ops its 0)
    (hK : ∀ a s, Chg M s0 s → J s → (∀ x, isIn x (dsts its) = false → a.get x = a0.get x) → a.tmps.size = N → a.defers = a0.defers → Nd its a s (Sq P ro ops.toArray (ops.drop its.length) a s (fun a t => Q .normal a t)) outs) : Wp P ro (.region id ops.toArray true) a0 s0 Q := by
  subst hN
  refine wpIn_region_draw fun t => ?_
  simp only [Region.schedule, hm, Bool.true_or, if_true]
  refine wpAnyIn_sound _ t _ _ _ ?_
  have hu : ∀ k, unl (Array.replicate ops.length false) k ≤ k := by
    intro k
    induction k with
    | zero => exact Nat.le_refl _
    | succ k ih => simp only [unl]; split <;> omega
  have hnone : ∀ j, ¬ Lst (Array.replicate ops.length false) j := fun j h => by
    unfold Lst at h
    rw [Array.getElem?_replicate] at h
    split at h <;> cases h
  have he : Ext s0 (s0.drew (s0.w.drawn + 1)) := s0.drew_ext _
  have := any_preM (P := P) (ro := ro) (its := its) (a0 := a0) (s0 := s0) (M := M) (J := J) (j0 := j0) (Q := fun e a w => ∃ t, t.w = w ∧ Q e a t) (K := fun a t => Q .normal a t) hc hJ hle (fun a t h => ⟨t, rfl, h⟩) ho
    (fun a s h1 h1' h2 h3 h4 h5 => nd_intro (hK a s h1 h1' h2 h3 h4) fun j _ it hit => h5 j it hit) ops.toArray.size (Array.replicate ops.toArray.size false) a0 (s0.drew (s0.w.drawn + 1)) (by simp) (by simpa using hu ops.length)
    (fun j h => absurd (by simpa using h) (hnone j)) (fun i o h => absurd (by simpa using h) (hnone i)) ⟨fun _ => he, fun h => absurd (by simpa using h) (hnone j0)⟩ (fun _ _ => rfl) rfl rfl (fun j it h => absurd (by simpa using h) (hnone j))
  exact this
end
end
section
section
variable {P : Program} {ro : Option Nat} {o : Oper} {a : Act} {s : St}
end
/-- A call of yield: a round goes through; then K of what it hands back. -/
def Yd (P : Program) (l : Nat) (args : Array Value) (s : St) (K : Value → St → Prop) : Prop :=
  YieldAt (FN none) 0 P l args s.w fun e w => ∃ v t, e = .returned v ∧ t.w = w ∧ K v t
section
variable {P : Program} {ro : Option Nat} {o : Oper} {a : Act} {s : St}
theorem op_yield {l : Nat} {x : Operand} {args : Array Operand} {ts : Array TypeId} {vs : List Value} {K : Value → St → Prop} (ho : o.op = .call { callee := .value x, args := args, argTypes := ts }) (hx : a.eval x = .func (.yield l) #[] #[]) (hv : args.toList.map a.eval = vs) (h : Yd P l vs.toArray s K) : OpR P ro o a s K := by
  intro next Q hn
  obtain ⟨fn, tmps, assign, body, hy, hr⟩ := h
  refine ⟨fun _ _ => trivial, ?_⟩
  have e : (execOp a.eval o).run P s.w = .ok (.round l fn tmps assign body) s.w := by
    simp only [execOp, ho, resolve, hx, Deferred.ofValue, map_eval, hv, Sem.run_bind, Sem.run_pure, Result.andThen_ok, invoke, Array.empty_append, Array.append_empty, hy]
  rw [Oper.semAt_eq _ _ _ (by simp [ho]), e]
  refine ⟨fun hx => by simp [Fence.wide] at hx, ?_⟩
  have h2 : RoundIn (FN ro) 0 P l fn tmps assign body s.w fun e w => ∃ v t, e = .returned v ∧ t.w = w ∧ K v t := hr
  refine h2.mono ?_
  rintro e w ⟨v, t, rfl, rfl, hK⟩
  exact hn v t hK
end
theorem Yd.mono {P : Program} {l : Nat} {args : Array Value} {s : St} {K K' : Value → St → Prop} (h : Yd P l args s K) (hk : ∀ v t, K v t → K' v t) : Yd P l args s K' := by
  obtain ⟨fn, tmps, assign, body, hy, hr⟩ := h
  exact ⟨fn, tmps, assign, body, hy, hr.mono fun e w ⟨v, t, h1, h2, h3⟩ => ⟨v, t, h1, h2, hk v t h3⟩⟩
abbrev mark (D : Nat) : Deferred := { target := .collected D, args := #[] }
def LeftM (P : Program) (fn : Func) (R : Value → St → Prop) (a : Act) (t : St) : Prop :=
  (a.defers = [] ∧ ∃ v, (results fn a.tmps).run P t.w = .ok v t.w ∧ R v t) ∨
  (∃ D, a.defers = [mark D] ∧ Ob t D (.deferred (some [])) ∧ ∀ t', Chg (· = D) t t' → ∃ v, (results fn a.tmps).run P t'.w = .ok v t'.w ∧ R v t')
def RetM (P : Program) (fn : Func) (R : Value → St → Prop) : Exit → Act → St → Prop
  | .normal, a, t => LeftM P fn R a t
  | .ret, a, t => LeftM P fn R a t
  | _, _, _ => False
theorem leaves_of_left {P : Program} {fn : Func} {R : Value → St → Prop} {a : Act} {t : St} (h : LeftM P fn R a t) : LeavesInM (FN none) 0 P fn a.tmps (fun e w => ∃ v t, e = .returned v ∧ t.w = w ∧ R v t) a.defers .returning t.w := by
  rcases h with ⟨hd, v, hr, hv⟩ | ⟨D, hd, hO, hK⟩
  · rw [hd]; exact ⟨v, hr, v, t, rfl, rfl, hv⟩
  · rw [hd]
    obtain ⟨v, hr, hv⟩ := hK (t.put D (.deferred none) hO.free) (t.put_chg D _ hO.free)
    refine ⟨by simp, .inl ⟨D, _, rfl, run_takeDeferred hO.heap, ?_⟩⟩
    exact ⟨v, hr, v, _, rfl, rfl, hv⟩
theorem cl_of_wpM {P : Program} {f : FuncId} {fn : Func} {c : Code} {args : Array Value} {s : St} {R : Value → St → Prop} (hf : P.funcs[f]? = some fn) (hb : fn.body = some c) (he : Enters P f)
    (h : ∀ a : Act, a.tmps.size = max args.size fn.ntmps → a.defers = [] → (∀ i v, args[i]? = some v → a.get i = v) → Wp P none c a s (RetM P fn R)) : Cl P f args s R := by
  refine ⟨he, callsIn_of_wp_marks hf hb trivial ?_⟩
  refine wpIn_mono (h { tmps := args ++ Array.replicate (fn.ntmps - args.size) undef, defers := [] } (by simp; omega) rfl ?_) ?_
  · intro i v hv
    have hi := (Array.getElem?_eq_some_iff.1 hv).1
    simp [Act.get, Array.getD_eq_getD_getElem?, Array.getElem?_append_left hi, hv]
  · rintro e a w ⟨t, rfl, hR⟩
    cases e with
    | normal => exact leaves_of_left hR
    | ret => exact leaves_of_left hR
    | _ => exact hR.elim
/-- for .. := range g { .. }, each round of which goes on. -/
theorem wp_rangeF {P : Program} {g : Operand} {ps : Array Tmp} {assign body : Code} {a : Act} {s : St} {Q : Exit → Act → St → Prop} {gf : FuncId} {lb : List Value} (hg : a.eval g = .func (.func gf) #[] lb.toArray) {τ : Type} (B M : Nat → Prop) (hB : ∀ k, B k → k < s.w.heap.size) (hM : ∀ k, M k → k < s.w.heap.size)
    (J : List τ → St → Prop) (V : St → τ → List Value → Prop) (r0 : List τ)
    (hJ : ∀ q t t', J q t → Chg B t t' → J q t')
    (hL : ∀ l q t t', s.w.heap.size ≤ l → J q t → Chg (· = l) t t' → J q t')
    (h0 : J r0 s)
    (hen : Enters P gf)
    (hseq : ∀ (l : Nat) (t : St), s.w.heap.size ≤ l → l < t.w.heap.size → Ext s t → ∀ (J' : List τ → St → Prop), (∀ q t t', J' q t → Chg B t t' → J' q t') → J' r0 t →
      (∀ x q t us, J' (x :: q) t → V t x us → Yd P l us.toArray t (fun v t' => v = .bool true ∧ Chg (fun k => M k ∨ k = l) t t' ∧ J' q t')) →
      Cl P gf (.func (.yield l) #[] #[] :: lb).toArray t (fun _ t' => Chg (fun k => (M k ∨ k = l) ∨ B k) t t' ∧ J' [] t'))
    (hlen : ∀ t x us, V t x us → us.length = ps.size)
    (hround : ∀ (l : Nat) (x : τ) (q : List τ) (t : St) (us : List Value), s.w.heap.size ≤ l → J (x :: q) t → V t x us →
      Wp P (some l) assign { tmps := (ps.zip us.toArray).foldl (fun tmps (t, a) => tmps.setIfInBounds t a) a.tmps, defers := [] } t
        (Then (fun a1 t1 => Chg M t t1 ∧ ∀ t2, Chg (· = l) t1 t2 → Wp P (some l) body a1 t2 (Then (fun _ t3 => Chg M t2 t3 ∧ J q t3) (fun _ _ _ => False))) (fun _ _ _ => False)))
    (hdone : ∀ (D : Nat) (t : St), s.w.heap.size ≤ D → Chg (fun k => M k ∨ B k) s t → J [] t → Ob t D (.deferred (some [])) → Q .normal { a with defers := mark D :: a.defers } t) :
    Wp P none (.rangeFunc g ps assign body) a s Q := by
  refine wpIn_rangeFunc (F := FN none) ?_
  intro fn hfn
  obtain ⟨rec, hrec⟩ : ∃ rec : LoopState → Option Code → Loop, rec = fun st pe => { state := st, pending := pe, fn, tmps := a.tmps, params := ps, assign, body, defers := s.w.heap.size } := ⟨_, rfl⟩
  obtain ⟨t0, ht0⟩ : ∃ t0, t0 = (s.alloc (.deferred (some []))).alloc (.loop (rec .ready none)) := ⟨_, rfl⟩
  have hext : Ext s t0 := by rw [ht0]; exact (s.alloc_ext _).trans (St.alloc_ext _ _)
  have hsz : (s.alloc (.deferred (some []))).w.heap.size = s.w.heap.size + 1 := by simp [St.alloc]
  have hOl : Ob t0 (s.w.heap.size + 1) (.loop (rec .ready none)) := by
    have := Ob.new (s.alloc (.deferred (some []))) (.loop (rec .ready none))
    rw [hsz] at this; rw [ht0]; exact this
  have hOD : Ob t0 s.w.heap.size (.deferred (some [])) := by
    rw [ht0]; exact (Ob.new s _).ext (St.alloc_ext _ _)
  have hMD : ∀ k, s.w.heap.size ≤ k → ¬ M k := fun k hk hm => by have := hM k hm; omega
  have hBD : ∀ k, s.w.heap.size ≤ k → ¬ B k := fun k hk hm => by have := hB k hm; omega
  have hcl := hseq (s.w.heap.size + 1) t0 (by omega) hOl.lt hext (fun q t => J q t ∧ Ob t (s.w.heap.size + 1) (.loop (rec .ready none)) ∧ Ob t s.w.heap.size (.deferred (some [])))
    (fun q t t' h he => ⟨hJ q t t' h.1 he, h.2.1.chg he (hBD _ (by omega)), h.2.2.chg he (hBD _ (Nat.le_refl _))⟩) ⟨hJ _ _ _ h0 (Chg.of_ext hext), hOl, hOD⟩ (by
      rintro x q t us ⟨hj, ol, od⟩ hV
      refine ⟨fn, _, assign, body, by have := run_yield (P := P) (args := us.toArray) ol.heap (by rw [hrec]; simpa using hlen _ _ _ hV); rw [hrec] at this; exact this, roundIn_of_wpIn hfn ?_⟩
      have hw := hround (s.w.heap.size + 1) x q t us (by omega) hj hV
      refine wpIn_mono (F := FN (some (s.w.heap.size + 1))) hw fun e a1 w1 ⟨t1, hw1, hT⟩ => ?_
      subst hw1
      cases e with
      | normal =>
        obtain ⟨c1, hb⟩ := hT
        have ol1 := ol.chg c1 (hMD _ (by omega))
        have od1 := od.chg c1 (hMD _ (Nat.le_refl _))
        obtain ⟨t2, ht2⟩ : ∃ t2, t2 = t1.put (s.w.heap.size + 1) (.loop { rec .ready none with state := .busy }) ol1.free := ⟨_, rfl⟩
        have c2 : Chg (· = s.w.heap.size + 1) t1 t2 := by rw [ht2]; exact t1.put_chg _ _ _
        have ol2 : Ob t2 (s.w.heap.size + 1) (.loop { rec .ready none with state := .busy }) := by rw [ht2]; exact ol1.put _
        have od2 := od1.chg c2 (by omega)
        refine ⟨t2.w, by rw [ht2]; exact run_beginRound (P := P) ol1.heap (by rw [hrec]), ?_⟩
        refine wpIn_mono (F := FN (some (s.w.heap.size + 1))) (hb t2 c2) fun e a3 w3 ⟨t3, hw3, hT3⟩ => ?_
        subst hw3
        cases e with
        | normal =>
          obtain ⟨c3, hj3⟩ := hT3
          have ol3 := ol2.chg c3 (hMD _ (by omega))
          have od3 := od2.chg c3 (hMD _ (Nat.le_refl _))
          obtain ⟨t4, ht4⟩ : ∃ t4, t4 = t3.put (s.w.heap.size + 1) (.loop (rec .ready none)) ol3.free := ⟨_, rfl⟩
          have c4 : Chg (· = s.w.heap.size + 1) t3 t4 := by rw [ht4]; exact t3.put_chg _ _ _
          have wk : ∀ {u v : St}, Chg M u v → Chg (fun k => M k ∨ k = s.w.heap.size + 1) u v := fun h => h.weak fun _ _ hm => .inl hm
          have wl : ∀ {u v : St}, Chg (· = s.w.heap.size + 1) u v → Chg (fun k => M k ∨ k = s.w.heap.size + 1) u v := fun h => h.weak fun _ _ hm => .inr hm
          refine ⟨.bool true, t4.w, ?_, .bool true, t4, rfl, rfl, rfl, (((wk c1).trans (wl c2)).trans (wk c3)).trans (wl c4), hL _ _ _ _ (by omega) hj3 c4, by rw [ht4]; exact ol3.put _, od3.chg c4 (by omega)⟩
          have := run_endRound (P := P) none ol3.heap
          have e4 : t4.w = t3.w.putObj (s.w.heap.size + 1) (.loop (rec .ready none)) := by rw [ht4]; rfl
          rw [e4, hrec]; rw [hrec] at this; exact this
        | _ => exact hT3.elim
      | _ => exact hT.elim)
  refine ⟨s.w.heap.size + 1, [mark s.w.heap.size], t0.w, { target := .fn (.func gf) lb.toArray, args := #[.func (.yield (s.w.heap.size + 1)) #[] #[]] }, t0.w, gf, (.func (.yield (s.w.heap.size + 1)) #[] #[] :: lb).toArray, t0.w, ?_, ?_, fun _ _ => trivial, ?_, fun h => by simp [Fence.wide] at h, ?_⟩
  · rw [ht0, hrec]; exact run_enterLoop_outer _ _ _ _ _
  · simp only [resolve, hg]
    simp [go_sem]
  · have := hen (.func (.yield (s.w.heap.size + 1)) #[] #[] :: lb).toArray t0.w
    simp [invoke, go_sem] at this ⊢
    simpa using this
  · refine hcl.2.mono ?_
    rintro e w ⟨v, t, rfl, rfl, hc, hj, ol, od⟩
    obtain ⟨t4, ht4⟩ : ∃ t4, t4 = t.put (s.w.heap.size + 1) (.loop { rec .ready none with state := .exhausted }) ol.free := ⟨_, rfl⟩
    have c4 : Chg (· = s.w.heap.size + 1) t t4 := by rw [ht4]; exact t.put_chg _ _ _
    refine ⟨none, t4.w, ?_, t4, rfl, hdone _ t4 (Nat.le_refl _) ?_ (hL _ _ _ _ (by omega) hj c4) (od.chg c4 (by omega))⟩
    · have := run_endLoop (P := P) ol.heap (by rw [hrec]; simp)
      have e4 : t4.w = t.w.putObj (s.w.heap.size + 1) (.loop { rec .ready none with state := .exhausted }) := by rw [ht4]; rfl
      rw [e4, hrec]; rw [hrec] at this; exact this
    · have h1 : Chg (fun k => M k ∨ B k) s t := (Chg.of_ext hext).chg hc fun k hk hlt => hk.elim (fun h => .inl (h.resolve_right (by omega))) .inr
      exact h1.chg c4 fun k hk hlt => by omega
/-- The temporaries of a round. -/
theorem round1 {a : Act} {p : Tmp} {u : Value} {N : Nat} (hN : a.tmps.size = N) (hp : Nat.ble (p + 1) N = true) : (({ tmps := (#[p].zip [u].toArray).foldl (fun tmps (t, a) => tmps.setIfInBounds t a) a.tmps, defers := [] } : Act).tmps.size = N) ∧
    (∀ x, isIn x [p] = false → ({ tmps := (#[p].zip [u].toArray).foldl (fun tmps (t, a) => tmps.setIfInBounds t a) a.tmps, defers := [] } : Act).get x = a.get x) ∧
    ({ tmps := (#[p].zip [u].toArray).foldl (fun tmps (t, a) => tmps.setIfInBounds t a) a.tmps, defers := [] } : Act).get p = u := by
  have hp := Nat.le_of_ble_eq_true hp
  have e : (#[p].zip [u].toArray).foldl (fun tmps (t, a) => tmps.setIfInBounds t a) a.tmps = a.tmps.setIfInBounds p u := by
    have h0 : #[p].zip [u].toArray = #[(p, u)] := by first | rfl | simp [← Array.toList_inj]
    rw [h0]; simp
  rw [e]
  refine ⟨by simpa using hN, fun x hx => ?_, ?_⟩
  · have hne : x ≠ p := fun h => by subst h; simp [isIn] at hx
    simp [Act.get, Array.getD_eq_getD_getElem?, Array.getElem?_setIfInBounds_ne (Ne.symm hne)]
  · simp only [Act.get, Array.getD_eq_getD_getElem?]
    rw [Array.getElem?_setIfInBounds_self_of_lt (by omega)]; rfl
theorem round_wp {P : Program} {ro : Option Nat} {c : Code} {a : Act} {p : Tmp} {u : Value} {N : Nat} {t : St} {Q : Exit → Act → St → Prop} (hN : a.tmps.size = N) (hp : Nat.ble (p + 1) N = true)
    (h : ∀ a' : Act, a'.tmps.size = N → a'.defers = [] → (∀ x, isIn x [p] = false → a'.get x = a.get x) → a'.get p = u → Wp P ro c a' t Q) : Wp P ro c { tmps := (#[p].zip [u].toArray).foldl (fun tmps (t, a) => tmps.setIfInBounds t a) a.tmps, defers := [] } t Q :=
  h _ (round1 hN hp).1 rfl (round1 hN hp).2.1 (round1 hN hp).2.2
theorem done_wp {a : Act} {D : Nat} {t : St} {Q : Exit → Act → St → Prop} (hd : a.defers = []) (h : ∀ a' : Act, a'.tmps.size = a.tmps.size → a'.defers = [mark D] → (∀ x, isIn x [] = false → a'.get x = a.get x) → Q .normal a' t) : Q .normal { a with defers := mark D :: a.defers } t :=
  h _ rfl (by rw [hd]) fun _ _ => rfl
def lcase {τ β : Type} (l : List τ) (e : β) (c : τ → List τ → β) : β := match l with
  | [] => e
  | x :: q => c x q
theorem lcase_nil {τ β : Type} {e : β} {c : τ → List τ → β} {r : β} (h : lcase [] e c = r) : e = r := h
theorem lcase_cons {τ β : Type} {x : τ} {q : List τ} {e : β} {c : τ → List τ → β} {r : β} (h : lcase (x :: q) e c = r) : c x q = r := h
def bindv {α β : Type} (x : α) (f : α → β) : β := f x
theorem bindv_h {α β : Type} {x : α} {f : α → β} {r : β} (h : bindv x f = r) : ∃ y, x = y ∧ f y = r := ⟨x, rfl, h⟩
theorem yield_h {τ : Type} {o : Option (List τ)} {v : τ} {r : List τ} (h : o.map (fun q => v :: q) = some r) : ∃ q, r = v :: q ∧ o = some q := by
  cases o with
  | none => cases h
  | some q => cases h; exact ⟨q, rfl, rfl⟩
end
section
attribute [local irreducible] Kn.V PtrV
def order_reader_text (x0 : Reader) : Reader × Str := if (x0.bad || (!decide (((takeT x0.b x0.at_ 32).2.2) = 0))) = true then (((⟨x0.b, x0.at_, true⟩ : Reader), ([] : Str))) else (((⟨x0.b, (takeT x0.b x0.at_ 32).2.1, x0.bad⟩ : Reader), (takeT x0.b x0.at_ 32).1))
theorem order_reader_text.ok {s0 : St} {b1 : Nat} {x0 : Reader} (H0 : Hd s0 b1 147 kReader x0) : Cl Try.prog 108 #[.pointer (some ⟨b1, 0, none⟩)] s0 (Okt (fun b => b = b1) s0 (fun t v => Hd t b1 147 kReader ((order_reader_text x0).1) ∧ (Fact.v kS ((order_reader_text x0).2)).φ t v)) := by
 obtain ⟨r, h⟩ : ∃ r, some (order_reader_text x0) = some r := ⟨_, rfl⟩
 rw [Option.some.inj h]
 have h : (if (x0.bad || (!decide (((takeT x0.b x0.at_ 32).2.2) = 0))) = true then (some ((⟨x0.b, x0.at_, true⟩ : Reader), ([] : Str))) else (some ((⟨x0.b, (takeT x0.b x0.at_ 32).2.1, x0.bad⟩ : Reader), (takeT x0.b x0.at_ 32).1))) = some r := by rw [← h]; unfold order_reader_text; first | rfl | simp only [apply_ite some] | (repeat' (first | rfl | split))
 refine cl_of_wp Try.func108 rfl en_108 fun a hz hd hp => ?_; have hz : a.tmps.size = 35 := hz; have E := Chg.refl (fun b => b = b1) s0; obtain ⟨e2, B1, r3⟩ := H0; obtain ⟨u4, u5, u6, rfl, c7, c8, c9⟩ := kReader_open r3; have h0 : a.get 0 = .pointer (some ⟨b1, 0, none⟩) := hp 0 _ rfl; refine wp_sr ?_; refine sq_blk [⟨2, _, []⟩] [] hz rfl ⟨(fun a s he hf hz => av rfl rfl s_0), trivial⟩ ?_; intro a10 s11 he hf hz hd1; have hd := hd1.trans hd; have h0 := (hf 0 rfl).trans h0; have B1 := B1.ext he; obtain ⟨c7, c8, c9⟩ := vm3 he c7 c8 c9; have E := E.trans (Chg.of_ext he); refine wp_seq ?_; refine wp_draw [⟨7, _, []⟩, ⟨8, _, [0]⟩, ⟨9, _, [1]⟩, ⟨10, _, [2]⟩, ⟨11, _, []⟩, ⟨12, _, [4]⟩, ⟨13, _, [5]⟩, ⟨14, _, [6]⟩, ⟨15, _, [3, 7]⟩, ⟨6, _, [8]⟩, ⟨16, _, [9]⟩, ⟨17, _, [9]⟩, ⟨18, _, [9]⟩, ⟨3, _, [10]⟩, ⟨4, _, [11]⟩, ⟨5, _, [12]⟩] [13, 14, 15] mo hz (by kernel_rfl) ⟨mes rfl rfl h0 rfl, (fun a s he hf hz q0 => nk rfl rfl q0), (fun a s he hf hz q1 => fb rfl rfl fa_147_0 q1), (fun a s he hf hz q2 => lo rfl rfl ty_53 q2 (B1.ext he) rfl (vm he c7)), mes rfl rfl h0 rfl, (fun a s he hf hz q4 => nk rfl rfl q4), (fun a s he hf hz q5 => fb rfl rfl fa_147_1 q5), (fun a s he hf hz q6 => lo rfl rfl ty_3 q6 (B1.ext he) rfl (vm he c8)), (fun a s he hf hz q3 q7 => opw rfl (op_call rfl rfl (wire_TakeText.ct q3 q7 (lit_i (k := .i64) (n := 32) (by decide))))), (fun a s he hf hz q8 => opw rfl (op_move rfl (f := Fact.tup _) q8)), (fun a s he hf hz q9 => opw rfl (op_extract (f := Fact.v _ _) rfl q9 rfl)), (fun a s he hf hz q9 => opw rfl (op_extract (f := Fact.v _ _) rfl q9 rfl)), (fun a s he hf hz q9 => opw rfl (op_extract (f := Fact.v _ _) rfl q9 rfl)), avq rfl rfl, avq rfl rfl, avq rfl rfl, trivial⟩ ?_
 intro a12 s13 he hf hz hd1 h3 h4 h5; have hd := hd1.trans hd; have h0 := (hf 0 rfl).trans h0; have B1 := B1.ext he; obtain ⟨c7, c8, c9⟩ := vm3 he c7 c8 c9; have E := E.trans (Chg.of_ext he); refine wp_seq ?_; refine wp_sr ?_; have hz0 := hz; refine sq_blk [⟨19, _, []⟩, ⟨20, _, [0]⟩, ⟨21, _, [1]⟩, ⟨22, _, [2]⟩, ⟨23, _, [3]⟩, ⟨24, _, [4]⟩, ⟨25, _, [4, 5]⟩, ⟨26, _, [4, 6]⟩] [7] hz rfl ⟨mes rfl rfl h0 rfl, (fun a s he hf hz q0 => nk rfl rfl q0), (fun a s he hf hz q1 => fb rfl rfl fa_147_2 q1), (fun a s he hf hz q2 => lo rfl rfl ty_4 q2 (B1.ext he) rfl (vm he c9)), mvq rfl rfl, (fun a s he hf hz q4 => og rfl rfl rfl hz hz0 rfl q4 (fun g => op_move_v rfl (V_at h5 he (hf 5 rfl)))), (fun a s he hf hz q4 q5 => og rfl rfl rfl hz hz0 rfl q4 (fun g => op_neq rfl (q5.1 g) i0)), (fun a s he hf hz q4 q6 => oe rfl rfl q4 (q6.1)), trivial⟩ ?_; intro a14 s15 he hf hz hd1 h26; have hd := hd1.trans hd; obtain ⟨h3, h4⟩ := va2 he hf h3 h4 rfl; have h0 := (hf 0 rfl).trans h0; have B1 := B1.ext he; obtain ⟨c7, c8, c9⟩ := vm3 he c7 c8 c9; have E := E.trans (Chg.of_ext he); refine wp_condV h26 (fun hb => ?_) (fun hb => ?_)
 ·have h := ite_t hb h; refine wp_sr ?_; refine sq_blk [⟨27, _, []⟩, ⟨28, _, [0]⟩, ⟨29, _, [1]⟩] [2] hz rfl ⟨mes rfl rfl h0 rfl, (fun a s he hf hz q0 => nk rfl rfl q0), (fun a s he hf hz q1 => fb rfl rfl fa_147_2 q1), trivial⟩ ?_; intro a16 s17 he hf hz hd1 h29; have hd := hd1.trans hd; have B1 := B1.ext he; obtain ⟨c7, c8⟩ := vm2 he c7 c8; have E := E.trans (Chg.of_ext he); refine sq_do rfl rfl (op_store_v rfl ty_4 rfl h29 B1 b_t rfl (fun s19 he B1n c20 => ?_)); obtain ⟨c7, c8⟩ := vm2 he c7 c8; have E := Chg.chg E he (fun b e h => (fun e => by cases e; exact rfl) e); obtain ⟨u21, huu21⟩ : ∃ u : Value, u = (.bool true) := ⟨_, rfl⟩; have c20 : kB.V s19 u21 true := by rw [huu21]; exact c20
  have B1 : Bx s19 b1 147 [u4, u5, u21] := by rw [huu21]; exact B1n
  refine wp_sr ?_; refine sq_blk [⟨2, _, []⟩] [0] hz rfl ⟨(fun a s he hf hz => av rfl rfl s_0), trivial⟩ ?_; intro a22 s23 he hf hz hd1 h2; have hd := hd1.trans hd; have B1 := B1.ext he; obtain ⟨c7, c8, c20⟩ := vm3 he c7 c8 c20; have E := E.trans (Chg.of_ext he); refine wp_ret ?_; cases h
  exact ⟨hd, _, results_tmp rfl _ _ _, E, ⟨_, B1, (kReader_close c7 c8 c20)⟩, h2⟩
 ·have h := ite_f hb h; refine wp_skip ?_; refine wp_sr ?_; refine sq_blk [⟨30, _, []⟩, ⟨31, _, []⟩, ⟨32, _, [0]⟩, ⟨33, _, [2]⟩] [1, 3] hz rfl ⟨mes rfl rfl h0 rfl, mvs rfl rfl h4 rfl, (fun a s he hf hz q0 => nk rfl rfl q0), (fun a s he hf hz q2 => fb rfl rfl fa_147_1 q2), trivial⟩ ?_; intro a24 s25 he hf hz hd1 h31 h33; have hd := hd1.trans hd; have h3 := V_at h3 he (hf 3 rfl); have B1 := B1.ext he; obtain ⟨c7, c9⟩ := vm2 he c7 c9; have E := E.trans (Chg.of_ext he); refine sq_do rfl rfl (op_store_v rfl ty_3 rfl h33 B1 h31 rfl (fun s27 he B1n c28 => ?_)); have h3 := vm he h3; obtain ⟨c7, c9⟩ := vm2 he c7 c9; have E := Chg.chg E he (fun b e h => (fun e => by cases e; exact rfl) e); obtain ⟨u29, huu29⟩ : ∃ u : Value, u = (a24.get 31) := ⟨_, rfl⟩; have c28 : (kI .i64).V s27 u29 ((takeT x0.b x0.at_ 32).2.1) := by rw [huu29]; exact c28
  have B1 : Bx s27 b1 147 [u4, u29, u6] := by rw [huu29]; exact B1n
  refine wp_sr ?_; refine sq_blk [⟨34, _, []⟩, ⟨2, _, [0]⟩] [1] hz rfl ⟨mvs rfl rfl h3 rfl, avq rfl rfl, trivial⟩ ?_; intro a30 s31 he hf hz hd1 h2; have hd := hd1.trans hd; have B1 := B1.ext he; obtain ⟨c7, c28, c9⟩ := vm3 he c7 c28 c9; have E := E.trans (Chg.of_ext he); refine wp_ret ?_; cases h
  exact ⟨hd, _, results_tmp rfl _ _ _, E, ⟨_, B1, (kReader_close c7 c28 c9)⟩, h2⟩
def order_reader_number (x0 : Reader) : Reader × Int := if ((x0.bad || (!decide (((takeN x0.b x0.at_).2.2) = 0))) || (decide (4611686018427387904 < ((takeN x0.b x0.at_).1)))) = true then (((⟨x0.b, x0.at_, true⟩ : Reader), 0)) else (((⟨x0.b, (takeN x0.b x0.at_).2.1, x0.bad⟩ : Reader), IntKind.wrap .i64 ((takeN x0.b x0.at_).1)))
theorem order_reader_number.ok {s0 : St} {b1 : Nat} {x0 : Reader} (H0 : Hd s0 b1 147 kReader x0) : Cl Try.prog 109 #[.pointer (some ⟨b1, 0, none⟩)] s0 (Okt (fun b => b = b1) s0 (fun t v => Hd t b1 147 kReader ((order_reader_number x0).1) ∧ (Fact.v (kI .i64) ((order_reader_number x0).2)).φ t v)) := by
 obtain ⟨r, h⟩ : ∃ r, some (order_reader_number x0) = some r := ⟨_, rfl⟩
 rw [Option.some.inj h]
 have h : (if ((x0.bad || (!decide (((takeN x0.b x0.at_).2.2) = 0))) || (decide (4611686018427387904 < ((takeN x0.b x0.at_).1)))) = true then (some ((⟨x0.b, x0.at_, true⟩ : Reader), 0)) else (some ((⟨x0.b, (takeN x0.b x0.at_).2.1, x0.bad⟩ : Reader), IntKind.wrap .i64 ((takeN x0.b x0.at_).1)))) = some r := by rw [← h]; unfold order_reader_number; first | rfl | simp only [apply_ite some] | (repeat' (first | rfl | split))
 refine cl_of_wp Try.func109 rfl en_109 fun a hz hd hp => ?_; have hz : a.tmps.size = 40 := hz; have E := Chg.refl (fun b => b = b1) s0; obtain ⟨e2, B1, r3⟩ := H0; obtain ⟨u4, u5, u6, rfl, c7, c8, c9⟩ := kReader_open r3; have h0 : a.get 0 = .pointer (some ⟨b1, 0, none⟩) := hp 0 _ rfl; refine wp_sr ?_; refine sq_blk [⟨2, _, []⟩] [] hz rfl ⟨(fun a s he hf hz => av rfl rfl i0), trivial⟩ ?_; intro a10 s11 he hf hz hd1; have hd := hd1.trans hd; have h0 := (hf 0 rfl).trans h0; have B1 := B1.ext he; obtain ⟨c7, c8, c9⟩ := vm3 he c7 c8 c9; have E := E.trans (Chg.of_ext he); refine wp_seq ?_; refine wp_draw [⟨7, _, []⟩, ⟨8, _, [0]⟩, ⟨9, _, [1]⟩, ⟨10, _, [2]⟩, ⟨11, _, []⟩, ⟨12, _, [4]⟩, ⟨13, _, [5]⟩, ⟨14, _, [6]⟩, ⟨15, _, [3, 7]⟩, ⟨6, _, [8]⟩, ⟨16, _, [9]⟩, ⟨17, _, [9]⟩, ⟨18, _, [9]⟩, ⟨3, _, [10]⟩, ⟨4, _, [11]⟩, ⟨5, _, [12]⟩] [13, 14, 15] mo hz (by kernel_rfl) ⟨mes rfl rfl h0 rfl, (fun a s he hf hz q0 => nk rfl rfl q0), (fun a s he hf hz q1 => fb rfl rfl fa_147_0 q1), (fun a s he hf hz q2 => lo rfl rfl ty_53 q2 (B1.ext he) rfl (vm he c7)), mes rfl rfl h0 rfl, (fun a s he hf hz q4 => nk rfl rfl q4), (fun a s he hf hz q5 => fb rfl rfl fa_147_1 q5), (fun a s he hf hz q6 => lo rfl rfl ty_3 q6 (B1.ext he) rfl (vm he c8)), (fun a s he hf hz q3 q7 => opw rfl (op_call rfl rfl (wire_TakeNumber.ct q3 q7))), (fun a s he hf hz q8 => opw rfl (op_move rfl (f := Fact.tup _) q8)), (fun a s he hf hz q9 => opw rfl (op_extract (f := Fact.v _ _) rfl q9 rfl)), (fun a s he hf hz q9 => opw rfl (op_extract (f := Fact.v _ _) rfl q9 rfl)), (fun a s he hf hz q9 => opw rfl (op_extract (f := Fact.v _ _) rfl q9 rfl)), avq rfl rfl, avq rfl rfl, avq rfl rfl, trivial⟩ ?_
 intro a12 s13 he hf hz hd1 h3 h4 h5; have hd := hd1.trans hd; have h0 := (hf 0 rfl).trans h0; have B1 := B1.ext he; obtain ⟨c7, c8, c9⟩ := vm3 he c7 c8 c9; have E := E.trans (Chg.of_ext he); refine wp_seq ?_; refine wp_sr ?_; have hz0 := hz; refine sq_blk [⟨19, _, []⟩, ⟨20, _, [0]⟩, ⟨21, _, [1]⟩, ⟨22, _, [2]⟩, ⟨23, _, [3]⟩, ⟨24, _, [4]⟩, ⟨25, _, [4, 5]⟩, ⟨26, _, [4, 6]⟩, ⟨27, _, [7]⟩, ⟨28, _, [8]⟩, ⟨29, _, [8, 9]⟩, ⟨30, _, [8, 10]⟩] [11] hz rfl ⟨mes rfl rfl h0 rfl, (fun a s he hf hz q0 => nk rfl rfl q0), (fun a s he hf hz q1 => fb rfl rfl fa_147_2 q1), (fun a s he hf hz q2 => lo rfl rfl ty_4 q2 (B1.ext he) rfl (vm he c9)), mvq rfl rfl, (fun a s he hf hz q4 => og rfl rfl rfl hz hz0 rfl q4 (fun g => op_move_v rfl (V_at h5 he (hf 5 rfl)))), (fun a s he hf hz q4 q5 => og rfl rfl rfl hz hz0 rfl q4 (fun g => op_neq rfl (q5.1 g) i0)), (fun a s he hf hz q4 q6 => oe rfl rfl q4 (q6.1)), mvq rfl rfl, (fun a s he hf hz q8 => og rfl rfl rfl hz hz0 rfl q8 (fun g => op_move_v rfl (V_at h3 he (hf 3 rfl)))), (fun a s he hf hz q8 q9 => og rfl rfl rfl hz hz0 rfl q8 (fun g => op_gtr rfl (q9.1 g) (lit_i (k := .u64) (n := 4611686018427387904) (by decide)))), (fun a s he hf hz q8 q10 => oe rfl rfl q8 (q10.1)), trivial⟩ ?_
 intro a14 s15 he hf hz hd1 h30; have hd := hd1.trans hd; obtain ⟨h3, h4⟩ := va2 he hf h3 h4 rfl; have h0 := (hf 0 rfl).trans h0; have B1 := B1.ext he; obtain ⟨c7, c8, c9⟩ := vm3 he c7 c8 c9; have E := E.trans (Chg.of_ext he); refine wp_condV h30 (fun hb => ?_) (fun hb => ?_)
 ·have h := ite_t hb h; refine wp_sr ?_; refine sq_blk [⟨31, _, []⟩, ⟨32, _, [0]⟩, ⟨33, _, [1]⟩] [2] hz rfl ⟨mes rfl rfl h0 rfl, (fun a s he hf hz q0 => nk rfl rfl q0), (fun a s he hf hz q1 => fb rfl rfl fa_147_2 q1), trivial⟩ ?_; intro a16 s17 he hf hz hd1 h33; have hd := hd1.trans hd; have B1 := B1.ext he; obtain ⟨c7, c8⟩ := vm2 he c7 c8; have E := E.trans (Chg.of_ext he); refine sq_do rfl rfl (op_store_v rfl ty_4 rfl h33 B1 b_t rfl (fun s19 he B1n c20 => ?_)); obtain ⟨c7, c8⟩ := vm2 he c7 c8; have E := Chg.chg E he (fun b e h => (fun e => by cases e; exact rfl) e); obtain ⟨u21, huu21⟩ : ∃ u : Value, u = (.bool true) := ⟨_, rfl⟩; have c20 : kB.V s19 u21 true := by rw [huu21]; exact c20
  have B1 : Bx s19 b1 147 [u4, u5, u21] := by rw [huu21]; exact B1n
  refine wp_sr ?_; refine sq_blk [⟨2, _, []⟩] [0] hz rfl ⟨(fun a s he hf hz => av rfl rfl i0), trivial⟩ ?_; intro a22 s23 he hf hz hd1 h2; have hd := hd1.trans hd; have B1 := B1.ext he; obtain ⟨c7, c8, c20⟩ := vm3 he c7 c8 c20; have E := E.trans (Chg.of_ext he); refine wp_ret ?_; cases h
  exact ⟨hd, _, results_tmp rfl _ _ _, E, ⟨_, B1, (kReader_close c7 c8 c20)⟩, h2⟩
 ·have h := ite_f hb h; refine wp_skip ?_; refine wp_sr ?_; refine sq_blk [⟨34, _, []⟩, ⟨35, _, []⟩, ⟨36, _, [0]⟩, ⟨37, _, [2]⟩] [1, 3] hz rfl ⟨mes rfl rfl h0 rfl, mvs rfl rfl h4 rfl, (fun a s he hf hz q0 => nk rfl rfl q0), (fun a s he hf hz q2 => fb rfl rfl fa_147_1 q2), trivial⟩ ?_; intro a24 s25 he hf hz hd1 h35 h37; have hd := hd1.trans hd; have h3 := V_at h3 he (hf 3 rfl); have B1 := B1.ext he; obtain ⟨c7, c9⟩ := vm2 he c7 c9; have E := E.trans (Chg.of_ext he); refine sq_do rfl rfl (op_store_v rfl ty_3 rfl h37 B1 h35 rfl (fun s27 he B1n c28 => ?_)); have h3 := vm he h3; obtain ⟨c7, c9⟩ := vm2 he c7 c9; have E := Chg.chg E he (fun b e h => (fun e => by cases e; exact rfl) e); obtain ⟨u29, huu29⟩ : ∃ u : Value, u = (a24.get 35) := ⟨_, rfl⟩; have c28 : (kI .i64).V s27 u29 ((takeN x0.b x0.at_).2.1) := by rw [huu29]; exact c28
  have B1 : Bx s27 b1 147 [u4, u29, u6] := by rw [huu29]; exact B1n
  refine wp_sr ?_; refine sq_blk [⟨38, _, []⟩, ⟨39, _, [0]⟩, ⟨2, _, [1]⟩] [2] hz rfl ⟨mvs rfl rfl h3 rfl, (fun a s he hf hz q0 => cv rfl rfl u_89 u_2 q0), avq rfl rfl, trivial⟩ ?_; intro a30 s31 he hf hz hd1 h2; have hd := hd1.trans hd; have B1 := B1.ext he; obtain ⟨c7, c28, c9⟩ := vm3 he c7 c28 c9; have E := E.trans (Chg.of_ext he); refine wp_ret ?_; cases h
  exact ⟨hd, _, results_tmp rfl _ _ _, E, ⟨_, B1, (kReader_close c7 c28 c9)⟩, h2⟩
def ref08_taker_text (x0 : Taker8) (x1 : Int) : Taker8 × Str := if ((!x0.ok) || (!decide (((takeT x0.b x0.at_ x1).2.2) = 0))) = true then (((⟨x0.b, x0.at_, false⟩ : Taker8), ([] : Str))) else (((⟨x0.b, (takeT x0.b x0.at_ x1).2.1, x0.ok⟩ : Taker8), (takeT x0.b x0.at_ x1).1))
theorem ref08_taker_text.ok {s0 : St} {b1 : Nat} {x0 : Taker8} {v1 : Value} {x1 : Int} (H0 : Hd s0 b1 169 kTaker8 x0) (k1 : (kI .i64).V s0 v1 x1) : Cl Try.prog 136 #[.pointer (some ⟨b1, 0, none⟩), v1] s0 (Okt (fun b => b = b1) s0 (fun t v => Hd t b1 169 kTaker8 ((ref08_taker_text x0 x1).1) ∧ (Fact.v kS ((ref08_taker_text x0 x1).2)).φ t v)) := by
 obtain ⟨r, h⟩ : ∃ r, some (ref08_taker_text x0 x1) = some r := ⟨_, rfl⟩
 rw [Option.some.inj h]
 have h : (if ((!x0.ok) || (!decide (((takeT x0.b x0.at_ x1).2.2) = 0))) = true then (some ((⟨x0.b, x0.at_, false⟩ : Taker8), ([] : Str))) else (some ((⟨x0.b, (takeT x0.b x0.at_ x1).2.1, x0.ok⟩ : Taker8), (takeT x0.b x0.at_ x1).1))) = some r := by rw [← h]; unfold ref08_taker_text; first | rfl | simp only [apply_ite some] | (repeat' (first | rfl | split))
 refine cl_of_wp Try.func136 rfl en_136 fun a hz hd hp => ?_; have hz : a.tmps.size = 39 := hz; have E := Chg.refl (fun b => b = b1) s0; obtain ⟨e2, B1, r3⟩ := H0; obtain ⟨u4, u5, u6, rfl, c7, c8, c9⟩ := kTaker8_open r3; have h0 : a.get 0 = .pointer (some ⟨b1, 0, none⟩) := hp 0 _ rfl; have h1 := V_at k1 E (hp 1 v1 rfl); refine wp_sr ?_; refine sq_blk [⟨4, _, []⟩] [] hz rfl ⟨(fun a s he hf hz => av rfl rfl s_0), trivial⟩ ?_; intro a10 s11 he hf hz hd1; have hd := hd1.trans hd; have h1 := V_at h1 he (hf 1 rfl); have h0 := (hf 0 rfl).trans h0; have B1 := B1.ext he; obtain ⟨c7, c8, c9⟩ := vm3 he c7 c8 c9; have E := E.trans (Chg.of_ext he); refine wp_seq ?_; refine wp_draw [⟨9, _, []⟩, ⟨10, _, [0]⟩, ⟨11, _, [1]⟩, ⟨12, _, [2]⟩, ⟨13, _, []⟩, ⟨14, _, [4]⟩, ⟨15, _, [5]⟩, ⟨16, _, [6]⟩, ⟨17, _, []⟩, ⟨18, _, [3, 7, 8]⟩, ⟨8, _, [9]⟩, ⟨19, _, [10]⟩, ⟨20, _, [10]⟩, ⟨21, _, [10]⟩, ⟨5, _, [11]⟩, ⟨6, _, [12]⟩, ⟨7, _, [13]⟩] [14, 15, 16] mo hz (by kernel_rfl) ⟨mes rfl rfl h0 rfl, (fun a s he hf hz q0 => nk rfl rfl q0), (fun a s he hf hz q1 => fb rfl rfl fa_169_0 q1), (fun a s he hf hz q2 => lo rfl rfl ty_53 q2 (B1.ext he) rfl (vm he c7)), mes rfl rfl h0 rfl, (fun a s he hf hz q4 => nk rfl rfl q4), (fun a s he hf hz q5 => fb rfl rfl fa_169_1 q5), (fun a s he hf hz q6 => lo rfl rfl ty_3 q6 (B1.ext he) rfl (vm he c8)), mvs rfl rfl h1 rfl, (fun a s he hf hz q3 q7 q8 => opw rfl (op_call rfl rfl (ref02_TakeText.ct q3 q7 q8))), (fun a s he hf hz q9 => opw rfl (op_move rfl (f := Fact.tup _) q9)), (fun a s he hf hz q10 => opw rfl (op_extract (f := Fact.v _ _) rfl q10 rfl)), (fun a s he hf hz q10 => opw rfl (op_extract (f := Fact.v _ _) rfl q10 rfl)), (fun a s he hf hz q10 => opw rfl (op_extract (f := Fact.v _ _) rfl q10 rfl)), avq rfl rfl, avq rfl rfl, avq rfl rfl, trivial⟩ ?_
 intro a12 s13 he hf hz hd1 h5 h6 h7; have hd := hd1.trans hd; have h0 := (hf 0 rfl).trans h0; have B1 := B1.ext he; obtain ⟨c7, c8, c9⟩ := vm3 he c7 c8 c9; have E := E.trans (Chg.of_ext he); refine wp_seq ?_; refine wp_sr ?_; have hz0 := hz; refine sq_blk [⟨22, _, []⟩, ⟨23, _, [0]⟩, ⟨24, _, [1]⟩, ⟨25, _, [2]⟩, ⟨26, _, [3]⟩, ⟨27, _, [4]⟩, ⟨28, _, [5]⟩, ⟨29, _, [5, 6]⟩, ⟨30, _, [5, 7]⟩] [8] hz rfl ⟨mes rfl rfl h0 rfl, (fun a s he hf hz q0 => nk rfl rfl q0), (fun a s he hf hz q1 => fb rfl rfl fa_169_2 q1), (fun a s he hf hz q2 => lo rfl rfl ty_4 q2 (B1.ext he) rfl (vm he c9)), (fun a s he hf hz q3 => no_ rfl rfl q3), mvq rfl rfl, (fun a s he hf hz q5 => og rfl rfl rfl hz hz0 rfl q5 (fun g => op_move_v rfl (V_at h7 he (hf 7 rfl)))), (fun a s he hf hz q5 q6 => og rfl rfl rfl hz hz0 rfl q5 (fun g => op_neq rfl (q6.1 g) i0)), (fun a s he hf hz q5 q7 => oe rfl rfl q5 (q7.1)), trivial⟩ ?_; intro a14 s15 he hf hz hd1 h30; have hd := hd1.trans hd; obtain ⟨h5, h6⟩ := va2 he hf h5 h6 rfl; have h0 := (hf 0 rfl).trans h0; have B1 := B1.ext he; obtain ⟨c7, c8, c9⟩ := vm3 he c7 c8 c9; have E := E.trans (Chg.of_ext he)
 refine wp_condV h30 (fun hb => ?_) (fun hb => ?_)
 ·have h := ite_t hb h; refine wp_sr ?_; refine sq_blk [⟨31, _, []⟩, ⟨32, _, [0]⟩, ⟨33, _, [1]⟩] [2] hz rfl ⟨mes rfl rfl h0 rfl, (fun a s he hf hz q0 => nk rfl rfl q0), (fun a s he hf hz q1 => fb rfl rfl fa_169_2 q1), trivial⟩ ?_; intro a16 s17 he hf hz hd1 h33; have hd := hd1.trans hd; have B1 := B1.ext he; obtain ⟨c7, c8⟩ := vm2 he c7 c8; have E := E.trans (Chg.of_ext he); refine sq_do rfl rfl (op_store_v rfl ty_4 rfl h33 B1 b_f rfl (fun s19 he B1n c20 => ?_)); obtain ⟨c7, c8⟩ := vm2 he c7 c8; have E := Chg.chg E he (fun b e h => (fun e => by cases e; exact rfl) e); obtain ⟨u21, huu21⟩ : ∃ u : Value, u = (.bool false) := ⟨_, rfl⟩; have c20 : kB.V s19 u21 false := by rw [huu21]; exact c20
  have B1 : Bx s19 b1 169 [u4, u5, u21] := by rw [huu21]; exact B1n
  refine wp_sr ?_; refine sq_blk [⟨4, _, []⟩] [0] hz rfl ⟨(fun a s he hf hz => av rfl rfl s_0), trivial⟩ ?_; intro a22 s23 he hf hz hd1 h4; have hd := hd1.trans hd; have B1 := B1.ext he; obtain ⟨c7, c8, c20⟩ := vm3 he c7 c8 c20; have E := E.trans (Chg.of_ext he); refine wp_ret ?_; cases h
  exact ⟨hd, _, results_tmp rfl _ _ _, E, ⟨_, B1, (kTaker8_close c7 c8 c20)⟩, h4⟩
 ·have h := ite_f hb h; refine wp_skip ?_; refine wp_sr ?_; refine sq_blk [⟨34, _, []⟩, ⟨35, _, []⟩, ⟨36, _, [0]⟩, ⟨37, _, [2]⟩] [1, 3] hz rfl ⟨mes rfl rfl h0 rfl, mvs rfl rfl h6 rfl, (fun a s he hf hz q0 => nk rfl rfl q0), (fun a s he hf hz q2 => fb rfl rfl fa_169_1 q2), trivial⟩ ?_; intro a24 s25 he hf hz hd1 h35 h37; have hd := hd1.trans hd; have h5 := V_at h5 he (hf 5 rfl); have B1 := B1.ext he; obtain ⟨c7, c9⟩ := vm2 he c7 c9; have E := E.trans (Chg.of_ext he); refine sq_do rfl rfl (op_store_v rfl ty_3 rfl h37 B1 h35 rfl (fun s27 he B1n c28 => ?_)); have h5 := vm he h5; obtain ⟨c7, c9⟩ := vm2 he c7 c9; have E := Chg.chg E he (fun b e h => (fun e => by cases e; exact rfl) e); obtain ⟨u29, huu29⟩ : ∃ u : Value, u = (a24.get 35) := ⟨_, rfl⟩; have c28 : (kI .i64).V s27 u29 ((takeT x0.b x0.at_ x1).2.1) := by rw [huu29]; exact c28
  have B1 : Bx s27 b1 169 [u4, u29, u6] := by rw [huu29]; exact B1n
  refine wp_sr ?_; refine sq_blk [⟨38, _, []⟩, ⟨4, _, [0]⟩] [1] hz rfl ⟨mvs rfl rfl h5 rfl, avq rfl rfl, trivial⟩ ?_; intro a30 s31 he hf hz hd1 h4; have hd := hd1.trans hd; have B1 := B1.ext he; obtain ⟨c7, c28, c9⟩ := vm3 he c7 c28 c9; have E := E.trans (Chg.of_ext he); refine wp_ret ?_; cases h
  exact ⟨hd, _, results_tmp rfl _ _ _, E, ⟨_, B1, (kTaker8_close c7 c28 c9)⟩, h4⟩
def ref08_taker_number (x0 : Taker8) (x1 : Int) : Taker8 × Int := if (((!x0.ok) || (!decide (((takeN x0.b x0.at_).2.2) = 0))) || (decide (x1 < ((takeN x0.b x0.at_).1)))) = true then (((⟨x0.b, x0.at_, false⟩ : Taker8), 0)) else (((⟨x0.b, (takeN x0.b x0.at_).2.1, x0.ok⟩ : Taker8), IntKind.wrap .i64 ((takeN x0.b x0.at_).1)))
theorem ref08_taker_number.ok {s0 : St} {b1 : Nat} {x0 : Taker8} {v1 : Value} {x1 : Int} (H0 : Hd s0 b1 169 kTaker8 x0) (k1 : (kI .u64).V s0 v1 x1) : Cl Try.prog 137 #[.pointer (some ⟨b1, 0, none⟩), v1] s0 (Okt (fun b => b = b1) s0 (fun t v => Hd t b1 169 kTaker8 ((ref08_taker_number x0 x1).1) ∧ (Fact.v (kI .i64) ((ref08_taker_number x0 x1).2)).φ t v)) := by
 obtain ⟨r, h⟩ : ∃ r, some (ref08_taker_number x0 x1) = some r := ⟨_, rfl⟩
 rw [Option.some.inj h]
 have h : (if (((!x0.ok) || (!decide (((takeN x0.b x0.at_).2.2) = 0))) || (decide (x1 < ((takeN x0.b x0.at_).1)))) = true then (some ((⟨x0.b, x0.at_, false⟩ : Taker8), 0)) else (some ((⟨x0.b, (takeN x0.b x0.at_).2.1, x0.ok⟩ : Taker8), IntKind.wrap .i64 ((takeN x0.b x0.at_).1)))) = some r := by rw [← h]; unfold ref08_taker_number; first | rfl | simp only [apply_ite some] | (repeat' (first | rfl | split))
 refine cl_of_wp Try.func137 rfl en_137 fun a hz hd hp => ?_; have hz : a.tmps.size = 44 := hz; have E := Chg.refl (fun b => b = b1) s0; obtain ⟨e2, B1, r3⟩ := H0; obtain ⟨u4, u5, u6, rfl, c7, c8, c9⟩ := kTaker8_open r3; have h0 : a.get 0 = .pointer (some ⟨b1, 0, none⟩) := hp 0 _ rfl; have h1 := V_at k1 E (hp 1 v1 rfl); refine wp_sr ?_; refine sq_blk [⟨4, _, []⟩] [] hz rfl ⟨(fun a s he hf hz => av rfl rfl i0), trivial⟩ ?_; intro a10 s11 he hf hz hd1; have hd := hd1.trans hd; have h1 := V_at h1 he (hf 1 rfl); have h0 := (hf 0 rfl).trans h0; have B1 := B1.ext he; obtain ⟨c7, c8, c9⟩ := vm3 he c7 c8 c9; have E := E.trans (Chg.of_ext he); refine wp_seq ?_; refine wp_draw [⟨9, _, []⟩, ⟨10, _, [0]⟩, ⟨11, _, [1]⟩, ⟨12, _, [2]⟩, ⟨13, _, []⟩, ⟨14, _, [4]⟩, ⟨15, _, [5]⟩, ⟨16, _, [6]⟩, ⟨17, _, [3, 7]⟩, ⟨8, _, [8]⟩, ⟨18, _, [9]⟩, ⟨19, _, [9]⟩, ⟨20, _, [9]⟩, ⟨5, _, [10]⟩, ⟨6, _, [11]⟩, ⟨7, _, [12]⟩] [13, 14, 15] mo hz (by kernel_rfl) ⟨mes rfl rfl h0 rfl, (fun a s he hf hz q0 => nk rfl rfl q0), (fun a s he hf hz q1 => fb rfl rfl fa_169_0 q1), (fun a s he hf hz q2 => lo rfl rfl ty_53 q2 (B1.ext he) rfl (vm he c7)), mes rfl rfl h0 rfl, (fun a s he hf hz q4 => nk rfl rfl q4), (fun a s he hf hz q5 => fb rfl rfl fa_169_1 q5), (fun a s he hf hz q6 => lo rfl rfl ty_3 q6 (B1.ext he) rfl (vm he c8)), (fun a s he hf hz q3 q7 => opw rfl (op_call rfl rfl (ref02_TakeNumber.ct q3 q7))), (fun a s he hf hz q8 => opw rfl (op_move rfl (f := Fact.tup _) q8)), (fun a s he hf hz q9 => opw rfl (op_extract (f := Fact.v _ _) rfl q9 rfl)), (fun a s he hf hz q9 => opw rfl (op_extract (f := Fact.v _ _) rfl q9 rfl)), (fun a s he hf hz q9 => opw rfl (op_extract (f := Fact.v _ _) rfl q9 rfl)), avq rfl rfl, avq rfl rfl, avq rfl rfl, trivial⟩ ?_
 intro a12 s13 he hf hz hd1 h5 h6 h7; have hd := hd1.trans hd; have h1 := V_at h1 he (hf 1 rfl); have h0 := (hf 0 rfl).trans h0; have B1 := B1.ext he; obtain ⟨c7, c8, c9⟩ := vm3 he c7 c8 c9; have E := E.trans (Chg.of_ext he); refine wp_seq ?_; refine wp_sr ?_; have hz0 := hz; refine sq_blk [⟨21, _, []⟩, ⟨22, _, [0]⟩, ⟨23, _, [1]⟩, ⟨24, _, [2]⟩, ⟨25, _, [3]⟩, ⟨26, _, [4]⟩, ⟨27, _, [5]⟩, ⟨28, _, [5, 6]⟩, ⟨29, _, [5, 7]⟩, ⟨30, _, [8]⟩, ⟨31, _, [9]⟩, ⟨32, _, [9]⟩, ⟨33, _, [9, 10, 11]⟩, ⟨34, _, [9, 12]⟩] [13] hz rfl ⟨mes rfl rfl h0 rfl, (fun a s he hf hz q0 => nk rfl rfl q0), (fun a s he hf hz q1 => fb rfl rfl fa_169_2 q1), (fun a s he hf hz q2 => lo rfl rfl ty_4 q2 (B1.ext he) rfl (vm he c9)), (fun a s he hf hz q3 => no_ rfl rfl q3), mvq rfl rfl, (fun a s he hf hz q5 => og rfl rfl rfl hz hz0 rfl q5 (fun g => op_move_v rfl (V_at h7 he (hf 7 rfl)))), (fun a s he hf hz q5 q6 => og rfl rfl rfl hz hz0 rfl q5 (fun g => op_neq rfl (q6.1 g) i0)), (fun a s he hf hz q5 q7 => oe rfl rfl q5 (q7.1)), mvq rfl rfl, (fun a s he hf hz q9 => og rfl rfl rfl hz hz0 rfl q9 (fun g => op_move_v rfl (V_at h5 he (hf 5 rfl)))), (fun a s he hf hz q9 => og rfl rfl rfl hz hz0 rfl q9 (fun g => op_move_v rfl (V_at h1 he (hf 1 rfl)))), (fun a s he hf hz q9 q10 q11 => og rfl rfl rfl hz hz0 rfl q9 (fun g => op_gtr rfl (q10.1 g) (q11.1 g))), (fun a s he hf hz q9 q12 => oe rfl rfl q9 (q12.1)), trivial⟩ ?_
 intro a14 s15 he hf hz hd1 h34; have hd := hd1.trans hd; obtain ⟨h5, h6⟩ := va2 he hf h5 h6 rfl; have h0 := (hf 0 rfl).trans h0; have B1 := B1.ext he; obtain ⟨c7, c8, c9⟩ := vm3 he c7 c8 c9; have E := E.trans (Chg.of_ext he); refine wp_condV h34 (fun hb => ?_) (fun hb => ?_)
 ·have h := ite_t hb h; refine wp_sr ?_; refine sq_blk [⟨35, _, []⟩, ⟨36, _, [0]⟩, ⟨37, _, [1]⟩] [2] hz rfl ⟨mes rfl rfl h0 rfl, (fun a s he hf hz q0 => nk rfl rfl q0), (fun a s he hf hz q1 => fb rfl rfl fa_169_2 q1), trivial⟩ ?_; intro a16 s17 he hf hz hd1 h37; have hd := hd1.trans hd; have B1 := B1.ext he; obtain ⟨c7, c8⟩ := vm2 he c7 c8; have E := E.trans (Chg.of_ext he); refine sq_do rfl rfl (op_store_v rfl ty_4 rfl h37 B1 b_f rfl (fun s19 he B1n c20 => ?_)); obtain ⟨c7, c8⟩ := vm2 he c7 c8; have E := Chg.chg E he (fun b e h => (fun e => by cases e; exact rfl) e); obtain ⟨u21, huu21⟩ : ∃ u : Value, u = (.bool false) := ⟨_, rfl⟩; have c20 : kB.V s19 u21 false := by rw [huu21]; exact c20
  have B1 : Bx s19 b1 169 [u4, u5, u21] := by rw [huu21]; exact B1n
  refine wp_sr ?_; refine sq_blk [⟨4, _, []⟩] [0] hz rfl ⟨(fun a s he hf hz => av rfl rfl i0), trivial⟩ ?_; intro a22 s23 he hf hz hd1 h4; have hd := hd1.trans hd; have B1 := B1.ext he; obtain ⟨c7, c8, c20⟩ := vm3 he c7 c8 c20; have E := E.trans (Chg.of_ext he); refine wp_ret ?_; cases h
  exact ⟨hd, _, results_tmp rfl _ _ _, E, ⟨_, B1, (kTaker8_close c7 c8 c20)⟩, h4⟩
 ·have h := ite_f hb h; refine wp_skip ?_; refine wp_sr ?_; refine sq_blk [⟨38, _, []⟩, ⟨39, _, []⟩, ⟨40, _, [0]⟩, ⟨41, _, [2]⟩] [1, 3] hz rfl ⟨mes rfl rfl h0 rfl, mvs rfl rfl h6 rfl, (fun a s he hf hz q0 => nk rfl rfl q0), (fun a s he hf hz q2 => fb rfl rfl fa_169_1 q2), trivial⟩ ?_; intro a24 s25 he hf hz hd1 h39 h41; have hd := hd1.trans hd; have h5 := V_at h5 he (hf 5 rfl); have B1 := B1.ext he; obtain ⟨c7, c9⟩ := vm2 he c7 c9; have E := E.trans (Chg.of_ext he); refine sq_do rfl rfl (op_store_v rfl ty_3 rfl h41 B1 h39 rfl (fun s27 he B1n c28 => ?_)); have h5 := vm he h5; obtain ⟨c7, c9⟩ := vm2 he c7 c9; have E := Chg.chg E he (fun b e h => (fun e => by cases e; exact rfl) e); obtain ⟨u29, huu29⟩ : ∃ u : Value, u = (a24.get 39) := ⟨_, rfl⟩; have c28 : (kI .i64).V s27 u29 ((takeN x0.b x0.at_).2.1) := by rw [huu29]; exact c28
  have B1 : Bx s27 b1 169 [u4, u29, u6] := by rw [huu29]; exact B1n
  refine wp_sr ?_; refine sq_blk [⟨42, _, []⟩, ⟨43, _, [0]⟩, ⟨4, _, [1]⟩] [2] hz rfl ⟨mvs rfl rfl h5 rfl, (fun a s he hf hz q0 => cv rfl rfl u_89 u_2 q0), avq rfl rfl, trivial⟩ ?_; intro a30 s31 he hf hz hd1 h4; have hd := hd1.trans hd; have B1 := B1.ext he; obtain ⟨c7, c28, c9⟩ := vm3 he c7 c28 c9; have E := E.trans (Chg.of_ext he); refine wp_ret ?_; cases h
  exact ⟨hd, _, results_tmp rfl _ _ _, E, ⟨_, B1, (kTaker8_close c7 c28 c9)⟩, h4⟩
end
section
attribute [local irreducible] Kn.V PtrV
def order_reader_dot (x0 : Reader) : Reader × Dot := ((order_reader_number ((order_reader_text x0).1)).1, (⟨(order_reader_text x0).2, (order_reader_number ((order_reader_text x0).1)).2⟩ : Dot))
theorem order_reader_dot.ok {s0 : St} {b1 : Nat} {x0 : Reader} (H0 : Hd s0 b1 147 kReader x0) : Cl Try.prog 107 #[.pointer (some ⟨b1, 0, none⟩)] s0 (Okt (fun b => b = b1) s0 (fun t v => Hd t b1 147 kReader ((order_reader_dot x0).1) ∧ (Fact.v kDot ((order_reader_dot x0).2)).φ t v)) := by
 obtain ⟨r, h⟩ : ∃ r, some (order_reader_dot x0) = some r := ⟨_, rfl⟩
 rw [Option.some.inj h]
 have h : (some ((order_reader_number ((order_reader_text x0).1)).1, (⟨(order_reader_text x0).2, (order_reader_number ((order_reader_text x0).1)).2⟩ : Dot))) = some r := by rw [← h]; unfold order_reader_dot; first | rfl | simp only [apply_ite some] | (repeat' (first | rfl | split))
 refine cl_of_wp Try.func107 rfl en_107 fun a hz hd hp => ?_; have hz : a.tmps.size = 10 := hz; have E := Chg.refl (fun b => b = b1) s0; obtain ⟨e2, B1, r3⟩ := H0; obtain ⟨u4, u5, u6, rfl, c7, c8, c9⟩ := kReader_open r3; have h0 : a.get 0 = .pointer (some ⟨b1, 0, none⟩) := hp 0 _ rfl; refine wp_sr ?_; refine sq_set hz rfl rfl rfl (op_alloc (cs := [.string ⟨#[]⟩, .int .i64 0]) rfl zv_70 rfl (fun s11 he BB12 => fun a10 h2 hf hz hd1 => ?_)); obtain ⟨b15, hb15⟩ : ∃ b, b = s0.w.heap.size := ⟨_, rfl⟩; rw [← hb15] at BB12 h2; have B15 := BB12; have l15 : s0.w.heap.size ≤ b15 := by have := E.size; omega
 have n15_1 : b15 ≠ b1 := by have := B1.lt; omega
 have hd := hd1.trans hd; have h0 := (hf 0 rfl).trans h0; have B1 := B1.ext he; obtain ⟨c7, c8, c9⟩ := vm3 he c7 c8 c9; have E := E.trans (Chg.of_ext he); have c13 : kS.V s11 (.string ⟨#[]⟩) ([] : Str) := s_0; have c14 : (kI .i64).V s11 (.int .i64 0) 0 := i0; refine wp_sr ?_; refine sq_blk [⟨4, _, []⟩] [0] hz rfl ⟨mes rfl rfl h0 rfl, trivial⟩ ?_; intro a16 s17 he hf hz hd1 h4; have hd := hd1.trans hd; obtain ⟨h0, h2⟩ := ea2 hf h0 h2 rfl; obtain ⟨B1, B15⟩ := bx2 he B1 B15; obtain ⟨c7, c8, c9⟩ := vm3 he c7 c8 c9; have E := E.trans (Chg.of_ext he); refine sq_set hz rfl rfl rfl (op_call rfl (argc h4 rfl) (Cl.mono (order_reader_text.ok ⟨_, B1, (kReader_eta (x := x0) c7 c8 c9)⟩) (fun v s19 hR => fun a18 hd' hf hz hd1 => ?_))); obtain ⟨he, H20, hv⟩ := hR; have hd := hd1.trans hd; obtain ⟨h0, h2⟩ := ea2 hf h0 h2 rfl; have B15 := B15.chg he (fun e => n15_1 e); have E := Chg.chg E he (fun b e h => (fun e => by cases e; exact rfl) e); obtain ⟨e21, B1, r22⟩ := H20; obtain ⟨u23, u24, u25, rfl, c26, c27, c28⟩ := kReader_open r22; have h5 := V_eq hd' hv; refine sq_blk [⟨3, _, []⟩] [0] hz rfl ⟨avs rfl rfl h5 rfl, trivial⟩ ?_
 intro a29 s30 he hf hz hd1 h3; have hd := hd1.trans hd; obtain ⟨h0, h2⟩ := ea2 hf h0 h2 rfl; obtain ⟨B1, B15⟩ := bx2 he B1 B15; obtain ⟨c26, c27, c28⟩ := vm3 he c26 c27 c28; have E := E.trans (Chg.of_ext he); refine wp_sr ?_; refine sq_blk [⟨6, _, []⟩, ⟨7, _, []⟩] [0, 1] hz rfl ⟨mvs rfl rfl h3 rfl, mes rfl rfl h0 rfl, trivial⟩ ?_; intro a31 s32 he hf hz hd1 h6 h7; have hd := hd1.trans hd; have h2 := (hf 2 rfl).trans h2; obtain ⟨B1, B15⟩ := bx2 he B1 B15; obtain ⟨c26, c27, c28⟩ := vm3 he c26 c27 c28; have E := E.trans (Chg.of_ext he); refine sq_set hz rfl rfl rfl (op_call rfl (argc h7 rfl) (Cl.mono (order_reader_number.ok ⟨_, B1, (kReader_eta (x := (order_reader_text x0).1) c26 c27 c28)⟩) (fun v s34 hR => fun a33 hd' hf hz hd1 => ?_))); obtain ⟨he, H35, hv⟩ := hR; have hd := hd1.trans hd; have h6 := V_at h6 he (hf 6 rfl); have h2 := (hf 2 rfl).trans h2; have B15 := B15.chg he (fun e => n15_1 e); have E := Chg.chg E he (fun b e h => (fun e => by cases e; exact rfl) e); obtain ⟨e36, B1, r37⟩ := H35; obtain ⟨u38, u39, u40, rfl, c41, c42, c43⟩ := kReader_open r37; have h8 := V_eq hd' hv; refine sq_blk [⟨9, _, []⟩] [0] hz rfl ⟨(fun a s he hf hz => opw rfl (op_build rfl bt_70 (ps := [(0, [(a.get 6)]), (1, [(a.get 8)])]) ⟨rfl, V_cells1 (s := s) rfl (V_at h6 he (hf 6 rfl)), rfl, V_cells1 (s := s) rfl (V_at h8 he (hf 8 rfl)), trivial⟩ rfl (f := Fact.v kDot (⟨(order_reader_text x0).2, (order_reader_number ((order_reader_text x0).1)).2⟩ : Dot)) (V_mk rfl (kDot_close (V_at h6 he (hf 6 rfl)) (V_at h8 he (hf 8 rfl)))))), trivial⟩ ?_
 intro a44 s45 he hf hz hd1 h9; have hd := hd1.trans hd; have h2 := (hf 2 rfl).trans h2; obtain ⟨B1, B15⟩ := bx2 he B1 B15; obtain ⟨c41, c42, c43⟩ := vm3 he c41 c42 c43; have E := E.trans (Chg.of_ext he); refine sq_do rfl rfl (op_storen rfl ty_70 rfl h2 B15 h9 rfl (fun s47 e48 he B15n r49 => ?_)); have B1 := B1.chg he (fun e => (Ne.symm n15_1) e); obtain ⟨c41, c42, c43⟩ := vm3 he c41 c42 c43; have E := Chg.chg E he (fun b e h => (fun e => absurd h (by cases e; exact Nat.not_lt.2 l15)) e); obtain ⟨u50, u51, rfl, c52, c53⟩ := kDot_open r49; have B15 : Bx s47 b15 70 [u50, u51] := B15n; refine wp_ret ?_; cases h
 exact ⟨hd, _, results_cell (es := [u50, u51]) rfl (agg := true) ty_70 (by simp) h2 B15, E, ⟨_, B1, (kReader_eta (x := (order_reader_number ((order_reader_text x0).1)).1) c41 c42 c43)⟩, (V_mk rfl (kDot_close c52 c53))⟩
def ref08_taker_dot (x0 : Taker8) : Taker8 × Dot := ((ref08_taker_number ((ref08_taker_text x0 24).1) 4611686018427387904).1, (⟨(ref08_taker_text x0 24).2, (ref08_taker_number ((ref08_taker_text x0 24).1) 4611686018427387904).2⟩ : Dot))
theorem ref08_taker_dot.ok {s0 : St} {b1 : Nat} {x0 : Taker8} (H0 : Hd s0 b1 169 kTaker8 x0) : Cl Try.prog 135 #[.pointer (some ⟨b1, 0, none⟩)] s0 (Okt (fun b => b = b1) s0 (fun t v => Hd t b1 169 kTaker8 ((ref08_taker_dot x0).1) ∧ (Fact.v kDot ((ref08_taker_dot x0).2)).φ t v)) := by
 obtain ⟨r, h⟩ : ∃ r, some (ref08_taker_dot x0) = some r := ⟨_, rfl⟩
 rw [Option.some.inj h]
 have h : (some ((ref08_taker_number ((ref08_taker_text x0 24).1) 4611686018427387904).1, (⟨(ref08_taker_text x0 24).2, (ref08_taker_number ((ref08_taker_text x0 24).1) 4611686018427387904).2⟩ : Dot))) = some r := by rw [← h]; unfold ref08_taker_dot; first | rfl | simp only [apply_ite some] | (repeat' (first | rfl | split))
 refine cl_of_wp Try.func135 rfl en_135 fun a hz hd hp => ?_; have hz : a.tmps.size = 10 := hz; have E := Chg.refl (fun b => b = b1) s0; obtain ⟨e2, B1, r3⟩ := H0; obtain ⟨u4, u5, u6, rfl, c7, c8, c9⟩ := kTaker8_open r3; have h0 : a.get 0 = .pointer (some ⟨b1, 0, none⟩) := hp 0 _ rfl; refine wp_sr ?_; refine sq_set hz rfl rfl rfl (op_alloc (cs := [.string ⟨#[]⟩, .int .i64 0]) rfl zv_70 rfl (fun s11 he BB12 => fun a10 h2 hf hz hd1 => ?_)); obtain ⟨b15, hb15⟩ : ∃ b, b = s0.w.heap.size := ⟨_, rfl⟩; rw [← hb15] at BB12 h2; have B15 := BB12; have l15 : s0.w.heap.size ≤ b15 := by have := E.size; omega
 have n15_1 : b15 ≠ b1 := by have := B1.lt; omega
 have hd := hd1.trans hd; have h0 := (hf 0 rfl).trans h0; have B1 := B1.ext he; obtain ⟨c7, c8, c9⟩ := vm3 he c7 c8 c9; have E := E.trans (Chg.of_ext he); have c13 : kS.V s11 (.string ⟨#[]⟩) ([] : Str) := s_0; have c14 : (kI .i64).V s11 (.int .i64 0) 0 := i0; refine wp_sr ?_; refine sq_blk [⟨4, _, []⟩] [0] hz rfl ⟨mes rfl rfl h0 rfl, trivial⟩ ?_; intro a16 s17 he hf hz hd1 h4; have hd := hd1.trans hd; obtain ⟨h0, h2⟩ := ea2 hf h0 h2 rfl; obtain ⟨B1, B15⟩ := bx2 he B1 B15; obtain ⟨c7, c8, c9⟩ := vm3 he c7 c8 c9; have E := E.trans (Chg.of_ext he); refine sq_set hz rfl rfl rfl (op_call rfl (argc h4 (argc rfl rfl)) (Cl.mono (ref08_taker_text.ok ⟨_, B1, (kTaker8_eta (x := x0) c7 c8 c9)⟩ (lit_i (k := .i64) (n := 24) (by decide))) (fun v s19 hR => fun a18 hd' hf hz hd1 => ?_))); obtain ⟨he, H20, hv⟩ := hR; have hd := hd1.trans hd; obtain ⟨h0, h2⟩ := ea2 hf h0 h2 rfl; have B15 := B15.chg he (fun e => n15_1 e); have E := Chg.chg E he (fun b e h => (fun e => by cases e; exact rfl) e); obtain ⟨e21, B1, r22⟩ := H20; obtain ⟨u23, u24, u25, rfl, c26, c27, c28⟩ := kTaker8_open r22
 have h5 := V_eq hd' hv; refine sq_blk [⟨3, _, []⟩] [0] hz rfl ⟨avs rfl rfl h5 rfl, trivial⟩ ?_; intro a29 s30 he hf hz hd1 h3; have hd := hd1.trans hd; obtain ⟨h0, h2⟩ := ea2 hf h0 h2 rfl; obtain ⟨B1, B15⟩ := bx2 he B1 B15; obtain ⟨c26, c27, c28⟩ := vm3 he c26 c27 c28; have E := E.trans (Chg.of_ext he); refine wp_sr ?_; refine sq_blk [⟨6, _, []⟩, ⟨7, _, []⟩] [0, 1] hz rfl ⟨mvs rfl rfl h3 rfl, mes rfl rfl h0 rfl, trivial⟩ ?_; intro a31 s32 he hf hz hd1 h6 h7; have hd := hd1.trans hd; have h2 := (hf 2 rfl).trans h2; obtain ⟨B1, B15⟩ := bx2 he B1 B15; obtain ⟨c26, c27, c28⟩ := vm3 he c26 c27 c28; have E := E.trans (Chg.of_ext he); refine sq_set hz rfl rfl rfl (op_call rfl (argc h7 (argc rfl rfl)) (Cl.mono (ref08_taker_number.ok ⟨_, B1, (kTaker8_eta (x := (ref08_taker_text x0 24).1) c26 c27 c28)⟩ (lit_i (k := .u64) (n := 4611686018427387904) (by decide))) (fun v s34 hR => fun a33 hd' hf hz hd1 => ?_))); obtain ⟨he, H35, hv⟩ := hR; have hd := hd1.trans hd; have h6 := V_at h6 he (hf 6 rfl); have h2 := (hf 2 rfl).trans h2; have B15 := B15.chg he (fun e => n15_1 e)
 have E := Chg.chg E he (fun b e h => (fun e => by cases e; exact rfl) e); obtain ⟨e36, B1, r37⟩ := H35; obtain ⟨u38, u39, u40, rfl, c41, c42, c43⟩ := kTaker8_open r37; have h8 := V_eq hd' hv; refine sq_blk [⟨9, _, []⟩] [0] hz rfl ⟨(fun a s he hf hz => opw rfl (op_build rfl bt_70 (ps := [(0, [(a.get 6)]), (1, [(a.get 8)])]) ⟨rfl, V_cells1 (s := s) rfl (V_at h6 he (hf 6 rfl)), rfl, V_cells1 (s := s) rfl (V_at h8 he (hf 8 rfl)), trivial⟩ rfl (f := Fact.v kDot (⟨(ref08_taker_text x0 24).2, (ref08_taker_number ((ref08_taker_text x0 24).1) 4611686018427387904).2⟩ : Dot)) (V_mk rfl (kDot_close (V_at h6 he (hf 6 rfl)) (V_at h8 he (hf 8 rfl)))))), trivial⟩ ?_; intro a44 s45 he hf hz hd1 h9; have hd := hd1.trans hd; have h2 := (hf 2 rfl).trans h2; obtain ⟨B1, B15⟩ := bx2 he B1 B15; obtain ⟨c41, c42, c43⟩ := vm3 he c41 c42 c43; have E := E.trans (Chg.of_ext he); refine sq_do rfl rfl (op_storen rfl ty_70 rfl h2 B15 h9 rfl (fun s47 e48 he B15n r49 => ?_)); have B1 := B1.chg he (fun e => (Ne.symm n15_1) e); obtain ⟨c41, c42, c43⟩ := vm3 he c41 c42 c43; have E := Chg.chg E he (fun b e h => (fun e => absurd h (by cases e; exact Nat.not_lt.2 l15)) e)
 obtain ⟨u50, u51, rfl, c52, c53⟩ := kDot_open r49; have B15 : Bx s47 b15 70 [u50, u51] := B15n; refine wp_ret ?_; cases h
 exact ⟨hd, _, results_cell (es := [u50, u51]) rfl (agg := true) ty_70 (by simp) h2 B15, E, ⟨_, B1, (kTaker8_eta (x := (ref08_taker_number ((ref08_taker_text x0 24).1) 4611686018427387904).1) c41 c42 c43)⟩, (V_mk rfl (kDot_close c52 c53))⟩
end
section
attribute [local irreducible] Kn.V PtrV
def numM (most : Nat) (x : Str) : Option (Nat × Str) := (readN x).bind fun p => if most < p.1 then none else some p
def readD (w : Int) (x : Str) : Option (Dot × Str) := (readT w x).bind fun p => (numM 4611686018427387904 p.2).bind fun q => some (⟨p.1, (q.1 : Int)⟩, q.2)
def readS (w : Int) : Nat → Str → Option (List Dot × Str)
 | 0, x => some ([], x)
 | n + 1, x => (readD w x).bind fun p => (readS w n p.2).bind fun q => some (p.1 :: q.1, q.2)
def readO (x : Str) : Option (Op × Str) := (readD 32 x).bind fun d => (readV d.2).bind fun v => (readT 32 v.2).bind fun c => (readT 32 c.2).bind fun i =>
 (numM 4611686018427387904 i.2).bind fun k => (numM 4611686018427387904 k.2).bind fun q => (numM 4611686018427387904 q.2).bind fun m => if 3 < k.1 ∨ 128 < m.1 then none else (readS 32 m.1 m.2).bind fun s => some (⟨d.1, v.1, c.1, (k.1 : Int), i.1, (q.1 : Int), s.1⟩, s.2)
def readO2 (x : Str) : Option (Op × Str) := (readD 24 x).bind fun d => (readV d.2).bind fun v => (readT 32 v.2).bind fun c => (readT 32 c.2).bind fun i =>
 (numM 3 i.2).bind fun k => (numM 9999 k.2).bind fun q => (numM 128 q.2).bind fun m => (readS 24 m.1 m.2).bind fun s => some (⟨d.1, v.1, c.1, (k.1 : Int), i.1, (q.1 : Int), s.1⟩, s.2)
def zOp : Op := ⟨⟨[], 0⟩, [], [], 0, [], 0, []⟩
def parseO (x : Str) : Op × Int := match readO x with
 | none => (zOp, 80)
 | some (o, r) => if r = [] ∧ rightO o = true then (o, 0) else (zOp, 80)
theorem numM_lays {most : Nat} {x r : Str} {n : Nat} (h : numM most x = some (n, r)) : x = numB n ++ r ∧ n ≤ most := by
 unfold numM at h
 cases e : readN x with
 | none => rw [e] at h; cases h
 | some p =>
  rw [e] at h
  simp only [Option.bind_some] at h
  split at h
  ·cases h
  ·rename_i hc
   cases h
   exact ⟨(readN_lays e).1, by omega⟩
theorem numM_laid {most : Nat} (n : Nat) (hn : n ≤ most) (hm : most ≤ 4611686018427387904) (r : Str) : numM most (numB n ++ r) = some (n, r) := by
 unfold numM
 rw [readN_laid n (by omega)]
 simp only [Option.bind_some]
 rw [if_neg (by omega)]
theorem readD_lays {w : Int} {x r : Str} {d : Dot} (h : readD w x = some (d, r)) : x = dotB d ++ r ∧ (d.who.length : Int) ≤ w ∧ 0 ≤ d.n ∧ d.n ≤ 4611686018427387904 := by
 unfold readD at h
 cases e : readT w x with
 | none => rw [e] at h; cases h
 | some p =>
  rw [e] at h
  simp only [Option.bind_some] at h
  cases e2 : numM 4611686018427387904 p.2 with
  | none => rw [e2] at h; cases h
  | some q =>
   rw [e2] at h
   cases h
   obtain ⟨h1, h2, _⟩ := readT_lays (y := p.1) (r := p.2) e
   obtain ⟨h3, h4⟩ := numM_lays (n := q.1) (r := q.2) e2
   refine ⟨?_, by simp only []; omega, by simp only []; omega, by simp only []; omega⟩
   rw [h1, h3]
   simp only [dotB, Int.toNat_natCast, List.append_assoc]
theorem readD_laid {w : Int} {d : Dot} (h1 : (d.who.length : Int) ≤ w) (h0 : w ≤ 100) (h2 : 0 ≤ d.n) (h3 : d.n ≤ 4611686018427387904) (r : Str) : readD w (dotB d ++ r) = some (d, r) := by
 unfold readD dotB
 rw [show numB d.who.length ++ d.who ++ numB d.n.toNat ++ r = numB d.who.length ++ d.who ++ (numB d.n.toNat ++ r) from by simp only [List.append_assoc], readT_laid (by omega) (by omega)]
 simp only [Option.bind_some]
 rw [numM_laid _ (by omega) (by decide)]
 simp only [Option.bind_some]
 rw [Int.toNat_of_nonneg h2]
theorem dot_parts {d : Dot} (h : vector_isDot d = true) : d.who.length ≤ 24 ∧ 1 ≤ d.n ∧ d.n ≤ 4611686018427387904 := by
 unfold vector_isDot isName at h
 simp only [Bool.and_eq_true, decide_eq_true_eq] at h
 omega
theorem readS_lays {w : Int} : ∀ {n : Nat} {x r : Str} {l : List Dot}, readS w n x = some (l, r) → x = (l.map dotB).flatten ++ r ∧ l.length = n
 | 0, x, r, l, h => by cases h; exact ⟨rfl, rfl⟩
 | n + 1, x, r, l, h => by
  unfold readS at h
  cases e : readD w x with
  | none => rw [e] at h; cases h
  | some p =>
   rw [e] at h
   simp only [Option.bind_some] at h
   cases e2 : readS w n p.2 with
   | none => rw [e2] at h; cases h
   | some q =>
    rw [e2] at h
    cases h
    obtain ⟨h1, _⟩ := readD_lays (d := p.1) (r := p.2) e
    obtain ⟨h2, h3⟩ := readS_lays (l := q.1) (r := q.2) e2
    refine ⟨?_, by rw [List.length_cons, h3]⟩
    rw [h1, h2, List.map_cons, List.flatten_cons, List.append_assoc]
theorem readS_laid {w : Int} (hw : 24 ≤ w) (hw' : w ≤ 100) : ∀ {l : List Dot} (_ : ∀ d ∈ l, vector_isDot d = true) (r : Str), readS w l.length ((l.map dotB).flatten ++ r) = some (l, r)
 | [], _, r => rfl
 | d :: l, h, r => by
  obtain ⟨h1, h2, h3⟩ := dot_parts (h d (by simp))
  simp only [List.length_cons, readS, List.map_cons, List.flatten_cons, List.append_assoc]
  rw [readD_laid (by omega) hw' (by omega) h3]
  simp only [Option.bind_some]
  rw [readS_laid hw hw' (fun e he => h e (by simp [he]))]
  rfl
theorem readDots_lays : ∀ {n : Nat} {x r : Str} {l : List Dot}, readDots n x = some (l, r) → x = (l.map dotB).flatten ++ r ∧ l.length = n
 | 0, x, r, l, h => by cases h; exact ⟨rfl, rfl⟩
 | n + 1, x, r, l, h => by
  unfold readDots at h
  cases e : readT 24 x with
  | none => rw [e] at h; cases h
  | some p =>
   obtain ⟨w, q⟩ := p
   rw [e] at h
   simp only [] at h
   cases e2 : readN q with
   | none => rw [e2] at h; cases h
   | some p2 =>
    obtain ⟨m, q2⟩ := p2
    rw [e2] at h
    simp only [] at h
    split at h
    ·cases h
    ·cases e3 : readDots n q2 with
     | none => rw [e3] at h; cases h
     | some p3 =>
      obtain ⟨l3, q3⟩ := p3
      rw [e3] at h
      cases h
      obtain ⟨h1, _, _⟩ := readT_lays e
      obtain ⟨h2, _⟩ := readN_lays e2
      obtain ⟨h3, h4⟩ := readDots_lays e3
      refine ⟨?_, by rw [List.length_cons, h4]⟩
      rw [h1, h2, h3, List.map_cons, List.flatten_cons]
      simp only [dotB, Int.toNat_natCast, List.append_assoc]
theorem readDots_laid : ∀ {l : List Dot} (_ : ∀ d ∈ l, vector_isDot d = true) (r : Str), readDots l.length ((l.map dotB).flatten ++ r) = some (l, r)
 | [], _, r => rfl
 | d :: l, h, r => by
  obtain ⟨h1, h2, h3⟩ := dot_parts (h d (by simp))
  simp only [List.length_cons, readDots, List.map_cons, List.flatten_cons]
  rw [show dotB d ++ (l.map dotB).flatten ++ r = numB d.who.length ++ d.who ++ (numB d.n.toNat ++ ((l.map dotB).flatten ++ r)) from by simp only [dotB, List.append_assoc], readT_laid (by omega) (by omega)]
  simp only []
  rw [readN_laid _ (by omega)]
  simp only []
  rw [if_neg (by omega), readDots_laid (fun e he => h e (by simp [he]))]
  simp only []
  rw [Int.toNat_of_nonneg (by omega)]
theorem chainP_dots : ∀ (l : List Dot) (p : Str), chainP p l = true → ∀ d ∈ l, vector_isDot d = true
 | [], _, _, _, h => by simp at h
 | e :: l, p, hc, d, hd => by
  simp only [chainP, Bool.and_eq_true] at hc
  rcases List.mem_cons.1 hd with rfl | hd
  ·exact hc.1.1
  ·exact chainP_dots l e.who hc.2 d hd
theorem rightV_dots {l : List Dot} (h : rightV l = true) : l.length ≤ 64 ∧ ∀ d ∈ l, vector_isDot d = true := by
 unfold rightV at h
 simp only [Bool.and_eq_true, decide_eq_true_eq] at h
 rw [← chainP_nil] at h
 exact ⟨h.1, chainP_dots l [] h.2⟩
theorem readV_lays {x r : Str} {l : List Dot} (h : readV x = some (l, r)) : x = vecB l ++ r ∧ rightV l = true := by
 unfold readV at h
 cases e : readN x with
 | none => rw [e] at h; cases h
 | some p =>
  obtain ⟨n, q⟩ := p
  rw [e] at h
  simp only [] at h
  split at h
  ·cases h
  ·cases e2 : readDots n q with
   | none => rw [e2] at h; cases h
   | some p2 =>
    obtain ⟨l2, q2⟩ := p2
    rw [e2] at h
    simp only [] at h
    split at h
    ·rename_i hr
     cases h
     obtain ⟨h1, _⟩ := readN_lays e
     obtain ⟨h2, h3⟩ := readDots_lays e2
     refine ⟨?_, hr⟩
     rw [h1, h2, vecB, h3, List.append_assoc]
    ·cases h
theorem readV_laid {l : List Dot} (h : rightV l = true) (r : Str) : readV (vecB l ++ r) = some (l, r) := by
 obtain ⟨h1, h2⟩ := rightV_dots h
 unfold readV vecB
 rw [List.append_assoc, readN_laid _ (by omega)]
 simp only []
 rw [if_neg (by omega), readDots_laid h2]
 simp only []
 rw [if_pos h]
theorem readO_lays {x r : Str} {o : Op} (h : readO x = some (o, r)) : x = opB o ++ r := by
 unfold readO at h
 cases e1 : readD 32 x with
 | none => rw [e1] at h; cases h
 | some d =>
  rw [e1] at h; simp only [Option.bind_some] at h
  cases e2 : readV d.2 with
  | none => rw [e2] at h; cases h
  | some v =>
   rw [e2] at h; simp only [Option.bind_some] at h
   cases e3 : readT 32 v.2 with
   | none => rw [e3] at h; cases h
   | some c =>
    rw [e3] at h; simp only [Option.bind_some] at h
    cases e4 : readT 32 c.2 with
    | none => rw [e4] at h; cases h
    | some i =>
     rw [e4] at h; simp only [Option.bind_some] at h
     cases e5 : numM 4611686018427387904 i.2 with
     | none => rw [e5] at h; cases h
     | some k =>
      rw [e5] at h; simp only [Option.bind_some] at h
      cases e6 : numM 4611686018427387904 k.2 with
      | none => rw [e6] at h; cases h
      | some q =>
       rw [e6] at h; simp only [Option.bind_some] at h
       cases e7 : numM 4611686018427387904 q.2 with
       | none => rw [e7] at h; cases h
       | some m =>
        rw [e7] at h; simp only [Option.bind_some] at h
        split at h
        ·cases h
        ·cases e8 : readS 32 m.1 m.2 with
         | none => rw [e8] at h; cases h
         | some s =>
          rw [e8] at h; cases h
          have g1 := (readD_lays (d := d.1) (r := d.2) e1).1
          have g2 := (readV_lays (l := v.1) (r := v.2) e2).1
          have g3 := (readT_lays (y := c.1) (r := c.2) e3).1
          have g4 := (readT_lays (y := i.1) (r := i.2) e4).1
          have g5 := (numM_lays (n := k.1) (r := k.2) e5).1
          have g6 := (numM_lays (n := q.1) (r := q.2) e6).1
          have g7 := (numM_lays (n := m.1) (r := m.2) e7).1
          obtain ⟨g8, g9⟩ := readS_lays (l := s.1) (r := s.2) e8
          rw [g1, g2, g3, g4, g5, g6, g7, g8]
          simp only [opB, opH, opN, textB, Int.toNat_natCast, g9, List.append_assoc]
theorem readO_laid {o : Op} (h : rightO o = true) (r : Str) : readO (opB o ++ r) = some (o, r) := by
 obtain ⟨h1, h2, h3, h4, h5, h6, h7, h8⟩ := rightO_parts h
 obtain ⟨d1, d2, d3⟩ := dot_parts h1
 unfold readO
 rw [show opB o ++ r = dotB o.dot ++ (vecB o.deps ++ (numB o.cart.length ++ o.cart ++ (numB o.item.length ++ o.item ++ (numB o.kind.toNat ++ (numB o.qty.toNat ++ (numB o.seen.length ++ ((o.seen.map dotB).flatten ++ r))))))) from by simp only [opB, opH, opN, textB, List.append_assoc]]
 rw [readD_laid (by omega) (by decide) (by omega) d3]; simp only [Option.bind_some]
 rw [readV_laid h2]; simp only [Option.bind_some]
 rw [readT_laid (by omega) (by omega)]; simp only [Option.bind_some]
 rw [readT_laid (by omega) (by omega)]; simp only [Option.bind_some]
 rw [numM_laid _ (by omega) (by decide)]; simp only [Option.bind_some]
 rw [numM_laid _ (by omega) (by decide)]; simp only [Option.bind_some]
 rw [numM_laid _ (by omega) (by decide)]; simp only [Option.bind_some]
 rw [if_neg (by omega), readS_laid (by decide) (by decide) h6]; simp only [Option.bind_some]
 rw [Int.toNat_of_nonneg (by omega), Int.toNat_of_nonneg (by omega)]
theorem readO2_lays {x r : Str} {o : Op} (h : readO2 x = some (o, r)) : x = opB o ++ r := by
 unfold readO2 at h
 cases e1 : readD 24 x with
 | none => rw [e1] at h; cases h
 | some d =>
  rw [e1] at h; simp only [Option.bind_some] at h
  cases e2 : readV d.2 with
  | none => rw [e2] at h; cases h
  | some v =>
   rw [e2] at h; simp only [Option.bind_some] at h
   cases e3 : readT 32 v.2 with
   | none => rw [e3] at h; cases h
   | some c =>
    rw [e3] at h; simp only [Option.bind_some] at h
    cases e4 : readT 32 c.2 with
    | none => rw [e4] at h; cases h
    | some i =>
     rw [e4] at h; simp only [Option.bind_some] at h
     cases e5 : numM 3 i.2 with
     | none => rw [e5] at h; cases h
     | some k =>
      rw [e5] at h; simp only [Option.bind_some] at h
      cases e6 : numM 9999 k.2 with
      | none => rw [e6] at h; cases h
      | some q =>
       rw [e6] at h; simp only [Option.bind_some] at h
       cases e7 : numM 128 q.2 with
       | none => rw [e7] at h; cases h
       | some m =>
        rw [e7] at h; simp only [Option.bind_some] at h
        cases e8 : readS 24 m.1 m.2 with
        | none => rw [e8] at h; cases h
        | some s =>
         rw [e8] at h; cases h
         have g1 := (readD_lays (d := d.1) (r := d.2) e1).1
         have g2 := (readV_lays (l := v.1) (r := v.2) e2).1
         have g3 := (readT_lays (y := c.1) (r := c.2) e3).1
         have g4 := (readT_lays (y := i.1) (r := i.2) e4).1
         have g5 := (numM_lays (n := k.1) (r := k.2) e5).1
         have g6 := (numM_lays (n := q.1) (r := q.2) e6).1
         have g7 := (numM_lays (n := m.1) (r := m.2) e7).1
         obtain ⟨g8, g9⟩ := readS_lays (l := s.1) (r := s.2) e8
         rw [g1, g2, g3, g4, g5, g6, g7, g8]
         simp only [opB, opH, opN, textB, Int.toNat_natCast, g9, List.append_assoc]
theorem readO2_laid {o : Op} (h : rightO o = true) (r : Str) : readO2 (opB o ++ r) = some (o, r) := by
 obtain ⟨h1, h2, h3, h4, h5, h6, h7, h8⟩ := rightO_parts h
 obtain ⟨d1, d2, d3⟩ := dot_parts h1
 unfold readO2
 rw [show opB o ++ r = dotB o.dot ++ (vecB o.deps ++ (numB o.cart.length ++ o.cart ++ (numB o.item.length ++ o.item ++ (numB o.kind.toNat ++ (numB o.qty.toNat ++ (numB o.seen.length ++ ((o.seen.map dotB).flatten ++ r))))))) from by simp only [opB, opH, opN, textB, List.append_assoc]]
 rw [readD_laid (by omega) (by decide) (by omega) d3]; simp only [Option.bind_some]
 rw [readV_laid h2]; simp only [Option.bind_some]
 rw [readT_laid (by omega) (by omega)]; simp only [Option.bind_some]
 rw [readT_laid (by omega) (by omega)]; simp only [Option.bind_some]
 rw [numM_laid _ (by omega) (by decide)]; simp only [Option.bind_some]
 rw [numM_laid _ (by omega) (by decide)]; simp only [Option.bind_some]
 rw [numM_laid _ (by omega) (by decide)]; simp only [Option.bind_some]
 rw [readS_laid (by decide) (by decide) h6]; simp only [Option.bind_some]
 rw [Int.toNat_of_nonneg (by omega), Int.toNat_of_nonneg (by omega)]
theorem parseO_laid {o : Op} (h : rightO o = true) : parseO (opB o) = (o, 0) := by
 have := readO_laid h []
 rw [List.append_nil] at this
 unfold parseO
 rw [this]
 simp only []
 rw [if_pos ⟨trivial, h⟩]
theorem parseO_lays {x : Str} {o : Op} {e : Int} (h : parseO x = (o, e)) : (e = 0 ∧ rightO o = true ∧ opB o = x) ∨ (e = 80 ∧ o = zOp ∧ ∀ p, rightO p = true → opB p ≠ x) := by
 by_cases hx : ∃ p, rightO p = true ∧ opB p = x
 ·obtain ⟨p, h1, h2⟩ := hx
  subst h2
  rw [parseO_laid h1] at h
  cases h
  exact .inl ⟨rfl, h1, rfl⟩
 ·refine .inr ?_
  have hn : ∀ p, rightO p = true → opB p ≠ x := fun p h1 h2 => hx ⟨p, h1, h2⟩
  unfold parseO at h
  split at h
  ·cases h; exact ⟨rfl, rfl, hn⟩
  ·rename_i o' r hr
   split at h
   ·rename_i hc
    have := readO_lays hr
    rw [hc.1, List.append_nil] at this
    exact absurd this.symm (hn _ hc.2)
   ·cases h; exact ⟨rfl, rfl, hn⟩
def parseO2 (x : Str) : Op × Int := match readO2 x with
 | none => (zOp, 80)
 | some (o, r) => if r = [] ∧ rightO o = true then (o, 0) else (zOp, 80)
theorem parseO2_laid {o : Op} (h : rightO o = true) : parseO2 (opB o) = (o, 0) := by
 have := readO2_laid h []
 rw [List.append_nil] at this
 unfold parseO2
 rw [this]
 simp only []
 rw [if_pos ⟨trivial, h⟩]
theorem parseO2_lays {x : Str} {o : Op} {e : Int} (h : parseO2 x = (o, e)) : (e = 0 ∧ rightO o = true ∧ opB o = x) ∨ (e = 80 ∧ o = zOp ∧ ∀ p, rightO p = true → opB p ≠ x) := by
 by_cases hx : ∃ p, rightO p = true ∧ opB p = x
 ·obtain ⟨p, h1, h2⟩ := hx
  subst h2
  rw [parseO2_laid h1] at h
  cases h
  exact .inl ⟨rfl, h1, rfl⟩
 ·refine .inr ?_
  have hn : ∀ p, rightO p = true → opB p ≠ x := fun p h1 h2 => hx ⟨p, h1, h2⟩
  unfold parseO2 at h
  split at h
  ·cases h; exact ⟨rfl, rfl, hn⟩
  ·rename_i o' r hr
   split at h
   ·rename_i hc
    have := readO2_lays hr
    rw [hc.1, List.append_nil] at this
    exact absurd this.symm (hn _ hc.2)
   ·cases h; exact ⟨rfl, rfl, hn⟩
theorem parseO_eq (x : Str) : parseO2 x = parseO x := by
 rcases parseO_lays (x := x) (o := (parseO x).1) (e := (parseO x).2) rfl with ⟨h1, h2, h3⟩ | ⟨h1, h2, h3⟩
 ·have := parseO2_laid h2
  rw [h3] at this
  rw [this, ← h1]
 ·rcases parseO2_lays (x := x) (o := (parseO2 x).1) (e := (parseO2 x).2) rfl with ⟨g1, g2, g3⟩ | ⟨g1, g2, g3⟩
  ·exact absurd g3 (h3 _ g2)
  ·exact Prod.ext (g2.trans h2.symm) (g1.trans h1.symm)
end
section
attribute [local irreducible] Kn.V PtrV
theorem numM_sfx {most : Nat} {x r : Str} {n : Nat} (h : numM most x = some (n, r)) : r <:+ x := ⟨numB n, (numM_lays h).1.symm⟩
theorem readD_sfx {w : Int} {x r : Str} {d : Dot} (h : readD w x = some (d, r)) : r <:+ x := ⟨dotB d, (readD_lays h).1.symm⟩
theorem readV_sfx {x r : Str} {l : List Dot} (h : readV x = some (l, r)) : r <:+ x := ⟨vecB l, (readV_lays h).1.symm⟩
theorem takeV_sfx {r b : Str} (h : r <:+ b) : takeV b ((b.length : Int) - r.length) = match readV r with
  | none => ([], 0, 70)
  | some (l, q) => (l, (b.length : Int) - q.length, 0) := by
 rw [sfx_at h]
 unfold takeV
 rw [if_neg (by omega), Int.toNat_natCast, sfx_drop h] <;> rfl
theorem rdT {b r : Str} (h : r <:+ b) : order_reader_text ⟨b, (b.length : Int) - r.length, false⟩ = match readT 32 r with
  | none => (⟨b, (b.length : Int) - r.length, true⟩, [])
  | some (x, q) => (⟨b, (b.length : Int) - q.length, false⟩, x) := by
 unfold order_reader_text
 simp only [takeT_sfx 32 h]
 cases readT 32 r with
 | none => simp
 | some p => simp
theorem rdN {b r : Str} (h : r <:+ b) : order_reader_number ⟨b, (b.length : Int) - r.length, false⟩ = match numM 4611686018427387904 r with
  | none => (⟨b, (b.length : Int) - r.length, true⟩, 0)
  | some (n, q) => (⟨b, (b.length : Int) - q.length, false⟩, (n : Int)) := by
 unfold order_reader_number numM
 simp only [takeN_sfx h]
 cases readN r with
 | none => simp
 | some p =>
  obtain ⟨n, q⟩ := p
  simp only [Option.bind_some]
  by_cases hn : 4611686018427387904 < n
  ·have h2 : (4611686018427387904 : Int) < (n : Int) := by omega
   rw [if_pos hn]; simp [h2]
  ·have h2 : ¬ (4611686018427387904 : Int) < (n : Int) := by omega
   rw [if_neg hn]; simp [h2]; exact w64 (by omega) (by omega)
theorem rdT_bad (b : Str) (i : Int) : order_reader_text ⟨b, i, true⟩ = (⟨b, i, true⟩, []) := by unfold order_reader_text; simp
theorem rdN_bad (b : Str) (i : Int) : order_reader_number ⟨b, i, true⟩ = (⟨b, i, true⟩, 0) := by unfold order_reader_number; simp
theorem rdD_bad (b : Str) (i : Int) : order_reader_dot ⟨b, i, true⟩ = (⟨b, i, true⟩, ⟨[], 0⟩) := by unfold order_reader_dot; simp only [rdT_bad, rdN_bad]
theorem rdD {b r : Str} (h : r <:+ b) : (∃ i w, readD 32 r = none ∧ order_reader_dot ⟨b, (b.length : Int) - r.length, false⟩ = (⟨b, i, true⟩, w)) ∨ (∃ d q, readD 32 r = some (d, q) ∧ order_reader_dot ⟨b, (b.length : Int) - r.length, false⟩ = (⟨b, (b.length : Int) - q.length, false⟩, d)) := by
 unfold order_reader_dot readD
 have h1 := rdT h
 cases e : readT 32 r with
 | none => rw [e] at h1; simp only [] at h1; left; rw [h1]; simp only [rdN_bad]; exact ⟨_, _, rfl, rfl⟩
 | some p =>
  obtain ⟨x, q⟩ := p
  rw [e] at h1; simp only [] at h1
  have h2 := rdN ((readT_sfx e).trans h)
  simp only [Option.bind_some]
  cases e2 : numM 4611686018427387904 q with
  | none => rw [e2] at h2; simp only [] at h2; left; rw [h1]; simp only [h2]; exact ⟨_, _, rfl, rfl⟩
  | some p2 =>
   obtain ⟨n, q2⟩ := p2
   rw [e2] at h2; simp only [] at h2; right; rw [h1]; simp only [h2]; exact ⟨_, _, rfl, rfl⟩
theorem tkT {b r : Str} (most : Int) (h : r <:+ b) : ref08_taker_text ⟨b, (b.length : Int) - r.length, true⟩ most = match readT most r with
  | none => (⟨b, (b.length : Int) - r.length, false⟩, [])
  | some (x, q) => (⟨b, (b.length : Int) - q.length, true⟩, x) := by
 unfold ref08_taker_text
 simp only [takeT_sfx most h]
 cases readT most r with
 | none => simp
 | some p => simp
theorem tkN {b r : Str} {m : Nat} (hm : m ≤ 4611686018427387904) (h : r <:+ b) : ref08_taker_number ⟨b, (b.length : Int) - r.length, true⟩ (m : Int) = match numM m r with
  | none => (⟨b, (b.length : Int) - r.length, false⟩, 0)
  | some (n, q) => (⟨b, (b.length : Int) - q.length, true⟩, (n : Int)) := by
 unfold ref08_taker_number numM
 simp only [takeN_sfx h]
 cases readN r with
 | none => simp
 | some p =>
  obtain ⟨n, q⟩ := p
  simp only [Option.bind_some]
  by_cases hn : m < n
  ·have h2 : (m : Int) < (n : Int) := by omega
   rw [if_pos hn]; simp [h2]
  ·have h2 : ¬ (m : Int) < (n : Int) := by omega
   rw [if_neg hn]; simp [h2]; exact w64 (by omega) (by omega)
theorem tkT_bad (b : Str) (i m : Int) : ref08_taker_text ⟨b, i, false⟩ m = (⟨b, i, false⟩, []) := by unfold ref08_taker_text; simp
theorem tkN_bad (b : Str) (i m : Int) : ref08_taker_number ⟨b, i, false⟩ m = (⟨b, i, false⟩, 0) := by unfold ref08_taker_number; simp
theorem tkD {b r : Str} (h : r <:+ b) : (∃ i w, readD 24 r = none ∧ ref08_taker_dot ⟨b, (b.length : Int) - r.length, true⟩ = (⟨b, i, false⟩, w)) ∨ (∃ d q, readD 24 r = some (d, q) ∧ ref08_taker_dot ⟨b, (b.length : Int) - r.length, true⟩ = (⟨b, (b.length : Int) - q.length, true⟩, d)) := by
 unfold ref08_taker_dot readD
 have h1 := tkT 24 h
 cases e : readT 24 r with
 | none => rw [e] at h1; simp only [] at h1; left; rw [h1]; simp only [tkN_bad]; exact ⟨_, _, rfl, rfl⟩
 | some p =>
  obtain ⟨x, q⟩ := p
  rw [e] at h1; simp only [] at h1
  have h2 := tkN (m := 4611686018427387904) (by decide) ((readT_sfx e).trans h)
  simp only [Option.bind_some]
  cases e2 : numM 4611686018427387904 q with
  | none => rw [e2] at h2; simp only [] at h2; left; rw [h1]; simp only; rw [show (4611686018427387904 : Int) = ((4611686018427387904 : Nat) : Int) from rfl, h2]; exact ⟨_, _, rfl, rfl⟩
  | some p2 =>
   obtain ⟨n, q2⟩ := p2
   rw [e2] at h2; simp only [] at h2; right; rw [h1]; simp only; rw [show (4611686018427387904 : Int) = ((4611686018427387904 : Nat) : Int) from rfl, h2]; exact ⟨_, _, rfl, rfl⟩
def order_Read.l0 : Nat → Str → (Reader × Int) → Int → (List UInt8) → Int → Bool → Str → Int → (List Dot) → Str → Int → Str → Int → (List Dot) → Option (Op × Int)
 | 0, _, _, _, _, _, _, _, _, _, _, _, _, _, _ => none
 | m299 + 1, x0, y215, y264, y265, y268, y271, y274, y277, y280, y283, y286, y289, y292, y295 => (if decide (y264 < y215.2) = true then (if (List.length y295 + List.length ([(order_reader_dot (⟨y265, y268, y271⟩ : Reader)).2] : List Dot)) * 24 ≤ 140737488355328 then (order_Read.l0 m299 x0 y215 (IntKind.wrap .i64 (y264 + 1)) ((order_reader_dot (⟨y265, y268, y271⟩ : Reader)).1.b) ((order_reader_dot (⟨y265, y268, y271⟩ : Reader)).1.at_) ((order_reader_dot (⟨y265, y268, y271⟩ : Reader)).1.bad) y274 y277 y280 y283 y286 y289 y292 (y295 ++ ([(order_reader_dot (⟨y265, y268, y271⟩ : Reader)).2] : List Dot))) else none) else (if ((y271 || (!decide (y268 = (x0.length : Int)))) || (!(rightO (⟨(⟨y274, y277⟩ : Dot), y280, y283, y286, y289, y292, y295⟩ : Op)))) = true then (some ((⟨(⟨([] : Str), 0⟩ : Dot), ([] : (List Dot)), ([] : Str), 0, ([] : Str), 0, ([] : (List Dot))⟩ : Op), 80)) else (some ((⟨(⟨y274, y277⟩ : Dot), y280, y283, y286, y289, y292, y295⟩ : Op), 0))))
def order_Read.f (k : Nat) (x0 : Str) : Option (Op × Int) := (bindv (order_reader_dot (⟨x0, 0, false⟩ : Reader)) (fun y38 => (if (y38.1.bad || (!decide (((takeV y38.1.b y38.1.at_).2.2) = 0))) = true then (some ((⟨(⟨([] : Str), 0⟩ : Dot), ([] : (List Dot)), ([] : Str), 0, ([] : Str), 0, ([] : (List Dot))⟩ : Op), 80)) else (bindv (order_reader_text (⟨y38.1.b, (takeV y38.1.b y38.1.at_).2.1, y38.1.bad⟩ : Reader)) (fun y139 => (bindv (order_reader_text y139.1) (fun y153 => (bindv (order_reader_number y153.1) (fun y179 => (bindv (order_reader_number y179.1) (fun y195 => (bindv (order_reader_number y195.1) (fun y215 => (if ((y215.1.bad || (decide (3 < y179.2))) || (decide (128 < y215.2))) = true then (some ((⟨(⟨([] : Str), 0⟩ : Dot), ([] : (List Dot)), ([] : Str), 0, ([] : Str), 0, ([] : (List Dot))⟩ : Op), 80)) else (order_Read.l0 k x0 y215 0 y215.1.b y215.1.at_ y215.1.bad y38.2.who y38.2.n ((takeV y38.1.b y38.1.at_).1) y139.2 y179.2 y153.2 y195.2 ([] : (List Dot)))))))))))))))))
theorem order_Read.ok {s0 : St} {v0 : Value} {x0 : Str} {k : Nat} {r : Op × Int} (k0 : kS.V s0 v0 x0) (h : order_Read.f k x0 = some r) : Cl Try.prog 63 #[v0] s0 (Okf s0 (Fact.tup [Fact.v kOp r.1, Fact.v (kI .i64) r.2])) := by
 unfold order_Read.f at h
 refine cl_of_wp Try.func63 rfl en_63 fun a hz hd hp => ?_; have hz : a.tmps.size = 105 := hz; have E := Chg.refl (fun _ => False) s0; have h0 := V_at k0 E (hp 0 v0 rfl); refine wp_sr ?_; refine sq_set hz rfl rfl rfl (op_alloc (cs := [.string ⟨#[]⟩, .int .i64 0, .slice none 0 0, .string ⟨#[]⟩, .int .i64 0, .string ⟨#[]⟩, .int .i64 0, .slice none 0 0]) rfl zv_72 rfl (fun s2 he BB3 => fun a1 h2 hf hz hd1 => ?_)); obtain ⟨b12, hb12⟩ : ∃ b, b = s0.w.heap.size := ⟨_, rfl⟩; rw [← hb12] at BB3 h2; have B12 := BB3; have l12 : s0.w.heap.size ≤ b12 := by have := E.size; omega
 have ⟨hd, E⟩ := hdE hd1 hd E he; have h0 := V_at h0 he (hf 0 rfl); have c4 : kS.V s2 (.string ⟨#[]⟩) ([] : Str) := s_0; have c5 : (kI .i64).V s2 (.int .i64 0) 0 := i0; have c6 : (kSl kDot).V s2 (.slice none 0 0) ([] : (List Dot)) := (lit_nil (d := kDot)); have c7 : kS.V s2 (.string ⟨#[]⟩) ([] : Str) := s_0; have c8 : (kI .i64).V s2 (.int .i64 0) 0 := i0; have c9 : kS.V s2 (.string ⟨#[]⟩) ([] : Str) := s_0; have c10 : (kI .i64).V s2 (.int .i64 0) 0 := i0; have c11 : (kSl kDot).V s2 (.slice none 0 0) ([] : (List Dot)) := (lit_nil (d := kDot)); have p12_2 : Sp s2 (.slice none 0 0) 70 2 := Spare.nil _ _ _ 0; have f12_2 : ∀ g, sb (.slice none 0 0) = some g → s0.w.heap.size ≤ g ∧ g ≠ b12 := fun g hg => by simp [sb] at hg
 have p12_7 : Sp s2 (.slice none 0 0) 70 2 := Spare.nil _ _ _ 0; have f12_7 : ∀ g, sb (.slice none 0 0) = some g → s0.w.heap.size ≤ g ∧ g ≠ b12 := fun g hg => by simp [sb] at hg
 refine sq_blk [⟨3, _, []⟩] [] hz rfl ⟨(fun a s he hf hz => av rfl rfl i0), trivial⟩ ?_; intro a15 s16 he hf hz hd1; have ⟨hd, E⟩ := hdE hd1 hd E he; have h0 := V_at h0 he (hf 0 rfl); have h2 := (hf 2 rfl).trans h2; have p12_2 := px he p12_2; have p12_7 := px he p12_7; have B12 := B12.ext he; obtain ⟨c4, c5, c6, c7, c8, c9, c10, c11⟩ := vm8 he c4 c5 c6 c7 c8 c9 c10 c11; refine wp_sr ?_; refine sq_blk [⟨11, _, []⟩, ⟨12, _, [0]⟩, ⟨13, _, [1]⟩] [2] hz rfl ⟨mvs rfl rfl h0 rfl, (fun a s he hf hz q0 => opw rfl (op_tobytes rfl u_9 u_53 u_5 q0)), (fun a s he hf hz q1 => opw rfl (op_build rfl bt_147 (ps := [(0, [(a.get 12)])]) ⟨rfl, V_cells1 (s := s) rfl q1, trivial⟩ rfl (f := Fact.v kReader (⟨x0, 0, false⟩ : Reader)) (V_mk rfl (kReader_close q1 i0 b_f)))), trivial⟩ ?_; intro a17 s18 he hf hz hd1 h13; have hd := hd1.trans hd; have h0 := V_at h0 he (hf 0 rfl); have h2 := (hf 2 rfl).trans h2; have p12_2 := px he p12_2; have p12_7 := px he p12_7; have B12 := B12.ext he; obtain ⟨c4, c5, c6, c7, c8, c9, c10, c11⟩ := vm8 he c4 c5 c6 c7 c8 c9 c10 c11
 have E := E.trans he; refine sq_set hz rfl rfl rfl (op_boxn rfl rfl h13 (fun s20 e22 he BB21 r23 => fun a19 h14 hf hz hd1 => ?_)); obtain ⟨b30, hb30⟩ : ∃ b, b = s18.w.heap.size := ⟨_, rfl⟩; rw [← hb30] at BB21 h14; have B30 := BB21; have l30 : s0.w.heap.size ≤ b30 := by have := E.size; omega
 have n30_12 : b30 ≠ b12 := by have := B12.lt; omega
 have f12_2 : ∀ g, sb (.slice none 0 0) = some g → s0.w.heap.size ≤ g ∧ g ≠ b12 ∧ g ≠ b30 := fun g hg => ⟨(f12_2 g hg).1, (f12_2 g hg).2, (by have := Spare.lt p12_2 hg; omega)⟩; have f12_7 : ∀ g, sb (.slice none 0 0) = some g → s0.w.heap.size ≤ g ∧ g ≠ b12 ∧ g ≠ b30 := fun g hg => ⟨(f12_7 g hg).1, (f12_7 g hg).2, (by have := Spare.lt p12_7 hg; omega)⟩; have ⟨hd, E⟩ := hdE hd1 hd E he; have h0 := V_at h0 he (hf 0 rfl); have h2 := (hf 2 rfl).trans h2; have p12_2 := px he p12_2; have p12_7 := px he p12_7; have B12 := B12.ext he; obtain ⟨c4, c5, c6, c7, c8, c9, c10, c11⟩ := vm8 he c4 c5 c6 c7 c8 c9 c10 c11; obtain ⟨u24, u25, u26, rfl, c27, c28, c29⟩ := kReader_open r23; refine sq_blk [⟨4, _, []⟩] [0] hz rfl ⟨aes rfl rfl h14 rfl, trivial⟩ ?_; intro a31 s32 he hf hz hd1 h4; have ⟨hd, E⟩ := hdE hd1 hd E he; have h0 := V_at h0 he (hf 0 rfl); have h2 := (hf 2 rfl).trans h2; have p12_2 := px he p12_2; have p12_7 := px he p12_7; obtain ⟨B12, B30⟩ := bx2 he B12 B30; obtain ⟨c4, c5, c6, c7, c8, c9, c10, c11, c27, c28, c29⟩ := vm11 he c4 c5 c6 c7 c8 c9 c10 c11 c27 c28 c29; refine wp_sr ?_
 refine sq_blk [⟨15, _, []⟩] [0] hz rfl ⟨mes rfl rfl h4 rfl, trivial⟩ ?_; intro a33 s34 he hf hz hd1 h15; have ⟨hd, E⟩ := hdE hd1 hd E he; have h0 := V_at h0 he (hf 0 rfl); obtain ⟨h2, h4⟩ := ea2 hf h2 h4 rfl; have p12_2 := px he p12_2; have p12_7 := px he p12_7; obtain ⟨B12, B30⟩ := bx2 he B12 B30; obtain ⟨c4, c5, c6, c7, c8, c9, c10, c11, c27, c28, c29⟩ := vm11 he c4 c5 c6 c7 c8 c9 c10 c11 c27 c28 c29; refine sq_set hz rfl rfl rfl (op_call rfl (argc h15 rfl) (Cl.mono (order_reader_dot.ok ⟨_, B30, (kReader_close c27 c28 c29)⟩) (fun v s36 hR => fun a35 hd' hf hz hd1 => ?_))); obtain ⟨he, H37, hv⟩ := hR; obtain ⟨y38, hy, h⟩ := bindv_h h; rw [hy] at H37 hv; have hd := hd1.trans hd; have h0 := V_at h0 he (hf 0 rfl); obtain ⟨h2, h4⟩ := ea2 hf h2 h4 rfl; have B12 := B12.chg he (fun e => (Ne.symm n30_12) e); have p12_2 := Sp.chg p12_2 he (fun g hg => (fun e => (f12_2 g hg).2.2 e)); have p12_7 := Sp.chg p12_7 he (fun g hg => (fun e => (f12_7 g hg).2.2 e)); obtain ⟨c4, c5, c6, c7, c8, c9, c10, c11⟩ := vm8 he c4 c5 c6 c7 c8 c9 c10 c11; have E := Chg.chg E he (fun b e h => (fun e => absurd h (by cases e; exact Nat.not_lt.2 l30)) e); obtain ⟨e39, B30, r40⟩ := H37
 obtain ⟨u41, u42, u43, rfl, c44, c45, c46⟩ := kReader_open r40; have h16 := V_eq hd' hv; refine sq_blk [⟨17, _, []⟩] [0] hz rfl ⟨(fun a s he hf hz => opw rfl ((by obtain ⟨e47, w49, r48⟩ := V_open rfl (V_at h16 he (hf 16 rfl)); obtain ⟨u50, u51, rfl, c52, c53⟩ := kDot_open r48; exact op_build rfl bt_72 (ps := [(0, [u50, u51])]) ⟨rfl, congrArg Value.cells w49, trivial⟩ rfl (f := Fact.nils kOp (⟨y38.2, ([] : (List Dot)), ([] : Str), 0, ([] : Str), 0, ([] : (List Dot))⟩ : Op) [2, 7]) ⟨V_mk rfl (kOp_close c52 c53 (lit_nil (d := kDot)) s_0 i0 s_0 i0 (lit_nil (d := kDot))), rfl, rfl, trivial⟩))), trivial⟩ ?_; intro a54 s55 he hf hz hd1 k17; have ⟨hd, E⟩ := hdE hd1 hd E he; have h0 := V_at h0 he (hf 0 rfl); obtain ⟨h2, h4⟩ := ea2 hf h2 h4 rfl; have p12_2 := px he p12_2; have p12_7 := px he p12_7; obtain ⟨B12, B30⟩ := bx2 he B12 B30; obtain ⟨c4, c5, c6, c7, c8, c9, c10, c11, c44, c45, c46⟩ := vm11 he c4 c5 c6 c7 c8 c9 c10 c11 c44 c45 c46; have h17 := k17.1; have z17 := k17.2
 refine sq_set hz rfl rfl rfl (op_alloc (cs := [.string ⟨#[]⟩, .int .i64 0, .slice none 0 0, .string ⟨#[]⟩, .int .i64 0, .string ⟨#[]⟩, .int .i64 0, .slice none 0 0]) rfl zv_72 rfl (fun s57 he BB58 => fun a56 h5 hf hz hd1 => ?_)); obtain ⟨b67, hb67⟩ : ∃ b, b = s55.w.heap.size := ⟨_, rfl⟩; rw [← hb67] at BB58 h5; have B67 := BB58; have l67 : s0.w.heap.size ≤ b67 := by have := E.size; omega
 have n67_12 : b67 ≠ b12 := by have := B12.lt; omega
 have n67_30 : b67 ≠ b30 := by have := B30.lt; omega
 have f12_2 : ∀ g, sb (.slice none 0 0) = some g → s0.w.heap.size ≤ g ∧ g ≠ b12 ∧ g ≠ b30 ∧ g ≠ b67 := fun g hg => ⟨(f12_2 g hg).1, (f12_2 g hg).2.1, (f12_2 g hg).2.2, (by have := Spare.lt p12_2 hg; omega)⟩; have f12_7 : ∀ g, sb (.slice none 0 0) = some g → s0.w.heap.size ≤ g ∧ g ≠ b12 ∧ g ≠ b30 ∧ g ≠ b67 := fun g hg => ⟨(f12_7 g hg).1, (f12_7 g hg).2.1, (f12_7 g hg).2.2, (by have := Spare.lt p12_7 hg; omega)⟩; have ⟨hd, E⟩ := hdE hd1 hd E he; have z17 := nilAt_at z17 (hf 17 rfl); obtain ⟨h0, h17⟩ := va2 he hf h0 h17 rfl; obtain ⟨h2, h4⟩ := ea2 hf h2 h4 rfl; have p12_2 := px he p12_2; have p12_7 := px he p12_7; obtain ⟨B12, B30⟩ := bx2 he B12 B30; obtain ⟨c4, c5, c6, c7, c8, c9, c10, c11, c44, c45, c46⟩ := vm11 he c4 c5 c6 c7 c8 c9 c10 c11 c44 c45 c46; have c59 : kS.V s57 (.string ⟨#[]⟩) ([] : Str) := s_0; have c60 : (kI .i64).V s57 (.int .i64 0) 0 := i0; have c61 : (kSl kDot).V s57 (.slice none 0 0) ([] : (List Dot)) := (lit_nil (d := kDot)); have c62 : kS.V s57 (.string ⟨#[]⟩) ([] : Str) := s_0
 have c63 : (kI .i64).V s57 (.int .i64 0) 0 := i0; have c64 : kS.V s57 (.string ⟨#[]⟩) ([] : Str) := s_0; have c65 : (kI .i64).V s57 (.int .i64 0) 0 := i0; have c66 : (kSl kDot).V s57 (.slice none 0 0) ([] : (List Dot)) := (lit_nil (d := kDot)); have p67_2 : Sp s57 (.slice none 0 0) 70 2 := Spare.nil _ _ _ 0; have p67_7 : Sp s57 (.slice none 0 0) 70 2 := Spare.nil _ _ _ 0; refine sq_do rfl rfl (op_storen' rfl ty_72 rfl h5 B67 h17 rfl (fun s71 e72 he B67n r73 zeq => ?_)); have zz := nilAt_at z17 zeq.symm; have h0 := vm he h0; have B12 := B12.chg he (fun e => (Ne.symm n67_12) e); have p12_2 := Sp.chg p12_2 he (fun g hg => (fun e => (f12_2 g hg).2.2.2 e)); have p12_7 := Sp.chg p12_7 he (fun g hg => (fun e => (f12_7 g hg).2.2.2 e)); have B30 := B30.chg he (fun e => (Ne.symm n67_30) e); obtain ⟨c4, c5, c6, c7, c8, c9, c10, c11, c44, c45, c46⟩ := vm11 he c4 c5 c6 c7 c8 c9 c10 c11 c44 c45 c46; have E := Chg.chg E he (fun b e h => (fun e => absurd h (by cases e; exact Nat.not_lt.2 l67)) e)
 obtain ⟨u74, u75, u76, u77, u78, u79, u80, u81, rfl, c82, c83, c84, c85, c86, c87, c88, c89⟩ := kOp_open r73; have p67_2 : Sp s71 u76 70 2 := nil_sp (u := u76) zz.1; have p67_7 : Sp s71 u81 70 2 := nil_sp (u := u81) zz.2.1; have f67_7 : ∀ g, sb u81 = some g → s0.w.heap.size ≤ g ∧ g ≠ b12 ∧ g ≠ b30 ∧ g ≠ b67 := fun g hg => absurd ((nil_sb (u := u81) zz.2.1).symm.trans hg) (fun h => by cases h); have B67 : Bx s71 b67 72 [u74, u75, u76, u77, u78, u79, u80, u81] := B67n; refine wp_seq ?_; refine wp_draw [⟨19, _, []⟩, ⟨20, _, [0]⟩, ⟨21, _, [1]⟩, ⟨22, _, [2]⟩, ⟨23, _, []⟩, ⟨24, _, [4]⟩, ⟨25, _, [5]⟩, ⟨26, _, [6]⟩, ⟨27, _, [3, 7]⟩, ⟨18, _, [8]⟩, ⟨28, _, [9]⟩, ⟨29, _, [9]⟩, ⟨30, _, [9]⟩, ⟨6, _, [10]⟩, ⟨7, _, [11]⟩, ⟨8, _, [12]⟩] [13, 14, 15] mo hz (by kernel_rfl) ⟨mes rfl rfl h4 rfl, (fun a s he hf hz q0 => nk rfl rfl q0), (fun a s he hf hz q1 => fb rfl rfl fa_147_0 q1), (fun a s he hf hz q2 => lo rfl rfl ty_53 q2 (B30.ext he) rfl (vm he c44)), mes rfl rfl h4 rfl, (fun a s he hf hz q4 => nk rfl rfl q4), (fun a s he hf hz q5 => fb rfl rfl fa_147_1 q5), (fun a s he hf hz q6 => lo rfl rfl ty_3 q6 (B30.ext he) rfl (vm he c45)), (fun a s he hf hz q3 q7 => opw rfl (op_call rfl rfl (vector_Take.ct q3 q7))), (fun a s he hf hz q8 => opw rfl (op_move rfl (f := Fact.tup _) q8)), (fun a s he hf hz q9 => opw rfl (op_extract (f := Fact.v _ _) rfl q9 rfl)), (fun a s he hf hz q9 => opw rfl (op_extract (f := Fact.v _ _) rfl q9 rfl)), (fun a s he hf hz q9 => opw rfl (op_extract (f := Fact.v _ _) rfl q9 rfl)), avq rfl rfl, avq rfl rfl, avq rfl rfl, trivial⟩ ?_
 intro a92 s93 he hf hz hd1 h6 h7 h8; have ⟨hd, E⟩ := hdE hd1 hd E he; have h0 := V_at h0 he (hf 0 rfl); obtain ⟨h2, h4, h5⟩ := ea3 hf h2 h4 h5 rfl; have p12_2 := px he p12_2; have p12_7 := px he p12_7; have p67_7 := px he p67_7; obtain ⟨B12, B30, B67⟩ := bx3 he B12 B30 B67; obtain ⟨c4, c5, c6, c7, c8, c9, c10, c11, c44, c46, c82⟩ := vm11 he c4 c5 c6 c7 c8 c9 c10 c11 c44 c46 c82; obtain ⟨c83, c89⟩ := vm2 he c83 c89; refine wp_seq ?_; refine wp_sr ?_; have hz0 := hz; refine sq_blk [⟨31, _, []⟩, ⟨32, _, [0]⟩, ⟨33, _, [1]⟩, ⟨34, _, [2]⟩, ⟨35, _, [3]⟩, ⟨36, _, [4]⟩, ⟨37, _, [4, 5]⟩, ⟨38, _, [4, 6]⟩] [7] hz rfl ⟨mes rfl rfl h4 rfl, (fun a s he hf hz q0 => nk rfl rfl q0), (fun a s he hf hz q1 => fb rfl rfl fa_147_2 q1), (fun a s he hf hz q2 => lo rfl rfl ty_4 q2 (B30.ext he) rfl (vm he c46)), mvq rfl rfl, (fun a s he hf hz q4 => og rfl rfl rfl hz hz0 rfl q4 (fun g => op_move_v rfl (V_at h8 he (hf 8 rfl)))), (fun a s he hf hz q4 q5 => og rfl rfl rfl hz hz0 rfl q4 (fun g => op_neq rfl (q5.1 g) i0)), (fun a s he hf hz q4 q6 => oe rfl rfl q4 (q6.1)), trivial⟩ ?_; intro a94 s95 he hf hz hd1 h38
 have ⟨hd, E⟩ := hdE hd1 hd E he; obtain ⟨h0, h6, h7⟩ := va3 he hf h0 h6 h7 rfl; obtain ⟨h2, h4, h5⟩ := ea3 hf h2 h4 h5 rfl; have p12_2 := px he p12_2; have p12_7 := px he p12_7; have p67_7 := px he p67_7; obtain ⟨B12, B30, B67⟩ := bx3 he B12 B30 B67; obtain ⟨c4, c5, c6, c7, c8, c9, c10, c11, c44, c46, c82⟩ := vm11 he c4 c5 c6 c7 c8 c9 c10 c11 c44 c46 c82; obtain ⟨c83, c89⟩ := vm2 he c83 c89; refine wp_condV h38 (fun hb => ?_) (fun hb => ?_)
 ·have h := ite_t hb h; refine wp_sr ?_; refine sq_blk [⟨39, _, []⟩] [0] hz rfl ⟨(fun a s he hf hz => opw rfl (op_build rfl bt_72 (ps := []) trivial rfl (f := Fact.nils kOp (⟨(⟨([] : Str), 0⟩ : Dot), ([] : (List Dot)), ([] : Str), 0, ([] : Str), 0, ([] : (List Dot))⟩ : Op) [2, 7]) ⟨V_mk rfl (kOp_close s_0 i0 (lit_nil (d := kDot)) s_0 i0 s_0 i0 (lit_nil (d := kDot))), rfl, rfl, trivial⟩)), trivial⟩ ?_; intro a96 s97 he hf hz hd1 k39; have ⟨hd, E⟩ := hdE hd1 hd E he; have h2 := (hf 2 rfl).trans h2; have p12_2 := px he p12_2; have p12_7 := px he p12_7; have B12 := B12.ext he; have h39 := k39.1; have z39 := k39.2; refine sq_do rfl rfl (op_storen' rfl ty_72 rfl h2 B12 h39 rfl (fun s99 e100 he B12n r101 zeq => ?_)); have zz := nilAt_at z39 zeq.symm; have E := Chg.chg E he (fun b e h => (fun e => absurd h (by cases e; exact Nat.not_lt.2 l12)) e)
  obtain ⟨u102, u103, u104, u105, u106, u107, u108, u109, rfl, c110, c111, c112, c113, c114, c115, c116, c117⟩ := kOp_open r101; have p12_2 : Sp s99 u104 70 2 := nil_sp (u := u104) zz.1; have p12_7 : Sp s99 u109 70 2 := nil_sp (u := u109) zz.2.1; have B12 : Bx s99 b12 72 [u102, u103, u104, u105, u106, u107, u108, u109] := B12n; refine sq_blk [⟨3, _, []⟩] [0] hz rfl ⟨(fun a s he hf hz => av rfl rfl (lit_i (k := .i64) (n := 80) (by decide))), trivial⟩ ?_; intro a120 s121 he hf hz hd1 h3; have ⟨hd, E⟩ := hdE hd1 hd E he; have h2 := (hf 2 rfl).trans h2; have B12 := B12.ext he; obtain ⟨c110, c111, c112, c113, c114, c115, c116, c117⟩ := vm8 he c110 c111 c112 c113 c114 c115 c116 c117; refine wp_ret ?_; cases h
  exact ⟨hd, _, results_cell_tmp (es := [u102, u103, u104, u105, u106, u107, u108, u109]) rfl (agg := true) ty_72 (by simp) h2 B12, E, tup2 (V_mk rfl (kOp_close c110 c111 c112 c113 c114 c115 c116 c117)) h3⟩
 ·have h := ite_f hb h; refine wp_skip ?_; refine wp_sr ?_; refine sq_blk [⟨40, _, []⟩, ⟨41, _, []⟩, ⟨42, _, []⟩, ⟨43, _, []⟩] [0, 1, 2, 3] hz rfl ⟨mes rfl rfl h4 rfl, mvs rfl rfl h6 rfl, mvs rfl rfl h7 rfl, (fun a s he hf hz => fb rfl rfl fa_72_1 ((hf 5 rfl).trans h5)), trivial⟩ ?_; intro a122 s123 he hf hz hd1 h40 h41 h42 h43; have ⟨hd, E⟩ := hdE hd1 hd E he; have h0 := V_at h0 he (hf 0 rfl); obtain ⟨h2, h4, h5⟩ := ea3 hf h2 h4 h5 rfl; have p12_2 := px he p12_2; have p12_7 := px he p12_7; have p67_7 := px he p67_7; obtain ⟨B12, B30, B67⟩ := bx3 he B12 B30 B67; obtain ⟨c4, c5, c6, c7, c8, c9, c10, c11, c44, c46, c82⟩ := vm11 he c4 c5 c6 c7 c8 c9 c10 c11 c44 c46 c82; obtain ⟨c83, c89⟩ := vm2 he c83 c89; refine sq_do rfl rfl (op_store_v rfl ty_32 rfl h43 B67 h41 rfl (fun s125 he B67n c126 => ?_)); obtain ⟨h0, h42⟩ := vm2 he h0 h42; have B12 := B12.chg he (fun e => (Ne.symm n67_12) e); have p12_2 := Sp.chg p12_2 he (fun g hg => (fun e => (f12_2 g hg).2.2.2 e)); have p12_7 := Sp.chg p12_7 he (fun g hg => (fun e => (f12_7 g hg).2.2.2 e)); have B30 := B30.chg he (fun e => (Ne.symm n67_30) e)
  have p67_7 := Sp.chg p67_7 he (fun g hg => (fun e => (f67_7 g hg).2.2.2 e)); obtain ⟨c4, c5, c6, c7, c8, c9, c10, c11, c44, c46, c82⟩ := vm11 he c4 c5 c6 c7 c8 c9 c10 c11 c44 c46 c82; obtain ⟨c83, c89⟩ := vm2 he c83 c89; have E := Chg.chg E he (fun b e h => (fun e => absurd h (by cases e; exact Nat.not_lt.2 l67)) e); obtain ⟨u127, huu127⟩ : ∃ u : Value, u = (a122.get 41) := ⟨_, rfl⟩; have c126 : (kSl kDot).V s125 u127 ((takeV y38.1.b y38.1.at_).1) := by rw [huu127]; exact c126
  have B67 : Bx s125 b67 72 [u74, u75, u127, u77, u78, u79, u80, u81] := by rw [huu127]; exact B67n
  refine sq_blk [⟨44, _, []⟩, ⟨45, _, [0]⟩] [1] hz rfl ⟨(fun a s he hf hz => nk rfl rfl ((hf 40 rfl).trans h40)), (fun a s he hf hz q0 => fb rfl rfl fa_147_1 q0), trivial⟩ ?_; intro a128 s129 he hf hz hd1 h45; have ⟨hd, E⟩ := hdE hd1 hd E he; obtain ⟨h0, h42⟩ := va2 he hf h0 h42 rfl; obtain ⟨h2, h4, h5⟩ := ea3 hf h2 h4 h5 rfl; have p12_2 := px he p12_2; have p12_7 := px he p12_7; have p67_7 := px he p67_7; obtain ⟨B12, B30, B67⟩ := bx3 he B12 B30 B67; obtain ⟨c4, c5, c6, c7, c8, c9, c10, c11, c44, c46, c82⟩ := vm11 he c4 c5 c6 c7 c8 c9 c10 c11 c44 c46 c82; obtain ⟨c83, c126, c89⟩ := vm3 he c83 c126 c89; refine sq_do rfl rfl (op_store_v rfl ty_3 rfl h45 B30 h42 rfl (fun s131 he B30n c132 => ?_)); have h0 := vm he h0; have B12 := B12.chg he (fun e => (Ne.symm n30_12) e); have p12_2 := Sp.chg p12_2 he (fun g hg => (fun e => (f12_2 g hg).2.2.1 e)); have p12_7 := Sp.chg p12_7 he (fun g hg => (fun e => (f12_7 g hg).2.2.1 e)); have B67 := B67.chg he (fun e => n67_30 e); have p67_7 := Sp.chg p67_7 he (fun g hg => (fun e => (f67_7 g hg).2.2.1 e)); obtain ⟨c4, c5, c6, c7, c8, c9, c10, c11, c44, c46, c82, c83⟩ := vm12 he c4 c5 c6 c7 c8 c9 c10 c11 c44 c46 c82 c83
  obtain ⟨c126, c89⟩ := vm2 he c126 c89; have E := Chg.chg E he (fun b e h => (fun e => absurd h (by cases e; exact Nat.not_lt.2 l30)) e); obtain ⟨u133, huu133⟩ : ∃ u : Value, u = (a128.get 42) := ⟨_, rfl⟩; have c132 : (kI .i64).V s131 u133 ((takeV y38.1.b y38.1.at_).2.1) := by rw [huu133]; exact c132
  have B30 : Bx s131 b30 147 [u41, u133, u43] := by rw [huu133]; exact B30n
  refine wp_sr ?_; refine sq_blk [⟨46, _, []⟩] [0] hz rfl ⟨mes rfl rfl h4 rfl, trivial⟩ ?_; intro a134 s135 he hf hz hd1 h46; have ⟨hd, E⟩ := hdE hd1 hd E he; have h0 := V_at h0 he (hf 0 rfl); obtain ⟨h2, h4, h5⟩ := ea3 hf h2 h4 h5 rfl; have p12_2 := px he p12_2; have p12_7 := px he p12_7; have p67_7 := px he p67_7; obtain ⟨B12, B30, B67⟩ := bx3 he B12 B30 B67; obtain ⟨c4, c5, c6, c7, c8, c9, c10, c11, c44, c132, c46, c82⟩ := vm12 he c4 c5 c6 c7 c8 c9 c10 c11 c44 c132 c46 c82; obtain ⟨c83, c126, c89⟩ := vm3 he c83 c126 c89; refine sq_set hz rfl rfl rfl (op_call rfl (argc h46 rfl) (Cl.mono (order_reader_text.ok ⟨_, B30, (kReader_close c44 c132 c46)⟩) (fun v s137 hR => fun a136 hd' hf hz hd1 => ?_))); obtain ⟨he, H138, hv⟩ := hR; obtain ⟨y139, hy, h⟩ := bindv_h h; rw [hy] at H138 hv; have hd := hd1.trans hd; have h0 := V_at h0 he (hf 0 rfl); obtain ⟨h2, h4, h5⟩ := ea3 hf h2 h4 h5 rfl; have B12 := B12.chg he (fun e => (Ne.symm n30_12) e); have p12_2 := Sp.chg p12_2 he (fun g hg => (fun e => (f12_2 g hg).2.2.1 e)); have p12_7 := Sp.chg p12_7 he (fun g hg => (fun e => (f12_7 g hg).2.2.1 e)); have B67 := B67.chg he (fun e => n67_30 e)
  have p67_7 := Sp.chg p67_7 he (fun g hg => (fun e => (f67_7 g hg).2.2.1 e)); obtain ⟨c4, c5, c6, c7, c8, c9, c10, c11, c82, c83, c126⟩ := vm11 he c4 c5 c6 c7 c8 c9 c10 c11 c82 c83 c126; have c89 := vm he c89; have E := Chg.chg E he (fun b e h => (fun e => absurd h (by cases e; exact Nat.not_lt.2 l30)) e); obtain ⟨e140, B30, r141⟩ := H138; obtain ⟨u142, u143, u144, rfl, c145, c146, c147⟩ := kReader_open r141; have h47 := V_eq hd' hv; refine sq_blk [⟨48, _, []⟩] [0] hz rfl ⟨mes rfl rfl h4 rfl, trivial⟩ ?_; intro a148 s149 he hf hz hd1 h48; have ⟨hd, E⟩ := hdE hd1 hd E he; obtain ⟨h0, h47⟩ := va2 he hf h0 h47 rfl; obtain ⟨h2, h4, h5⟩ := ea3 hf h2 h4 h5 rfl; have p12_2 := px he p12_2; have p12_7 := px he p12_7; have p67_7 := px he p67_7; obtain ⟨B12, B30, B67⟩ := bx3 he B12 B30 B67; obtain ⟨c4, c5, c6, c7, c8, c9, c10, c11, c145, c146, c147, c82⟩ := vm12 he c4 c5 c6 c7 c8 c9 c10 c11 c145 c146 c147 c82; obtain ⟨c83, c126, c89⟩ := vm3 he c83 c126 c89; refine sq_set hz rfl rfl rfl (op_call rfl (argc h48 rfl) (Cl.mono (order_reader_text.ok ⟨_, B30, (kReader_eta (x := y139.1) c145 c146 c147)⟩) (fun v s151 hR => fun a150 hd' hf hz hd1 => ?_)))
  obtain ⟨he, H152, hv⟩ := hR; obtain ⟨y153, hy, h⟩ := bindv_h h; rw [hy] at H152 hv; have hd := hd1.trans hd; obtain ⟨h0, h47⟩ := va2 he hf h0 h47 rfl; obtain ⟨h2, h4, h5⟩ := ea3 hf h2 h4 h5 rfl; have B12 := B12.chg he (fun e => (Ne.symm n30_12) e); have p12_2 := Sp.chg p12_2 he (fun g hg => (fun e => (f12_2 g hg).2.2.1 e)); have p12_7 := Sp.chg p12_7 he (fun g hg => (fun e => (f12_7 g hg).2.2.1 e)); have B67 := B67.chg he (fun e => n67_30 e); have p67_7 := Sp.chg p67_7 he (fun g hg => (fun e => (f67_7 g hg).2.2.1 e)); obtain ⟨c4, c5, c6, c7, c8, c9, c10, c11, c82, c83, c126⟩ := vm11 he c4 c5 c6 c7 c8 c9 c10 c11 c82 c83 c126; have c89 := vm he c89; have E := Chg.chg E he (fun b e h => (fun e => absurd h (by cases e; exact Nat.not_lt.2 l30)) e); obtain ⟨e154, B30, r155⟩ := H152; obtain ⟨u156, u157, u158, rfl, c159, c160, c161⟩ := kReader_open r155; have h49 := V_eq hd' hv; refine sq_blk [⟨50, _, []⟩] [0] hz rfl ⟨(fun a s he hf hz => fb rfl rfl fa_72_2 ((hf 5 rfl).trans h5)), trivial⟩ ?_; intro a162 s163 he hf hz hd1 h50; have hd := hd1.trans hd; obtain ⟨h0, h47, h49⟩ := va3 he hf h0 h47 h49 rfl; obtain ⟨h2, h4, h5⟩ := ea3 hf h2 h4 h5 rfl; have p12_2 := px he p12_2
  have p12_7 := px he p12_7; have p67_7 := px he p67_7; obtain ⟨B12, B30, B67⟩ := bx3 he B12 B30 B67; obtain ⟨c4, c5, c6, c7, c8, c9, c10, c11, c159, c160, c161, c82⟩ := vm12 he c4 c5 c6 c7 c8 c9 c10 c11 c159 c160 c161 c82; obtain ⟨c83, c126, c89⟩ := vm3 he c83 c126 c89; have E := E.trans he; refine sq_do rfl rfl (op_store_v rfl ty_9 rfl h50 B67 h47 rfl (fun s165 he B67n c166 => ?_)); obtain ⟨h0, h49⟩ := vm2 he h0 h49; have B12 := B12.chg he (fun e => (Ne.symm n67_12) e); have p12_2 := Sp.chg p12_2 he (fun g hg => (fun e => (f12_2 g hg).2.2.2 e)); have p12_7 := Sp.chg p12_7 he (fun g hg => (fun e => (f12_7 g hg).2.2.2 e)); have B30 := B30.chg he (fun e => (Ne.symm n67_30) e); have p67_7 := Sp.chg p67_7 he (fun g hg => (fun e => (f67_7 g hg).2.2.2 e)); obtain ⟨c4, c5, c6, c7, c8, c9, c10, c11, c159, c160, c161, c82⟩ := vm12 he c4 c5 c6 c7 c8 c9 c10 c11 c159 c160 c161 c82; obtain ⟨c83, c126, c89⟩ := vm3 he c83 c126 c89; have E := Chg.chg E he (fun b e h => (fun e => absurd h (by cases e; exact Nat.not_lt.2 l67)) e); obtain ⟨u167, huu167⟩ : ∃ u : Value, u = (a162.get 47) := ⟨_, rfl⟩; have c166 : kS.V s165 u167 y139.2 := by rw [huu167]; exact c166
  have B67 : Bx s165 b67 72 [u74, u75, u127, u167, u78, u79, u80, u81] := by rw [huu167]; exact B67n
  refine sq_blk [⟨51, _, []⟩] [0] hz rfl ⟨(fun a s he hf hz => fb rfl rfl fa_72_4 ((hf 5 rfl).trans h5)), trivial⟩ ?_; intro a168 s169 he hf hz hd1 h51; have ⟨hd, E⟩ := hdE hd1 hd E he; obtain ⟨h0, h49⟩ := va2 he hf h0 h49 rfl; obtain ⟨h2, h4, h5⟩ := ea3 hf h2 h4 h5 rfl; have p12_2 := px he p12_2; have p12_7 := px he p12_7; have p67_7 := px he p67_7; obtain ⟨B12, B30, B67⟩ := bx3 he B12 B30 B67; obtain ⟨c4, c5, c6, c7, c8, c9, c10, c11, c159, c160, c161, c82⟩ := vm12 he c4 c5 c6 c7 c8 c9 c10 c11 c159 c160 c161 c82; obtain ⟨c83, c126, c166, c89⟩ := vm4 he c83 c126 c166 c89; refine sq_do rfl rfl (op_store_v rfl ty_9 rfl h51 B67 h49 rfl (fun s171 he B67n c172 => ?_)); have h0 := vm he h0; have B12 := B12.chg he (fun e => (Ne.symm n67_12) e); have p12_2 := Sp.chg p12_2 he (fun g hg => (fun e => (f12_2 g hg).2.2.2 e)); have p12_7 := Sp.chg p12_7 he (fun g hg => (fun e => (f12_7 g hg).2.2.2 e)); have B30 := B30.chg he (fun e => (Ne.symm n67_30) e); have p67_7 := Sp.chg p67_7 he (fun g hg => (fun e => (f67_7 g hg).2.2.2 e)); obtain ⟨c4, c5, c6, c7, c8, c9, c10, c11, c159, c160, c161, c82⟩ := vm12 he c4 c5 c6 c7 c8 c9 c10 c11 c159 c160 c161 c82
  obtain ⟨c83, c126, c166, c89⟩ := vm4 he c83 c126 c166 c89; have E := Chg.chg E he (fun b e h => (fun e => absurd h (by cases e; exact Nat.not_lt.2 l67)) e); obtain ⟨u173, huu173⟩ : ∃ u : Value, u = (a168.get 49) := ⟨_, rfl⟩; have c172 : kS.V s171 u173 y153.2 := by rw [huu173]; exact c172
  have B67 : Bx s171 b67 72 [u74, u75, u127, u167, u78, u173, u80, u81] := by rw [huu173]; exact B67n
  refine wp_sr ?_; refine sq_blk [⟨52, _, []⟩] [0] hz rfl ⟨mes rfl rfl h4 rfl, trivial⟩ ?_; intro a174 s175 he hf hz hd1 h52; have ⟨hd, E⟩ := hdE hd1 hd E he; have h0 := V_at h0 he (hf 0 rfl); obtain ⟨h2, h4, h5⟩ := ea3 hf h2 h4 h5 rfl; have p12_2 := px he p12_2; have p12_7 := px he p12_7; have p67_7 := px he p67_7; obtain ⟨B12, B30, B67⟩ := bx3 he B12 B30 B67; obtain ⟨c4, c5, c6, c7, c8, c9, c10, c11, c159, c160, c161, c82⟩ := vm12 he c4 c5 c6 c7 c8 c9 c10 c11 c159 c160 c161 c82; obtain ⟨c83, c126, c166, c172, c89⟩ := vm5 he c83 c126 c166 c172 c89; refine sq_set hz rfl rfl rfl (op_call rfl (argc h52 rfl) (Cl.mono (order_reader_number.ok ⟨_, B30, (kReader_eta (x := y153.1) c159 c160 c161)⟩) (fun v s177 hR => fun a176 hd' hf hz hd1 => ?_))); obtain ⟨he, H178, hv⟩ := hR; obtain ⟨y179, hy, h⟩ := bindv_h h; rw [hy] at H178 hv; have hd := hd1.trans hd; have h0 := V_at h0 he (hf 0 rfl); obtain ⟨h2, h4, h5⟩ := ea3 hf h2 h4 h5 rfl; have B12 := B12.chg he (fun e => (Ne.symm n30_12) e); have p12_2 := Sp.chg p12_2 he (fun g hg => (fun e => (f12_2 g hg).2.2.1 e)); have p12_7 := Sp.chg p12_7 he (fun g hg => (fun e => (f12_7 g hg).2.2.1 e))
  have B67 := B67.chg he (fun e => n67_30 e); have p67_7 := Sp.chg p67_7 he (fun g hg => (fun e => (f67_7 g hg).2.2.1 e)); obtain ⟨c4, c5, c6, c7, c8, c9, c10, c11, c82, c83, c126, c166⟩ := vm12 he c4 c5 c6 c7 c8 c9 c10 c11 c82 c83 c126 c166; obtain ⟨c172, c89⟩ := vm2 he c172 c89; have E := Chg.chg E he (fun b e h => (fun e => absurd h (by cases e; exact Nat.not_lt.2 l30)) e); obtain ⟨e180, B30, r181⟩ := H178; obtain ⟨u182, u183, u184, rfl, c185, c186, c187⟩ := kReader_open r181; have h53 := V_eq hd' hv; refine sq_blk [⟨9, _, []⟩] [0] hz rfl ⟨avs rfl rfl h53 rfl, trivial⟩ ?_; intro a188 s189 he hf hz hd1 h9; have ⟨hd, E⟩ := hdE hd1 hd E he; have h0 := V_at h0 he (hf 0 rfl); obtain ⟨h2, h4, h5⟩ := ea3 hf h2 h4 h5 rfl; have p12_2 := px he p12_2; have p12_7 := px he p12_7; have p67_7 := px he p67_7; obtain ⟨B12, B30, B67⟩ := bx3 he B12 B30 B67; obtain ⟨c4, c5, c6, c7, c8, c9, c10, c11, c185, c186, c187, c82⟩ := vm12 he c4 c5 c6 c7 c8 c9 c10 c11 c185 c186 c187 c82; obtain ⟨c83, c126, c166, c172, c89⟩ := vm5 he c83 c126 c166 c172 c89; refine wp_sr ?_; refine sq_blk [⟨54, _, []⟩] [0] hz rfl ⟨mes rfl rfl h4 rfl, trivial⟩ ?_
  intro a190 s191 he hf hz hd1 h54; have ⟨hd, E⟩ := hdE hd1 hd E he; obtain ⟨h0, h9⟩ := va2 he hf h0 h9 rfl; obtain ⟨h2, h4, h5⟩ := ea3 hf h2 h4 h5 rfl; have p12_2 := px he p12_2; have p12_7 := px he p12_7; have p67_7 := px he p67_7; obtain ⟨B12, B30, B67⟩ := bx3 he B12 B30 B67; obtain ⟨c4, c5, c6, c7, c8, c9, c10, c11, c185, c186, c187, c82⟩ := vm12 he c4 c5 c6 c7 c8 c9 c10 c11 c185 c186 c187 c82; obtain ⟨c83, c126, c166, c172, c89⟩ := vm5 he c83 c126 c166 c172 c89; refine sq_set hz rfl rfl rfl (op_call rfl (argc h54 rfl) (Cl.mono (order_reader_number.ok ⟨_, B30, (kReader_eta (x := y179.1) c185 c186 c187)⟩) (fun v s193 hR => fun a192 hd' hf hz hd1 => ?_))); obtain ⟨he, H194, hv⟩ := hR; obtain ⟨y195, hy, h⟩ := bindv_h h; rw [hy] at H194 hv; have hd := hd1.trans hd; obtain ⟨h0, h9⟩ := va2 he hf h0 h9 rfl; obtain ⟨h2, h4, h5⟩ := ea3 hf h2 h4 h5 rfl; have B12 := B12.chg he (fun e => (Ne.symm n30_12) e); have p12_2 := Sp.chg p12_2 he (fun g hg => (fun e => (f12_2 g hg).2.2.1 e)); have p12_7 := Sp.chg p12_7 he (fun g hg => (fun e => (f12_7 g hg).2.2.1 e)); have B67 := B67.chg he (fun e => n67_30 e)
  have p67_7 := Sp.chg p67_7 he (fun g hg => (fun e => (f67_7 g hg).2.2.1 e)); obtain ⟨c4, c5, c6, c7, c8, c9, c10, c11, c82, c83, c126, c166⟩ := vm12 he c4 c5 c6 c7 c8 c9 c10 c11 c82 c83 c126 c166; obtain ⟨c172, c89⟩ := vm2 he c172 c89; have E := Chg.chg E he (fun b e h => (fun e => absurd h (by cases e; exact Nat.not_lt.2 l30)) e); obtain ⟨e196, B30, r197⟩ := H194; obtain ⟨u198, u199, u200, rfl, c201, c202, c203⟩ := kReader_open r197; have h55 := V_eq hd' hv; refine sq_blk [⟨56, _, []⟩] [0] hz rfl ⟨(fun a s he hf hz => fb rfl rfl fa_72_5 ((hf 5 rfl).trans h5)), trivial⟩ ?_; intro a204 s205 he hf hz hd1 h56; have ⟨hd, E⟩ := hdE hd1 hd E he; obtain ⟨h0, h9, h55⟩ := va3 he hf h0 h9 h55 rfl; obtain ⟨h2, h4, h5⟩ := ea3 hf h2 h4 h5 rfl; have p12_2 := px he p12_2; have p12_7 := px he p12_7; have p67_7 := px he p67_7; obtain ⟨B12, B30, B67⟩ := bx3 he B12 B30 B67; obtain ⟨c4, c5, c6, c7, c8, c9, c10, c11, c201, c202, c203, c82⟩ := vm12 he c4 c5 c6 c7 c8 c9 c10 c11 c201 c202 c203 c82; obtain ⟨c83, c126, c166, c172, c89⟩ := vm5 he c83 c126 c166 c172 c89; refine sq_do rfl rfl (op_store_v rfl ty_2 rfl h56 B67 h55 rfl (fun s207 he B67n c208 => ?_))
  obtain ⟨h0, h9⟩ := vm2 he h0 h9; have B12 := B12.chg he (fun e => (Ne.symm n67_12) e); have p12_2 := Sp.chg p12_2 he (fun g hg => (fun e => (f12_2 g hg).2.2.2 e)); have p12_7 := Sp.chg p12_7 he (fun g hg => (fun e => (f12_7 g hg).2.2.2 e)); have B30 := B30.chg he (fun e => (Ne.symm n67_30) e); have p67_7 := Sp.chg p67_7 he (fun g hg => (fun e => (f67_7 g hg).2.2.2 e)); obtain ⟨c4, c5, c6, c7, c8, c9, c10, c11, c201, c202, c203, c82⟩ := vm12 he c4 c5 c6 c7 c8 c9 c10 c11 c201 c202 c203 c82; obtain ⟨c83, c126, c166, c172, c89⟩ := vm5 he c83 c126 c166 c172 c89; have E := Chg.chg E he (fun b e h => (fun e => absurd h (by cases e; exact Nat.not_lt.2 l67)) e); obtain ⟨u209, huu209⟩ : ∃ u : Value, u = (a204.get 55) := ⟨_, rfl⟩; have c208 : (kI .i64).V s207 u209 y195.2 := by rw [huu209]; exact c208
  have B67 : Bx s207 b67 72 [u74, u75, u127, u167, u78, u173, u209, u81] := by rw [huu209]; exact B67n
  refine wp_sr ?_; refine sq_blk [⟨57, _, []⟩] [0] hz rfl ⟨mes rfl rfl h4 rfl, trivial⟩ ?_; intro a210 s211 he hf hz hd1 h57; have ⟨hd, E⟩ := hdE hd1 hd E he; obtain ⟨h0, h9⟩ := va2 he hf h0 h9 rfl; obtain ⟨h2, h4, h5⟩ := ea3 hf h2 h4 h5 rfl; have p12_2 := px he p12_2; have p12_7 := px he p12_7; have p67_7 := px he p67_7; obtain ⟨B12, B30, B67⟩ := bx3 he B12 B30 B67; obtain ⟨c4, c5, c6, c7, c8, c9, c10, c11, c201, c202, c203, c82⟩ := vm12 he c4 c5 c6 c7 c8 c9 c10 c11 c201 c202 c203 c82; obtain ⟨c83, c126, c166, c172, c208, c89⟩ := vm6 he c83 c126 c166 c172 c208 c89; refine sq_set hz rfl rfl rfl (op_call rfl (argc h57 rfl) (Cl.mono (order_reader_number.ok ⟨_, B30, (kReader_eta (x := y195.1) c201 c202 c203)⟩) (fun v s213 hR => fun a212 hd' hf hz hd1 => ?_))); obtain ⟨he, H214, hv⟩ := hR; obtain ⟨y215, hy, h⟩ := bindv_h h; rw [hy] at H214 hv; have hd := hd1.trans hd; obtain ⟨h0, h9⟩ := va2 he hf h0 h9 rfl; obtain ⟨h2, h4, h5⟩ := ea3 hf h2 h4 h5 rfl; have B12 := B12.chg he (fun e => (Ne.symm n30_12) e); have p12_2 := Sp.chg p12_2 he (fun g hg => (fun e => (f12_2 g hg).2.2.1 e))
  have p12_7 := Sp.chg p12_7 he (fun g hg => (fun e => (f12_7 g hg).2.2.1 e)); have B67 := B67.chg he (fun e => n67_30 e); have p67_7 := Sp.chg p67_7 he (fun g hg => (fun e => (f67_7 g hg).2.2.1 e)); obtain ⟨c4, c5, c6, c7, c8, c9, c10, c11, c82, c83, c126, c166⟩ := vm12 he c4 c5 c6 c7 c8 c9 c10 c11 c82 c83 c126 c166; obtain ⟨c172, c208, c89⟩ := vm3 he c172 c208 c89; have E := Chg.chg E he (fun b e h => (fun e => absurd h (by cases e; exact Nat.not_lt.2 l30)) e); obtain ⟨e216, B30, r217⟩ := H214; obtain ⟨u218, u219, u220, rfl, c221, c222, c223⟩ := kReader_open r217; have h58 := V_eq hd' hv; refine sq_blk [⟨10, _, []⟩] [0] hz rfl ⟨avs rfl rfl h58 rfl, trivial⟩ ?_; intro a224 s225 he hf hz hd1 h10; have ⟨hd, E⟩ := hdE hd1 hd E he; obtain ⟨h0, h9⟩ := va2 he hf h0 h9 rfl; obtain ⟨h2, h4, h5⟩ := ea3 hf h2 h4 h5 rfl; have p12_2 := px he p12_2; have p12_7 := px he p12_7; have p67_7 := px he p67_7; obtain ⟨B12, B30, B67⟩ := bx3 he B12 B30 B67; obtain ⟨c4, c5, c6, c7, c8, c9, c10, c11, c221, c222, c223, c82⟩ := vm12 he c4 c5 c6 c7 c8 c9 c10 c11 c221 c222 c223 c82; obtain ⟨c83, c126, c166, c172, c208, c89⟩ := vm6 he c83 c126 c166 c172 c208 c89; refine wp_seq ?_
  refine wp_sr ?_; have hz0 := hz; refine sq_blk [⟨59, _, []⟩, ⟨60, _, [0]⟩, ⟨61, _, [1]⟩, ⟨62, _, [2]⟩, ⟨63, _, [3]⟩, ⟨64, _, [4]⟩, ⟨65, _, [4, 5]⟩, ⟨66, _, [4, 6]⟩, ⟨67, _, [7]⟩, ⟨68, _, [8]⟩, ⟨69, _, [8, 9]⟩, ⟨70, _, [8, 10]⟩] [11] hz rfl ⟨mes rfl rfl h4 rfl, (fun a s he hf hz q0 => nk rfl rfl q0), (fun a s he hf hz q1 => fb rfl rfl fa_147_2 q1), (fun a s he hf hz q2 => lo rfl rfl ty_4 q2 (B30.ext he) rfl (vm he c223)), mvq rfl rfl, (fun a s he hf hz q4 => og rfl rfl rfl hz hz0 rfl q4 (fun g => op_move_v rfl (V_at h9 he (hf 9 rfl)))), (fun a s he hf hz q4 q5 => og rfl rfl rfl hz hz0 rfl q4 (fun g => op_gtr rfl (q5.1 g) (lit_i (k := .i64) (n := 3) (by decide)))), (fun a s he hf hz q4 q6 => oe rfl rfl q4 (q6.1)), mvq rfl rfl, (fun a s he hf hz q8 => og rfl rfl rfl hz hz0 rfl q8 (fun g => op_move_v rfl (V_at h10 he (hf 10 rfl)))), (fun a s he hf hz q8 q9 => og rfl rfl rfl hz hz0 rfl q8 (fun g => op_gtr rfl (q9.1 g) (lit_i (k := .i64) (n := 128) (by decide)))), (fun a s he hf hz q8 q10 => oe rfl rfl q8 (q10.1)), trivial⟩ ?_; intro a226 s227 he hf hz hd1 h70; have hd := hd1.trans hd; obtain ⟨h0, h9, h10⟩ := va3 he hf h0 h9 h10 rfl
  obtain ⟨h2, h4, h5⟩ := ea3 hf h2 h4 h5 rfl; have p12_2 := px he p12_2; have p12_7 := px he p12_7; have p67_7 := px he p67_7; obtain ⟨B12, B30, B67⟩ := bx3 he B12 B30 B67; obtain ⟨c4, c5, c6, c7, c8, c9, c10, c11, c221, c222, c223, c82⟩ := vm12 he c4 c5 c6 c7 c8 c9 c10 c11 c221 c222 c223 c82; obtain ⟨c83, c126, c166, c172, c208, c89⟩ := vm6 he c83 c126 c166 c172 c208 c89; have E := E.trans he; refine wp_condV h70 (fun hb => ?_) (fun hb => ?_)
  ·have h := ite_t hb h; refine wp_sr ?_; refine sq_blk [⟨71, _, []⟩] [0] hz rfl ⟨(fun a s he hf hz => opw rfl (op_build rfl bt_72 (ps := []) trivial rfl (f := Fact.nils kOp (⟨(⟨([] : Str), 0⟩ : Dot), ([] : (List Dot)), ([] : Str), 0, ([] : Str), 0, ([] : (List Dot))⟩ : Op) [2, 7]) ⟨V_mk rfl (kOp_close s_0 i0 (lit_nil (d := kDot)) s_0 i0 s_0 i0 (lit_nil (d := kDot))), rfl, rfl, trivial⟩)), trivial⟩ ?_; intro a228 s229 he hf hz hd1 k71; have ⟨hd, E⟩ := hdE hd1 hd E he; have h2 := (hf 2 rfl).trans h2; have p12_2 := px he p12_2; have p12_7 := px he p12_7; have B12 := B12.ext he; have h71 := k71.1; have z71 := k71.2; refine sq_do rfl rfl (op_storen' rfl ty_72 rfl h2 B12 h71 rfl (fun s231 e232 he B12n r233 zeq => ?_)); have zz := nilAt_at z71 zeq.symm; have E := Chg.chg E he (fun b e h => (fun e => absurd h (by cases e; exact Nat.not_lt.2 l12)) e)
   obtain ⟨u234, u235, u236, u237, u238, u239, u240, u241, rfl, c242, c243, c244, c245, c246, c247, c248, c249⟩ := kOp_open r233; have p12_2 : Sp s231 u236 70 2 := nil_sp (u := u236) zz.1; have p12_7 : Sp s231 u241 70 2 := nil_sp (u := u241) zz.2.1; have B12 : Bx s231 b12 72 [u234, u235, u236, u237, u238, u239, u240, u241] := B12n; refine sq_blk [⟨3, _, []⟩] [0] hz rfl ⟨(fun a s he hf hz => av rfl rfl (lit_i (k := .i64) (n := 80) (by decide))), trivial⟩ ?_; intro a252 s253 he hf hz hd1 h3; have ⟨hd, E⟩ := hdE hd1 hd E he; have h2 := (hf 2 rfl).trans h2; have B12 := B12.ext he; obtain ⟨c242, c243, c244, c245, c246, c247, c248, c249⟩ := vm8 he c242 c243 c244 c245 c246 c247 c248 c249; refine wp_ret ?_; cases h
   exact ⟨hd, _, results_cell_tmp (es := [u234, u235, u236, u237, u238, u239, u240, u241]) rfl (agg := true) ty_72 (by simp) h2 B12, E, tup2 (V_mk rfl (kOp_close c242 c243 c244 c245 c246 c247 c248 c249)) h3⟩
  ·have h := ite_f hb h; refine wp_skip ?_; refine wp_sr ?_; refine sq_blk [⟨72, _, []⟩, ⟨73, _, []⟩] [0, 1] hz rfl ⟨mvs rfl rfl h9 rfl, (fun a s he hf hz => fb rfl rfl fa_72_3 ((hf 5 rfl).trans h5)), trivial⟩ ?_; intro a254 s255 he hf hz hd1 h72 h73; have ⟨hd, E⟩ := hdE hd1 hd E he; obtain ⟨h0, h10⟩ := va2 he hf h0 h10 rfl; obtain ⟨h2, h4, h5⟩ := ea3 hf h2 h4 h5 rfl; have p12_2 := px he p12_2; have p12_7 := px he p12_7; have p67_7 := px he p67_7; obtain ⟨B12, B30, B67⟩ := bx3 he B12 B30 B67; obtain ⟨c4, c5, c6, c7, c8, c9, c10, c11, c221, c222, c223, c82⟩ := vm12 he c4 c5 c6 c7 c8 c9 c10 c11 c221 c222 c223 c82; obtain ⟨c83, c126, c166, c172, c208, c89⟩ := vm6 he c83 c126 c166 c172 c208 c89; refine sq_do rfl rfl (op_store_v rfl ty_3 rfl h73 B67 h72 rfl (fun s257 he B67n c258 => ?_)); obtain ⟨h0, h10⟩ := vm2 he h0 h10; have B12 := B12.chg he (fun e => (Ne.symm n67_12) e); have p12_2 := Sp.chg p12_2 he (fun g hg => (fun e => (f12_2 g hg).2.2.2 e)); have p12_7 := Sp.chg p12_7 he (fun g hg => (fun e => (f12_7 g hg).2.2.2 e)); have B30 := B30.chg he (fun e => (Ne.symm n67_30) e)
   have p67_7 := Sp.chg p67_7 he (fun g hg => (fun e => (f67_7 g hg).2.2.2 e)); obtain ⟨c4, c5, c6, c7, c8, c9, c10, c11, c221, c222, c223, c82⟩ := vm12 he c4 c5 c6 c7 c8 c9 c10 c11 c221 c222 c223 c82; obtain ⟨c83, c126, c166, c172, c208, c89⟩ := vm6 he c83 c126 c166 c172 c208 c89; have E := Chg.chg E he (fun b e h => (fun e => absurd h (by cases e; exact Nat.not_lt.2 l67)) e); obtain ⟨u259, huu259⟩ : ∃ u : Value, u = (a254.get 72) := ⟨_, rfl⟩; have c258 : (kI .i64).V s257 u259 y179.2 := by rw [huu259]; exact c258
   have B67 : Bx s257 b67 72 [u74, u75, u127, u167, u259, u173, u209, u81] := by rw [huu259]; exact B67n
   refine wp_seq ?_; refine wp_sr ?_; refine sq_blk [⟨74, _, []⟩, ⟨75, _, []⟩] [0, 1] hz rfl ⟨mvs rfl rfl h10 rfl, (fun a s he hf hz => mv rfl rfl i0), trivial⟩ ?_; intro a260 s261 he hf hz hd1 h74 h75; have ⟨hd, E⟩ := hdE hd1 hd E he; have h0 := V_at h0 he (hf 0 rfl); obtain ⟨h2, h4, h5⟩ := ea3 hf h2 h4 h5 rfl; have p12_2 := px he p12_2; have p12_7 := px he p12_7; have p67_7 := px he p67_7; obtain ⟨B12, B30, B67⟩ := bx3 he B12 B30 B67; obtain ⟨c4, c5, c6, c7, c8, c9, c10, c11, c221, c222, c223, c82⟩ := vm12 he c4 c5 c6 c7 c8 c9 c10 c11 c221 c222 c223 c82; obtain ⟨c83, c126, c166, c258, c172, c208, c89⟩ := vm7 he c83 c126 c166 c258 c172 c208 c89; refine wp_block ?_
   refine wp_loop (k := k) (fun m299 a s => ∃ (y264 : Int) (y265 : (List UInt8)) (y268 : Int) (y271 : Bool) (y274 : Str) (y277 : Int) (y280 : (List Dot)) (y283 : Str) (y286 : Int) (y289 : Str) (y292 : Int) (y295 : (List Dot)) (u266 : Value) (u269 : Value) (u272 : Value) (u275 : Value) (u278 : Value) (u281 : Value) (u284 : Value) (u287 : Value) (u290 : Value) (u293 : Value) (u296 : Value), order_Read.l0 m299 x0 y215 y264 y265 y268 y271 y274 y277 y280 y283 y286 y289 y292 y295 = some r ∧ m299 ≤ k ∧ Ext s0 s ∧ a.tmps.size = 105 ∧ a.defers = [] ∧ kS.V s (a.get 0) x0 ∧ a.get 2 = .pointer (some ⟨b12, 0, none⟩) ∧ a.get 4 = .pointer (some ⟨b30, 0, none⟩) ∧ a.get 5 = .pointer (some ⟨b67, 0, none⟩) ∧ (kI .i64).V s (a.get 74) y215.2 ∧ (kI .i64).V s (a.get 75) y264 ∧ Bx s b12 72 [(.string ⟨#[]⟩), (.int .i64 0), (.slice none 0 0), (.string ⟨#[]⟩), (.int .i64 0), (.string ⟨#[]⟩), (.int .i64 0), (.slice none 0 0)] ∧ kS.V s (.string ⟨#[]⟩) ([] : Str) ∧ (kI .i64).V s (.int .i64 0) 0 ∧ (kSl kDot).V s (.slice none 0 0) ([] : (List Dot)) ∧ kS.V s (.string ⟨#[]⟩) ([] : Str) ∧ (kI .i64).V s (.int .i64 0) 0 ∧ kS.V s (.string ⟨#[]⟩) ([] : Str) ∧ (kI .i64).V s (.int .i64 0) 0 ∧ (kSl kDot).V s (.slice none 0 0) ([] : (List Dot)) ∧ Bx s b30 147 [u266, u269, u272] ∧ (kSl kY).V s u266 y265 ∧ (kI .i64).V s u269 y268 ∧ kB.V s u272 y271 ∧ Bx s b67 72 [u275, u278, u281, u284, u287, u290, u293, u296] ∧ kS.V s u275 y274 ∧ (kI .i64).V s u278 y277 ∧ (kSl kDot).V s u281 y280 ∧ kS.V s u284 y283 ∧ (kI .i64).V s u287 y286 ∧ kS.V s u290 y289 ∧ (kI .i64).V s u293 y292 ∧ (kSl kDot).V s u296 y295 ∧ Sp s u296 70 2 ∧ (∀ g, sb u296 = some g → s0.w.heap.size ≤ g ∧ g ≠ b12 ∧ g ≠ b30 ∧ g ≠ b67)) ⟨_, _, _, _, _, _, _, _, _, _, _, _, _, _, _, _, _, _, _, _, _, _, _, h, Nat.le_refl _, E, hz, hd, h0, h2, h4, h5, h74, h75, B12, c4, c5, c6, c7, c8, c9, c10, c11, B30, c221, c222, c223, B67, c82, c83, c126, c166, c258, c172, c208, c89, p67_7, f67_7⟩ ?_
   rintro m299 a263 s262 ⟨y264, y265, y268, y271, y274, y277, y280, y283, y286, y289, y292, y295, u266, u269, u272, u275, u278, u281, u284, u287, u290, u293, u296, h, hkm299, E, hz, hd, h0, h2, h4, h5, h74, h75, B12, c4, c5, c6, c7, c8, c9, c10, c11, B30, c267, c270, c273, B67, c276, c279, c282, c285, c288, c291, c294, c297, p67_7, f67_7⟩
   obtain _ | m299 := m299
   ·cases h
   refine wp_sr ?_; refine sq_blk [⟨76, _, []⟩] [0] hz rfl ⟨(fun a s he hf hz => ls rfl rfl (V_at h75 he (hf 75 rfl)) (V_at h74 he (hf 74 rfl))), trivial⟩ ?_; intro a300 s301 he hf hz hd1 h76; have ⟨hd, E⟩ := hdE hd1 hd E he; obtain ⟨h0, h74, h75⟩ := va3 he hf h0 h74 h75 rfl; obtain ⟨h2, h4, h5⟩ := ea3 hf h2 h4 h5 rfl; have p67_7 := px he p67_7; obtain ⟨B12, B30, B67⟩ := bx3 he B12 B30 B67; obtain ⟨c4, c5, c6, c7, c8, c9, c10, c11, c267, c270, c273, c276⟩ := vm12 he c4 c5 c6 c7 c8 c9 c10 c11 c267 c270 c273 c276; obtain ⟨c279, c282, c285, c288, c291, c294, c297⟩ := vm7 he c279 c282 c285 c288 c291 c294 c297; refine wp_seq ?_; refine wp_condV h76 (fun hb => ?_) (fun hb => ?_)
   ·have h := ite_t hb h; refine wp_skip ?_; refine wp_seq ?_; refine wp_block ?_; refine wp_drawM (M := fun b => b = b30) (fun t => Hd t b30 147 kReader ((order_reader_dot (⟨y265, y268, y271⟩ : Reader)).1)) 3 (its := [⟨77, _, []⟩, ⟨78, _, [0]⟩, ⟨79, _, []⟩, ⟨80, Fact.v kDot ((order_reader_dot (⟨y265, y268, y271⟩ : Reader)).2), [2]⟩, ⟨81, _, [3]⟩]) [1, 4] mo hz (by kernel_rfl) (fun s t h he => Hd.ext h he) ⟨.inr leF_eq, .inr leF_eq, .inr leF_eq, .inl rfl, .inr leF_v, trivial⟩ ⟨(fun a s he hf hz => fb rfl rfl fa_72_6 ((hf 5 rfl).trans h5)), (fun a s he hf hz q0 => opw rfl (op_load_1 (f := Fact.eq (u296)) rfl ty_32 q0 (B67.chg he (fun e => n67_30 e)) rfl rfl)), mes rfl rfl h4 rfl, (⟨rfl, fun a s he hf hz q2 => op_call rfl (argc q2 rfl) (Cl.mono (order_reader_dot.ok ⟨_, (B30.ext he), (kReader_close (vm he c267) (vm he c270) (vm he c273))⟩) (fun v t hR => hR))⟩), (fun a s he hf hz q3 => opw rfl ((by obtain ⟨e302, w304, r303⟩ := V_open rfl q3; obtain ⟨u305, u306, rfl, c307, c308⟩ := kDot_open r303; exact op_lit_v (d := kDot) rfl lt_32 (zc := [.string ⟨#[]⟩, .int .i64 0]) (by kernel_rfl) (ps := [(0, [u305, u306])]) ⟨rfl, congrArg Value.cells w304, trivial⟩ rfl (by decide) (ys := ([(order_reader_dot (⟨y265, y268, y271⟩ : Reader)).2] : List Dot)) rfl (by decide) rfl (lit_rows1 (show kDot.R _ [u305, u306] ((order_reader_dot (⟨y265, y268, y271⟩ : Reader)).2) from kDot_close c307 c308))))), trivial⟩ ?_
    intro a309 s310 he H311 hf hz hd1 k78 k81; have hd := hd1.trans hd; obtain ⟨h0, h74, h75⟩ := va3 he hf h0 h74 h75 rfl; obtain ⟨h2, h4, h5⟩ := ea3 hf h2 h4 h5 rfl; have B12 := B12.chg he (fun e => (Ne.symm n30_12) e); have B67 := B67.chg he (fun e => n67_30 e); have p67_7 := Sp.chg p67_7 he (fun g hg => (fun e => (f67_7 g hg).2.2.1 e)); obtain ⟨c4, c5, c6, c7, c8, c9, c10, c11, c276, c279, c282, c285⟩ := vm12 he c4 c5 c6 c7 c8 c9 c10 c11 c276 c279 c282 c285; obtain ⟨c288, c291, c294, c297⟩ := vm4 he c288 c291 c294 c297; have E := Chg.chg E he (fun b e h => (fun e => absurd h (by cases e; exact Nat.not_lt.2 l30)) e); have h78 := k78; have h81 := k81; obtain ⟨e312, B30, r313⟩ := H311; obtain ⟨u314, u315, u316, rfl, c317, c318, c319⟩ := kReader_open r313; have pp := Sp_at p67_7 (Chg.refl (fun _ => False) _) (fun _ _ hf => hf) h78; have ff := sb_at f67_7 h78; obtain ⟨D322, h⟩ := need h; refine sq_set hz rfl rfl rfl (op_append2 rfl el_32 (V_at c297 (Chg.refl (fun _ => False) _) h78) pp h81 D322 rfl (fun v s321 he hv hp hq => fun a320 hd' hf hz hd1 => ?_)); have f82' : ∀ g, sb (a320.get 82) = some g → s0.w.heap.size ≤ g ∧ g ≠ b12 ∧ g ≠ b30 ∧ g ≠ b67 := by
     intro g hg; rw [hd'] at hg; rcases hq g hg with h | h
     ·have h1 := ff g h; exact ⟨h1.1, h1.2.1, h1.2.2.1, h1.2.2.2⟩
     ·have h2 := E.size; have l12 := B12.lt; have l30 := B30.lt; have l67 := B67.lt; exact ⟨(by omega), (by omega), (by omega), (by omega)⟩
    have hd := hd1.trans hd; obtain ⟨h0, h74, h75⟩ := va3 he hf h0 h74 h75 rfl; obtain ⟨h2, h4, h5⟩ := ea3 hf h2 h4 h5 rfl; have B12 := B12.chg he (fun e => (ff b12 e).2.1 rfl); have B30 := B30.chg he (fun e => (ff b30 e).2.2.1 rfl); have B67 := B67.chg he (fun e => (ff b67 e).2.2.2 rfl); obtain ⟨c4, c5, c6, c7, c8, c9, c10, c11, c317, c318, c319, c276⟩ := vm12 he c4 c5 c6 c7 c8 c9 c10 c11 c317 c318 c319 c276; obtain ⟨c279, c282, c285, c288, c291, c294⟩ := vm6 he c279 c282 c285 c288 c291 c294; have E := Chg.chg E he (fun b e h => absurd h (Nat.not_lt.2 (ff b e).1)); have h82 := V_eq hd' hv; have p82 := Sp_at hp (Chg.refl (fun _ => False) _) (fun _ _ hf => hf) hd'; have f82 := f82'; refine sq_blk [⟨83, _, []⟩] [0] hz rfl ⟨(fun a s he hf hz => fb rfl rfl fa_72_6 ((hf 5 rfl).trans h5)), trivial⟩ ?_; intro a324 s325 he hf hz hd1 h83; have hd := hd1.trans hd; have p82 := pa he p82 (hf 82 rfl); have f82 := sb_at f82 (hf 82 rfl); obtain ⟨h0, h74, h75, h82⟩ := va4 he hf h0 h74 h75 h82 rfl; obtain ⟨h2, h4, h5⟩ := ea3 hf h2 h4 h5 rfl; obtain ⟨B12, B30, B67⟩ := bx3 he B12 B30 B67
    obtain ⟨c4, c5, c6, c7, c8, c9, c10, c11, c317, c318, c319, c276⟩ := vm12 he c4 c5 c6 c7 c8 c9 c10 c11 c317 c318 c319 c276; obtain ⟨c279, c282, c285, c288, c291, c294⟩ := vm6 he c279 c282 c285 c288 c291 c294; have E := E.trans he; refine sq_do rfl rfl (op_store_v rfl ty_32 rfl h83 B67 h82 rfl (fun s327 he B67n c328 => ?_)); have pn := Sp.chg p82 he (fun g hg => (fun e => (f82 g hg).2.2.2 e)); have fn := f82; obtain ⟨h0, h74, h75⟩ := vm3 he h0 h74 h75; have B12 := B12.chg he (fun e => (Ne.symm n67_12) e); have B30 := B30.chg he (fun e => (Ne.symm n67_30) e); obtain ⟨c4, c5, c6, c7, c8, c9, c10, c11, c317, c318, c319, c276⟩ := vm12 he c4 c5 c6 c7 c8 c9 c10 c11 c317 c318 c319 c276; obtain ⟨c279, c282, c285, c288, c291, c294⟩ := vm6 he c279 c282 c285 c288 c291 c294; have E := Chg.chg E he (fun b e h => (fun e => absurd h (by cases e; exact Nat.not_lt.2 l67)) e); obtain ⟨u329, huu329⟩ : ∃ u : Value, u = (a324.get 82) := ⟨_, rfl⟩; have c328 : (kSl kDot).V s327 u329 (y295 ++ ([(order_reader_dot (⟨y265, y268, y271⟩ : Reader)).2] : List Dot)) := by rw [huu329]; exact c328
    have p67_7 : Sp s327 u329 70 2 := by rw [huu329]; exact pn
    have f67_7 : ∀ g, sb u329 = some g → s0.w.heap.size ≤ g ∧ g ≠ b12 ∧ g ≠ b30 ∧ g ≠ b67 := by rw [huu329]; exact fn
    have B67 : Bx s327 b67 72 [u275, u278, u281, u284, u287, u290, u293, u329] := by rw [huu329]; exact B67n
    refine wp_region ?_; refine sq_blk [⟨84, _, []⟩] [0] hz rfl ⟨(fun a s he hf hz => ad rfl rfl (V_at h75 he (hf 75 rfl)) i1), trivial⟩ ?_; intro a330 s331 he hf hz hd1 h84; have ⟨hd, E⟩ := hdE hd1 hd E he; obtain ⟨h0, h74⟩ := va2 he hf h0 h74 rfl; obtain ⟨h2, h4, h5⟩ := ea3 hf h2 h4 h5 rfl; have p67_7 := px he p67_7; obtain ⟨B12, B30, B67⟩ := bx3 he B12 B30 B67; obtain ⟨c4, c5, c6, c7, c8, c9, c10, c11, c317, c318, c319, c276⟩ := vm12 he c4 c5 c6 c7 c8 c9 c10 c11 c317 c318 c319 c276; obtain ⟨c279, c282, c285, c288, c291, c294, c328⟩ := vm7 he c279 c282 c285 c288 c291 c294 c328; refine sq_blk [⟨75, _, []⟩] [0] hz rfl ⟨mvs rfl rfl h84 rfl, trivial⟩ ?_; intro a332 s333 he hf hz hd1 h75; have ⟨hd, E⟩ := hdE hd1 hd E he; obtain ⟨h0, h74⟩ := va2 he hf h0 h74 rfl; obtain ⟨h2, h4, h5⟩ := ea3 hf h2 h4 h5 rfl; have p67_7 := px he p67_7; obtain ⟨B12, B30, B67⟩ := bx3 he B12 B30 B67; obtain ⟨c4, c5, c6, c7, c8, c9, c10, c11, c317, c318, c319, c276⟩ := vm12 he c4 c5 c6 c7 c8 c9 c10 c11 c317 c318 c319 c276; obtain ⟨c279, c282, c285, c288, c291, c294, c328⟩ := vm7 he c279 c282 c285 c288 c291 c294 c328
    exact ⟨_, (by omega : m299 < m299 + 1), _, _, _, _, _, _, _, _, _, _, _, _, _, _, _, _, _, _, _, _, _, _, _, h, by omega, E, hz, hd, h0, h2, h4, h5, h74, h75, B12, c4, c5, c6, c7, c8, c9, c10, c11, B30, c317, c318, c319, B67, c276, c279, c282, c285, c288, c291, c294, c328, p67_7, (fun g hg => ⟨(f67_7 g hg).1, (f67_7 g hg).2.1, (f67_7 g hg).2.2.1, (f67_7 g hg).2.2.2⟩)⟩
   ·have h := ite_f hb h; refine wp_exit ?_; refine then_exit ?_; refine then_exit ?_; refine inBlock_hit ?_; refine wp_seq ?_; refine wp_sr ?_; have hz0 := hz; refine sq_blk [⟨85, _, []⟩, ⟨86, _, [0]⟩, ⟨87, _, [1]⟩, ⟨88, _, [2]⟩, ⟨89, _, [3]⟩, ⟨90, _, [4]⟩, ⟨91, _, [4, 5]⟩, ⟨92, _, [4, 6]⟩, ⟨93, _, [4, 7]⟩, ⟨94, _, [4]⟩, ⟨95, _, [4, 9]⟩, ⟨96, _, [4, 8, 10]⟩, ⟨97, _, [4, 11]⟩, ⟨98, _, [12]⟩, ⟨99, _, [13]⟩, ⟨100, _, [13, 14]⟩, ⟨101, _, [13, 15]⟩, ⟨102, _, [13, 16]⟩] [17] hz rfl ⟨mes rfl rfl h4 rfl, (fun a s he hf hz q0 => nk rfl rfl q0), (fun a s he hf hz q1 => fb rfl rfl fa_147_2 q1), (fun a s he hf hz q2 => lo rfl rfl ty_4 q2 (B30.ext he) rfl (vm he c273)), mvq rfl rfl, (fun a s he hf hz q4 => og rfl rfl rfl hz hz0 rfl q4 (fun g => op_move_e rfl ((hf 4 rfl).trans h4))), (fun a s he hf hz q4 q5 => og rfl rfl rfl hz hz0 rfl q4 (fun g => op_nilcheck rfl (q5.1 g))), (fun a s he hf hz q4 q6 => og rfl rfl rfl hz hz0 rfl q4 (fun g => op_faddr_b rfl fa_147_1 (q6.1 g))), (fun a s he hf hz q4 q7 => og rfl rfl rfl hz hz0 rfl q4 (fun g => op_load1 rfl ty_3 (q7.1 g) (B30.ext he) rfl (vm he c270))), (fun a s he hf hz q4 => og rfl rfl rfl hz hz0 rfl q4 (fun g => op_move_v rfl (V_at h0 he (hf 0 rfl)))), (fun a s he hf hz q4 q9 => og rfl rfl rfl hz hz0 rfl q4 (fun g => op_len_s rfl u_9 (q9.1 g))), (fun a s he hf hz q4 q8 q10 => og rfl rfl rfl hz hz0 rfl q4 (fun g => op_neq rfl (q8.1 g) (q10.1 g))), (fun a s he hf hz q4 q11 => oe rfl rfl q4 (q11.1)), mvq rfl rfl, (fun a s he hf hz q13 => og rfl rfl rfl hz hz0 rfl q13 (fun g => op_loadn rfl ty_72 rfl ((hf 5 rfl).trans h5) (B67.ext he) rfl (kOp_close (vm he c276) (vm he c279) (vm he c282) (vm he c285) (vm he c288) (vm he c291) (vm he c294) (vm he c297)))), (fun a s he hf hz q13 q14 => og rfl rfl rfl hz hz0 rfl q13 (fun g => op_call rfl rfl (order_Right.ct (q14.1 g)))), (fun a s he hf hz q13 q15 => og rfl rfl rfl hz hz0 rfl q13 (fun g => op_not rfl (q15.1 g))), (fun a s he hf hz q13 q16 => oe rfl rfl q13 (q16.1)), trivial⟩ ?_
    intro a334 s335 he hf hz hd1 h102; have ⟨hd, E⟩ := hdE hd1 hd E he; obtain ⟨h2, h5⟩ := ea2 hf h2 h5 rfl; obtain ⟨B12, B67⟩ := bx2 he B12 B67; have c276 := vm he c276; obtain ⟨c279, c282, c285, c288, c291, c294, c297⟩ := vm7 he c279 c282 c285 c288 c291 c294 c297; refine wp_condV h102 (fun hb => ?_) (fun hb => ?_)
    ·have h := ite_t hb h; refine wp_sr ?_; refine sq_blk [⟨103, _, []⟩] [0] hz rfl ⟨(fun a s he hf hz => opw rfl (op_build rfl bt_72 (ps := []) trivial rfl (f := Fact.nils kOp (⟨(⟨([] : Str), 0⟩ : Dot), ([] : (List Dot)), ([] : Str), 0, ([] : Str), 0, ([] : (List Dot))⟩ : Op) [2, 7]) ⟨V_mk rfl (kOp_close s_0 i0 (lit_nil (d := kDot)) s_0 i0 s_0 i0 (lit_nil (d := kDot))), rfl, rfl, trivial⟩)), trivial⟩ ?_; intro a336 s337 he hf hz hd1 k103; have ⟨hd, E⟩ := hdE hd1 hd E he; have h2 := (hf 2 rfl).trans h2; have B12 := B12.ext he; have h103 := k103.1; have z103 := k103.2; refine sq_do rfl rfl (op_storen' rfl ty_72 rfl h2 B12 h103 rfl (fun s339 e340 he B12n r341 zeq => ?_)); have zz := nilAt_at z103 zeq.symm; have E := Chg.chg E he (fun b e h => (fun e => absurd h (by cases e; exact Nat.not_lt.2 l12)) e); obtain ⟨u342, u343, u344, u345, u346, u347, u348, u349, rfl, c350, c351, c352, c353, c354, c355, c356, c357⟩ := kOp_open r341
     have p12_2 : Sp s339 u344 70 2 := nil_sp (u := u344) zz.1; have p12_7 : Sp s339 u349 70 2 := nil_sp (u := u349) zz.2.1; have B12 : Bx s339 b12 72 [u342, u343, u344, u345, u346, u347, u348, u349] := B12n; refine sq_blk [⟨3, _, []⟩] [0] hz rfl ⟨(fun a s he hf hz => av rfl rfl (lit_i (k := .i64) (n := 80) (by decide))), trivial⟩ ?_; intro a360 s361 he hf hz hd1 h3; have ⟨hd, E⟩ := hdE hd1 hd E he; have h2 := (hf 2 rfl).trans h2; have B12 := B12.ext he; obtain ⟨c350, c351, c352, c353, c354, c355, c356, c357⟩ := vm8 he c350 c351 c352 c353 c354 c355 c356 c357; refine wp_ret ?_; cases h
     exact ⟨hd, _, results_cell_tmp (es := [u342, u343, u344, u345, u346, u347, u348, u349]) rfl (agg := true) ty_72 (by simp) h2 B12, E, tup2 (V_mk rfl (kOp_close c350 c351 c352 c353 c354 c355 c356 c357)) h3⟩
    ·have h := ite_f hb h; refine wp_skip ?_; refine wp_sr ?_; refine sq_blk [⟨104, _, []⟩] [0] hz rfl ⟨(fun a s he hf hz => ld rfl rfl ty_72 rfl ((hf 5 rfl).trans h5) (B67.ext he) rfl (kOp_close (vm he c276) (vm he c279) (vm he c282) (vm he c285) (vm he c288) (vm he c291) (vm he c294) (vm he c297))), trivial⟩ ?_; intro a362 s363 he hf hz hd1 h104; have ⟨hd, E⟩ := hdE hd1 hd E he; have h2 := (hf 2 rfl).trans h2; have B12 := B12.ext he; refine sq_do rfl rfl (op_storen rfl ty_72 rfl h2 B12 h104 rfl (fun s365 e366 he B12n r367 => ?_)); have E := Chg.chg E he (fun b e h => (fun e => absurd h (by cases e; exact Nat.not_lt.2 l12)) e); obtain ⟨u368, u369, u370, u371, u372, u373, u374, u375, rfl, c376, c377, c378, c379, c380, c381, c382, c383⟩ := kOp_open r367; have B12 : Bx s365 b12 72 [u368, u369, u370, u371, u372, u373, u374, u375] := B12n; refine sq_blk [⟨3, _, []⟩] [0] hz rfl ⟨(fun a s he hf hz => av rfl rfl i0), trivial⟩ ?_; intro a384 s385 he hf hz hd1 h3; have hd := hd1.trans hd; have h2 := (hf 2 rfl).trans h2; have B12 := B12.ext he
     obtain ⟨c376, c377, c378, c379, c380, c381, c382, c383⟩ := vm8 he c376 c377 c378 c379 c380 c381 c382 c383; have E := E.trans he; refine wp_ret ?_; cases h
     exact ⟨hd, _, results_cell_tmp (es := [u368, u369, u370, u371, u372, u373, u374, u375]) rfl (agg := true) ty_72 (by simp) h2 B12, E, tup2 (V_mk rfl (kOp_close c376 c377 c378 c379 c380 c381 c382 c383)) h3⟩
theorem order_Read.nice (x0 : Str) (b0 : kS.bd x0) : ∃ k, order_Read.f k x0 = some (parseO x0) := by
 have e0 : ((0 : Int)) = (x0.length : Int) - x0.length := by omega
 have hD := rdD (List.suffix_refl x0)
 rw [← e0] at hD
 rcases hD with ⟨i, w, r1, E1⟩ | ⟨d, q1, r1, E1⟩
 ·refine ⟨0, ?_⟩
  simp only [order_Read.f, bindv, E1, Bool.true_or, if_true, parseO, readO, r1, Option.bind_none]; rfl
 have s1 := readD_sfx r1
 have E2 := takeV_sfx s1
 cases r2 : readV q1 with
 | none =>
  rw [r2] at E2; simp only [] at E2
  refine ⟨0, ?_⟩
  simp only [order_Read.f, bindv, E1, E2, parseO, readO, r1, r2, Option.bind_some, Option.bind_none]; rfl
 | some p2 =>
 obtain ⟨v, q2⟩ := p2
 rw [r2] at E2; simp only [] at E2
 have s2 := (readV_sfx r2).trans s1
 have E3 := rdT s2
 cases r3 : readT 32 q2 with
 | none =>
  rw [r3] at E3; simp only [] at E3
  refine ⟨0, ?_⟩
  simp only [order_Read.f, bindv, E1, E2, E3, rdT_bad, rdN_bad, parseO, readO, r1, r2, r3, Option.bind_some, Option.bind_none]; rfl
 | some p3 =>
 obtain ⟨c, q3⟩ := p3
 rw [r3] at E3; simp only [] at E3
 have s3 := (readT_sfx r3).trans s2
 have E4 := rdT s3
 cases r4 : readT 32 q3 with
 | none =>
  rw [r4] at E4; simp only [] at E4
  refine ⟨0, ?_⟩
  simp only [order_Read.f, bindv, E1, E2, E3, E4, rdT_bad, rdN_bad, parseO, readO, r1, r2, r3, r4, Option.bind_some, Option.bind_none]; rfl
 | some p4 =>
 obtain ⟨it, q4⟩ := p4
 rw [r4] at E4; simp only [] at E4
 have s4 := (readT_sfx r4).trans s3
 have E5 := rdN s4
 cases r5 : numM 4611686018427387904 q4 with
 | none =>
  rw [r5] at E5; simp only [] at E5
  refine ⟨0, ?_⟩
  simp only [order_Read.f, bindv, E1, E2, E3, E4, E5, rdT_bad, rdN_bad, parseO, readO, r1, r2, r3, r4, r5, Option.bind_some, Option.bind_none]; rfl
 | some p5 =>
 obtain ⟨kd, q5⟩ := p5
 rw [r5] at E5; simp only [] at E5
 have s5 := (numM_sfx r5).trans s4
 have E6 := rdN s5
 cases r6 : numM 4611686018427387904 q5 with
 | none =>
  rw [r6] at E6; simp only [] at E6
  refine ⟨0, ?_⟩
  simp only [order_Read.f, bindv, E1, E2, E3, E4, E5, E6, rdT_bad, rdN_bad, parseO, readO, r1, r2, r3, r4, r5, r6, Option.bind_some, Option.bind_none]; rfl
 | some p6 =>
 obtain ⟨qt, q6⟩ := p6
 rw [r6] at E6; simp only [] at E6
 have s6 := (numM_sfx r6).trans s5
 have E7 := rdN s6
 cases r7 : numM 4611686018427387904 q6 with
 | none =>
  rw [r7] at E7; simp only [] at E7
  refine ⟨0, ?_⟩
  simp only [order_Read.f, bindv, E1, E2, E3, E4, E5, E6, E7, rdT_bad, rdN_bad, parseO, readO, r1, r2, r3, r4, r5, r6, r7, Option.bind_some, Option.bind_none]; rfl
 | some p7 =>
 obtain ⟨m, q7⟩ := p7
 rw [r7] at E7; simp only [] at E7
 have s7 := (numM_sfx r7).trans s6
 by_cases hlim : 3 < kd ∨ 128 < m
 ·refine ⟨0, ?_⟩
  have hl : (decide ((3 : Int) < (kd : Int)) || decide ((128 : Int) < (m : Int))) = true := by
   rw [Bool.or_eq_true, decide_eq_true_eq, decide_eq_true_eq]; omega
  simp only [order_Read.f, bindv, E1, E2, E3, E4, E5, E6, E7, Bool.false_or, decide_true, Bool.not_true, Bool.or_false, Bool.false_eq_true, if_false, hl, if_true]
  simp only [parseO, readO, r1, r2, r3, r4, r5, r6, r7, Option.bind_some, hlim, if_true]; rfl
 ·have hl1 : (decide ((3 : Int) < (kd : Int))) = false := by rw [decide_eq_false_iff_not]; omega
  have hl2 : (decide ((128 : Int) < (m : Int))) = false := by rw [decide_eq_false_iff_not]; omega
  have bad : ∀ y, y ≤ m → ∀ (i : Int) (acc : List Dot), acc.length ≤ y → ∃ k, order_Read.l0 k x0 ((⟨x0, (x0.length : Int) - q7.length, false⟩ : Reader), (m : Int)) (y : Int) x0 i true d.who d.n v c (kd : Int) it (qt : Int) acc = some (zOp, 80) := by
   refine rounds m ?_ ?_
   ·intro i acc ha
    refine ⟨1, ?_⟩
    simp only [order_Read.l0, E1, E2, E3, E4, E5, E6, E7, Int.lt_irrefl, decide_false, Bool.false_eq_true, if_false, Bool.true_or, if_true]; rfl
   ·intro y hy ih i acc ha
    obtain ⟨k, hk⟩ := ih i (acc ++ [⟨[], 0⟩]) (by simp; omega)
    push_cast at hk
    refine ⟨k + 1, ?_⟩
    have h1 : decide ((y : Int) < (m : Int)) = true := by rw [decide_eq_true_eq]; omega
    have h2 : (acc.length + ([⟨[], 0⟩] : List Dot).length) * 24 ≤ 140737488355328 := by simp; omega
    simp only [order_Read.l0, E1, E2, E3, E4, E5, E6, E7, rdD_bad, h1, if_true]
    rw [if_pos h2, w64s (by omega)]
    exact hk
  have good : ∀ y, y ≤ m → ∀ (r : Str) (acc : List Dot), r <:+ x0 → acc.length ≤ y → ∃ k, order_Read.l0 k x0 ((⟨x0, (x0.length : Int) - q7.length, false⟩ : Reader), (m : Int)) (y : Int) x0 ((x0.length : Int) - r.length) false d.who d.n v c (kd : Int) it (qt : Int) acc =
    some (match readS 32 (m - y) r with | none => (zOp, 80) | some (l, q) => if q = [] ∧ rightO ⟨d, v, c, (kd : Int), it, (qt : Int), acc ++ l⟩ = true then (⟨d, v, c, (kd : Int), it, (qt : Int), acc ++ l⟩, 0) else (zOp, 80)) := by
   refine rounds m ?_ ?_
   ·intro r acc hr ha
    refine ⟨1, ?_⟩
    have hle := hr.length_le
    simp only [order_Read.l0, E1, E2, E3, E4, E5, E6, E7, Int.lt_irrefl, decide_false, Bool.false_eq_true, if_false, Bool.false_or, Nat.sub_self, readS, List.append_nil]
    cases r with
    | nil =>
     have : decide ((x0.length : Int) - (([] : Str).length : Int) = (x0.length : Int)) = true := by simp
     rw [this]
     obtain ⟨dw, dn⟩ := d
     cases hr2 : rightO ⟨⟨dw, dn⟩, v, c, (kd : Int), it, (qt : Int), acc⟩ <;> simp [hr2] <;> rfl
    | cons a l =>
     have : decide ((x0.length : Int) - ((a :: l).length : Int) = (x0.length : Int)) = false := by
      rw [decide_eq_false_iff_not, List.length_cons]; omega
     rw [this]
     simp; rfl
   ·intro y hy ih r acc hr ha
    have h1 : decide ((y : Int) < (m : Int)) = true := by rw [decide_eq_true_eq]; omega
    have hs : m - y = (m - (y + 1)) + 1 := by omega
    rcases rdD hr with ⟨i, w, g1, E⟩ | ⟨e, q, g1, E⟩
    ·obtain ⟨k, hk⟩ := bad (y + 1) (by omega) i (acc ++ [w]) (by simp; omega)
     push_cast at hk
     refine ⟨k + 1, ?_⟩
     have h2 : (acc.length + ([w] : List Dot).length) * 24 ≤ 140737488355328 := by simp; omega
     simp only [order_Read.l0, E1, E2, E3, E4, E5, E6, E7, E, h1, if_true]
     rw [if_pos h2, w64s (by omega), hk, hs]
     simp only [readS, g1, Option.bind_none]
    ·obtain ⟨k, hk⟩ := ih q (acc ++ [e]) ((readD_sfx g1).trans hr) (by simp; omega)
     push_cast at hk
     refine ⟨k + 1, ?_⟩
     have h2 : (acc.length + ([e] : List Dot).length) * 24 ≤ 140737488355328 := by simp; omega
     simp only [order_Read.l0, E1, E2, E3, E4, E5, E6, E7, E, h1, if_true]
     rw [if_pos h2, w64s (by omega), hk, hs]
     simp only [readS, g1, Option.bind_some]
     cases readS 32 (m - (y + 1)) q with
     | none => rfl
     | some p => simp only [Option.bind_some, List.append_assoc, List.cons_append, List.nil_append]
  obtain ⟨k, hk⟩ := good 0 (Nat.zero_le _) q7 [] s7 (by simp)
  refine ⟨k, ?_⟩
  have hk : order_Read.l0 k x0 ((⟨x0, (x0.length : Int) - q7.length, false⟩ : Reader), (m : Int)) 0 x0 ((x0.length : Int) - q7.length) false d.who d.n v c (kd : Int) it (qt : Int) [] = _ := hk
  simp only [order_Read.f, bindv, E1, E2, E3, E4, E5, E6, E7, hl1, hl2, Bool.false_or, Bool.or_false, decide_true, Bool.not_true, Bool.false_eq_true, if_false]
  rw [hk]
  simp only [parseO, readO, r1, r2, r3, r4, r5, r6, r7, Option.bind_some, hlim, if_false, Nat.sub_zero, List.nil_append]
  cases readS 32 m q7 with
  | none => rfl
  | some p => rfl
theorem order_Read.ct {s0 : St} {v0 : Value} {x0 : Str} (k0 : kS.V s0 v0 x0) : Cl Try.prog 63 #[v0] s0 (Okf s0 (Fact.tup [Fact.v kOp ((parseO x0).1), Fact.v (kI .i64) ((parseO x0).2)])) := by
 obtain ⟨k, h⟩ := order_Read.nice x0 (Kn.V_bd k0)
 exact order_Read.ok k0 h
end
end Go.Proofs.Ytfaenhhiogcacaa.Px
