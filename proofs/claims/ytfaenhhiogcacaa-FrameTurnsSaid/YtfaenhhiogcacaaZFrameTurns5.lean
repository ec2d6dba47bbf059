/-
  PARTS OF ONE PROOF: W25 W27 PxI W28 PxS W32. CONDITIONS: none of their own; each line names its own.
-/
import Derived.Test.YtfaenhhiogcacaaZFrameTurns4
import Derived.Test.YtfaenhhiogcacaaProg
import Derived.KernelRfl
import Derived.Test.YtfaenhhiogcacaaZFrameTurns3
set_option linter.unusedSimpArgs false
set_option linter.unusedVariables false
set_option maxRecDepth 4000
set_option maxHeartbeats 1000000
namespace Go.Proofs.Ytfaenhhiogcacaa.Px
open Go Go.RowKit
section
attribute [local irreducible] Kn.V PtrV
mutual
def frame_Read.l1 : Nat → Str → (Int × Bool × Int) → Int → Int → Bool → Int → Str → Str → Str → Int → Int → Int → (List Dot) → (List Op) → Option (Frame × Int)
 | 0, _, _, _, _, _, _, _, _, _, _, _, _, _, _ => none
 | m329 + 1, x0, y279, y294, y295, y298, y301, y304, y307, y310, y313, y316, y319, y322, y325 => (if ((decide (y294 < y279.2.2)) && (!y298)) = true then (bindv (frame_Read_1 1048576 ((openS x0 0 1048576).2.1) y295 y298) (fun y338 => (if (List.length y325 + List.length ([(parseO y338.2.2).1] : List Op)) * 120 ≤ 140737488355328 then (frame_Read.l1 m329 x0 y279 (IntKind.wrap .i64 (y294 + 1)) y338.1 (y338.2.1 || (!decide (((parseO y338.2.2).2) = 0))) y301 y304 y307 y310 y313 y316 y319 y322 (y325 ++ ([(parseO y338.2.2).1] : List Op))) else none))) else (frame_Read.l0 m329 x0 y295 y298 y301 y304 y307 y310 y313 y316 y319 y322 y325))
def frame_Read.l0 : Nat → Str → Int → Bool → Int → Str → Str → Str → Int → Int → Int → (List Dot) → (List Op) → Option (Frame × Int)
 | 0, _, _, _, _, _, _, _, _, _, _, _, _ => none
 | m462 + 1, x0, y429, y432, y435, y438, y441, y444, y447, y450, y453, y456, y460 => (if ((y432 || (!decide (y429 = (((openS x0 0 1048576).2.1).length : Int)))) || (!(frame_Right (⟨y435, y438, y441, y444, y447, y450, y453, y456, y460⟩ : Frame)))) = true then (some ((⟨0, ([] : Str), ([] : Str), ([] : Str), 0, 0, 0, ([] : (List Dot)), ([] : (List Op))⟩ : Frame), 110)) else (some ((⟨y435, y438, y441, y444, y447, y450, y453, y456, y460⟩ : Frame), 0)))
end
def frame_Read.f (k : Nat) (x0 : Str) : Option (Frame × Int) := (if ((!decide (((openS x0 0 1048576).2.2.2) = 0)) || (!decide (((openS x0 0 1048576).2.2.1) = (x0.length : Int)))) = true then (some ((⟨0, ([] : Str), ([] : Str), ([] : Str), 0, 0, 0, ([] : (List Dot)), ([] : (List Op))⟩ : Frame), 110)) else (bindv (frame_Read_1 24 ((openS x0 0 1048576).2.1) 0 false) (fun y131 => (bindv (frame_Read_1 24 ((openS x0 0 1048576).2.1) y131.1 y131.2.1) (fun y152 => (bindv (frame_Read_1 32 ((openS x0 0 1048576).2.1) y152.1 y152.2.1) (fun y173 => (bindv (frame_Read_2 ((openS x0 0 1048576).2.1) y173.1 y173.2.1) (fun y194 => (bindv (frame_Read_2 ((openS x0 0 1048576).2.1) y194.1 y194.2.1) (fun y215 => (if y215.2.1 = true then (frame_Read.l0 k x0 y215.1 y215.2.1 (IntKind.wrap .i64 ((openS x0 0 1048576).1)) y131.2.2 y152.2.2 y173.2.2 y194.2.2 y215.2.2 0 ([] : (List Dot)) ([] : (List Op))) else (if decide ((IntKind.wrap .i64 ((openS x0 0 1048576).1)) = 1) = true then (frame_Read.l0 k x0 ((takeV ((openS x0 0 1048576).2.1) y215.1).2.1) (!decide (((takeV ((openS x0 0 1048576).2.1) y215.1).2.2) = 0)) (IntKind.wrap .i64 ((openS x0 0 1048576).1)) y131.2.2 y152.2.2 y173.2.2 y194.2.2 y215.2.2 0 ((takeV ((openS x0 0 1048576).2.1) y215.1).1) ([] : (List Op))) else (if decide ((IntKind.wrap .i64 ((openS x0 0 1048576).1)) = 2) = true then (bindv (frame_Read_2 ((openS x0 0 1048576).2.1) y215.1 y215.2.1) (fun y258 => (bindv (frame_Read_2 ((openS x0 0 1048576).2.1) y258.1 y258.2.1) (fun y279 => (frame_Read.l1 k x0 y279 0 y279.1 y279.2.1 (IntKind.wrap .i64 ((openS x0 0 1048576).1)) y131.2.2 y152.2.2 y173.2.2 y194.2.2 y215.2.2 y258.2.2 ([] : (List Dot)) ([] : (List Op))))))) else (frame_Read.l0 k x0 y215.1 y215.2.1 (IntKind.wrap .i64 ((openS x0 0 1048576).1)) y131.2.2 y152.2.2 y173.2.2 y194.2.2 y215.2.2 0 ([] : (List Dot)) ([] : (List Op)))))))))))))))))
theorem frame_Read.ok {s0 : St} {v0 : Value} {x0 : Str} {k : Nat} {r : Frame × Int} (k0 : kS.V s0 v0 x0) (h : frame_Read.f k x0 = some r) : Cl Try.prog 25 #[v0] s0 (Okf s0 (Fact.tup [Fact.v kFrame r.1, Fact.v (kI .i64) r.2])) := by
 unfold frame_Read.f at h
 refine cl_of_wp Try.func25 rfl en_25 fun a hz hd hp => ?_; have hz : a.tmps.size = 126 := hz; have E := Chg.refl (fun _ => False) s0; have h0 := V_at k0 E (hp 0 v0 rfl); refine wp_sr ?_; refine sq_set hz rfl rfl rfl (op_alloc (cs := [.int .i64 0, .string ⟨#[]⟩, .string ⟨#[]⟩, .string ⟨#[]⟩, .int .i64 0, .int .i64 0, .int .i64 0, .slice none 0 0, .slice none 0 0]) rfl zv_34 rfl (fun s2 he BB3 => fun a1 h2 hf hz hd1 => ?_)); obtain ⟨b13, hb13⟩ : ∃ b, b = s0.w.heap.size := ⟨_, rfl⟩; rw [← hb13] at BB3 h2; have B13 := BB3; have l13 : s0.w.heap.size ≤ b13 := by have := E.size; omega
 have ⟨hd, E⟩ := hdE hd1 hd E he; have h0 := V_at h0 he (hf 0 rfl); have c4 : (kI .i64).V s2 (.int .i64 0) 0 := i0; have c5 : kS.V s2 (.string ⟨#[]⟩) ([] : Str) := s_0; have c6 : kS.V s2 (.string ⟨#[]⟩) ([] : Str) := s_0; have c7 : kS.V s2 (.string ⟨#[]⟩) ([] : Str) := s_0; have c8 : (kI .i64).V s2 (.int .i64 0) 0 := i0; have c9 : (kI .i64).V s2 (.int .i64 0) 0 := i0; have c10 : (kI .i64).V s2 (.int .i64 0) 0 := i0; have c11 : (kSl kDot).V s2 (.slice none 0 0) ([] : (List Dot)) := (lit_nil (d := kDot)); have c12 : (kSl kOp).V s2 (.slice none 0 0) ([] : (List Op)) := (lit_nil (d := kOp)); have p13_7 : Sp s2 (.slice none 0 0) 70 2 := Spare.nil _ _ _ 0; have f13_7 : ∀ g, sb (.slice none 0 0) = some g → s0.w.heap.size ≤ g ∧ g ≠ b13 := fun g hg => by simp [sb] at hg
 have p13_8 : Sp s2 (.slice none 0 0) 72 8 := Spare.nil _ _ _ 0; have f13_8 : ∀ g, sb (.slice none 0 0) = some g → s0.w.heap.size ≤ g ∧ g ≠ b13 := fun g hg => by simp [sb] at hg
 refine sq_blk (its := [⟨3, _, []⟩]) [] hz rfl ⟨(fun a s he hf hz => av rfl rfl i0), trivial⟩ ?_; intro a16 s17 he hf hz hd1; have ⟨hd, E⟩ := hdE hd1 hd E he; have h0 := V_at h0 he (hf 0 rfl); have h2 := (hf 2 rfl).trans h2; have p13_7 := px he p13_7; have p13_8 := px he p13_8; have B13 := B13.ext he; obtain ⟨c4, c5, c6, c7, c8, c9, c10, c11, c12⟩ := vm9 he c4 c5 c6 c7 c8 c9 c10 c11 c12; refine wp_sr ?_; refine sq_blk (its := [⟨22, _, []⟩, ⟨23, _, [0]⟩, ⟨21, _, [1]⟩, ⟨24, _, [2]⟩, ⟨25, _, [2]⟩, ⟨26, _, [2]⟩, ⟨27, _, [2]⟩, ⟨4, _, [3]⟩, ⟨5, _, [4]⟩, ⟨6, _, [5]⟩, ⟨7, _, [6]⟩]) [7, 8, 9, 10] hz rfl ⟨mvs rfl rfl h0 rfl, (fun a s he hf hz q0 => opw rfl (op_call rfl rfl (wire_Open.ct q0 i0 (lit_i (k := .i64) (n := 1048576) (by decide))))), (fun a s he hf hz q1 => opw rfl (op_move rfl (f := Fact.tup _) q1)), (fun a s he hf hz q2 => opw rfl (op_extract (f := Fact.v _ _) rfl q2 rfl)), (fun a s he hf hz q2 => opw rfl (op_extract (f := Fact.v _ _) rfl q2 rfl)), (fun a s he hf hz q2 => opw rfl (op_extract (f := Fact.v _ _) rfl q2 rfl)), (fun a s he hf hz q2 => opw rfl (op_extract (f := Fact.v _ _) rfl q2 rfl)), avq rfl rfl, avq rfl rfl, avq rfl rfl, avq rfl rfl, trivial⟩ ?_
 intro a18 s19 he hf hz hd1 h4 h5 h6 h7; have ⟨hd, E⟩ := hdE hd1 hd E he; have h0 := V_at h0 he (hf 0 rfl); have h2 := (hf 2 rfl).trans h2; have p13_7 := px he p13_7; have p13_8 := px he p13_8; have B13 := B13.ext he; obtain ⟨c4, c5, c6, c7, c8, c9, c10, c11, c12⟩ := vm9 he c4 c5 c6 c7 c8 c9 c10 c11 c12; refine wp_seq ?_; refine wp_sr ?_; have hz0 := hz; refine sq_blk (its := [⟨28, _, []⟩, ⟨29, _, [0]⟩, ⟨30, _, [1]⟩, ⟨31, _, [2]⟩, ⟨32, _, [2]⟩, ⟨33, _, [2, 4]⟩, ⟨34, _, [2, 3, 5]⟩, ⟨35, _, [2, 6]⟩]) [7] hz rfl ⟨mvs rfl rfl h7 rfl, (fun a s he hf hz q0 => ne_ rfl rfl q0 i0), mvq rfl rfl, (fun a s he hf hz q2 => og rfl rfl rfl hz hz0 rfl q2 (fun g => op_move_v rfl (V_at h6 he (hf 6 rfl)))), (fun a s he hf hz q2 => og rfl rfl rfl hz hz0 rfl q2 (fun g => op_move_v rfl (V_at h0 he (hf 0 rfl)))), (fun a s he hf hz q2 q4 => og rfl rfl rfl hz hz0 rfl q2 (fun g => op_len_s rfl u_9 (q4.1 g))), (fun a s he hf hz q2 q3 q5 => og rfl rfl rfl hz hz0 rfl q2 (fun g => op_neq rfl (q3.1 g) (q5.1 g))), (fun a s he hf hz q2 q6 => oe rfl rfl q2 (q6.1)), trivial⟩ ?_; intro a20 s21 he hf hz hd1 h35; have hd := hd1.trans hd
 obtain ⟨h4, h5⟩ := va2 he hf h4 h5 rfl; have h2 := (hf 2 rfl).trans h2; have p13_7 := px he p13_7; have p13_8 := px he p13_8; have B13 := B13.ext he; obtain ⟨c4, c5, c6, c7, c8, c9, c10, c11, c12⟩ := vm9 he c4 c5 c6 c7 c8 c9 c10 c11 c12; have E := E.trans he; refine wp_condV h35 (fun hb => ?_) (fun hb => ?_)
 ·have h := ite_t hb h; refine wp_sr ?_; refine sq_blk (its := [⟨36, _, []⟩]) [0] hz rfl ⟨(fun a s he hf hz => opw rfl (op_build rfl bt_34 (ps := []) trivial rfl (f := Fact.nils kFrame (⟨0, ([] : Str), ([] : Str), ([] : Str), 0, 0, 0, ([] : (List Dot)), ([] : (List Op))⟩ : Frame) [7, 8]) ⟨V_mk rfl (kFrame_close i0 s_0 s_0 s_0 i0 i0 i0 (lit_nil (d := kDot)) (lit_nil (d := kOp))), rfl, rfl, trivial⟩)), trivial⟩ ?_; intro a22 s23 he hf hz hd1 k36; have ⟨hd, E⟩ := hdE hd1 hd E he; have h2 := (hf 2 rfl).trans h2; have p13_7 := px he p13_7; have p13_8 := px he p13_8; have B13 := B13.ext he; have h36 := k36.1; have z36 := k36.2; refine sq_do rfl rfl (op_storen' rfl ty_34 rfl h2 B13 h36 rfl (fun s25 e26 he B13n r27 zeq => ?_)); have zz := nilAt_at z36 zeq.symm; have E := Chg.chg E he (fun b e h => (fun e => absurd h (by cases e; exact Nat.not_lt.2 l13)) e)
  obtain ⟨u28, u29, u30, u31, u32, u33, u34, u35, u36, rfl, c37, c38, c39, c40, c41, c42, c43, c44, c45⟩ := kFrame_open r27; have p13_7 : Sp s25 u35 70 2 := nil_sp (u := u35) zz.1; have p13_8 : Sp s25 u36 72 8 := nil_sp (u := u36) zz.2.1; have B13 : Bx s25 b13 34 [u28, u29, u30, u31, u32, u33, u34, u35, u36] := B13n; refine sq_blk (its := [⟨3, _, []⟩]) [0] hz rfl ⟨(fun a s he hf hz => av rfl rfl (lit_i (k := .i64) (n := 110) (by decide))), trivial⟩ ?_; intro a48 s49 he hf hz hd1 h3; have ⟨hd, E⟩ := hdE hd1 hd E he; have h2 := (hf 2 rfl).trans h2; have B13 := B13.ext he; obtain ⟨c37, c38, c39, c40, c41, c42, c43, c44, c45⟩ := vm9 he c37 c38 c39 c40 c41 c42 c43 c44 c45; refine wp_ret ?_; cases h
  exact ⟨hd, _, results_cell_tmp (es := [u28, u29, u30, u31, u32, u33, u34, u35, u36]) rfl (agg := true) ty_34 (by simp) h2 B13, E, tup2 (V_mk rfl (kFrame_close c37 c38 c39 c40 c41 c42 c43 c44 c45)) h3⟩
 ·have h := ite_f hb h; refine wp_skip ?_; refine wp_sr ?_; refine sq_blk (its := [⟨37, _, []⟩, ⟨38, _, [0]⟩]) [1] hz rfl ⟨mvs rfl rfl h5 rfl, (fun a s he hf hz q0 => opw rfl (op_tobytes rfl u_9 u_53 u_5 q0)), trivial⟩ ?_; intro a50 s51 he hf hz hd1 h38; have ⟨hd, E⟩ := hdE hd1 hd E he; have h4 := V_at h4 he (hf 4 rfl); have h2 := (hf 2 rfl).trans h2; have p13_7 := px he p13_7; have p13_8 := px he p13_8; have B13 := B13.ext he; obtain ⟨c4, c5, c6, c7, c8, c9, c10, c11, c12⟩ := vm9 he c4 c5 c6 c7 c8 c9 c10 c11 c12; refine sq_set hz rfl rfl rfl (op_alloc (cs := [.slice none 0 0]) rfl zv_53 rfl (fun s53 he BB54 => fun a52 h8 hf hz hd1 => ?_)); obtain ⟨b56, hb56⟩ : ∃ b, b = s51.w.heap.size := ⟨_, rfl⟩; rw [← hb56] at BB54 h8; have B56 := BB54; have l56 : s0.w.heap.size ≤ b56 := by have := E.size; omega
  have n56_13 : b56 ≠ b13 := by have := B13.lt; omega
  have f13_7 : ∀ g, sb (.slice none 0 0) = some g → s0.w.heap.size ≤ g ∧ g ≠ b13 ∧ g ≠ b56 := fun g hg => ⟨(f13_7 g hg).1, (f13_7 g hg).2, (by have := Spare.lt p13_7 hg; omega)⟩; have f13_8 : ∀ g, sb (.slice none 0 0) = some g → s0.w.heap.size ≤ g ∧ g ≠ b13 ∧ g ≠ b56 := fun g hg => ⟨(f13_8 g hg).1, (f13_8 g hg).2, (by have := Spare.lt p13_8 hg; omega)⟩; have ⟨hd, E⟩ := hdE hd1 hd E he; obtain ⟨h4, h38⟩ := va2 he hf h4 h38 rfl; have h2 := (hf 2 rfl).trans h2; have p13_7 := px he p13_7; have p13_8 := px he p13_8; have B13 := B13.ext he; obtain ⟨c4, c5, c6, c7, c8, c9, c10, c11, c12⟩ := vm9 he c4 c5 c6 c7 c8 c9 c10 c11 c12; have c55 : (kSl kY).V s53 (.slice none 0 0) ([] : (List UInt8)) := (lit_nil (d := kY)); have p56_0 : Sp s53 (.slice none 0 0) 5 1 := Spare.nil _ _ _ 0; refine sq_set hz rfl rfl rfl (op_alloc (cs := [.int .i64 0]) rfl zv_3 rfl (fun s59 he BB60 => fun a58 h9 hf hz hd1 => ?_)); obtain ⟨b62, hb62⟩ : ∃ b, b = s53.w.heap.size := ⟨_, rfl⟩; rw [← hb62] at BB60 h9; have B62 := BB60; have l62 : s0.w.heap.size ≤ b62 := by have := E.size; omega
  have n62_13 : b62 ≠ b13 := by have := B13.lt; omega
  have n62_56 : b62 ≠ b56 := by have := B56.lt; omega
  have f13_7 : ∀ g, sb (.slice none 0 0) = some g → s0.w.heap.size ≤ g ∧ g ≠ b13 ∧ g ≠ b56 ∧ g ≠ b62 := fun g hg => ⟨(f13_7 g hg).1, (f13_7 g hg).2.1, (f13_7 g hg).2.2, (by have := Spare.lt p13_7 hg; omega)⟩; have f13_8 : ∀ g, sb (.slice none 0 0) = some g → s0.w.heap.size ≤ g ∧ g ≠ b13 ∧ g ≠ b56 ∧ g ≠ b62 := fun g hg => ⟨(f13_8 g hg).1, (f13_8 g hg).2.1, (f13_8 g hg).2.2, (by have := Spare.lt p13_8 hg; omega)⟩; have ⟨hd, E⟩ := hdE hd1 hd E he; obtain ⟨h4, h38⟩ := va2 he hf h4 h38 rfl; obtain ⟨h2, h8⟩ := ea2 hf h2 h8 rfl; have p13_7 := px he p13_7; have p13_8 := px he p13_8; obtain ⟨B13, B56⟩ := bx2 he B13 B56; obtain ⟨c4, c5, c6, c7, c8, c9, c10, c11, c12⟩ := vm9 he c4 c5 c6 c7 c8 c9 c10 c11 c12; have c61 : (kI .i64).V s59 (.int .i64 0) 0 := i0; refine sq_set hz rfl rfl rfl (op_alloc (cs := [.bool false]) rfl zv_4 rfl (fun s64 he BB65 => fun a63 h10 hf hz hd1 => ?_)); obtain ⟨b67, hb67⟩ : ∃ b, b = s59.w.heap.size := ⟨_, rfl⟩; rw [← hb67] at BB65 h10; have B67 := BB65; have l67 : s0.w.heap.size ≤ b67 := by have := E.size; omega
  have n67_13 : b67 ≠ b13 := by have := B13.lt; omega
  have n67_56 : b67 ≠ b56 := by have := B56.lt; omega
  have n67_62 : b67 ≠ b62 := by have := B62.lt; omega
  have f13_7 : ∀ g, sb (.slice none 0 0) = some g → s0.w.heap.size ≤ g ∧ g ≠ b13 ∧ g ≠ b56 ∧ g ≠ b62 ∧ g ≠ b67 := fun g hg => ⟨(f13_7 g hg).1, (f13_7 g hg).2.1, (f13_7 g hg).2.2.1, (f13_7 g hg).2.2.2, (by have := Spare.lt p13_7 hg; omega)⟩; have f13_8 : ∀ g, sb (.slice none 0 0) = some g → s0.w.heap.size ≤ g ∧ g ≠ b13 ∧ g ≠ b56 ∧ g ≠ b62 ∧ g ≠ b67 := fun g hg => ⟨(f13_8 g hg).1, (f13_8 g hg).2.1, (f13_8 g hg).2.2.1, (f13_8 g hg).2.2.2, (by have := Spare.lt p13_8 hg; omega)⟩; have ⟨hd, E⟩ := hdE hd1 hd E he; obtain ⟨h4, h38⟩ := va2 he hf h4 h38 rfl; obtain ⟨h2, h8, h9⟩ := ea3 hf h2 h8 h9 rfl; have p13_7 := px he p13_7; have p13_8 := px he p13_8; obtain ⟨B13, B56, B62⟩ := bx3 he B13 B56 B62; obtain ⟨c4, c5, c6, c7, c8, c9, c10, c11, c12⟩ := vm9 he c4 c5 c6 c7 c8 c9 c10 c11 c12; have c66 : kB.V s64 (.bool false) false := b_f; refine sq_do rfl rfl (op_store_v rfl ty_53 rfl h8 B56 h38 rfl (fun s69 he B56n c70 => ?_)); have h4 := vm he h4; have B13 := B13.chg he (fun e => (Ne.symm n56_13) e); have p13_7 := Sp.chg p13_7 he (fun g hg => (fun e => (f13_7 g hg).2.2.1 e)); have p13_8 := Sp.chg p13_8 he (fun g hg => (fun e => (f13_8 g hg).2.2.1 e))
  have B62 := B62.chg he (fun e => n62_56 e); have B67 := B67.chg he (fun e => n67_56 e); obtain ⟨c4, c5, c6, c7, c8, c9, c10, c11, c12⟩ := vm9 he c4 c5 c6 c7 c8 c9 c10 c11 c12; have E := Chg.chg E he (fun b e h => (fun e => absurd h (by cases e; exact Nat.not_lt.2 l56)) e); obtain ⟨u71, huu71⟩ : ∃ u : Value, u = (a63.get 38) := ⟨_, rfl⟩; have c70 : (kSl kY).V s69 u71 ((openS x0 0 1048576).2.1) := by rw [huu71]; exact c70
  have B56 : Bx s69 b56 53 [u71] := by rw [huu71]; exact B56n
  refine sq_do rfl rfl (op_store_v rfl ty_3 rfl h9 B62 i0 rfl (fun s73 he B62n c74 => ?_)); have h4 := vm he h4; have B13 := B13.chg he (fun e => (Ne.symm n62_13) e); have p13_7 := Sp.chg p13_7 he (fun g hg => (fun e => (f13_7 g hg).2.2.2.1 e)); have p13_8 := Sp.chg p13_8 he (fun g hg => (fun e => (f13_8 g hg).2.2.2.1 e)); have B56 := B56.chg he (fun e => (Ne.symm n62_56) e); have B67 := B67.chg he (fun e => n67_62 e); obtain ⟨c4, c5, c6, c7, c8, c9, c10, c11, c12, c70⟩ := vm10 he c4 c5 c6 c7 c8 c9 c10 c11 c12 c70; have E := Chg.chg E he (fun b e h => (fun e => absurd h (by cases e; exact Nat.not_lt.2 l62)) e); obtain ⟨u75, huu75⟩ : ∃ u : Value, u = (.int .i64 0) := ⟨_, rfl⟩; have c74 : (kI .i64).V s73 u75 0 := by rw [huu75]; exact c74
  have B62 : Bx s73 b62 3 [u75] := by rw [huu75]; exact B62n
  refine sq_do rfl rfl (op_store_v rfl ty_4 rfl h10 B67 b_f rfl (fun s77 he B67n c78 => ?_)); have h4 := vm he h4; have B13 := B13.chg he (fun e => (Ne.symm n67_13) e); have p13_7 := Sp.chg p13_7 he (fun g hg => (fun e => (f13_7 g hg).2.2.2.2 e)); have p13_8 := Sp.chg p13_8 he (fun g hg => (fun e => (f13_8 g hg).2.2.2.2 e)); have B56 := B56.chg he (fun e => (Ne.symm n67_56) e); have B62 := B62.chg he (fun e => (Ne.symm n67_62) e); obtain ⟨c4, c5, c6, c7, c8, c9, c10, c11, c12, c70, c74⟩ := vm11 he c4 c5 c6 c7 c8 c9 c10 c11 c12 c70 c74; have E := Chg.chg E he (fun b e h => (fun e => absurd h (by cases e; exact Nat.not_lt.2 l67)) e); obtain ⟨u79, huu79⟩ : ∃ u : Value, u = (.bool false) := ⟨_, rfl⟩; have c78 : kB.V s77 u79 false := by rw [huu79]; exact c78
  have B67 : Bx s77 b67 4 [u79] := by rw [huu79]; exact B67n
  refine wp_sr ?_; refine sq_blk (its := [⟨39, _, []⟩, ⟨11, _, [0]⟩]) [1] hz rfl ⟨(fun a s he hf hz => opw rfl (op_func rfl (f := Fact.eq (.func (.func 58) #[] #[.pointer (some ⟨b56, 0, none⟩), .pointer (some ⟨b62, 0, none⟩), .pointer (some ⟨b67, 0, none⟩)])) (caps3 ((hf 8 rfl).trans h8) ((hf 9 rfl).trans h9) ((hf 10 rfl).trans h10)))), (fun a s he hf hz q0 => ae rfl rfl q0), trivial⟩ ?_; intro a80 s81 he hf hz hd1 h11; have ⟨hd, E⟩ := hdE hd1 hd E he; have h4 := V_at h4 he (hf 4 rfl); obtain ⟨h2, h8, h9, h10⟩ := ea4 hf h2 h8 h9 h10 rfl; have p13_7 := px he p13_7; have p13_8 := px he p13_8; obtain ⟨B13, B56, B62, B67⟩ := bx4 he B13 B56 B62 B67; obtain ⟨c4, c5, c6, c7, c8, c9, c10, c11, c12, c70, c74, c78⟩ := vm12 he c4 c5 c6 c7 c8 c9 c10 c11 c12 c70 c74 c78; refine wp_sr ?_; refine sq_blk (its := [⟨40, _, []⟩, ⟨12, _, [0]⟩]) [1] hz rfl ⟨(fun a s he hf hz => opw rfl (op_func rfl (f := Fact.eq (.func (.func 60) #[] #[.pointer (some ⟨b56, 0, none⟩), .pointer (some ⟨b62, 0, none⟩), .pointer (some ⟨b67, 0, none⟩)])) (caps3 ((hf 8 rfl).trans h8) ((hf 9 rfl).trans h9) ((hf 10 rfl).trans h10)))), (fun a s he hf hz q0 => ae rfl rfl q0), trivial⟩ ?_
  intro a82 s83 he hf hz hd1 h12; have ⟨hd, E⟩ := hdE hd1 hd E he; have h4 := V_at h4 he (hf 4 rfl); obtain ⟨h2, h8, h9, h10, h11⟩ := ea5 hf h2 h8 h9 h10 h11 rfl; have p13_7 := px he p13_7; have p13_8 := px he p13_8; obtain ⟨B13, B56, B62, B67⟩ := bx4 he B13 B56 B62 B67; obtain ⟨c4, c5, c6, c7, c8, c9, c10, c11, c12, c70, c74, c78⟩ := vm12 he c4 c5 c6 c7 c8 c9 c10 c11 c12 c70 c74 c78; refine wp_sr ?_; refine sq_blk (its := [⟨41, _, []⟩, ⟨42, _, [0]⟩, ⟨43, _, [1]⟩]) [2] hz rfl ⟨mvs rfl rfl h4 rfl, (fun a s he hf hz q0 => cv rfl rfl u_5 u_3 q0), (fun a s he hf hz q1 => opw rfl (op_build rfl bt_34 (ps := [(0, [(a.get 42)])]) ⟨rfl, V_cells1 (s := s) rfl q1, trivial⟩ rfl (f := Fact.nils kFrame (⟨IntKind.wrap .i64 ((openS x0 0 1048576).1), ([] : Str), ([] : Str), ([] : Str), 0, 0, 0, ([] : (List Dot)), ([] : (List Op))⟩ : Frame) [7, 8]) ⟨V_mk rfl (kFrame_close q1 s_0 s_0 s_0 i0 i0 i0 (lit_nil (d := kDot)) (lit_nil (d := kOp))), rfl, rfl, trivial⟩)), trivial⟩ ?_
  intro a84 s85 he hf hz hd1 k43; have ⟨hd, E⟩ := hdE hd1 hd E he; obtain ⟨h2, h8, h9, h10, h11, h12⟩ := ea6 hf h2 h8 h9 h10 h11 h12 rfl; have p13_7 := px he p13_7; have p13_8 := px he p13_8; obtain ⟨B13, B56, B62, B67⟩ := bx4 he B13 B56 B62 B67; obtain ⟨c4, c5, c6, c7, c8, c9, c10, c11, c12, c70, c74, c78⟩ := vm12 he c4 c5 c6 c7 c8 c9 c10 c11 c12 c70 c74 c78; have h43 := k43.1; have z43 := k43.2; refine sq_set hz rfl rfl rfl (op_alloc (cs := [.int .i64 0, .string ⟨#[]⟩, .string ⟨#[]⟩, .string ⟨#[]⟩, .int .i64 0, .int .i64 0, .int .i64 0, .slice none 0 0, .slice none 0 0]) rfl zv_34 rfl (fun s87 he BB88 => fun a86 h13 hf hz hd1 => ?_)); obtain ⟨b98, hb98⟩ : ∃ b, b = s85.w.heap.size := ⟨_, rfl⟩; rw [← hb98] at BB88 h13; have B98 := BB88; have l98 : s0.w.heap.size ≤ b98 := by have := E.size; omega
  have n98_13 : b98 ≠ b13 := by have := B13.lt; omega
  have n98_56 : b98 ≠ b56 := by have := B56.lt; omega
  have n98_62 : b98 ≠ b62 := by have := B62.lt; omega
  have n98_67 : b98 ≠ b67 := by have := B67.lt; omega
  have f13_7 : ∀ g, sb (.slice none 0 0) = some g → s0.w.heap.size ≤ g ∧ g ≠ b13 ∧ g ≠ b56 ∧ g ≠ b62 ∧ g ≠ b67 ∧ g ≠ b98 := fun g hg => ⟨(f13_7 g hg).1, (f13_7 g hg).2.1, (f13_7 g hg).2.2.1, (f13_7 g hg).2.2.2.1, (f13_7 g hg).2.2.2.2, (by have := Spare.lt p13_7 hg; omega)⟩; have f13_8 : ∀ g, sb (.slice none 0 0) = some g → s0.w.heap.size ≤ g ∧ g ≠ b13 ∧ g ≠ b56 ∧ g ≠ b62 ∧ g ≠ b67 ∧ g ≠ b98 := fun g hg => ⟨(f13_8 g hg).1, (f13_8 g hg).2.1, (f13_8 g hg).2.2.1, (f13_8 g hg).2.2.2.1, (f13_8 g hg).2.2.2.2, (by have := Spare.lt p13_8 hg; omega)⟩; have ⟨hd, E⟩ := hdE hd1 hd E he; have z43 := nilAt_at z43 (hf 43 rfl); have h43 := V_at h43 he (hf 43 rfl); obtain ⟨h2, h8, h9, h10, h11, h12⟩ := ea6 hf h2 h8 h9 h10 h11 h12 rfl; have p13_7 := px he p13_7; have p13_8 := px he p13_8; obtain ⟨B13, B56, B62, B67⟩ := bx4 he B13 B56 B62 B67; obtain ⟨c4, c5, c6, c7, c8, c9, c10, c11, c12, c70, c74, c78⟩ := vm12 he c4 c5 c6 c7 c8 c9 c10 c11 c12 c70 c74 c78; have c89 : (kI .i64).V s87 (.int .i64 0) 0 := i0; have c90 : kS.V s87 (.string ⟨#[]⟩) ([] : Str) := s_0
  have c91 : kS.V s87 (.string ⟨#[]⟩) ([] : Str) := s_0; have c92 : kS.V s87 (.string ⟨#[]⟩) ([] : Str) := s_0; have c93 : (kI .i64).V s87 (.int .i64 0) 0 := i0; have c94 : (kI .i64).V s87 (.int .i64 0) 0 := i0; have c95 : (kI .i64).V s87 (.int .i64 0) 0 := i0; have c96 : (kSl kDot).V s87 (.slice none 0 0) ([] : (List Dot)) := (lit_nil (d := kDot)); have c97 : (kSl kOp).V s87 (.slice none 0 0) ([] : (List Op)) := (lit_nil (d := kOp)); have p98_7 : Sp s87 (.slice none 0 0) 70 2 := Spare.nil _ _ _ 0; have p98_8 : Sp s87 (.slice none 0 0) 72 8 := Spare.nil _ _ _ 0; refine sq_do rfl rfl (op_storen' rfl ty_34 rfl h13 B98 h43 rfl (fun s102 e103 he B98n r104 zeq => ?_)); have zz := nilAt_at z43 zeq.symm; have B13 := B13.chg he (fun e => (Ne.symm n98_13) e); have p13_7 := Sp.chg p13_7 he (fun g hg => (fun e => (f13_7 g hg).2.2.2.2.2 e)); have p13_8 := Sp.chg p13_8 he (fun g hg => (fun e => (f13_8 g hg).2.2.2.2.2 e)); have B56 := B56.chg he (fun e => (Ne.symm n98_56) e); have B62 := B62.chg he (fun e => (Ne.symm n98_62) e)
  have B67 := B67.chg he (fun e => (Ne.symm n98_67) e); obtain ⟨c4, c5, c6, c7, c8, c9, c10, c11, c12, c70, c74, c78⟩ := vm12 he c4 c5 c6 c7 c8 c9 c10 c11 c12 c70 c74 c78; have E := Chg.chg E he (fun b e h => (fun e => absurd h (by cases e; exact Nat.not_lt.2 l98)) e); obtain ⟨u105, u106, u107, u108, u109, u110, u111, u112, u113, rfl, c114, c115, c116, c117, c118, c119, c120, c121, c122⟩ := kFrame_open r104; have p98_7 : Sp s102 u112 70 2 := nil_sp (u := u112) zz.1; have p98_8 : Sp s102 u113 72 8 := nil_sp (u := u113) zz.2.1; have f98_8 : ∀ g, sb u113 = some g → s0.w.heap.size ≤ g ∧ g ≠ b13 ∧ g ≠ b56 ∧ g ≠ b62 ∧ g ≠ b67 ∧ g ≠ b98 := fun g hg => absurd ((nil_sb (u := u113) zz.2.1).symm.trans hg) (fun h => by cases h); have B98 : Bx s102 b98 34 [u105, u106, u107, u108, u109, u110, u111, u112, u113] := B98n; refine wp_sr ?_; refine sq_blk (its := [⟨44, _, []⟩]) [0] hz rfl ⟨mes rfl rfl h11 rfl, trivial⟩ ?_; intro a125 s126 he hf hz hd1 h44; have hd := hd1.trans hd; obtain ⟨h2, h8, h9, h10, h11, h12, h13⟩ := ea7 hf h2 h8 h9 h10 h11 h12 h13 rfl; have p13_7 := px he p13_7; have p13_8 := px he p13_8; have p98_8 := px he p98_8
  obtain ⟨B13, B56, B62, B67, B98⟩ := bx5 he B13 B56 B62 B67 B98; obtain ⟨c4, c5, c6, c7, c8, c9, c10, c11, c12, c70, c74, c78⟩ := vm12 he c4 c5 c6 c7 c8 c9 c10 c11 c12 c70 c74 c78; obtain ⟨c114, c120, c121, c122⟩ := vm4 he c114 c120 c121 c122; have E := E.trans he; refine sq_set hz rfl rfl rfl (op_callv rfl h44 rfl (Cl.mono (frame_Read_1.ok (lit_i (k := .i64) (n := 24) (by decide)) ⟨_, B56, V_one rfl c70⟩ ⟨_, B62, V_one rfl c74⟩ ⟨_, B67, V_one rfl c78⟩ n62_56 n67_56 n67_62) (fun v s128 hR => fun a127 hd' hf hz hd1 => ?_))); obtain ⟨he, H129, H130, hv⟩ := hR; obtain ⟨y131, hy, h⟩ := bindv_h h; rw [hy] at H129 H130 hv; have hd := hd1.trans hd; obtain ⟨h2, h8, h9, h10, h11, h12, h13⟩ := ea7 hf h2 h8 h9 h10 h11 h12 h13 rfl; have B13 := B13.chg he (fun e => e.elim (fun e => (Ne.symm n62_13) e) (fun e => (Ne.symm n67_13) e)); have p13_7 := Sp.chg p13_7 he (fun g hg => (fun e => e.elim (fun e => (f13_7 g hg).2.2.2.1 e) (fun e => (f13_7 g hg).2.2.2.2.1 e))); have p13_8 := Sp.chg p13_8 he (fun g hg => (fun e => e.elim (fun e => (f13_8 g hg).2.2.2.1 e) (fun e => (f13_8 g hg).2.2.2.2.1 e))); have B56 := B56.chg he (fun e => e.elim (fun e => (Ne.symm n62_56) e) (fun e => (Ne.symm n67_56) e))
  have B98 := B98.chg he (fun e => e.elim (fun e => n98_62 e) (fun e => n98_67 e)); have p98_8 := Sp.chg p98_8 he (fun g hg => (fun e => e.elim (fun e => (f98_8 g hg).2.2.2.1 e) (fun e => (f98_8 g hg).2.2.2.2.1 e))); obtain ⟨c4, c5, c6, c7, c8, c9, c10, c11, c12, c70, c114⟩ := vm11 he c4 c5 c6 c7 c8 c9 c10 c11 c12 c70 c114; obtain ⟨c120, c121, c122⟩ := vm3 he c120 c121 c122; have E := Chg.chg E he (fun b e h => (fun e => e.elim (fun e => absurd h (by cases e; exact Nat.not_lt.2 l62)) (fun e => absurd h (by cases e; exact Nat.not_lt.2 l67))) e); obtain ⟨e132, B62, r133⟩ := H129; obtain ⟨u134, rfl, c135⟩ := one_of rfl rfl r133; obtain ⟨e136, B67, r137⟩ := H130; obtain ⟨u138, rfl, c139⟩ := one_of rfl rfl r137; have h45 := V_eq hd' hv; refine sq_blk (its := [⟨46, _, []⟩]) [0] hz rfl ⟨(fun a s he hf hz => fb rfl rfl fa_34_1 ((hf 13 rfl).trans h13)), trivial⟩ ?_; intro a140 s141 he hf hz hd1 h46; have hd := hd1.trans hd; have h45 := V_at h45 he (hf 45 rfl); obtain ⟨h2, h8, h9, h10, h11, h12, h13⟩ := ea7 hf h2 h8 h9 h10 h11 h12 h13 rfl; have p13_7 := px he p13_7; have p13_8 := px he p13_8; have p98_8 := px he p98_8; obtain ⟨B13, B56, B62, B67, B98⟩ := bx5 he B13 B56 B62 B67 B98
  obtain ⟨c4, c5, c6, c7, c8, c9, c10, c11, c12, c70, c135, c139⟩ := vm12 he c4 c5 c6 c7 c8 c9 c10 c11 c12 c70 c135 c139; obtain ⟨c114, c120, c121, c122⟩ := vm4 he c114 c120 c121 c122; have E := E.trans he; refine sq_do rfl rfl (op_store_v rfl ty_9 rfl h46 B98 h45 rfl (fun s143 he B98n c144 => ?_)); have B13 := B13.chg he (fun e => (Ne.symm n98_13) e); have p13_7 := Sp.chg p13_7 he (fun g hg => (fun e => (f13_7 g hg).2.2.2.2.2 e)); have p13_8 := Sp.chg p13_8 he (fun g hg => (fun e => (f13_8 g hg).2.2.2.2.2 e)); have B56 := B56.chg he (fun e => (Ne.symm n98_56) e); have B62 := B62.chg he (fun e => (Ne.symm n98_62) e); have B67 := B67.chg he (fun e => (Ne.symm n98_67) e); have p98_8 := Sp.chg p98_8 he (fun g hg => (fun e => (f98_8 g hg).2.2.2.2.2 e)); obtain ⟨c4, c5, c6, c7, c8, c9, c10, c11, c12, c70, c135, c139⟩ := vm12 he c4 c5 c6 c7 c8 c9 c10 c11 c12 c70 c135 c139; obtain ⟨c114, c120, c121, c122⟩ := vm4 he c114 c120 c121 c122; have E := Chg.chg E he (fun b e h => (fun e => absurd h (by cases e; exact Nat.not_lt.2 l98)) e); obtain ⟨u145, huu145⟩ : ∃ u : Value, u = (a140.get 45) := ⟨_, rfl⟩; have c144 : kS.V s143 u145 y131.2.2 := by rw [huu145]; exact c144
  have B98 : Bx s143 b98 34 [u105, u145, u107, u108, u109, u110, u111, u112, u113] := by rw [huu145]; exact B98n
  refine wp_sr ?_; refine sq_blk (its := [⟨47, _, []⟩]) [0] hz rfl ⟨mes rfl rfl h11 rfl, trivial⟩ ?_; intro a146 s147 he hf hz hd1 h47; have ⟨hd, E⟩ := hdE hd1 hd E he; obtain ⟨h2, h8, h9, h10, h11, h12, h13⟩ := ea7 hf h2 h8 h9 h10 h11 h12 h13 rfl; have p13_7 := px he p13_7; have p13_8 := px he p13_8; have p98_8 := px he p98_8; obtain ⟨B13, B56, B62, B67, B98⟩ := bx5 he B13 B56 B62 B67 B98; obtain ⟨c4, c5, c6, c7, c8, c9, c10, c11, c12, c70, c135, c139⟩ := vm12 he c4 c5 c6 c7 c8 c9 c10 c11 c12 c70 c135 c139; obtain ⟨c114, c144, c120, c121, c122⟩ := vm5 he c114 c144 c120 c121 c122; refine sq_set hz rfl rfl rfl (op_callv rfl h47 rfl (Cl.mono (frame_Read_1.ok (lit_i (k := .i64) (n := 24) (by decide)) ⟨_, B56, V_one rfl c70⟩ ⟨_, B62, V_one rfl c135⟩ ⟨_, B67, V_one rfl c139⟩ n62_56 n67_56 n67_62) (fun v s149 hR => fun a148 hd' hf hz hd1 => ?_))); obtain ⟨he, H150, H151, hv⟩ := hR; obtain ⟨y152, hy, h⟩ := bindv_h h; rw [hy] at H150 H151 hv; have hd := hd1.trans hd; obtain ⟨h2, h8, h9, h10, h11, h12, h13⟩ := ea7 hf h2 h8 h9 h10 h11 h12 h13 rfl; have B13 := B13.chg he (fun e => e.elim (fun e => (Ne.symm n62_13) e) (fun e => (Ne.symm n67_13) e))
  have p13_7 := Sp.chg p13_7 he (fun g hg => (fun e => e.elim (fun e => (f13_7 g hg).2.2.2.1 e) (fun e => (f13_7 g hg).2.2.2.2.1 e))); have p13_8 := Sp.chg p13_8 he (fun g hg => (fun e => e.elim (fun e => (f13_8 g hg).2.2.2.1 e) (fun e => (f13_8 g hg).2.2.2.2.1 e))); have B56 := B56.chg he (fun e => e.elim (fun e => (Ne.symm n62_56) e) (fun e => (Ne.symm n67_56) e)); have B98 := B98.chg he (fun e => e.elim (fun e => n98_62 e) (fun e => n98_67 e)); have p98_8 := Sp.chg p98_8 he (fun g hg => (fun e => e.elim (fun e => (f98_8 g hg).2.2.2.1 e) (fun e => (f98_8 g hg).2.2.2.2.1 e))); obtain ⟨c4, c5, c6, c7, c8, c9, c10, c11, c12, c70, c114, c144⟩ := vm12 he c4 c5 c6 c7 c8 c9 c10 c11 c12 c70 c114 c144; obtain ⟨c120, c121, c122⟩ := vm3 he c120 c121 c122; have E := Chg.chg E he (fun b e h => (fun e => e.elim (fun e => absurd h (by cases e; exact Nat.not_lt.2 l62)) (fun e => absurd h (by cases e; exact Nat.not_lt.2 l67))) e); obtain ⟨e153, B62, r154⟩ := H150; obtain ⟨u155, rfl, c156⟩ := one_of rfl rfl r154; obtain ⟨e157, B67, r158⟩ := H151; obtain ⟨u159, rfl, c160⟩ := one_of rfl rfl r158; have h48 := V_eq hd' hv; refine sq_blk (its := [⟨49, _, []⟩]) [0] hz rfl ⟨(fun a s he hf hz => fb rfl rfl fa_34_2 ((hf 13 rfl).trans h13)), trivial⟩ ?_
  intro a161 s162 he hf hz hd1 h49; have ⟨hd, E⟩ := hdE hd1 hd E he; have h48 := V_at h48 he (hf 48 rfl); obtain ⟨h2, h8, h9, h10, h11, h12, h13⟩ := ea7 hf h2 h8 h9 h10 h11 h12 h13 rfl; have p13_7 := px he p13_7; have p13_8 := px he p13_8; have p98_8 := px he p98_8; obtain ⟨B13, B56, B62, B67, B98⟩ := bx5 he B13 B56 B62 B67 B98; obtain ⟨c4, c5, c6, c7, c8, c9, c10, c11, c12, c70, c156, c160⟩ := vm12 he c4 c5 c6 c7 c8 c9 c10 c11 c12 c70 c156 c160; obtain ⟨c114, c144, c120, c121, c122⟩ := vm5 he c114 c144 c120 c121 c122; refine sq_do rfl rfl (op_store_v rfl ty_9 rfl h49 B98 h48 rfl (fun s164 he B98n c165 => ?_)); have B13 := B13.chg he (fun e => (Ne.symm n98_13) e); have p13_7 := Sp.chg p13_7 he (fun g hg => (fun e => (f13_7 g hg).2.2.2.2.2 e)); have p13_8 := Sp.chg p13_8 he (fun g hg => (fun e => (f13_8 g hg).2.2.2.2.2 e)); have B56 := B56.chg he (fun e => (Ne.symm n98_56) e); have B62 := B62.chg he (fun e => (Ne.symm n98_62) e); have B67 := B67.chg he (fun e => (Ne.symm n98_67) e); have p98_8 := Sp.chg p98_8 he (fun g hg => (fun e => (f98_8 g hg).2.2.2.2.2 e))
  obtain ⟨c4, c5, c6, c7, c8, c9, c10, c11, c12, c70, c156, c160⟩ := vm12 he c4 c5 c6 c7 c8 c9 c10 c11 c12 c70 c156 c160; obtain ⟨c114, c144, c120, c121, c122⟩ := vm5 he c114 c144 c120 c121 c122; have E := Chg.chg E he (fun b e h => (fun e => absurd h (by cases e; exact Nat.not_lt.2 l98)) e); obtain ⟨u166, huu166⟩ : ∃ u : Value, u = (a161.get 48) := ⟨_, rfl⟩; have c165 : kS.V s164 u166 y152.2.2 := by rw [huu166]; exact c165
  have B98 : Bx s164 b98 34 [u105, u145, u166, u108, u109, u110, u111, u112, u113] := by rw [huu166]; exact B98n
  refine wp_sr ?_; refine sq_blk (its := [⟨50, _, []⟩]) [0] hz rfl ⟨mes rfl rfl h11 rfl, trivial⟩ ?_; intro a167 s168 he hf hz hd1 h50; have ⟨hd, E⟩ := hdE hd1 hd E he; obtain ⟨h2, h8, h9, h10, h11, h12, h13⟩ := ea7 hf h2 h8 h9 h10 h11 h12 h13 rfl; have p13_7 := px he p13_7; have p13_8 := px he p13_8; have p98_8 := px he p98_8; obtain ⟨B13, B56, B62, B67, B98⟩ := bx5 he B13 B56 B62 B67 B98; obtain ⟨c4, c5, c6, c7, c8, c9, c10, c11, c12, c70, c156, c160⟩ := vm12 he c4 c5 c6 c7 c8 c9 c10 c11 c12 c70 c156 c160; obtain ⟨c114, c144, c165, c120, c121, c122⟩ := vm6 he c114 c144 c165 c120 c121 c122; refine sq_set hz rfl rfl rfl (op_callv rfl h50 rfl (Cl.mono (frame_Read_1.ok (lit_i (k := .i64) (n := 32) (by decide)) ⟨_, B56, V_one rfl c70⟩ ⟨_, B62, V_one rfl c156⟩ ⟨_, B67, V_one rfl c160⟩ n62_56 n67_56 n67_62) (fun v s170 hR => fun a169 hd' hf hz hd1 => ?_))); obtain ⟨he, H171, H172, hv⟩ := hR; obtain ⟨y173, hy, h⟩ := bindv_h h; rw [hy] at H171 H172 hv; have hd := hd1.trans hd; obtain ⟨h2, h8, h9, h10, h11, h12, h13⟩ := ea7 hf h2 h8 h9 h10 h11 h12 h13 rfl
  have B13 := B13.chg he (fun e => e.elim (fun e => (Ne.symm n62_13) e) (fun e => (Ne.symm n67_13) e)); have p13_7 := Sp.chg p13_7 he (fun g hg => (fun e => e.elim (fun e => (f13_7 g hg).2.2.2.1 e) (fun e => (f13_7 g hg).2.2.2.2.1 e))); have p13_8 := Sp.chg p13_8 he (fun g hg => (fun e => e.elim (fun e => (f13_8 g hg).2.2.2.1 e) (fun e => (f13_8 g hg).2.2.2.2.1 e))); have B56 := B56.chg he (fun e => e.elim (fun e => (Ne.symm n62_56) e) (fun e => (Ne.symm n67_56) e)); have B98 := B98.chg he (fun e => e.elim (fun e => n98_62 e) (fun e => n98_67 e)); have p98_8 := Sp.chg p98_8 he (fun g hg => (fun e => e.elim (fun e => (f98_8 g hg).2.2.2.1 e) (fun e => (f98_8 g hg).2.2.2.2.1 e))); obtain ⟨c4, c5, c6, c7, c8, c9, c10, c11, c12, c70, c114, c144⟩ := vm12 he c4 c5 c6 c7 c8 c9 c10 c11 c12 c70 c114 c144; obtain ⟨c165, c120, c121, c122⟩ := vm4 he c165 c120 c121 c122; have E := Chg.chg E he (fun b e h => (fun e => e.elim (fun e => absurd h (by cases e; exact Nat.not_lt.2 l62)) (fun e => absurd h (by cases e; exact Nat.not_lt.2 l67))) e); obtain ⟨e174, B62, r175⟩ := H171; obtain ⟨u176, rfl, c177⟩ := one_of rfl rfl r175; obtain ⟨e178, B67, r179⟩ := H172
  obtain ⟨u180, rfl, c181⟩ := one_of rfl rfl r179; have h51 := V_eq hd' hv; refine sq_blk (its := [⟨52, _, []⟩]) [0] hz rfl ⟨(fun a s he hf hz => fb rfl rfl fa_34_3 ((hf 13 rfl).trans h13)), trivial⟩ ?_; intro a182 s183 he hf hz hd1 h52; have ⟨hd, E⟩ := hdE hd1 hd E he; have h51 := V_at h51 he (hf 51 rfl); obtain ⟨h2, h8, h9, h10, h11, h12, h13⟩ := ea7 hf h2 h8 h9 h10 h11 h12 h13 rfl; have p13_7 := px he p13_7; have p13_8 := px he p13_8; have p98_8 := px he p98_8; obtain ⟨B13, B56, B62, B67, B98⟩ := bx5 he B13 B56 B62 B67 B98; obtain ⟨c4, c5, c6, c7, c8, c9, c10, c11, c12, c70, c177, c181⟩ := vm12 he c4 c5 c6 c7 c8 c9 c10 c11 c12 c70 c177 c181; obtain ⟨c114, c144, c165, c120, c121, c122⟩ := vm6 he c114 c144 c165 c120 c121 c122; refine sq_do rfl rfl (op_store_v rfl ty_9 rfl h52 B98 h51 rfl (fun s185 he B98n c186 => ?_)); have B13 := B13.chg he (fun e => (Ne.symm n98_13) e); have p13_7 := Sp.chg p13_7 he (fun g hg => (fun e => (f13_7 g hg).2.2.2.2.2 e)); have p13_8 := Sp.chg p13_8 he (fun g hg => (fun e => (f13_8 g hg).2.2.2.2.2 e)); have B56 := B56.chg he (fun e => (Ne.symm n98_56) e); have B62 := B62.chg he (fun e => (Ne.symm n98_62) e)
  have B67 := B67.chg he (fun e => (Ne.symm n98_67) e); have p98_8 := Sp.chg p98_8 he (fun g hg => (fun e => (f98_8 g hg).2.2.2.2.2 e)); obtain ⟨c4, c5, c6, c7, c8, c9, c10, c11, c12, c70, c177, c181⟩ := vm12 he c4 c5 c6 c7 c8 c9 c10 c11 c12 c70 c177 c181; obtain ⟨c114, c144, c165, c120, c121, c122⟩ := vm6 he c114 c144 c165 c120 c121 c122; have E := Chg.chg E he (fun b e h => (fun e => absurd h (by cases e; exact Nat.not_lt.2 l98)) e); obtain ⟨u187, huu187⟩ : ∃ u : Value, u = (a182.get 51) := ⟨_, rfl⟩; have c186 : kS.V s185 u187 y173.2.2 := by rw [huu187]; exact c186
  have B98 : Bx s185 b98 34 [u105, u145, u166, u187, u109, u110, u111, u112, u113] := by rw [huu187]; exact B98n
  refine wp_sr ?_; refine sq_blk (its := [⟨53, _, []⟩]) [0] hz rfl ⟨mes rfl rfl h12 rfl, trivial⟩ ?_; intro a188 s189 he hf hz hd1 h53; have ⟨hd, E⟩ := hdE hd1 hd E he; obtain ⟨h2, h8, h9, h10, h11, h12, h13⟩ := ea7 hf h2 h8 h9 h10 h11 h12 h13 rfl; have p13_7 := px he p13_7; have p13_8 := px he p13_8; have p98_8 := px he p98_8; obtain ⟨B13, B56, B62, B67, B98⟩ := bx5 he B13 B56 B62 B67 B98; obtain ⟨c4, c5, c6, c7, c8, c9, c10, c11, c12, c70, c177, c181⟩ := vm12 he c4 c5 c6 c7 c8 c9 c10 c11 c12 c70 c177 c181; obtain ⟨c114, c144, c165, c186, c120, c121, c122⟩ := vm7 he c114 c144 c165 c186 c120 c121 c122; refine sq_set hz rfl rfl rfl (op_callv rfl h53 rfl (Cl.mono (frame_Read_2.ok ⟨_, B56, V_one rfl c70⟩ ⟨_, B62, V_one rfl c177⟩ ⟨_, B67, V_one rfl c181⟩ n62_56 n67_56 n67_62) (fun v s191 hR => fun a190 hd' hf hz hd1 => ?_))); obtain ⟨he, H192, H193, hv⟩ := hR; obtain ⟨y194, hy, h⟩ := bindv_h h; rw [hy] at H192 H193 hv; have hd := hd1.trans hd; obtain ⟨h2, h8, h9, h10, h11, h12, h13⟩ := ea7 hf h2 h8 h9 h10 h11 h12 h13 rfl; have B13 := B13.chg he (fun e => e.elim (fun e => (Ne.symm n62_13) e) (fun e => (Ne.symm n67_13) e))
  have p13_7 := Sp.chg p13_7 he (fun g hg => (fun e => e.elim (fun e => (f13_7 g hg).2.2.2.1 e) (fun e => (f13_7 g hg).2.2.2.2.1 e))); have p13_8 := Sp.chg p13_8 he (fun g hg => (fun e => e.elim (fun e => (f13_8 g hg).2.2.2.1 e) (fun e => (f13_8 g hg).2.2.2.2.1 e))); have B56 := B56.chg he (fun e => e.elim (fun e => (Ne.symm n62_56) e) (fun e => (Ne.symm n67_56) e)); have B98 := B98.chg he (fun e => e.elim (fun e => n98_62 e) (fun e => n98_67 e)); have p98_8 := Sp.chg p98_8 he (fun g hg => (fun e => e.elim (fun e => (f98_8 g hg).2.2.2.1 e) (fun e => (f98_8 g hg).2.2.2.2.1 e))); obtain ⟨c4, c5, c6, c7, c8, c9, c10, c11, c12, c70, c114, c144⟩ := vm12 he c4 c5 c6 c7 c8 c9 c10 c11 c12 c70 c114 c144; obtain ⟨c165, c186, c120, c121, c122⟩ := vm5 he c165 c186 c120 c121 c122; have E := Chg.chg E he (fun b e h => (fun e => e.elim (fun e => absurd h (by cases e; exact Nat.not_lt.2 l62)) (fun e => absurd h (by cases e; exact Nat.not_lt.2 l67))) e); obtain ⟨e195, B62, r196⟩ := H192; obtain ⟨u197, rfl, c198⟩ := one_of rfl rfl r196; obtain ⟨e199, B67, r200⟩ := H193; obtain ⟨u201, rfl, c202⟩ := one_of rfl rfl r200; have h54 := V_eq hd' hv; refine sq_blk (its := [⟨55, _, []⟩]) [0] hz rfl ⟨(fun a s he hf hz => fb rfl rfl fa_34_4 ((hf 13 rfl).trans h13)), trivial⟩ ?_
  intro a203 s204 he hf hz hd1 h55; have ⟨hd, E⟩ := hdE hd1 hd E he; have h54 := V_at h54 he (hf 54 rfl); obtain ⟨h2, h8, h9, h10, h11, h12, h13⟩ := ea7 hf h2 h8 h9 h10 h11 h12 h13 rfl; have p13_7 := px he p13_7; have p13_8 := px he p13_8; have p98_8 := px he p98_8; obtain ⟨B13, B56, B62, B67, B98⟩ := bx5 he B13 B56 B62 B67 B98; obtain ⟨c4, c5, c6, c7, c8, c9, c10, c11, c12, c70, c198, c202⟩ := vm12 he c4 c5 c6 c7 c8 c9 c10 c11 c12 c70 c198 c202; obtain ⟨c114, c144, c165, c186, c120, c121, c122⟩ := vm7 he c114 c144 c165 c186 c120 c121 c122; refine sq_do rfl rfl (op_store_v rfl ty_2 rfl h55 B98 h54 rfl (fun s206 he B98n c207 => ?_)); have B13 := B13.chg he (fun e => (Ne.symm n98_13) e); have p13_7 := Sp.chg p13_7 he (fun g hg => (fun e => (f13_7 g hg).2.2.2.2.2 e)); have p13_8 := Sp.chg p13_8 he (fun g hg => (fun e => (f13_8 g hg).2.2.2.2.2 e)); have B56 := B56.chg he (fun e => (Ne.symm n98_56) e); have B62 := B62.chg he (fun e => (Ne.symm n98_62) e); have B67 := B67.chg he (fun e => (Ne.symm n98_67) e); have p98_8 := Sp.chg p98_8 he (fun g hg => (fun e => (f98_8 g hg).2.2.2.2.2 e))
  obtain ⟨c4, c5, c6, c7, c8, c9, c10, c11, c12, c70, c198, c202⟩ := vm12 he c4 c5 c6 c7 c8 c9 c10 c11 c12 c70 c198 c202; obtain ⟨c114, c144, c165, c186, c120, c121, c122⟩ := vm7 he c114 c144 c165 c186 c120 c121 c122; have E := Chg.chg E he (fun b e h => (fun e => absurd h (by cases e; exact Nat.not_lt.2 l98)) e); obtain ⟨u208, huu208⟩ : ∃ u : Value, u = (a203.get 54) := ⟨_, rfl⟩; have c207 : (kI .i64).V s206 u208 y194.2.2 := by rw [huu208]; exact c207
  have B98 : Bx s206 b98 34 [u105, u145, u166, u187, u208, u110, u111, u112, u113] := by rw [huu208]; exact B98n
  refine wp_sr ?_; refine sq_blk (its := [⟨56, _, []⟩]) [0] hz rfl ⟨mes rfl rfl h12 rfl, trivial⟩ ?_; intro a209 s210 he hf hz hd1 h56; have ⟨hd, E⟩ := hdE hd1 hd E he; obtain ⟨h2, h8, h9, h10, h11, h12, h13⟩ := ea7 hf h2 h8 h9 h10 h11 h12 h13 rfl; have p13_7 := px he p13_7; have p13_8 := px he p13_8; have p98_8 := px he p98_8; obtain ⟨B13, B56, B62, B67, B98⟩ := bx5 he B13 B56 B62 B67 B98; obtain ⟨c4, c5, c6, c7, c8, c9, c10, c11, c12, c70, c198, c202⟩ := vm12 he c4 c5 c6 c7 c8 c9 c10 c11 c12 c70 c198 c202; obtain ⟨c114, c144, c165, c186, c207, c120, c121, c122⟩ := vm8 he c114 c144 c165 c186 c207 c120 c121 c122; refine sq_set hz rfl rfl rfl (op_callv rfl h56 rfl (Cl.mono (frame_Read_2.ok ⟨_, B56, V_one rfl c70⟩ ⟨_, B62, V_one rfl c198⟩ ⟨_, B67, V_one rfl c202⟩ n62_56 n67_56 n67_62) (fun v s212 hR => fun a211 hd' hf hz hd1 => ?_))); obtain ⟨he, H213, H214, hv⟩ := hR; obtain ⟨y215, hy, h⟩ := bindv_h h; rw [hy] at H213 H214 hv; have hd := hd1.trans hd; obtain ⟨h2, h8, h9, h10, h11, h12, h13⟩ := ea7 hf h2 h8 h9 h10 h11 h12 h13 rfl; have B13 := B13.chg he (fun e => e.elim (fun e => (Ne.symm n62_13) e) (fun e => (Ne.symm n67_13) e))
  have p13_7 := Sp.chg p13_7 he (fun g hg => (fun e => e.elim (fun e => (f13_7 g hg).2.2.2.1 e) (fun e => (f13_7 g hg).2.2.2.2.1 e))); have p13_8 := Sp.chg p13_8 he (fun g hg => (fun e => e.elim (fun e => (f13_8 g hg).2.2.2.1 e) (fun e => (f13_8 g hg).2.2.2.2.1 e))); have B56 := B56.chg he (fun e => e.elim (fun e => (Ne.symm n62_56) e) (fun e => (Ne.symm n67_56) e)); have B98 := B98.chg he (fun e => e.elim (fun e => n98_62 e) (fun e => n98_67 e)); have p98_8 := Sp.chg p98_8 he (fun g hg => (fun e => e.elim (fun e => (f98_8 g hg).2.2.2.1 e) (fun e => (f98_8 g hg).2.2.2.2.1 e))); obtain ⟨c4, c5, c6, c7, c8, c9, c10, c11, c12, c70, c114, c144⟩ := vm12 he c4 c5 c6 c7 c8 c9 c10 c11 c12 c70 c114 c144; obtain ⟨c165, c186, c207, c120, c121, c122⟩ := vm6 he c165 c186 c207 c120 c121 c122; have E := Chg.chg E he (fun b e h => (fun e => e.elim (fun e => absurd h (by cases e; exact Nat.not_lt.2 l62)) (fun e => absurd h (by cases e; exact Nat.not_lt.2 l67))) e); obtain ⟨e216, B62, r217⟩ := H213; obtain ⟨u218, rfl, c219⟩ := one_of rfl rfl r217; obtain ⟨e220, B67, r221⟩ := H214; obtain ⟨u222, rfl, c223⟩ := one_of rfl rfl r221; have h57 := V_eq hd' hv
  refine sq_blk (its := [⟨58, _, []⟩]) [0] hz rfl ⟨(fun a s he hf hz => fb rfl rfl fa_34_5 ((hf 13 rfl).trans h13)), trivial⟩ ?_; intro a224 s225 he hf hz hd1 h58; have ⟨hd, E⟩ := hdE hd1 hd E he; have h57 := V_at h57 he (hf 57 rfl); obtain ⟨h2, h8, h9, h10, h11, h12, h13⟩ := ea7 hf h2 h8 h9 h10 h11 h12 h13 rfl; have p13_7 := px he p13_7; have p13_8 := px he p13_8; have p98_8 := px he p98_8; obtain ⟨B13, B56, B62, B67, B98⟩ := bx5 he B13 B56 B62 B67 B98; obtain ⟨c4, c5, c6, c7, c8, c9, c10, c11, c12, c70, c219, c223⟩ := vm12 he c4 c5 c6 c7 c8 c9 c10 c11 c12 c70 c219 c223; obtain ⟨c114, c144, c165, c186, c207, c120, c121, c122⟩ := vm8 he c114 c144 c165 c186 c207 c120 c121 c122; refine sq_do rfl rfl (op_store_v rfl ty_2 rfl h58 B98 h57 rfl (fun s227 he B98n c228 => ?_)); have B13 := B13.chg he (fun e => (Ne.symm n98_13) e); have p13_7 := Sp.chg p13_7 he (fun g hg => (fun e => (f13_7 g hg).2.2.2.2.2 e)); have p13_8 := Sp.chg p13_8 he (fun g hg => (fun e => (f13_8 g hg).2.2.2.2.2 e)); have B56 := B56.chg he (fun e => (Ne.symm n98_56) e); have B62 := B62.chg he (fun e => (Ne.symm n98_62) e); have B67 := B67.chg he (fun e => (Ne.symm n98_67) e)
  have p98_8 := Sp.chg p98_8 he (fun g hg => (fun e => (f98_8 g hg).2.2.2.2.2 e)); obtain ⟨c4, c5, c6, c7, c8, c9, c10, c11, c12, c70, c219, c223⟩ := vm12 he c4 c5 c6 c7 c8 c9 c10 c11 c12 c70 c219 c223; obtain ⟨c114, c144, c165, c186, c207, c120, c121, c122⟩ := vm8 he c114 c144 c165 c186 c207 c120 c121 c122; have E := Chg.chg E he (fun b e h => (fun e => absurd h (by cases e; exact Nat.not_lt.2 l98)) e); obtain ⟨u229, huu229⟩ : ∃ u : Value, u = (a224.get 57) := ⟨_, rfl⟩; have c228 : (kI .i64).V s227 u229 y215.2.2 := by rw [huu229]; exact c228
  have B98 : Bx s227 b98 34 [u105, u145, u166, u187, u208, u229, u111, u112, u113] := by rw [huu229]; exact B98n
  refine wp_seq ?_; refine wp_block ?_; refine wp_sr ?_; refine sq_blk (its := [⟨60, _, []⟩, ⟨59, _, [0]⟩]) [1] hz rfl ⟨(fun a s he hf hz => lo rfl rfl ty_4 ((hf 10 rfl).trans h10) (B67.ext he) rfl (vm he c223)), avq rfl rfl, trivial⟩ ?_; intro a230 s231 he hf hz hd1 h59; have ⟨hd, E⟩ := hdE hd1 hd E he; obtain ⟨h2, h8, h9, h10, h11, h12, h13⟩ := ea7 hf h2 h8 h9 h10 h11 h12 h13 rfl; have p13_7 := px he p13_7; have p13_8 := px he p13_8; have p98_8 := px he p98_8; obtain ⟨B13, B56, B62, B67, B98⟩ := bx5 he B13 B56 B62 B67 B98; obtain ⟨c4, c5, c6, c7, c8, c9, c10, c11, c12, c70, c219, c223⟩ := vm12 he c4 c5 c6 c7 c8 c9 c10 c11 c12 c70 c219 c223; obtain ⟨c114, c144, c165, c186, c207, c228, c120, c121, c122⟩ := vm9 he c114 c144 c165 c186 c207 c228 c120 c121 c122
  refine wp_condJ (I := fun a s => ∃ (m462 : Nat) (y429 : Int) (y432 : Bool) (y435 : Int) (y438 : Str) (y441 : Str) (y444 : Str) (y447 : Int) (y450 : Int) (y453 : Int) (y456 : (List Dot)) (y460 : (List Op)) (u427 : Value) (u430 : Value) (u433 : Value) (u436 : Value) (u439 : Value) (u442 : Value) (u445 : Value) (u448 : Value) (u451 : Value) (u454 : Value) (u458 : Value), frame_Read.l0 m462 x0 y429 y432 y435 y438 y441 y444 y447 y450 y453 y456 y460 = some r ∧ m462 ≤ k ∧ Ext s0 s ∧ a.tmps.size = 126 ∧ a.defers = [] ∧ a.get 2 = .pointer (some ⟨b13, 0, none⟩) ∧ a.get 8 = .pointer (some ⟨b56, 0, none⟩) ∧ a.get 9 = .pointer (some ⟨b62, 0, none⟩) ∧ a.get 10 = .pointer (some ⟨b67, 0, none⟩) ∧ a.get 13 = .pointer (some ⟨b98, 0, none⟩) ∧ Bx s b13 34 [(.int .i64 0), (.string ⟨#[]⟩), (.string ⟨#[]⟩), (.string ⟨#[]⟩), (.int .i64 0), (.int .i64 0), (.int .i64 0), (.slice none 0 0), (.slice none 0 0)] ∧ (kI .i64).V s (.int .i64 0) 0 ∧ kS.V s (.string ⟨#[]⟩) ([] : Str) ∧ kS.V s (.string ⟨#[]⟩) ([] : Str) ∧ kS.V s (.string ⟨#[]⟩) ([] : Str) ∧ (kI .i64).V s (.int .i64 0) 0 ∧ (kI .i64).V s (.int .i64 0) 0 ∧ (kI .i64).V s (.int .i64 0) 0 ∧ (kSl kDot).V s (.slice none 0 0) ([] : (List Dot)) ∧ (kSl kOp).V s (.slice none 0 0) ([] : (List Op)) ∧ Bx s b56 53 [u71] ∧ (kSl kY).V s u71 ((openS x0 0 1048576).2.1) ∧ Bx s b62 3 [u427] ∧ (kI .i64).V s u427 y429 ∧ Bx s b67 4 [u430] ∧ kB.V s u430 y432 ∧ Bx s b98 34 [u433, u436, u439, u442, u445, u448, u451, u454, u458] ∧ (kI .i64).V s u433 y435 ∧ kS.V s u436 y438 ∧ kS.V s u439 y441 ∧ kS.V s u442 y444 ∧ (kI .i64).V s u445 y447 ∧ (kI .i64).V s u448 y450 ∧ (kI .i64).V s u451 y453 ∧ (kSl kDot).V s u454 y456 ∧ (kSl kOp).V s u458 y460 ∧ Sp s u458 72 8 ∧ (∀ g, sb u458 = some g → s0.w.heap.size ≤ g ∧ g ≠ b13 ∧ g ≠ b56 ∧ g ≠ b62 ∧ g ≠ b67 ∧ g ≠ b98)) h59 (fun J hb => ?_) (fun J hb => ?_) ?_
  ·have h := ite_t hb h; refine wp_skip ?_; exact J _ _ ⟨_, _, _, _, _, _, _, _, _, _, _, _, _, _, _, _, _, _, _, _, _, _, _, h, by omega, E, hz, hd, h2, h8, h9, h10, h13, B13, c4, c5, c6, c7, c8, c9, c10, c11, c12, B56, c70, B62, c219, B67, c223, B98, c114, c144, c165, c186, c207, c228, c120, c121, c122, p98_8, (fun g hg => ⟨(f98_8 g hg).1, (f98_8 g hg).2.1, (f98_8 g hg).2.2.1, (f98_8 g hg).2.2.2.1, (f98_8 g hg).2.2.2.2.1, (f98_8 g hg).2.2.2.2.2⟩)⟩
  ·have h := ite_f hb h; refine wp_sr ?_; refine sq_blk (its := [⟨62, _, []⟩, ⟨63, _, [0]⟩, ⟨64, _, [1]⟩, ⟨61, _, [2]⟩]) [3] hz rfl ⟨(fun a s he hf hz => fb rfl rfl fa_34_0 ((hf 13 rfl).trans h13)), (fun a s he hf hz q0 => lo rfl rfl ty_3 q0 (B98.ext he) rfl (vm he c114)), (fun a s he hf hz q1 => eq_ rfl rfl q1 i1), avq rfl rfl, trivial⟩ ?_; intro a232 s233 he hf hz hd1 h61; have ⟨hd, E⟩ := hdE hd1 hd E he; obtain ⟨h2, h8, h9, h10, h11, h12, h13⟩ := ea7 hf h2 h8 h9 h10 h11 h12 h13 rfl; have p98_8 := px he p98_8; obtain ⟨B13, B56, B62, B67, B98⟩ := bx5 he B13 B56 B62 B67 B98; obtain ⟨c4, c5, c6, c7, c8, c9, c10, c11, c12, c70, c219, c223⟩ := vm12 he c4 c5 c6 c7 c8 c9 c10 c11 c12 c70 c219 c223; obtain ⟨c114, c144, c165, c186, c207, c228, c120, c121, c122⟩ := vm9 he c114 c144 c165 c186 c207 c228 c120 c121 c122; refine wp_condV h61 (fun hb => ?_) (fun hb => ?_)
   ·have h := ite_t hb h; refine wp_sr ?_; refine sq_blk (its := [⟨66, _, []⟩, ⟨67, _, []⟩, ⟨68, _, [0, 1]⟩, ⟨65, _, [2]⟩, ⟨69, _, [3]⟩, ⟨70, _, [3]⟩, ⟨71, _, [3]⟩, ⟨14, _, [4]⟩, ⟨15, _, [5]⟩, ⟨16, _, [6]⟩]) [7, 8, 9] hz rfl ⟨(fun a s he hf hz => lo rfl rfl ty_53 ((hf 8 rfl).trans h8) (B56.ext he) rfl (vm he c70)), (fun a s he hf hz => lo rfl rfl ty_3 ((hf 9 rfl).trans h9) (B62.ext he) rfl (vm he c219)), (fun a s he hf hz q0 q1 => opw rfl (op_call rfl rfl (vector_Take.ct q0 q1))), (fun a s he hf hz q2 => opw rfl (op_move rfl (f := Fact.tup _) q2)), (fun a s he hf hz q3 => opw rfl (op_extract (f := Fact.v _ _) rfl q3 rfl)), (fun a s he hf hz q3 => opw rfl (op_extract (f := Fact.v _ _) rfl q3 rfl)), (fun a s he hf hz q3 => opw rfl (op_extract (f := Fact.v _ _) rfl q3 rfl)), avq rfl rfl, avq rfl rfl, avq rfl rfl, trivial⟩ ?_; intro a234 s235 he hf hz hd1 h14 h15 h16; have hd := hd1.trans hd; obtain ⟨h2, h8, h9, h10, h13⟩ := ea5 hf h2 h8 h9 h10 h13 rfl; have p98_8 := px he p98_8; obtain ⟨B13, B56, B62, B67, B98⟩ := bx5 he B13 B56 B62 B67 B98; obtain ⟨c4, c5, c6, c7, c8, c9, c10, c11, c12, c70⟩ := vm10 he c4 c5 c6 c7 c8 c9 c10 c11 c12 c70
    obtain ⟨c114, c144, c165, c186, c207, c228, c120, c122⟩ := vm8 he c114 c144 c165 c186 c207 c228 c120 c122; have E := E.trans he; refine wp_region ?_; refine sq_blk (its := [⟨72, _, []⟩, ⟨73, _, []⟩, ⟨74, _, []⟩, ⟨75, _, [2]⟩, ⟨76, _, []⟩]) [0, 1, 3, 4] hz rfl ⟨mvs rfl rfl h14 rfl, mvs rfl rfl h15 rfl, mvs rfl rfl h16 rfl, (fun a s he hf hz q2 => ne_ rfl rfl q2 i0), (fun a s he hf hz => fb rfl rfl fa_34_7 ((hf 13 rfl).trans h13)), trivial⟩ ?_; intro a236 s237 he hf hz hd1 h72 h73 h75 h76; have ⟨hd, E⟩ := hdE hd1 hd E he; obtain ⟨h2, h8, h9, h10, h13⟩ := ea5 hf h2 h8 h9 h10 h13 rfl; have p98_8 := px he p98_8; obtain ⟨B13, B56, B62, B67, B98⟩ := bx5 he B13 B56 B62 B67 B98; obtain ⟨c4, c5, c6, c7, c8, c9, c10, c11, c12, c70⟩ := vm10 he c4 c5 c6 c7 c8 c9 c10 c11 c12 c70; obtain ⟨c114, c144, c165, c186, c207, c228, c120, c122⟩ := vm8 he c114 c144 c165 c186 c207 c228 c120 c122; refine sq_do rfl rfl (op_store_v rfl ty_32 rfl h76 B98 h72 rfl (fun s239 he B98n c240 => ?_)); obtain ⟨h73, h75⟩ := vm2 he h73 h75; have B13 := B13.chg he (fun e => (Ne.symm n98_13) e); have B56 := B56.chg he (fun e => (Ne.symm n98_56) e)
    have B62 := B62.chg he (fun e => (Ne.symm n98_62) e); have B67 := B67.chg he (fun e => (Ne.symm n98_67) e); have p98_8 := Sp.chg p98_8 he (fun g hg => (fun e => (f98_8 g hg).2.2.2.2.2 e)); obtain ⟨c4, c5, c6, c7, c8, c9, c10, c11, c12, c70⟩ := vm10 he c4 c5 c6 c7 c8 c9 c10 c11 c12 c70; obtain ⟨c114, c144, c165, c186, c207, c228, c120, c122⟩ := vm8 he c114 c144 c165 c186 c207 c228 c120 c122; have E := Chg.chg E he (fun b e h => (fun e => absurd h (by cases e; exact Nat.not_lt.2 l98)) e); obtain ⟨u241, huu241⟩ : ∃ u : Value, u = (a236.get 72) := ⟨_, rfl⟩; have c240 : (kSl kDot).V s239 u241 ((takeV ((openS x0 0 1048576).2.1) y215.1).1) := by rw [huu241]; exact c240
    have B98 : Bx s239 b98 34 [u105, u145, u166, u187, u208, u229, u111, u241, u113] := by rw [huu241]; exact B98n
    refine sq_do rfl rfl (op_store_v rfl ty_3 rfl h9 B62 h73 rfl (fun s243 he B62n c244 => ?_)); have h75 := vm he h75; have B13 := B13.chg he (fun e => (Ne.symm n62_13) e); have B56 := B56.chg he (fun e => (Ne.symm n62_56) e); have B67 := B67.chg he (fun e => n67_62 e); have B98 := B98.chg he (fun e => n98_62 e); have p98_8 := Sp.chg p98_8 he (fun g hg => (fun e => (f98_8 g hg).2.2.2.1 e)); obtain ⟨c4, c5, c6, c7, c8, c9, c10, c11, c12, c70, c114⟩ := vm11 he c4 c5 c6 c7 c8 c9 c10 c11 c12 c70 c114; obtain ⟨c144, c165, c186, c207, c228, c120, c240, c122⟩ := vm8 he c144 c165 c186 c207 c228 c120 c240 c122; have E := Chg.chg E he (fun b e h => (fun e => absurd h (by cases e; exact Nat.not_lt.2 l62)) e); obtain ⟨u245, huu245⟩ : ∃ u : Value, u = (a236.get 73) := ⟨_, rfl⟩; have c244 : (kI .i64).V s243 u245 ((takeV ((openS x0 0 1048576).2.1) y215.1).2.1) := by rw [huu245]; exact c244
    have B62 : Bx s243 b62 3 [u245] := by rw [huu245]; exact B62n
    refine sq_do rfl rfl (op_store_v rfl ty_4 rfl h10 B67 h75 rfl (fun s247 he B67n c248 => ?_)); have B13 := B13.chg he (fun e => (Ne.symm n67_13) e); have B56 := B56.chg he (fun e => (Ne.symm n67_56) e); have B62 := B62.chg he (fun e => (Ne.symm n67_62) e); have B98 := B98.chg he (fun e => n98_67 e); have p98_8 := Sp.chg p98_8 he (fun g hg => (fun e => (f98_8 g hg).2.2.2.2.1 e)); obtain ⟨c4, c5, c6, c7, c8, c9, c10, c11, c12, c70, c244, c114⟩ := vm12 he c4 c5 c6 c7 c8 c9 c10 c11 c12 c70 c244 c114; obtain ⟨c144, c165, c186, c207, c228, c120, c240, c122⟩ := vm8 he c144 c165 c186 c207 c228 c120 c240 c122; have E := Chg.chg E he (fun b e h => (fun e => absurd h (by cases e; exact Nat.not_lt.2 l67)) e); obtain ⟨u249, huu249⟩ : ∃ u : Value, u = (a236.get 75) := ⟨_, rfl⟩; have c248 : kB.V s247 u249 (!decide (((takeV ((openS x0 0 1048576).2.1) y215.1).2.2) = 0)) := by rw [huu249]; exact c248
    have B67 : Bx s247 b67 4 [u249] := by rw [huu249]; exact B67n
    exact J _ _ ⟨_, _, _, _, _, _, _, _, _, _, _, _, _, _, _, _, _, _, _, _, _, _, _, h, by omega, E, hz, hd, h2, h8, h9, h10, h13, B13, c4, c5, c6, c7, c8, c9, c10, c11, c12, B56, c70, B62, c244, B67, c248, B98, c114, c144, c165, c186, c207, c228, c120, c240, c122, p98_8, (fun g hg => ⟨(f98_8 g hg).1, (f98_8 g hg).2.1, (f98_8 g hg).2.2.1, (f98_8 g hg).2.2.2.1, (f98_8 g hg).2.2.2.2.1, (f98_8 g hg).2.2.2.2.2⟩)⟩
   ·have h := ite_f hb h; refine wp_sr ?_; refine sq_blk (its := [⟨78, _, []⟩, ⟨79, _, [0]⟩, ⟨80, _, [1]⟩, ⟨77, _, [2]⟩]) [3] hz rfl ⟨(fun a s he hf hz => fb rfl rfl fa_34_0 ((hf 13 rfl).trans h13)), (fun a s he hf hz q0 => lo rfl rfl ty_3 q0 (B98.ext he) rfl (vm he c114)), (fun a s he hf hz q1 => eq_ rfl rfl q1 (lit_i (k := .i64) (n := 2) (by decide))), avq rfl rfl, trivial⟩ ?_; intro a250 s251 he hf hz hd1 h77; have ⟨hd, E⟩ := hdE hd1 hd E he; obtain ⟨h2, h8, h9, h10, h11, h12, h13⟩ := ea7 hf h2 h8 h9 h10 h11 h12 h13 rfl; have p98_8 := px he p98_8; obtain ⟨B13, B56, B62, B67, B98⟩ := bx5 he B13 B56 B62 B67 B98; obtain ⟨c4, c5, c6, c7, c8, c9, c10, c11, c12, c70, c219, c223⟩ := vm12 he c4 c5 c6 c7 c8 c9 c10 c11 c12 c70 c219 c223; obtain ⟨c114, c144, c165, c186, c207, c228, c120, c121, c122⟩ := vm9 he c114 c144 c165 c186 c207 c228 c120 c121 c122; refine wp_condV h77 (fun hb => ?_) (fun hb => ?_)
    ·have h := ite_t hb h; refine wp_sr ?_; refine sq_blk (its := [⟨81, _, []⟩]) [0] hz rfl ⟨mes rfl rfl h12 rfl, trivial⟩ ?_; intro a252 s253 he hf hz hd1 h81; have ⟨hd, E⟩ := hdE hd1 hd E he; obtain ⟨h2, h8, h9, h10, h11, h12, h13⟩ := ea7 hf h2 h8 h9 h10 h11 h12 h13 rfl; have p98_8 := px he p98_8; obtain ⟨B13, B56, B62, B67, B98⟩ := bx5 he B13 B56 B62 B67 B98; obtain ⟨c4, c5, c6, c7, c8, c9, c10, c11, c12, c70, c219, c223⟩ := vm12 he c4 c5 c6 c7 c8 c9 c10 c11 c12 c70 c219 c223; obtain ⟨c114, c144, c165, c186, c207, c228, c121, c122⟩ := vm8 he c114 c144 c165 c186 c207 c228 c121 c122; refine sq_set hz rfl rfl rfl (op_callv rfl h81 rfl (Cl.mono (frame_Read_2.ok ⟨_, B56, V_one rfl c70⟩ ⟨_, B62, V_one rfl c219⟩ ⟨_, B67, V_one rfl c223⟩ n62_56 n67_56 n67_62) (fun v s255 hR => fun a254 hd' hf hz hd1 => ?_))); obtain ⟨he, H256, H257, hv⟩ := hR; obtain ⟨y258, hy, h⟩ := bindv_h h; rw [hy] at H256 H257 hv; have hd := hd1.trans hd; obtain ⟨h2, h8, h9, h10, h11, h12, h13⟩ := ea7 hf h2 h8 h9 h10 h11 h12 h13 rfl; have B13 := B13.chg he (fun e => e.elim (fun e => (Ne.symm n62_13) e) (fun e => (Ne.symm n67_13) e))
     have B56 := B56.chg he (fun e => e.elim (fun e => (Ne.symm n62_56) e) (fun e => (Ne.symm n67_56) e)); have B98 := B98.chg he (fun e => e.elim (fun e => n98_62 e) (fun e => n98_67 e)); have p98_8 := Sp.chg p98_8 he (fun g hg => (fun e => e.elim (fun e => (f98_8 g hg).2.2.2.1 e) (fun e => (f98_8 g hg).2.2.2.2.1 e))); obtain ⟨c4, c5, c6, c7, c8, c9, c10, c11, c12, c70, c114, c144⟩ := vm12 he c4 c5 c6 c7 c8 c9 c10 c11 c12 c70 c114 c144; obtain ⟨c165, c186, c207, c228, c121, c122⟩ := vm6 he c165 c186 c207 c228 c121 c122; have E := Chg.chg E he (fun b e h => (fun e => e.elim (fun e => absurd h (by cases e; exact Nat.not_lt.2 l62)) (fun e => absurd h (by cases e; exact Nat.not_lt.2 l67))) e); obtain ⟨e259, B62, r260⟩ := H256; obtain ⟨u261, rfl, c262⟩ := one_of rfl rfl r260; obtain ⟨e263, B67, r264⟩ := H257; obtain ⟨u265, rfl, c266⟩ := one_of rfl rfl r264; have h82 := V_eq hd' hv; refine sq_blk (its := [⟨83, _, []⟩]) [0] hz rfl ⟨(fun a s he hf hz => fb rfl rfl fa_34_6 ((hf 13 rfl).trans h13)), trivial⟩ ?_; intro a267 s268 he hf hz hd1 h83; have hd := hd1.trans hd; have h82 := V_at h82 he (hf 82 rfl); obtain ⟨h2, h8, h9, h10, h11, h12, h13⟩ := ea7 hf h2 h8 h9 h10 h11 h12 h13 rfl
     have p98_8 := px he p98_8; obtain ⟨B13, B56, B62, B67, B98⟩ := bx5 he B13 B56 B62 B67 B98; obtain ⟨c4, c5, c6, c7, c8, c9, c10, c11, c12, c70, c262, c266⟩ := vm12 he c4 c5 c6 c7 c8 c9 c10 c11 c12 c70 c262 c266; obtain ⟨c114, c144, c165, c186, c207, c228, c121, c122⟩ := vm8 he c114 c144 c165 c186 c207 c228 c121 c122; have E := E.trans he; refine sq_do rfl rfl (op_store_v rfl ty_2 rfl h83 B98 h82 rfl (fun s270 he B98n c271 => ?_)); have B13 := B13.chg he (fun e => (Ne.symm n98_13) e); have B56 := B56.chg he (fun e => (Ne.symm n98_56) e); have B62 := B62.chg he (fun e => (Ne.symm n98_62) e); have B67 := B67.chg he (fun e => (Ne.symm n98_67) e); have p98_8 := Sp.chg p98_8 he (fun g hg => (fun e => (f98_8 g hg).2.2.2.2.2 e)); obtain ⟨c4, c5, c6, c7, c8, c9, c10, c11, c12, c70, c262, c266⟩ := vm12 he c4 c5 c6 c7 c8 c9 c10 c11 c12 c70 c262 c266; obtain ⟨c114, c144, c165, c186, c207, c228, c121, c122⟩ := vm8 he c114 c144 c165 c186 c207 c228 c121 c122; have E := Chg.chg E he (fun b e h => (fun e => absurd h (by cases e; exact Nat.not_lt.2 l98)) e); obtain ⟨u272, huu272⟩ : ∃ u : Value, u = (a267.get 82) := ⟨_, rfl⟩
     have c271 : (kI .i64).V s270 u272 y258.2.2 := by rw [huu272]; exact c271
     have B98 : Bx s270 b98 34 [u105, u145, u166, u187, u208, u229, u272, u112, u113] := by rw [huu272]; exact B98n
     refine wp_sr ?_; refine sq_blk (its := [⟨84, _, []⟩]) [0] hz rfl ⟨mes rfl rfl h12 rfl, trivial⟩ ?_; intro a273 s274 he hf hz hd1 h84; have ⟨hd, E⟩ := hdE hd1 hd E he; obtain ⟨h2, h8, h9, h10, h11, h13⟩ := ea6 hf h2 h8 h9 h10 h11 h13 rfl; have p98_8 := px he p98_8; obtain ⟨B13, B56, B62, B67, B98⟩ := bx5 he B13 B56 B62 B67 B98; obtain ⟨c4, c5, c6, c7, c8, c9, c10, c11, c12, c70, c262, c266⟩ := vm12 he c4 c5 c6 c7 c8 c9 c10 c11 c12 c70 c262 c266; obtain ⟨c114, c144, c165, c186, c207, c228, c271, c121, c122⟩ := vm9 he c114 c144 c165 c186 c207 c228 c271 c121 c122; refine sq_set hz rfl rfl rfl (op_callv rfl h84 rfl (Cl.mono (frame_Read_2.ok ⟨_, B56, V_one rfl c70⟩ ⟨_, B62, V_one rfl c262⟩ ⟨_, B67, V_one rfl c266⟩ n62_56 n67_56 n67_62) (fun v s276 hR => fun a275 hd' hf hz hd1 => ?_))); obtain ⟨he, H277, H278, hv⟩ := hR; obtain ⟨y279, hy, h⟩ := bindv_h h; rw [hy] at H277 H278 hv; have hd := hd1.trans hd; obtain ⟨h2, h8, h9, h10, h11, h13⟩ := ea6 hf h2 h8 h9 h10 h11 h13 rfl; have B13 := B13.chg he (fun e => e.elim (fun e => (Ne.symm n62_13) e) (fun e => (Ne.symm n67_13) e))
     have B56 := B56.chg he (fun e => e.elim (fun e => (Ne.symm n62_56) e) (fun e => (Ne.symm n67_56) e)); have B98 := B98.chg he (fun e => e.elim (fun e => n98_62 e) (fun e => n98_67 e)); have p98_8 := Sp.chg p98_8 he (fun g hg => (fun e => e.elim (fun e => (f98_8 g hg).2.2.2.1 e) (fun e => (f98_8 g hg).2.2.2.2.1 e))); obtain ⟨c4, c5, c6, c7, c8, c9, c10, c11, c12, c70, c114, c144⟩ := vm12 he c4 c5 c6 c7 c8 c9 c10 c11 c12 c70 c114 c144; obtain ⟨c165, c186, c207, c228, c271, c121, c122⟩ := vm7 he c165 c186 c207 c228 c271 c121 c122; have E := Chg.chg E he (fun b e h => (fun e => e.elim (fun e => absurd h (by cases e; exact Nat.not_lt.2 l62)) (fun e => absurd h (by cases e; exact Nat.not_lt.2 l67))) e); obtain ⟨e280, B62, r281⟩ := H277; obtain ⟨u282, rfl, c283⟩ := one_of rfl rfl r281; obtain ⟨e284, B67, r285⟩ := H278; obtain ⟨u286, rfl, c287⟩ := one_of rfl rfl r285; have h85 := V_eq hd' hv; refine sq_blk (its := [⟨17, _, []⟩]) [0] hz rfl ⟨avs rfl rfl h85 rfl, trivial⟩ ?_; intro a288 s289 he hf hz hd1 h17; have hd := hd1.trans hd; obtain ⟨h2, h8, h9, h10, h11, h13⟩ := ea6 hf h2 h8 h9 h10 h11 h13 rfl; have p98_8 := px he p98_8
     obtain ⟨B13, B56, B62, B67, B98⟩ := bx5 he B13 B56 B62 B67 B98; obtain ⟨c4, c5, c6, c7, c8, c9, c10, c11, c12, c70, c283, c287⟩ := vm12 he c4 c5 c6 c7 c8 c9 c10 c11 c12 c70 c283 c287; obtain ⟨c114, c144, c165, c186, c207, c228, c271, c121, c122⟩ := vm9 he c114 c144 c165 c186 c207 c228 c271 c121 c122; have E := E.trans he; refine wp_sr ?_; refine sq_blk (its := [⟨18, _, []⟩]) [0] hz rfl ⟨(fun a s he hf hz => av rfl rfl i0), trivial⟩ ?_; intro a290 s291 he hf hz hd1 h18; have ⟨hd, E⟩ := hdE hd1 hd E he; have h17 := V_at h17 he (hf 17 rfl); obtain ⟨h2, h8, h9, h10, h11, h13⟩ := ea6 hf h2 h8 h9 h10 h11 h13 rfl; have p98_8 := px he p98_8; obtain ⟨B13, B56, B62, B67, B98⟩ := bx5 he B13 B56 B62 B67 B98; obtain ⟨c4, c5, c6, c7, c8, c9, c10, c11, c12, c70, c283, c287⟩ := vm12 he c4 c5 c6 c7 c8 c9 c10 c11 c12 c70 c283 c287; obtain ⟨c114, c144, c165, c186, c207, c228, c271, c121, c122⟩ := vm9 he c114 c144 c165 c186 c207 c228 c271 c121 c122; refine wp_block ?_
     refine wp_loop (k := k) (fun m329 a s => ∃ (y294 : Int) (y295 : Int) (y298 : Bool) (y301 : Int) (y304 : Str) (y307 : Str) (y310 : Str) (y313 : Int) (y316 : Int) (y319 : Int) (y322 : (List Dot)) (y325 : (List Op)) (u296 : Value) (u299 : Value) (u302 : Value) (u305 : Value) (u308 : Value) (u311 : Value) (u314 : Value) (u317 : Value) (u320 : Value) (u323 : Value) (u326 : Value), frame_Read.l1 m329 x0 y279 y294 y295 y298 y301 y304 y307 y310 y313 y316 y319 y322 y325 = some r ∧ m329 ≤ k ∧ Ext s0 s ∧ a.tmps.size = 126 ∧ a.defers = [] ∧ a.get 2 = .pointer (some ⟨b13, 0, none⟩) ∧ a.get 8 = .pointer (some ⟨b56, 0, none⟩) ∧ a.get 9 = .pointer (some ⟨b62, 0, none⟩) ∧ a.get 10 = .pointer (some ⟨b67, 0, none⟩) ∧ a.get 11 = .func (.func 58) #[] #[.pointer (some ⟨b56, 0, none⟩), .pointer (some ⟨b62, 0, none⟩), .pointer (some ⟨b67, 0, none⟩)] ∧ a.get 13 = .pointer (some ⟨b98, 0, none⟩) ∧ (kI .i64).V s (a.get 17) y279.2.2 ∧ (kI .i64).V s (a.get 18) y294 ∧ Bx s b13 34 [(.int .i64 0), (.string ⟨#[]⟩), (.string ⟨#[]⟩), (.string ⟨#[]⟩), (.int .i64 0), (.int .i64 0), (.int .i64 0), (.slice none 0 0), (.slice none 0 0)] ∧ (kI .i64).V s (.int .i64 0) 0 ∧ kS.V s (.string ⟨#[]⟩) ([] : Str) ∧ kS.V s (.string ⟨#[]⟩) ([] : Str) ∧ kS.V s (.string ⟨#[]⟩) ([] : Str) ∧ (kI .i64).V s (.int .i64 0) 0 ∧ (kI .i64).V s (.int .i64 0) 0 ∧ (kI .i64).V s (.int .i64 0) 0 ∧ (kSl kDot).V s (.slice none 0 0) ([] : (List Dot)) ∧ (kSl kOp).V s (.slice none 0 0) ([] : (List Op)) ∧ Bx s b56 53 [u71] ∧ (kSl kY).V s u71 ((openS x0 0 1048576).2.1) ∧ Bx s b62 3 [u296] ∧ (kI .i64).V s u296 y295 ∧ Bx s b67 4 [u299] ∧ kB.V s u299 y298 ∧ Bx s b98 34 [u302, u305, u308, u311, u314, u317, u320, u323, u326] ∧ (kI .i64).V s u302 y301 ∧ kS.V s u305 y304 ∧ kS.V s u308 y307 ∧ kS.V s u311 y310 ∧ (kI .i64).V s u314 y313 ∧ (kI .i64).V s u317 y316 ∧ (kI .i64).V s u320 y319 ∧ (kSl kDot).V s u323 y322 ∧ (kSl kOp).V s u326 y325 ∧ Sp s u326 72 8 ∧ (∀ g, sb u326 = some g → s0.w.heap.size ≤ g ∧ g ≠ b13 ∧ g ≠ b56 ∧ g ≠ b62 ∧ g ≠ b67 ∧ g ≠ b98)) ⟨_, _, _, _, _, _, _, _, _, _, _, _, _, _, _, _, _, _, _, _, _, _, _, h, Nat.le_refl _, E, hz, hd, h2, h8, h9, h10, h11, h13, h17, h18, B13, c4, c5, c6, c7, c8, c9, c10, c11, c12, B56, c70, B62, c283, B67, c287, B98, c114, c144, c165, c186, c207, c228, c271, c121, c122, p98_8, f98_8⟩ ?_
     rintro m329 a293 s292 ⟨y294, y295, y298, y301, y304, y307, y310, y313, y316, y319, y322, y325, u296, u299, u302, u305, u308, u311, u314, u317, u320, u323, u326, h, hkm329, E, hz, hd, h2, h8, h9, h10, h11, h13, h17, h18, B13, c4, c5, c6, c7, c8, c9, c10, c11, c12, B56, c70, B62, c297, B67, c300, B98, c303, c306, c309, c312, c315, c318, c321, c324, c327, p98_8, f98_8⟩
     obtain _ | m329 := m329
     ·cases h
     refine wp_seq ?_; refine wp_sr ?_; have hz0 := hz; refine sq_blk (its := [⟨86, _, []⟩, ⟨87, _, []⟩, ⟨88, _, [0, 1]⟩, ⟨89, _, [2]⟩, ⟨90, _, [3]⟩, ⟨91, _, [3, 4]⟩, ⟨92, _, [3, 5]⟩]) [6] hz rfl ⟨mvs rfl rfl h18 rfl, mvs rfl rfl h17 rfl, (fun a s he hf hz q0 q1 => ls rfl rfl q0 q1), mvq rfl rfl, (fun a s he hf hz q3 => og rfl rfl rfl hz hz0 rfl q3 (fun g => op_load1 rfl ty_4 ((hf 10 rfl).trans h10) (B67.ext he) rfl (vm he c300))), (fun a s he hf hz q3 q4 => og rfl rfl rfl hz hz0 rfl q3 (fun g => op_not rfl (q4.1 g))), (fun a s he hf hz q3 q5 => an rfl rfl q3 (q5.1)), trivial⟩ ?_; intro a330 s331 he hf hz hd1 h92; have ⟨hd, E⟩ := hdE hd1 hd E he; obtain ⟨h17, h18⟩ := va2 he hf h17 h18 rfl; obtain ⟨h2, h8, h9, h10, h11, h13⟩ := ea6 hf h2 h8 h9 h10 h11 h13 rfl; have p98_8 := px he p98_8; obtain ⟨B13, B56, B62, B67, B98⟩ := bx5 he B13 B56 B62 B67 B98; obtain ⟨c4, c5, c6, c7, c8, c9, c10, c11, c12, c70, c297, c300⟩ := vm12 he c4 c5 c6 c7 c8 c9 c10 c11 c12 c70 c297 c300; obtain ⟨c303, c306, c309, c312, c315, c318, c321, c324, c327⟩ := vm9 he c303 c306 c309 c312 c315 c318 c321 c324 c327; refine wp_condV h92 (fun hb => ?_) (fun hb => ?_)
     ·have h := ite_t hb h; refine wp_skip ?_; refine wp_seq ?_; refine wp_block ?_; refine wp_sr ?_; refine sq_blk (its := [⟨96, _, []⟩]) [0] hz rfl ⟨mes rfl rfl h11 rfl, trivial⟩ ?_; intro a332 s333 he hf hz hd1 h96; have ⟨hd, E⟩ := hdE hd1 hd E he; obtain ⟨h17, h18⟩ := va2 he hf h17 h18 rfl; obtain ⟨h2, h8, h9, h10, h11, h13⟩ := ea6 hf h2 h8 h9 h10 h11 h13 rfl; have p98_8 := px he p98_8; obtain ⟨B13, B56, B62, B67, B98⟩ := bx5 he B13 B56 B62 B67 B98; obtain ⟨c4, c5, c6, c7, c8, c9, c10, c11, c12, c70, c297, c300⟩ := vm12 he c4 c5 c6 c7 c8 c9 c10 c11 c12 c70 c297 c300; obtain ⟨c303, c306, c309, c312, c315, c318, c321, c324, c327⟩ := vm9 he c303 c306 c309 c312 c315 c318 c321 c324 c327; refine sq_set hz rfl rfl rfl (op_callv rfl h96 rfl (Cl.mono (frame_Read_1.ok (lit_i (k := .i64) (n := 1048576) (by decide)) ⟨_, B56, V_one rfl c70⟩ ⟨_, B62, V_one rfl c297⟩ ⟨_, B67, V_one rfl c300⟩ n62_56 n67_56 n67_62) (fun v s335 hR => fun a334 hd' hf hz hd1 => ?_))); obtain ⟨he, H336, H337, hv⟩ := hR; obtain ⟨y338, hy, h⟩ := bindv_h h; rw [hy] at H336 H337 hv; have hd := hd1.trans hd; obtain ⟨h17, h18⟩ := va2 he hf h17 h18 rfl
      obtain ⟨h2, h8, h9, h10, h11, h13⟩ := ea6 hf h2 h8 h9 h10 h11 h13 rfl; have B13 := B13.chg he (fun e => e.elim (fun e => (Ne.symm n62_13) e) (fun e => (Ne.symm n67_13) e)); have B56 := B56.chg he (fun e => e.elim (fun e => (Ne.symm n62_56) e) (fun e => (Ne.symm n67_56) e)); have B98 := B98.chg he (fun e => e.elim (fun e => n98_62 e) (fun e => n98_67 e)); have p98_8 := Sp.chg p98_8 he (fun g hg => (fun e => e.elim (fun e => (f98_8 g hg).2.2.2.1 e) (fun e => (f98_8 g hg).2.2.2.2.1 e))); obtain ⟨c4, c5, c6, c7, c8, c9, c10, c11, c12, c70, c303, c306⟩ := vm12 he c4 c5 c6 c7 c8 c9 c10 c11 c12 c70 c303 c306; obtain ⟨c309, c312, c315, c318, c321, c324, c327⟩ := vm7 he c309 c312 c315 c318 c321 c324 c327; have E := Chg.chg E he (fun b e h => (fun e => e.elim (fun e => absurd h (by cases e; exact Nat.not_lt.2 l62)) (fun e => absurd h (by cases e; exact Nat.not_lt.2 l67))) e); obtain ⟨e339, B62, r340⟩ := H336; obtain ⟨u341, rfl, c342⟩ := one_of rfl rfl r340; obtain ⟨e343, B67, r344⟩ := H337; obtain ⟨u345, rfl, c346⟩ := one_of rfl rfl r344; have h97 := V_eq hd' hv; refine sq_blk (its := [⟨98, _, []⟩, ⟨95, _, [0]⟩, ⟨99, _, [1]⟩, ⟨100, _, [1]⟩]) [2, 3] hz rfl ⟨(fun a s he hf hz => opw rfl (op_call rfl rfl (order_Read.ct (V_at h97 he (hf 97 rfl))))), (fun a s he hf hz q0 => opw rfl (op_move rfl (f := Fact.tup _) q0)), (fun a s he hf hz q1 => opw rfl (op_extract (f := Fact.v _ _) rfl q1 rfl)), (fun a s he hf hz q1 => opw rfl (op_extract (f := Fact.v _ _) rfl q1 rfl)), trivial⟩ ?_
      intro a347 s348 he hf hz hd1 h99 h100; have ⟨hd, E⟩ := hdE hd1 hd E he; obtain ⟨h17, h18⟩ := va2 he hf h17 h18 rfl; obtain ⟨h2, h8, h9, h10, h11, h13⟩ := ea6 hf h2 h8 h9 h10 h11 h13 rfl; have p98_8 := px he p98_8; obtain ⟨B13, B56, B62, B67, B98⟩ := bx5 he B13 B56 B62 B67 B98; obtain ⟨c4, c5, c6, c7, c8, c9, c10, c11, c12, c70, c342, c346⟩ := vm12 he c4 c5 c6 c7 c8 c9 c10 c11 c12 c70 c342 c346; obtain ⟨c303, c306, c309, c312, c315, c318, c321, c324, c327⟩ := vm9 he c303 c306 c309 c312 c315 c318 c321 c324 c327; refine sq_set hz rfl rfl rfl (op_alloc (cs := [.string ⟨#[]⟩, .int .i64 0, .slice none 0 0, .string ⟨#[]⟩, .int .i64 0, .string ⟨#[]⟩, .int .i64 0, .slice none 0 0]) rfl zv_72 rfl (fun s350 he BB351 => fun a349 h19 hf hz hd1 => ?_)); obtain ⟨b360, hb360⟩ : ∃ b, b = s348.w.heap.size := ⟨_, rfl⟩; rw [← hb360] at BB351 h19; have B360 := BB351; have l360 : s0.w.heap.size ≤ b360 := by have := E.size; omega
      have n360_13 : b360 ≠ b13 := by have := B13.lt; omega
      have n360_56 : b360 ≠ b56 := by have := B56.lt; omega
      have n360_62 : b360 ≠ b62 := by have := B62.lt; omega
      have n360_67 : b360 ≠ b67 := by have := B67.lt; omega
      have n360_98 : b360 ≠ b98 := by have := B98.lt; omega
      have f98_8 : ∀ g, sb u326 = some g → s0.w.heap.size ≤ g ∧ g ≠ b13 ∧ g ≠ b56 ∧ g ≠ b62 ∧ g ≠ b67 ∧ g ≠ b98 ∧ g ≠ b360 := fun g hg => ⟨(f98_8 g hg).1, (f98_8 g hg).2.1, (f98_8 g hg).2.2.1, (f98_8 g hg).2.2.2.1, (f98_8 g hg).2.2.2.2.1, (f98_8 g hg).2.2.2.2.2, (by have := Spare.lt p98_8 hg; omega)⟩; have ⟨hd, E⟩ := hdE hd1 hd E he; obtain ⟨h17, h18, h99, h100⟩ := va4 he hf h17 h18 h99 h100 rfl; obtain ⟨h2, h8, h9, h10, h11, h13⟩ := ea6 hf h2 h8 h9 h10 h11 h13 rfl; have p98_8 := px he p98_8; obtain ⟨B13, B56, B62, B67, B98⟩ := bx5 he B13 B56 B62 B67 B98; obtain ⟨c4, c5, c6, c7, c8, c9, c10, c11, c12, c70, c342, c346⟩ := vm12 he c4 c5 c6 c7 c8 c9 c10 c11 c12 c70 c342 c346; obtain ⟨c303, c306, c309, c312, c315, c318, c321, c324, c327⟩ := vm9 he c303 c306 c309 c312 c315 c318 c321 c324 c327; have c352 : kS.V s350 (.string ⟨#[]⟩) ([] : Str) := s_0; have c353 : (kI .i64).V s350 (.int .i64 0) 0 := i0; have c354 : (kSl kDot).V s350 (.slice none 0 0) ([] : (List Dot)) := (lit_nil (d := kDot)); have c355 : kS.V s350 (.string ⟨#[]⟩) ([] : Str) := s_0
      have c356 : (kI .i64).V s350 (.int .i64 0) 0 := i0; have c357 : kS.V s350 (.string ⟨#[]⟩) ([] : Str) := s_0; have c358 : (kI .i64).V s350 (.int .i64 0) 0 := i0; have c359 : (kSl kDot).V s350 (.slice none 0 0) ([] : (List Dot)) := (lit_nil (d := kDot)); have p360_2 : Sp s350 (.slice none 0 0) 70 2 := Spare.nil _ _ _ 0; have p360_7 : Sp s350 (.slice none 0 0) 70 2 := Spare.nil _ _ _ 0; refine sq_do rfl rfl (op_storen rfl ty_72 rfl h19 B360 h99 rfl (fun s364 e365 he B360n r366 => ?_)); obtain ⟨h17, h18, h100⟩ := vm3 he h17 h18 h100; have B13 := B13.chg he (fun e => (Ne.symm n360_13) e); have B56 := B56.chg he (fun e => (Ne.symm n360_56) e); have B62 := B62.chg he (fun e => (Ne.symm n360_62) e); have B67 := B67.chg he (fun e => (Ne.symm n360_67) e); have B98 := B98.chg he (fun e => (Ne.symm n360_98) e); have p98_8 := Sp.chg p98_8 he (fun g hg => (fun e => (f98_8 g hg).2.2.2.2.2.2 e)); obtain ⟨c4, c5, c6, c7, c8, c9, c10, c11, c12, c70, c342, c346⟩ := vm12 he c4 c5 c6 c7 c8 c9 c10 c11 c12 c70 c342 c346
      obtain ⟨c303, c306, c309, c312, c315, c318, c321, c324, c327⟩ := vm9 he c303 c306 c309 c312 c315 c318 c321 c324 c327; have E := Chg.chg E he (fun b e h => (fun e => absurd h (by cases e; exact Nat.not_lt.2 l360)) e); obtain ⟨u367, u368, u369, u370, u371, u372, u373, u374, rfl, c375, c376, c377, c378, c379, c380, c381, c382⟩ := kOp_open r366; have B360 : Bx s364 b360 72 [u367, u368, u369, u370, u371, u372, u373, u374] := B360n; refine sq_blk (its := [⟨20, _, []⟩]) [0] hz rfl ⟨avs rfl rfl h100 rfl, trivial⟩ ?_; intro a383 s384 he hf hz hd1 h20; have ⟨hd, E⟩ := hdE hd1 hd E he; obtain ⟨h17, h18⟩ := va2 he hf h17 h18 rfl; obtain ⟨h2, h8, h9, h10, h11, h13, h19⟩ := ea7 hf h2 h8 h9 h10 h11 h13 h19 rfl; have p98_8 := px he p98_8; obtain ⟨B13, B56, B62, B67, B98, B360⟩ := bx6 he B13 B56 B62 B67 B98 B360; obtain ⟨c4, c5, c6, c7, c8, c9, c10, c11, c12, c70, c342, c346⟩ := vm12 he c4 c5 c6 c7 c8 c9 c10 c11 c12 c70 c342 c346; obtain ⟨c303, c306, c309, c312, c315, c318, c321, c324, c327, c375, c376, c377⟩ := vm12 he c303 c306 c309 c312 c315 c318 c321 c324 c327 c375 c376 c377; obtain ⟨c378, c379, c380, c381, c382⟩ := vm5 he c378 c379 c380 c381 c382; refine wp_sr ?_; have hz0 := hz; refine sq_blk (its := [⟨101, _, []⟩, ⟨102, _, [0]⟩, ⟨103, _, [1]⟩, ⟨104, _, [1, 2]⟩, ⟨105, _, [1, 3]⟩]) [4] hz rfl ⟨(fun a s he hf hz => lo rfl rfl ty_4 ((hf 10 rfl).trans h10) (B67.ext he) rfl (vm he c346)), mvq rfl rfl, (fun a s he hf hz q1 => og rfl rfl rfl hz hz0 rfl q1 (fun g => op_move_v rfl (V_at h20 he (hf 20 rfl)))), (fun a s he hf hz q1 q2 => og rfl rfl rfl hz hz0 rfl q1 (fun g => op_neq rfl (q2.1 g) i0)), (fun a s he hf hz q1 q3 => oe rfl rfl q1 (q3.1)), trivial⟩ ?_; intro a385 s386 he hf hz hd1 h105; have hd := hd1.trans hd; obtain ⟨h17, h18⟩ := va2 he hf h17 h18 rfl; obtain ⟨h2, h8, h9, h10, h11, h13, h19⟩ := ea7 hf h2 h8 h9 h10 h11 h13 h19 rfl; have p98_8 := px he p98_8; obtain ⟨B13, B56, B62, B67, B98, B360⟩ := bx6 he B13 B56 B62 B67 B98 B360; obtain ⟨c4, c5, c6, c7, c8, c9, c10, c11, c12, c70, c342⟩ := vm11 he c4 c5 c6 c7 c8 c9 c10 c11 c12 c70 c342; obtain ⟨c303, c306, c309, c312, c315, c318, c321, c324, c327, c375, c376, c377⟩ := vm12 he c303 c306 c309 c312 c315 c318 c321 c324 c327 c375 c376 c377; obtain ⟨c378, c379, c380, c381, c382⟩ := vm5 he c378 c379 c380 c381 c382
      have E := E.trans he; refine sq_do rfl rfl (op_store_v rfl ty_4 rfl h10 B67 h105 rfl (fun s388 he B67n c389 => ?_)); obtain ⟨h17, h18⟩ := vm2 he h17 h18; have B13 := B13.chg he (fun e => (Ne.symm n67_13) e); have B56 := B56.chg he (fun e => (Ne.symm n67_56) e); have B62 := B62.chg he (fun e => (Ne.symm n67_62) e); have B98 := B98.chg he (fun e => n98_67 e); have p98_8 := Sp.chg p98_8 he (fun g hg => (fun e => (f98_8 g hg).2.2.2.2.1 e)); have B360 := B360.chg he (fun e => n360_67 e); obtain ⟨c4, c5, c6, c7, c8, c9, c10, c11, c12, c70, c342, c303⟩ := vm12 he c4 c5 c6 c7 c8 c9 c10 c11 c12 c70 c342 c303; obtain ⟨c306, c309, c312, c315, c318, c321, c324, c327, c375, c376, c377, c378⟩ := vm12 he c306 c309 c312 c315 c318 c321 c324 c327 c375 c376 c377 c378; obtain ⟨c379, c380, c381, c382⟩ := vm4 he c379 c380 c381 c382; have E := Chg.chg E he (fun b e h => (fun e => absurd h (by cases e; exact Nat.not_lt.2 l67)) e); obtain ⟨u390, huu390⟩ : ∃ u : Value, u = (a385.get 105) := ⟨_, rfl⟩; have c389 : kB.V s388 u390 (y338.2.1 || (!decide (((parseO y338.2.2).2) = 0))) := by rw [huu390]; exact c389
      have B67 : Bx s388 b67 4 [u390] := by rw [huu390]; exact B67n
      refine wp_region ?_; refine sq_blk (its := [⟨106, _, []⟩, ⟨107, _, [0]⟩, ⟨108, _, []⟩, ⟨109, _, [2]⟩]) [1, 3] hz rfl ⟨(fun a s he hf hz => fb rfl rfl fa_34_8 ((hf 13 rfl).trans h13)), (fun a s he hf hz q0 => opw rfl (op_load_1 (f := Fact.eq (u326)) rfl ty_22 q0 (B98.ext he) rfl rfl)), (fun a s he hf hz => ld rfl rfl ty_72 rfl ((hf 19 rfl).trans h19) (B360.ext he) rfl (kOp_eta (x := (parseO y338.2.2).1) (vm he c375) (vm he c376) (vm he c377) (vm he c378) (vm he c379) (vm he c380) (vm he c381) (vm he c382))), (fun a s he hf hz q2 => opw rfl ((by obtain ⟨e391, w393, r392⟩ := V_open rfl q2; obtain ⟨u394, u395, u396, u397, u398, u399, u400, u401, rfl, c402, c403, c404, c405, c406, c407, c408, c409⟩ := kOp_open r392; exact op_lit_o (Q := fun g => s0.w.heap.size ≤ g ∧ g ≠ b13 ∧ g ≠ b56 ∧ g ≠ b62 ∧ g ≠ b67 ∧ g ≠ b98 ∧ g ≠ b360) (d := kOp) rfl lt_22 (zc := [.string ⟨#[]⟩, .int .i64 0, .slice none 0 0, .string ⟨#[]⟩, .int .i64 0, .string ⟨#[]⟩, .int .i64 0, .slice none 0 0]) (by kernel_rfl) (ps := [(0, [u394, u395, u396, u397, u398, u399, u400, u401])]) ⟨rfl, congrArg Value.cells w393, trivial⟩ rfl (by decide) (ys := ([(parseO y338.2.2).1] : List Op)) rfl (by decide) rfl (lit_rows1 (show kOp.R _ [u394, u395, u396, u397, u398, u399, u400, u401] ((parseO y338.2.2).1) from kOp_close c402 c403 c404 c405 c406 c407 c408 c409))))), trivial⟩ ?_
      intro a411 s412 he hf hz hd1 h107 k109; have ⟨hd, E⟩ := hdE hd1 hd E he; obtain ⟨h17, h18⟩ := va2 he hf h17 h18 rfl; obtain ⟨h2, h8, h9, h10, h11, h13⟩ := ea6 hf h2 h8 h9 h10 h11 h13 rfl; have p98_8 := px he p98_8; obtain ⟨B13, B56, B62, B67, B98⟩ := bx5 he B13 B56 B62 B67 B98; obtain ⟨c4, c5, c6, c7, c8, c9, c10, c11, c12, c70, c342, c389⟩ := vm12 he c4 c5 c6 c7 c8 c9 c10 c11 c12 c70 c342 c389; obtain ⟨c303, c306, c309, c312, c315, c318, c321, c324, c327⟩ := vm9 he c303 c306 c309 c312 c315 c318 c321 c324 c327; have h109 := k109.1; have pp := Sp_at p98_8 (Chg.refl (fun _ => False) _) (fun _ _ hf => hf) h107; have ff := sb_at f98_8 h107; obtain ⟨D415, h⟩ := need h; refine sq_set hz rfl rfl rfl (op_append2 rfl el_22 (V_at c327 (Chg.refl (fun _ => False) _) h107) pp h109 D415 rfl (fun v s414 he hv hp hq => fun a413 hd' hf hz hd1 => ?_)); have f110' : ∀ g, sb (a413.get 110) = some g → s0.w.heap.size ≤ g ∧ g ≠ b13 ∧ g ≠ b56 ∧ g ≠ b62 ∧ g ≠ b67 ∧ g ≠ b98 := by
       intro g hg; rw [hd'] at hg; rcases hq g hg with h | h
       ·have h1 := ff g h; exact ⟨h1.1, h1.2.1, h1.2.2.1, h1.2.2.2.1, h1.2.2.2.2.1, h1.2.2.2.2.2.1⟩
       ·have h2 := E.size; have l13 := B13.lt; have l56 := B56.lt; have l62 := B62.lt; have l67 := B67.lt; have l98 := B98.lt; exact ⟨(by omega), (by omega), (by omega), (by omega), (by omega), (by omega)⟩
      have hd := hd1.trans hd; obtain ⟨h17, h18⟩ := va2 he hf h17 h18 rfl; obtain ⟨h2, h8, h9, h10, h11, h13⟩ := ea6 hf h2 h8 h9 h10 h11 h13 rfl; have B13 := B13.chg he (fun e => (ff b13 e).2.1 rfl); have B56 := B56.chg he (fun e => (ff b56 e).2.2.1 rfl); have B62 := B62.chg he (fun e => (ff b62 e).2.2.2.1 rfl); have B67 := B67.chg he (fun e => (ff b67 e).2.2.2.2.1 rfl); have B98 := B98.chg he (fun e => (ff b98 e).2.2.2.2.2.1 rfl); obtain ⟨c4, c5, c6, c7, c8, c9, c10, c11, c12, c70, c342, c389⟩ := vm12 he c4 c5 c6 c7 c8 c9 c10 c11 c12 c70 c342 c389; obtain ⟨c303, c306, c309, c312, c315, c318, c321, c324⟩ := vm8 he c303 c306 c309 c312 c315 c318 c321 c324; have E := Chg.chg E he (fun b e h => absurd h (Nat.not_lt.2 (ff b e).1)); have h110 := V_eq hd' hv; have p110 := Sp_at hp (Chg.refl (fun _ => False) _) (fun _ _ hf => hf) hd'; have f110 := f110'; refine sq_blk (its := [⟨111, _, []⟩]) [0] hz rfl ⟨(fun a s he hf hz => fb rfl rfl fa_34_8 ((hf 13 rfl).trans h13)), trivial⟩ ?_; intro a417 s418 he hf hz hd1 h111; have hd := hd1.trans hd; have p110 := pa he p110 (hf 110 rfl); have f110 := sb_at f110 (hf 110 rfl); obtain ⟨h17, h18, h110⟩ := va3 he hf h17 h18 h110 rfl
      obtain ⟨h2, h8, h9, h10, h11, h13⟩ := ea6 hf h2 h8 h9 h10 h11 h13 rfl; obtain ⟨B13, B56, B62, B67, B98⟩ := bx5 he B13 B56 B62 B67 B98; obtain ⟨c4, c5, c6, c7, c8, c9, c10, c11, c12, c70, c342, c389⟩ := vm12 he c4 c5 c6 c7 c8 c9 c10 c11 c12 c70 c342 c389; obtain ⟨c303, c306, c309, c312, c315, c318, c321, c324⟩ := vm8 he c303 c306 c309 c312 c315 c318 c321 c324; have E := E.trans he; refine sq_do rfl rfl (op_store_v rfl ty_22 rfl h111 B98 h110 rfl (fun s420 he B98n c421 => ?_)); have pn := Sp.chg p110 he (fun g hg => (fun e => (f110 g hg).2.2.2.2.2 e)); have fn := f110; obtain ⟨h17, h18⟩ := vm2 he h17 h18; have B13 := B13.chg he (fun e => (Ne.symm n98_13) e); have B56 := B56.chg he (fun e => (Ne.symm n98_56) e); have B62 := B62.chg he (fun e => (Ne.symm n98_62) e); have B67 := B67.chg he (fun e => (Ne.symm n98_67) e); obtain ⟨c4, c5, c6, c7, c8, c9, c10, c11, c12, c70, c342, c389⟩ := vm12 he c4 c5 c6 c7 c8 c9 c10 c11 c12 c70 c342 c389; obtain ⟨c303, c306, c309, c312, c315, c318, c321, c324⟩ := vm8 he c303 c306 c309 c312 c315 c318 c321 c324; have E := Chg.chg E he (fun b e h => (fun e => absurd h (by cases e; exact Nat.not_lt.2 l98)) e)
      obtain ⟨u422, huu422⟩ : ∃ u : Value, u = (a417.get 110) := ⟨_, rfl⟩; have c421 : (kSl kOp).V s420 u422 (y325 ++ ([(parseO y338.2.2).1] : List Op)) := by rw [huu422]; exact c421
      have p98_8 : Sp s420 u422 72 8 := by rw [huu422]; exact pn
      have f98_8 : ∀ g, sb u422 = some g → s0.w.heap.size ≤ g ∧ g ≠ b13 ∧ g ≠ b56 ∧ g ≠ b62 ∧ g ≠ b67 ∧ g ≠ b98 := by rw [huu422]; exact fn
      have B98 : Bx s420 b98 34 [u302, u305, u308, u311, u314, u317, u320, u323, u422] := by rw [huu422]; exact B98n
      refine wp_region ?_; refine sq_blk (its := [⟨93, _, []⟩, ⟨94, _, [0]⟩]) [1] hz rfl ⟨mvs rfl rfl h18 rfl, (fun a s he hf hz q0 => ad rfl rfl q0 i1), trivial⟩ ?_; intro a423 s424 he hf hz hd1 h94; have ⟨hd, E⟩ := hdE hd1 hd E he; have h17 := V_at h17 he (hf 17 rfl); obtain ⟨h2, h8, h9, h10, h11, h13⟩ := ea6 hf h2 h8 h9 h10 h11 h13 rfl; have p98_8 := px he p98_8; obtain ⟨B13, B56, B62, B67, B98⟩ := bx5 he B13 B56 B62 B67 B98; obtain ⟨c4, c5, c6, c7, c8, c9, c10, c11, c12, c70, c342, c389⟩ := vm12 he c4 c5 c6 c7 c8 c9 c10 c11 c12 c70 c342 c389; obtain ⟨c303, c306, c309, c312, c315, c318, c321, c324, c421⟩ := vm9 he c303 c306 c309 c312 c315 c318 c321 c324 c421; refine sq_blk (its := [⟨18, _, []⟩]) [0] hz rfl ⟨avs rfl rfl h94 rfl, trivial⟩ ?_; intro a425 s426 he hf hz hd1 h18; have hd := hd1.trans hd; have h17 := V_at h17 he (hf 17 rfl); obtain ⟨h2, h8, h9, h10, h11, h13⟩ := ea6 hf h2 h8 h9 h10 h11 h13 rfl; have p98_8 := px he p98_8; obtain ⟨B13, B56, B62, B67, B98⟩ := bx5 he B13 B56 B62 B67 B98; obtain ⟨c4, c5, c6, c7, c8, c9, c10, c11, c12, c70, c342, c389⟩ := vm12 he c4 c5 c6 c7 c8 c9 c10 c11 c12 c70 c342 c389
      obtain ⟨c303, c306, c309, c312, c315, c318, c321, c324, c421⟩ := vm9 he c303 c306 c309 c312 c315 c318 c321 c324 c421; have E := E.trans he; exact ⟨_, (by omega : m329 < m329 + 1), _, _, _, _, _, _, _, _, _, _, _, _, _, _, _, _, _, _, _, _, _, _, _, h, by omega, E, hz, hd, h2, h8, h9, h10, h11, h13, h17, h18, B13, c4, c5, c6, c7, c8, c9, c10, c11, c12, B56, c70, B62, c342, B67, c389, B98, c303, c306, c309, c312, c315, c318, c321, c324, c421, p98_8, (fun g hg => ⟨(f98_8 g hg).1, (f98_8 g hg).2.1, (f98_8 g hg).2.2.1, (f98_8 g hg).2.2.2.1, (f98_8 g hg).2.2.2.2.1, (f98_8 g hg).2.2.2.2.2⟩)⟩
     ·have h := ite_f hb h; refine wp_exit ?_; refine then_exit ?_; refine then_exit ?_; refine inBlock_hit ?_; exact J _ _ ⟨_, _, _, _, _, _, _, _, _, _, _, _, _, _, _, _, _, _, _, _, _, _, _, h, by omega, E, hz, hd, h2, h8, h9, h10, h13, B13, c4, c5, c6, c7, c8, c9, c10, c11, c12, B56, c70, B62, c297, B67, c300, B98, c303, c306, c309, c312, c315, c318, c321, c324, c327, p98_8, (fun g hg => ⟨(f98_8 g hg).1, (f98_8 g hg).2.1, (f98_8 g hg).2.2.1, (f98_8 g hg).2.2.2.1, (f98_8 g hg).2.2.2.2.1, (f98_8 g hg).2.2.2.2.2⟩)⟩
    ·have h := ite_f hb h; refine wp_skip ?_; exact J _ _ ⟨_, _, _, _, _, _, _, _, _, _, _, _, _, _, _, _, _, _, _, _, _, _, _, h, by omega, E, hz, hd, h2, h8, h9, h10, h13, B13, c4, c5, c6, c7, c8, c9, c10, c11, c12, B56, c70, B62, c219, B67, c223, B98, c114, c144, c165, c186, c207, c228, c120, c121, c122, p98_8, (fun g hg => ⟨(f98_8 g hg).1, (f98_8 g hg).2.1, (f98_8 g hg).2.2.1, (f98_8 g hg).2.2.2.1, (f98_8 g hg).2.2.2.2.1, (f98_8 g hg).2.2.2.2.2⟩)⟩
  rintro a463 s464 ⟨m462, y429, y432, y435, y438, y441, y444, y447, y450, y453, y456, y460, u427, u430, u433, u436, u439, u442, u445, u448, u451, u454, u458, h, hkm462, E, hz, hd, h2, h8, h9, h10, h13, B13, c4, c5, c6, c7, c8, c9, c10, c11, c12, B56, c70, B62, c428, B67, c431, B98, c434, c437, c440, c443, c446, c449, c452, c455, c459, p98_8, f98_8⟩
  obtain _ | m462 := m462
  ·cases h
  refine wp_seq ?_; refine wp_sr ?_; have hz0 := hz; refine sq_blk (its := [⟨112, _, []⟩, ⟨113, _, [0]⟩, ⟨114, _, [1]⟩, ⟨115, _, [1]⟩, ⟨116, _, [1, 3]⟩, ⟨117, _, [1, 2, 4]⟩, ⟨118, _, [1, 5]⟩, ⟨119, _, [6]⟩, ⟨120, _, [7]⟩, ⟨121, _, [7, 8]⟩, ⟨122, _, [7, 9]⟩, ⟨123, _, [7, 10]⟩]) [11] hz rfl ⟨(fun a s he hf hz => lo rfl rfl ty_4 ((hf 10 rfl).trans h10) (B67.ext he) rfl (vm he c431)), mvq rfl rfl, (fun a s he hf hz q1 => og rfl rfl rfl hz hz0 rfl q1 (fun g => op_load1 rfl ty_3 ((hf 9 rfl).trans h9) (B62.ext he) rfl (vm he c428))), (fun a s he hf hz q1 => og rfl rfl rfl hz hz0 rfl q1 (fun g => op_load1 rfl ty_53 ((hf 8 rfl).trans h8) (B56.ext he) rfl (vm he c70))), (fun a s he hf hz q1 q3 => og rfl rfl rfl hz hz0 rfl q1 (fun g => op_len rfl u_53 (q3.1 g))), (fun a s he hf hz q1 q2 q4 => og rfl rfl rfl hz hz0 rfl q1 (fun g => op_neq rfl (q2.1 g) (q4.1 g))), (fun a s he hf hz q1 q5 => oe rfl rfl q1 (q5.1)), mvq rfl rfl, (fun a s he hf hz q7 => og rfl rfl rfl hz hz0 rfl q7 (fun g => op_loadn rfl ty_34 rfl ((hf 13 rfl).trans h13) (B98.ext he) rfl (kFrame_close (vm he c434) (vm he c437) (vm he c440) (vm he c443) (vm he c446) (vm he c449) (vm he c452) (vm he c455) (vm he c459)))), (fun a s he hf hz q7 q8 => og rfl rfl rfl hz hz0 rfl q7 (fun g => op_call rfl rfl (frame_Right.ok (q8.1 g)))), (fun a s he hf hz q7 q9 => og rfl rfl rfl hz hz0 rfl q7 (fun g => op_not rfl (q9.1 g))), (fun a s he hf hz q7 q10 => oe rfl rfl q7 (q10.1)), trivial⟩ ?_
  intro a465 s466 he hf hz hd1 h123; have ⟨hd, E⟩ := hdE hd1 hd E he; obtain ⟨h2, h13⟩ := ea2 hf h2 h13 rfl; obtain ⟨B13, B98⟩ := bx2 he B13 B98; obtain ⟨c434, c437, c440, c443, c446, c449, c452, c455, c459⟩ := vm9 he c434 c437 c440 c443 c446 c449 c452 c455 c459; refine wp_condV h123 (fun hb => ?_) (fun hb => ?_)
  ·have h := ite_t hb h; refine wp_sr ?_; refine sq_blk (its := [⟨124, _, []⟩]) [0] hz rfl ⟨(fun a s he hf hz => opw rfl (op_build rfl bt_34 (ps := []) trivial rfl (f := Fact.nils kFrame (⟨0, ([] : Str), ([] : Str), ([] : Str), 0, 0, 0, ([] : (List Dot)), ([] : (List Op))⟩ : Frame) [7, 8]) ⟨V_mk rfl (kFrame_close i0 s_0 s_0 s_0 i0 i0 i0 (lit_nil (d := kDot)) (lit_nil (d := kOp))), rfl, rfl, trivial⟩)), trivial⟩ ?_; intro a467 s468 he hf hz hd1 k124; have ⟨hd, E⟩ := hdE hd1 hd E he; have h2 := (hf 2 rfl).trans h2; have B13 := B13.ext he; have h124 := k124.1; have z124 := k124.2; refine sq_do rfl rfl (op_storen' rfl ty_34 rfl h2 B13 h124 rfl (fun s470 e471 he B13n r472 zeq => ?_)); have zz := nilAt_at z124 zeq.symm; have E := Chg.chg E he (fun b e h => (fun e => absurd h (by cases e; exact Nat.not_lt.2 l13)) e)
   obtain ⟨u473, u474, u475, u476, u477, u478, u479, u480, u481, rfl, c482, c483, c484, c485, c486, c487, c488, c489, c490⟩ := kFrame_open r472; have p13_7 : Sp s470 u480 70 2 := nil_sp (u := u480) zz.1; have p13_8 : Sp s470 u481 72 8 := nil_sp (u := u481) zz.2.1; have B13 : Bx s470 b13 34 [u473, u474, u475, u476, u477, u478, u479, u480, u481] := B13n; refine sq_blk (its := [⟨3, _, []⟩]) [0] hz rfl ⟨(fun a s he hf hz => av rfl rfl (lit_i (k := .i64) (n := 110) (by decide))), trivial⟩ ?_; intro a493 s494 he hf hz hd1 h3; have ⟨hd, E⟩ := hdE hd1 hd E he; have h2 := (hf 2 rfl).trans h2; have B13 := B13.ext he; obtain ⟨c482, c483, c484, c485, c486, c487, c488, c489, c490⟩ := vm9 he c482 c483 c484 c485 c486 c487 c488 c489 c490; refine wp_ret ?_; cases h
   exact ⟨hd, _, results_cell_tmp (es := [u473, u474, u475, u476, u477, u478, u479, u480, u481]) rfl (agg := true) ty_34 (by simp) h2 B13, E, tup2 (V_mk rfl (kFrame_close c482 c483 c484 c485 c486 c487 c488 c489 c490)) h3⟩
  ·have h := ite_f hb h; refine wp_skip ?_; refine wp_sr ?_; refine sq_blk (its := [⟨125, _, []⟩]) [0] hz rfl ⟨(fun a s he hf hz => ld rfl rfl ty_34 rfl ((hf 13 rfl).trans h13) (B98.ext he) rfl (kFrame_close (vm he c434) (vm he c437) (vm he c440) (vm he c443) (vm he c446) (vm he c449) (vm he c452) (vm he c455) (vm he c459))), trivial⟩ ?_; intro a495 s496 he hf hz hd1 h125; have ⟨hd, E⟩ := hdE hd1 hd E he; have h2 := (hf 2 rfl).trans h2; have B13 := B13.ext he; refine sq_do rfl rfl (op_storen rfl ty_34 rfl h2 B13 h125 rfl (fun s498 e499 he B13n r500 => ?_)); have E := Chg.chg E he (fun b e h => (fun e => absurd h (by cases e; exact Nat.not_lt.2 l13)) e); obtain ⟨u501, u502, u503, u504, u505, u506, u507, u508, u509, rfl, c510, c511, c512, c513, c514, c515, c516, c517, c518⟩ := kFrame_open r500; have B13 : Bx s498 b13 34 [u501, u502, u503, u504, u505, u506, u507, u508, u509] := B13n; refine sq_blk (its := [⟨3, _, []⟩]) [0] hz rfl ⟨(fun a s he hf hz => av rfl rfl i0), trivial⟩ ?_; intro a519 s520 he hf hz hd1 h3; have hd := hd1.trans hd; have h2 := (hf 2 rfl).trans h2; have B13 := B13.ext he
   obtain ⟨c510, c511, c512, c513, c514, c515, c516, c517, c518⟩ := vm9 he c510 c511 c512 c513 c514 c515 c516 c517 c518; have E := E.trans he; refine wp_ret ?_; cases h
   exact ⟨hd, _, results_cell_tmp (es := [u501, u502, u503, u504, u505, u506, u507, u508, u509]) rfl (agg := true) ty_34 (by simp) h2 B13, E, tup2 (V_mk rfl (kFrame_close c510 c511 c512 c513 c514 c515 c516 c517 c518)) h3⟩
theorem fr1 {b r : Str} (most : Int) (h : r <:+ b) : frame_Read_1 most b ((b.length : Int) - r.length) false = match readT most r with
  | none => (0, true, [])
  | some (x, q) => ((b.length : Int) - q.length, false, x) := by
 unfold frame_Read_1
 simp only [takeT_sfx most h]
 cases readT most r with
 | none => simp
 | some p => simp
theorem fr2 {b r : Str} (h : r <:+ b) : (∃ i v, numM 1152921504606846976 r = none ∧ frame_Read_2 b ((b.length : Int) - r.length) false = (i, true, v)) ∨ (∃ n q, numM 1152921504606846976 r = some (n, q) ∧ frame_Read_2 b ((b.length : Int) - r.length) false = ((b.length : Int) - q.length, false, (n : Int))) := by
 unfold frame_Read_2 numM
 simp only [takeN_sfx h]
 cases readN r with
 | none => left; exact ⟨_, _, rfl, by simp; exact ⟨rfl, rfl⟩⟩
 | some p =>
  obtain ⟨n, q⟩ := p
  simp only [Option.bind_some]
  by_cases hn : 1152921504606846976 < n
  ·have h2 : (1152921504606846976 : Int) < (n : Int) := by omega
   rw [if_pos hn]; left; exact ⟨_, _, rfl, by simp [h2]; exact ⟨rfl, rfl⟩⟩
  ·have h2 : ¬ (1152921504606846976 : Int) < (n : Int) := by omega
   rw [if_neg hn]; right
   refine ⟨_, _, rfl, ?_⟩
   have h3 : mn (n : Int) 1152921504606846976 = (n : Int) := by unfold mn; split <;> omega
   simp [h2, h3]; exact w64 (by omega) (by omega)
theorem fr1_bad (most : Int) (b : Str) (i : Int) : (frame_Read_1 most b i true).2.1 = true := by unfold frame_Read_1; simp
theorem fr2_bad (b : Str) (i : Int) : (frame_Read_2 b i true).2.1 = true := by unfold frame_Read_2; simp
theorem fr_end (k : Nat) (x0 b : Str) (kd n e : Int) (HO : openS x0 0 1048576 = (kd, b, n, e)) (r : Str) (h : r <:+ b) (f : Frame) :
  frame_Read.l0 (k + 1) x0 ((b.length : Int) - r.length) false f.kind f.src f.dst f.cart f.session f.index f.many f.known f.ops = some (if r = [] ∧ rightF f = true then (f, 0) else (zF, 110)) := by
 have hle := h.length_le
 obtain ⟨kind, src, dst, cart, session, index, many, known, ops⟩ := f
 simp only [frame_Read.l0, HO, frame_Right_eq, Bool.false_or]
 cases r with
 | nil =>
  have : decide ((b.length : Int) - (([] : Str).length : Int) = (b.length : Int)) = true := by simp
  rw [this]
  cases hr2 : rightF ⟨kind, src, dst, cart, session, index, many, known, ops⟩ <;> simp [hr2] <;> rfl
 | cons a l =>
  have : decide ((b.length : Int) - ((a :: l).length : Int) = (b.length : Int)) = false := by
   rw [decide_eq_false_iff_not, List.length_cons]; omega
  rw [this]
  simp; rfl
theorem frame_Read.nice (x0 : Str) (b0 : kS.bd x0) : ∃ k, frame_Read.f k x0 = some (parseF x0) := by
 obtain ⟨kd, b, n, e, HO⟩ : ∃ kd b n e, openS x0 0 1048576 = (kd, b, n, e) := ⟨_, _, _, _, rfl⟩
 by_cases hc : e = 0 ∧ n = (x0.length : Int)
 case neg =>
  refine ⟨0, ?_⟩
  have : ((!decide (e = 0)) || (!decide (n = (x0.length : Int)))) = true := by
   rw [Bool.or_eq_true, Bool.not_eq_true', Bool.not_eq_true', decide_eq_false_iff_not, decide_eq_false_iff_not]
   by_cases he : e = 0
   ·exact .inr fun h => hc ⟨he, h⟩
   ·exact .inl he
  simp only [frame_Read.f, parseF, HO, this, if_true, hc, if_false]; rfl
 obtain ⟨rfl, rfl⟩ := hc
 obtain ⟨-, hb, hk0, hk1⟩ := openS_lays HO rfl
 have e0 : ((0 : Int)) = (b.length : Int) - b.length := by omega
 have hw : IntKind.wrap .i64 kd = kd := w64 (by omega) (by omega)
 have hz1 : (!decide ((0 : Int) = 0)) = false := by decide
 have hz2 : (!decide ((x0.length : Int) = (x0.length : Int))) = false := by simp
 have start : parseF x0 = match readF kd b with
   | none => (zF, 110)
   | some (f, r) => if r = [] ∧ rightF f = true then (f, 0) else (zF, 110) := by
  unfold parseF
  rw [HO]
  simp only []
  rw [if_pos ⟨trivial, trivial⟩]
  rfl
 rw [start]
 have badk : ∀ k i a s t u c d (x : Int) v w, frame_Read.l0 (k + 1) x0 i true a s t u c d x v w = some (zF, 110) := fun k i a s t u c d x v w => by
  simp only [frame_Read.l0, Bool.true_or, if_true]; rfl
 have E1 := fr1 24 (List.suffix_refl b)
 rw [← e0] at E1
 cases r1 : readT 24 b with
 | none =>
  rw [r1] at E1; simp only [] at E1
  refine ⟨1, ?_⟩
  simp only [frame_Read.f, HO, hz1, hz2, Bool.or_false, Bool.false_eq_true, if_false, bindv, E1, fr1_bad, fr2_bad, if_true]
  rw [if_neg (by simp)]
  simp only [readF, r1, Option.bind_some, Option.bind_none]
  exact badk _ _ _ _ _ _ _ _ _ _ _
 | some p1 =>
 obtain ⟨ta, q1⟩ := p1
 rw [r1] at E1; simp only [] at E1
 have s1 := readT_sfx r1
 have E2 := fr1 24 s1
 cases r2 : readT 24 q1 with
 | none =>
  rw [r2] at E2; simp only [] at E2
  refine ⟨1, ?_⟩
  simp only [frame_Read.f, HO, hz1, hz2, Bool.or_false, Bool.false_eq_true, if_false, bindv, E1, E2, fr1_bad, fr2_bad, if_true]
  rw [if_neg (by simp)]
  simp only [readF, r1, r2, Option.bind_some, Option.bind_none]
  exact badk _ _ _ _ _ _ _ _ _ _ _
 | some p2 =>
 obtain ⟨tb, q2⟩ := p2
 rw [r2] at E2; simp only [] at E2
 have s2 := (readT_sfx r2).trans s1
 have E3 := fr1 32 s2
 cases r3 : readT 32 q2 with
 | none =>
  rw [r3] at E3; simp only [] at E3
  refine ⟨1, ?_⟩
  simp only [frame_Read.f, HO, hz1, hz2, Bool.or_false, Bool.false_eq_true, if_false, bindv, E1, E2, E3, fr1_bad, fr2_bad, if_true]
  rw [if_neg (by simp)]
  simp only [readF, r1, r2, r3, Option.bind_some, Option.bind_none]
  exact badk _ _ _ _ _ _ _ _ _ _ _
 | some p3 =>
 obtain ⟨tc, q3⟩ := p3
 rw [r3] at E3; simp only [] at E3
 have s3 := (readT_sfx r3).trans s2
 rcases fr2 s3 with ⟨i4, v4, r4, E4⟩ | ⟨se, q4, r4, E4⟩
 ·refine ⟨1, ?_⟩
  simp only [frame_Read.f, HO, hz1, hz2, Bool.or_false, Bool.false_eq_true, if_false, bindv, E1, E2, E3, E4, fr1_bad, fr2_bad, if_true]
  rw [if_neg (by simp)]
  simp only [readF, r1, r2, r3, r4, Option.bind_some, Option.bind_none]
  exact badk _ _ _ _ _ _ _ _ _ _ _
 have s4 := (numM_sfx r4).trans s3
 rcases fr2 s4 with ⟨i5, v5, r5, E5⟩ | ⟨ix, q5, r5, E5⟩
 ·refine ⟨1, ?_⟩
  simp only [frame_Read.f, HO, hz1, hz2, Bool.or_false, Bool.false_eq_true, if_false, bindv, E1, E2, E3, E4, E5, fr1_bad, fr2_bad, if_true]
  rw [if_neg (by simp)]
  simp only [readF, r1, r2, r3, r4, r5, Option.bind_some, Option.bind_none]
  exact badk _ _ _ _ _ _ _ _ _ _ _
 have s5 := (numM_sfx r5).trans s4
 have hf : ∀ k, frame_Read.f k x0 = (if decide (kd = 1) = true then (frame_Read.l0 k x0 ((takeV b ((b.length : Int) - q5.length)).2.1) (!decide (((takeV b ((b.length : Int) - q5.length)).2.2) = 0)) kd ta tb tc (se : Int) (ix : Int) 0 ((takeV b ((b.length : Int) - q5.length)).1) ([] : (List Op))) else (if decide (kd = 2) = true then (bindv (frame_Read_2 b ((b.length : Int) - q5.length) false) (fun y258 => (bindv (frame_Read_2 b y258.1 y258.2.1) (fun y279 => (frame_Read.l1 k x0 y279 0 y279.1 y279.2.1 kd ta tb tc (se : Int) (ix : Int) y258.2.2 [] ([] : (List Op))))))) else (frame_Read.l0 k x0 ((b.length : Int) - q5.length) false kd ta tb tc (se : Int) (ix : Int) 0 ([] : (List Dot)) ([] : (List Op))))) := fun k => by
  unfold frame_Read.f
  rw [HO]
  simp only [hz1, hz2, Bool.or_false, Bool.false_eq_true, if_false, hw]
  rw [show (bindv (frame_Read_1 24 b 0 false)) = fun f => f ((b.length : Int) - q1.length, false, ta) from by funext f; unfold bindv; rw [E1]]
  simp only []
  rw [show (bindv (frame_Read_1 24 b ((b.length : Int) - q1.length) false)) = fun f => f ((b.length : Int) - q2.length, false, tb) from by funext f; unfold bindv; rw [E2]]
  simp only []
  rw [show (bindv (frame_Read_1 32 b ((b.length : Int) - q2.length) false)) = fun f => f ((b.length : Int) - q3.length, false, tc) from by funext f; unfold bindv; rw [E3]]
  simp only []
  rw [show (bindv (frame_Read_2 b ((b.length : Int) - q3.length) false)) = fun f => f ((b.length : Int) - q4.length, false, (se : Int)) from by funext f; unfold bindv; rw [E4]]
  simp only []
  rw [show (bindv (frame_Read_2 b ((b.length : Int) - q4.length) false)) = fun f => f ((b.length : Int) - q5.length, false, (ix : Int)) from by funext f; unfold bindv; rw [E5]]
  simp only [Bool.false_eq_true, if_false]
  rw [if_neg (by simp)]
 have hrd : readF kd b = (if kd = 1 then (readV q5).bind fun v => some (⟨kd, ta, tb, tc, (se : Int), (ix : Int), 0, v.1, []⟩, v.2)
   else if kd = 2 then (numM 1152921504606846976 q5).bind fun m => (numM 1152921504606846976 m.2).bind fun n => (readP n.1 n.2).bind fun o => some (⟨kd, ta, tb, tc, (se : Int), (ix : Int), (m.1 : Int), [], o.1⟩, o.2)
   else some (⟨kd, ta, tb, tc, (se : Int), (ix : Int), 0, [], []⟩, q5)) := by
  simp only [readF, r1, r2, r3, r4, r5, Option.bind_some]
 rw [hrd]
 by_cases k1 : kd = 1
 ·have hk1 : decide (kd = 1) = true := by rw [decide_eq_true_eq]; exact k1
  rw [if_pos k1]
  have E6 := takeV_sfx s5
  refine ⟨1, ?_⟩
  rw [hf, if_pos hk1]
  cases r6 : readV q5 with
  | none =>
   rw [r6] at E6; simp only [] at E6
   rw [E6]
   exact badk _ _ _ _ _ _ _ _ _ _ _
  | some p6 =>
   obtain ⟨v, q6⟩ := p6
   rw [r6] at E6; simp only [] at E6
   rw [E6]
   exact fr_end 0 x0 b kd _ _ HO q6 ((readV_sfx r6).trans s5) ⟨kd, ta, tb, tc, (se : Int), (ix : Int), 0, v, []⟩
 ·have hk1 : ¬ decide (kd = 1) = true := by rw [decide_eq_true_eq]; exact k1
  rw [if_neg k1]
  by_cases k2 : kd = 2
  ·have hk2 : decide (kd = 2) = true := by rw [decide_eq_true_eq]; exact k2
   rw [if_pos k2]
   rcases fr2 s5 with ⟨i6, v6, r6, E6⟩ | ⟨m, q6, r6, E6⟩
   ·refine ⟨1 + 1, ?_⟩
    rw [hf, if_neg hk1, if_pos hk2]
    simp only [bindv, E6]
    generalize hG3 : frame_Read_2 b i6 true = G3 at *
    have g3 : G3.2.1 = true := by rw [← hG3]; exact fr2_bad _ _
    simp only [r6, Option.bind_none, g3]
    unfold frame_Read.l1
    rw [if_neg (by simp)]
    exact badk _ _ _ _ _ _ _ _ _ _ _
   have s6 := (numM_sfx r6).trans s5
   rcases fr2 s6 with ⟨i7, v7, r7, E7⟩ | ⟨n, q7, r7, E7⟩
   ·refine ⟨1 + 1, ?_⟩
    rw [hf, if_neg hk1, if_pos hk2]
    simp only [bindv, E6, E7]
    simp only [r6, r7, Option.bind_some, Option.bind_none]
    unfold frame_Read.l1
    rw [if_neg (by simp)]
    exact badk _ _ _ _ _ _ _ _ _ _ _
   have s7 := (numM_sfx r7).trans s6
   have hn := (numM_lays r7).2
   have good : ∀ (L : Nat) (r : Str) (acc : List Op) (i : Nat) (A : Int), r.length ≤ L → r <:+ b → i ≤ n → acc.length + r.length ≤ b.length → ∃ k, frame_Read.l1 k x0 (A, false, (n : Int)) (i : Int) ((b.length : Int) - r.length) false kd ta tb tc (se : Int) (ix : Int) (m : Int) [] acc =
     some (match (readP (n - i) r).bind fun o => some ((⟨kd, ta, tb, tc, (se : Int), (ix : Int), (m : Int), [], acc ++ o.1⟩ : Frame), o.2) with
      | none => (zF, 110)
      | some (f, r) => if r = [] ∧ rightF f = true then (f, 0) else (zF, 110)) := by
    intro L
    induction L with
    | zero =>
     intro r acc i A hL hr hi ha
     have hr0 : r = [] := List.length_eq_zero_iff.1 (by omega)
     rcases Nat.lt_or_ge i n with hlt | hge
     ·refine ⟨1 + 1 + 1, ?_⟩
      have h1 : (decide ((i : Int) < (n : Int)) && !false) = true := by simp; omega
      have E := fr1 1048576 hr
      have hrt : readT 1048576 r = none := by rw [hr0] <;> rfl
      rw [hrt] at E; simp only [] at E
      unfold frame_Read.l1
      rw [if_pos h1, HO]
      simp only [bindv, E]
      rw [if_pos (by simp; omega)]
      unfold frame_Read.l1
      rw [if_neg (by simp)]
      rw [show n - i = (n - i - 1) + 1 from by omega]
      simp only [readP, hrt, Option.bind_none]
      exact badk _ _ _ _ _ _ _ _ _ _ _
     ·refine ⟨1 + 1, ?_⟩
      have h1 : (decide ((i : Int) < (n : Int)) && !false) = false := by simp; omega
      unfold frame_Read.l1
      rw [if_neg (by rw [h1]; simp), show n - i = 0 from by omega]
      simp only [readP, Option.bind_some, List.append_nil]
      exact fr_end 0 x0 b kd _ _ HO r hr ⟨kd, ta, tb, tc, (se : Int), (ix : Int), (m : Int), [], acc⟩
    | succ L ih =>
     intro r acc i A hL hr hi ha
     rcases Nat.lt_or_ge i n with hlt | hge
     ·have h1 : (decide ((i : Int) < (n : Int)) && !false) = true := by simp; omega
      have E := fr1 1048576 hr
      cases hrt : readT 1048576 r with
      | none =>
       rw [hrt] at E; simp only [] at E
       refine ⟨1 + 1 + 1, ?_⟩
       unfold frame_Read.l1
       rw [if_pos h1, HO]
       simp only [bindv, E]
       rw [if_pos (by simp; omega)]
       unfold frame_Read.l1
       rw [if_neg (by simp)]
       rw [show n - i = (n - i - 1) + 1 from by omega]
       simp only [readP, hrt, Option.bind_none]
       exact badk _ _ _ _ _ _ _ _ _ _ _
      | some p =>
       obtain ⟨x, q⟩ := p
       rw [hrt] at E; simp only [] at E
       have hlays := (readT_lays hrt).1
       have hql : q.length + 1 ≤ r.length := by
        have := congrArg List.length hlays
        simp only [List.length_append] at this
        have hnb := numB_len x.length
        omega
       by_cases hx : (parseO x).2 = 0
       ·obtain ⟨k, hk⟩ := ih q (acc ++ [(parseO x).1]) (i + 1) A (by omega) ((readT_sfx hrt).trans hr) (by omega) (by simp; omega)
        push_cast at hk
        refine ⟨k + 1, ?_⟩
        unfold frame_Read.l1
        rw [if_pos h1, HO]
        simp only [bindv, E]
        rw [if_pos (by simp; omega), w64s (by omega)]
        have hb1 : (false || !decide ((parseO x).2 = 0)) = false := by rw [hx]; decide
        rw [hb1, hk, show n - i = (n - (i + 1)) + 1 from by omega]
        simp only [readP, hrt, Option.bind_some, hx, if_true]
        cases readP (n - (i + 1)) q with
        | none => rfl
        | some o => simp only [Option.bind_some, List.append_assoc, List.cons_append, List.nil_append]
       ·refine ⟨1 + 1 + 1, ?_⟩
        unfold frame_Read.l1
        rw [if_pos h1, HO]
        simp only [bindv, E]
        rw [if_pos (by simp; omega)]
        have hb1 : (false || !decide ((parseO x).2 = 0)) = true := by simp [hx]
        rw [hb1]
        unfold frame_Read.l1
        rw [if_neg (by simp)]
        rw [show n - i = (n - i - 1) + 1 from by omega]
        simp only [readP, hrt, Option.bind_some, hx, if_false]
        exact badk _ _ _ _ _ _ _ _ _ _ _
     ·refine ⟨1 + 1, ?_⟩
      have h1 : (decide ((i : Int) < (n : Int)) && !false) = false := by simp; omega
      unfold frame_Read.l1
      rw [if_neg (by rw [h1]; simp), show n - i = 0 from by omega]
      simp only [readP, Option.bind_some, List.append_nil]
      exact fr_end 0 x0 b kd _ _ HO r hr ⟨kd, ta, tb, tc, (se : Int), (ix : Int), (m : Int), [], acc⟩
   obtain ⟨k, hk⟩ := good q7.length q7 [] 0 ((b.length : Int) - q7.length) (Nat.le_refl _) s7 (Nat.zero_le _) (by simpa using s7.length_le)
   refine ⟨k, ?_⟩
   rw [hf, if_neg hk1, if_pos hk2]
   simp only [bindv, E6, E7]
   refine hk.trans ?_
   simp only [r6, r7, Option.bind_some, Nat.sub_zero, List.nil_append]
  ·have hk2 : ¬ decide (kd = 2) = true := by rw [decide_eq_true_eq]; exact k2
   rw [if_neg k2]
   refine ⟨1, ?_⟩
   rw [hf, if_neg hk1, if_neg hk2]
   exact fr_end 0 x0 b kd _ _ HO q5 s5 ⟨kd, ta, tb, tc, (se : Int), (ix : Int), 0, [], []⟩
theorem frame_Read.ct {s0 : St} {v0 : Value} {x0 : Str} (k0 : kS.V s0 v0 x0) : Cl Try.prog 25 #[v0] s0 (Okf s0 (Fact.tup [Fact.v kFrame ((parseF x0).1), Fact.v (kI .i64) ((parseF x0).2)])) := by
 obtain ⟨k, h⟩ := frame_Read.nice x0 (Kn.V_bd k0)
 exact frame_Read.ok k0 h
end
section
attribute [local irreducible] Kn.V PtrV
def f14 : Frame := ⟨3, ([97] : Str), ([98] : Str), ([99] : Str), 1, 2, 0, ([] : (List Dot)), ([] : (List Op))⟩
theorem f14_right : rightF f14 = true := by decide
theorem f14_body : frmB f14 = [1, 97, 1, 98, 1, 99, 1, 2] := by rfl
theorem f14_lay : layF f14 = (sealed 3 (frmB f14), 0) := by unfold layF; rw [if_pos f14_right] <;> rfl
theorem f14_read : parseF (sealed 3 (frmB f14)) = (f14, 0) := parseF_laid f14_right
theorem f14_len : (sealed 3 (frmB f14)).length = 14 := by rw [sealed_eq, f14_body] <;> rfl
theorem f14_take : List.take ((10 : Int)).toNat (sealed 3 (frmB f14)) = ([3, 8, 1, 97, 1, 98, 1, 99, 1, 2] : Str) := by rw [sealed_eq, f14_body] <;> rfl
def shownT : Bool := true
def law14_shown.f (k : Nat) : Option (Bool) := (if ((((decide (((layF (⟨3, ([97] : Str), ([98] : Str), ([99] : Str), 1, 2, 0, ([] : (List Dot)), ([] : (List Op))⟩ : Frame)).2) = 0)) && (decide (((parseF ((layF (⟨3, ([97] : Str), ([98] : Str), ([99] : Str), 1, 2, 0, ([] : (List Dot)), ([] : (List Op))⟩ : Frame)).1)).2) = 0))) && (decide ((((layF (⟨3, ([97] : Str), ([98] : Str), ([99] : Str), 1, 2, 0, ([] : (List Dot)), ([] : (List Op))⟩ : Frame)).1).length : Int) = 14))) = true → (0 ≤ (10 : Int) ∧ (10 : Int) ≤ (((layF (⟨3, ([97] : Str), ([98] : Str), ([99] : Str), 1, 2, 0, ([] : (List Dot)), ([] : (List Op))⟩ : Frame)).1).length : Int))) then (some (((((decide (((layF (⟨3, ([97] : Str), ([98] : Str), ([99] : Str), 1, 2, 0, ([] : (List Dot)), ([] : (List Op))⟩ : Frame)).2) = 0)) && (decide (((parseF ((layF (⟨3, ([97] : Str), ([98] : Str), ([99] : Str), 1, 2, 0, ([] : (List Dot)), ([] : (List Op))⟩ : Frame)).1)).2) = 0))) && (decide ((((layF (⟨3, ([97] : Str), ([98] : Str), ([99] : Str), 1, 2, 0, ([] : (List Dot)), ([] : (List Op))⟩ : Frame)).1).length : Int) = 14))) && (decide ((List.take ((10 : Int)).toNat ((layF (⟨3, ([97] : Str), ([98] : Str), ([99] : Str), 1, 2, 0, ([] : (List Dot)), ([] : (List Op))⟩ : Frame)).1)) = ([3, 8, 1, 97, 1, 98, 1, 99, 1, 2] : Str)))) && (ref14_Equal (⟨3, ([97] : Str), ([98] : Str), ([99] : Str), 1, 2, 0, ([] : (List Dot)), ([] : (List Op))⟩ : Frame) ((parseF ((layF (⟨3, ([97] : Str), ([98] : Str), ([99] : Str), 1, 2, 0, ([] : (List Dot)), ([] : (List Op))⟩ : Frame)).1)).1)))) else none)
theorem law14_shown.ok {s0 : St}  {k : Nat} {r : Bool}  (h : law14_shown.f k = some r) : Cl Try.prog 24 #[] s0 (Okf s0 (Fact.v kB r)) := by
 unfold law14_shown.f at h
 refine cl_of_wp Try.func24 rfl en_24 fun a hz hd hp => ?_; have hz : a.tmps.size = 38 := hz; have E := Chg.refl (fun _ => False) s0; refine wp_sr ?_; refine sq_blk (its := [⟨0, _, []⟩]) [] hz rfl ⟨(fun a s he hf hz => av rfl rfl b_f), trivial⟩ ?_; intro a1 s2 he hf hz hd1; have ⟨hd, E⟩ := hdE hd1 hd E he; refine wp_sr ?_; refine sq_blk (its := [⟨6, _, []⟩]) [0] hz rfl ⟨(fun a s he hf hz => opw rfl (op_build rfl bt_34 (ps := [(0, [(.int .i64 3)]), (1, [(strV [97])]), (2, [(strV [98])]), (3, [(strV [99])]), (4, [(.int .i64 1)]), (5, [(.int .i64 2)])]) ⟨rfl, V_cells1 (s := s) rfl (lit_i (k := .i64) (n := 3) (by decide)), rfl, V_cells1 (s := s) rfl (lit_s (x := [97]) (by decide)), rfl, V_cells1 (s := s) rfl (lit_s (x := [98]) (by decide)), rfl, V_cells1 (s := s) rfl (lit_s (x := [99]) (by decide)), rfl, V_cells1 (s := s) rfl i1, rfl, V_cells1 (s := s) rfl (lit_i (k := .i64) (n := 2) (by decide)), trivial⟩ rfl (f := Fact.v kFrame (⟨3, ([97] : Str), ([98] : Str), ([99] : Str), 1, 2, 0, ([] : (List Dot)), ([] : (List Op))⟩ : Frame)) (V_mk rfl (kFrame_close (lit_i (k := .i64) (n := 3) (by decide)) (lit_s (x := [97]) (by decide)) (lit_s (x := [98]) (by decide)) (lit_s (x := [99]) (by decide)) i1 (lit_i (k := .i64) (n := 2) (by decide)) i0 (lit_nil (d := kDot)) (lit_nil (d := kOp)))))), trivial⟩ ?_
 intro a3 s4 he hf hz hd1 h6; have ⟨hd, E⟩ := hdE hd1 hd E he; refine sq_set hz rfl rfl rfl (op_alloc (cs := [.int .i64 0, .string ⟨#[]⟩, .string ⟨#[]⟩, .string ⟨#[]⟩, .int .i64 0, .int .i64 0, .int .i64 0, .slice none 0 0, .slice none 0 0]) rfl zv_34 rfl (fun s6 he BB7 => fun a5 h1 hf hz hd1 => ?_)); obtain ⟨b17, hb17⟩ : ∃ b, b = s4.w.heap.size := ⟨_, rfl⟩; rw [← hb17] at BB7 h1; have B17 := BB7; have l17 : s0.w.heap.size ≤ b17 := by have := E.size; omega
 have ⟨hd, E⟩ := hdE hd1 hd E he; have h6 := V_at h6 he (hf 6 rfl); have c8 : (kI .i64).V s6 (.int .i64 0) 0 := i0; have c9 : kS.V s6 (.string ⟨#[]⟩) ([] : Str) := s_0; have c10 : kS.V s6 (.string ⟨#[]⟩) ([] : Str) := s_0; have c11 : kS.V s6 (.string ⟨#[]⟩) ([] : Str) := s_0; have c12 : (kI .i64).V s6 (.int .i64 0) 0 := i0; have c13 : (kI .i64).V s6 (.int .i64 0) 0 := i0; have c14 : (kI .i64).V s6 (.int .i64 0) 0 := i0; have c15 : (kSl kDot).V s6 (.slice none 0 0) ([] : (List Dot)) := (lit_nil (d := kDot)); have c16 : (kSl kOp).V s6 (.slice none 0 0) ([] : (List Op)) := (lit_nil (d := kOp)); refine sq_do rfl rfl (op_storen rfl ty_34 rfl h1 B17 h6 rfl (fun s19 e20 he B17n r21 => ?_)); have E := Chg.chg E he (fun b e h => (fun e => absurd h (by cases e; exact Nat.not_lt.2 l17)) e); obtain ⟨u22, u23, u24, u25, u26, u27, u28, u29, u30, rfl, c31, c32, c33, c34, c35, c36, c37, c38, c39⟩ := kFrame_open r21
 have B17 : Bx s19 b17 34 [u22, u23, u24, u25, u26, u27, u28, u29, u30] := B17n; refine wp_sr ?_; refine sq_blk (its := [⟨8, _, []⟩, ⟨9, _, [0]⟩, ⟨7, _, [1]⟩, ⟨10, _, [2]⟩, ⟨11, _, [2]⟩, ⟨2, _, [3]⟩, ⟨3, _, [4]⟩]) [5, 6] hz rfl ⟨(fun a s he hf hz => ld rfl rfl ty_34 rfl ((hf 1 rfl).trans h1) (B17.ext he) rfl (kFrame_close (vm he c31) (vm he c32) (vm he c33) (vm he c34) (vm he c35) (vm he c36) (vm he c37) (vm he c38) (vm he c39))), (fun a s he hf hz q0 => opw rfl (op_call rfl rfl (frame_Lay.ct q0))), (fun a s he hf hz q1 => opw rfl (op_move rfl (f := Fact.tup _) q1)), (fun a s he hf hz q2 => opw rfl (op_extract (f := Fact.v _ _) rfl q2 rfl)), (fun a s he hf hz q2 => opw rfl (op_extract (f := Fact.v _ _) rfl q2 rfl)), avq rfl rfl, avq rfl rfl, trivial⟩ ?_; intro a40 s41 he hf hz hd1 h2 h3; have ⟨hd, E⟩ := hdE hd1 hd E he; have h1 := (hf 1 rfl).trans h1; have B17 := B17.ext he; obtain ⟨c31, c32, c33, c34, c35, c36, c37, c38, c39⟩ := vm9 he c31 c32 c33 c34 c35 c36 c37 c38 c39; refine wp_sr ?_; refine sq_blk (its := [⟨13, _, []⟩, ⟨14, _, [0]⟩, ⟨12, _, [1]⟩, ⟨15, _, [2]⟩, ⟨16, _, [2]⟩]) [3, 4] hz rfl ⟨mvs rfl rfl h2 rfl, (fun a s he hf hz q0 => opw rfl (op_call rfl rfl (frame_Read.ct q0))), (fun a s he hf hz q1 => opw rfl (op_move rfl (f := Fact.tup _) q1)), (fun a s he hf hz q2 => opw rfl (op_extract (f := Fact.v _ _) rfl q2 rfl)), (fun a s he hf hz q2 => opw rfl (op_extract (f := Fact.v _ _) rfl q2 rfl)), trivial⟩ ?_
 intro a42 s43 he hf hz hd1 h15 h16; have ⟨hd, E⟩ := hdE hd1 hd E he; obtain ⟨h2, h3⟩ := va2 he hf h2 h3 rfl; have h1 := (hf 1 rfl).trans h1; have B17 := B17.ext he; obtain ⟨c31, c32, c33, c34, c35, c36, c37, c38, c39⟩ := vm9 he c31 c32 c33 c34 c35 c36 c37 c38 c39; refine sq_set hz rfl rfl rfl (op_alloc (cs := [.int .i64 0, .string ⟨#[]⟩, .string ⟨#[]⟩, .string ⟨#[]⟩, .int .i64 0, .int .i64 0, .int .i64 0, .slice none 0 0, .slice none 0 0]) rfl zv_34 rfl (fun s45 he BB46 => fun a44 h4 hf hz hd1 => ?_)); obtain ⟨b56, hb56⟩ : ∃ b, b = s43.w.heap.size := ⟨_, rfl⟩; rw [← hb56] at BB46 h4; have B56 := BB46; have l56 : s0.w.heap.size ≤ b56 := by have := E.size; omega
 have n56_17 : b56 ≠ b17 := by have := B17.lt; omega
 have ⟨hd, E⟩ := hdE hd1 hd E he; obtain ⟨h2, h3, h15, h16⟩ := va4 he hf h2 h3 h15 h16 rfl; have h1 := (hf 1 rfl).trans h1; have B17 := B17.ext he; obtain ⟨c31, c32, c33, c34, c35, c36, c37, c38, c39⟩ := vm9 he c31 c32 c33 c34 c35 c36 c37 c38 c39; have c47 : (kI .i64).V s45 (.int .i64 0) 0 := i0; have c48 : kS.V s45 (.string ⟨#[]⟩) ([] : Str) := s_0; have c49 : kS.V s45 (.string ⟨#[]⟩) ([] : Str) := s_0; have c50 : kS.V s45 (.string ⟨#[]⟩) ([] : Str) := s_0; have c51 : (kI .i64).V s45 (.int .i64 0) 0 := i0; have c52 : (kI .i64).V s45 (.int .i64 0) 0 := i0; have c53 : (kI .i64).V s45 (.int .i64 0) 0 := i0; have c54 : (kSl kDot).V s45 (.slice none 0 0) ([] : (List Dot)) := (lit_nil (d := kDot)); have c55 : (kSl kOp).V s45 (.slice none 0 0) ([] : (List Op)) := (lit_nil (d := kOp)); refine sq_do rfl rfl (op_storen rfl ty_34 rfl h4 B56 h15 rfl (fun s58 e59 he B56n r60 => ?_)); obtain ⟨h2, h3, h16⟩ := vm3 he h2 h3 h16
 have B17 := B17.chg he (fun e => (Ne.symm n56_17) e); obtain ⟨c31, c32, c33, c34, c35, c36, c37, c38, c39⟩ := vm9 he c31 c32 c33 c34 c35 c36 c37 c38 c39; have E := Chg.chg E he (fun b e h => (fun e => absurd h (by cases e; exact Nat.not_lt.2 l56)) e); obtain ⟨u61, u62, u63, u64, u65, u66, u67, u68, u69, rfl, c70, c71, c72, c73, c74, c75, c76, c77, c78⟩ := kFrame_open r60; have B56 : Bx s58 b56 34 [u61, u62, u63, u64, u65, u66, u67, u68, u69] := B56n; refine sq_blk (its := [⟨5, _, []⟩]) [0] hz rfl ⟨avs rfl rfl h16 rfl, trivial⟩ ?_; intro a79 s80 he hf hz hd1 h5; have ⟨hd, E⟩ := hdE hd1 hd E he; obtain ⟨h2, h3⟩ := va2 he hf h2 h3 rfl; obtain ⟨h1, h4⟩ := ea2 hf h1 h4 rfl; obtain ⟨B17, B56⟩ := bx2 he B17 B56; obtain ⟨c31, c32, c33, c34, c35, c36, c37, c38, c39, c70, c71, c72⟩ := vm12 he c31 c32 c33 c34 c35 c36 c37 c38 c39 c70 c71 c72; obtain ⟨c73, c74, c75, c76, c77, c78⟩ := vm6 he c73 c74 c75 c76 c77 c78; refine wp_sr ?_; obtain ⟨D81, h⟩ := need h; have hz0 := hz
 refine sq_blk (its := [⟨17, _, []⟩, ⟨18, _, [0]⟩, ⟨19, _, [1]⟩, ⟨20, _, [2]⟩, ⟨21, _, [2, 3]⟩, ⟨22, _, [2, 4]⟩, ⟨23, _, [5]⟩, ⟨24, _, [6]⟩, ⟨25, _, [6, 7]⟩, ⟨26, _, [6, 8]⟩, ⟨27, _, [6, 9]⟩, ⟨28, _, [10]⟩, ⟨29, _, [11]⟩, ⟨30, _, [11, 12]⟩, ⟨31, _, [11, 13]⟩, ⟨32, _, [11, 14]⟩, ⟨33, _, [15]⟩, ⟨34, _, [16]⟩, ⟨35, _, [16]⟩, ⟨36, _, [16, 17, 18]⟩, ⟨37, _, [16, 19]⟩, ⟨0, _, [20]⟩]) [21] hz rfl ⟨mvs rfl rfl h3 rfl, (fun a s he hf hz q0 => eq_ rfl rfl q0 i0), mvq rfl rfl, (fun a s he hf hz q2 => og rfl rfl rfl hz hz0 rfl q2 (fun g => op_move_v rfl (V_at h5 he (hf 5 rfl)))), (fun a s he hf hz q2 q3 => og rfl rfl rfl hz hz0 rfl q2 (fun g => op_eql rfl (q3.1 g) i0)), (fun a s he hf hz q2 q4 => an rfl rfl q2 (q4.1)), mvq rfl rfl, (fun a s he hf hz q6 => og rfl rfl rfl hz hz0 rfl q6 (fun g => op_move_v rfl (V_at h2 he (hf 2 rfl)))), (fun a s he hf hz q6 q7 => og rfl rfl rfl hz hz0 rfl q6 (fun g => op_len_s rfl u_9 (q7.1 g))), (fun a s he hf hz q6 q8 => og rfl rfl rfl hz hz0 rfl q6 (fun g => op_eql rfl (q8.1 g) (lit_i (k := .i64) (n := 14) (by decide)))), (fun a s he hf hz q6 q9 => an rfl rfl q6 (q9.1)), mvq rfl rfl, (fun a s he hf hz q11 => og rfl rfl rfl hz hz0 rfl q11 (fun g => op_move_v rfl (V_at h2 he (hf 2 rfl)))), (fun a s he hf hz q11 q12 => og rfl rfl rfl hz hz0 rfl q11 (fun g => op_cut_s_h rfl u_9 (q12.1 g) (lit_i (k := .i64) (n := 10) (by decide)) (D81 g).1 (D81 g).2)), (fun a s he hf hz q11 q13 => og rfl rfl rfl hz hz0 rfl q11 (fun g => op_seql rfl (q13.1 g) (lit_s (x := [3, 8, 1, 97, 1, 98, 1, 99, 1, 2]) (by decide)))), (fun a s he hf hz q11 q14 => an rfl rfl q11 (q14.1)), mvq rfl rfl, (fun a s he hf hz q16 => og rfl rfl rfl hz hz0 rfl q16 (fun g => op_loadn rfl ty_34 rfl ((hf 1 rfl).trans h1) (B17.ext he) rfl (kFrame_close (vm he c31) (vm he c32) (vm he c33) (vm he c34) (vm he c35) (vm he c36) (vm he c37) (vm he c38) (vm he c39)))), (fun a s he hf hz q16 => og rfl rfl rfl hz hz0 rfl q16 (fun g => op_loadn rfl ty_34 rfl ((hf 4 rfl).trans h4) (B56.ext he) rfl (kFrame_eta (x := (parseF ((layF (⟨3, ([97] : Str), ([98] : Str), ([99] : Str), 1, 2, 0, ([] : (List Dot)), ([] : (List Op))⟩ : Frame)).1)).1) (vm he c70) (vm he c71) (vm he c72) (vm he c73) (vm he c74) (vm he c75) (vm he c76) (vm he c77) (vm he c78)))), (fun a s he hf hz q16 q17 q18 => og rfl rfl rfl hz hz0 rfl q16 (fun g => op_call rfl rfl (ref14_Equal.ok (q17.1 g) (q18.1 g)))), (fun a s he hf hz q16 q19 => an rfl rfl q16 (q19.1)), avq rfl rfl, trivial⟩ ?_
 intro a82 s83 he hf hz hd1 h0; have ⟨hd, E⟩ := hdE hd1 hd E he; refine wp_ret ?_; cases h
 exact ⟨hd, _, results_tmp rfl _ _ _, E, h0⟩
theorem law14_shown.nice : ∃ k, law14_shown.f k = some shownT := by
 refine ⟨0, ?_⟩
 unfold law14_shown.f
 change (if ((((decide ((layF f14).2 = 0)) && (decide ((parseF (layF f14).1).2 = 0))) && (decide (((layF f14).1.length : Int) = 14))) = true → (0 ≤ (10 : Int) ∧ (10 : Int) ≤ ((layF f14).1.length : Int))) then (some (((((decide ((layF f14).2 = 0)) && (decide ((parseF (layF f14).1).2 = 0))) && (decide (((layF f14).1.length : Int) = 14))) && (decide ((List.take ((10 : Int)).toNat (layF f14).1) = ([3, 8, 1, 97, 1, 98, 1, 99, 1, 2] : Str)))) && (ref14_Equal f14 (parseF (layF f14).1).1))) else none) = some shownT
 rw [f14_lay]
 simp only []
 rw [f14_read, f14_len, f14_take, ref14_Equal_eq]
 simp [shownT]
theorem law14_shown.ct {s0 : St}   : Cl Try.prog 24 #[] s0 (Okf s0 (Fact.v kB (shownT))) := by
 obtain ⟨k, h⟩ := law14_shown.nice 
 exact law14_shown.ok  h
end
section
def chkI (m : Nat) (ops : List Oper) : Bool :=
  let ds := deps ops [] ops
  onBelow 0 ops && depOk ds 0 ops && restOk ds m ops.length && Nat.ble m ops.length && (ops.take m).all (fun o => o.guard.isNone)
section
variable {P : Program} {ro : Option Nat}
theorem any_preI {ops : List Oper} {m : Nat} {I : (Nat → Prop) → Act → St → Prop} {Q : Exit → Act → World → Prop} {K : Act → St → Prop} (hc : chkI m ops = true) (hQ : ∀ a t, K a t → Q .normal a t.w)
    (hstep : ∀ (D : Nat → Prop) (a : Act) (s : St) (i : Nat) (o : Oper), i < m → ops[i]? = some o → ¬ D i → (∀ j, j < i → ((deps ops [] ops).getD i 0).testBit j = true → D j) → I D a s → OpR P ro o a s (fun v t => I (fun x => x = i ∨ D x) (a.put o.dst v) t))
    (hK : ∀ D a s, (∀ j, j < m → D j) → I D a s → Sq P ro ops.toArray (ops.drop m) a s K) :
    ∀ (fuel : Nat) (l : Array Bool) (a : Act) (s : St), l.size = ops.length → unl l ops.length ≤ fuel → (∀ j, Lst l j → j < m) →
      (∀ i o, Lst l i → ops[i]? = some o → ∀ e ∈ o.after.toList, Region.binds .any e = true → Lst l e.on) → I (Lst l) a s → wpAnyIn (FN ro) 0 P .any ops.toArray Q fuel l a s.w := by
  simp only [chkI, Bool.and_eq_true] at hc
  obtain ⟨⟨⟨⟨hb, hd⟩, hr⟩, hle⟩, hg⟩ := hc
  have hle := Nat.le_of_ble_eq_true hle
  intro fuel
  induction fuel with
  | zero =>
    intro l a s hz hu hp hcl hI
    have hall := unl_zero (Nat.le_zero.1 hu)
    refine any_rest hb hd hr hQ 0 m l a s hz (Nat.le_refl _) hle ?_ (fun j hj => ⟨hp j, fun _ => hall j hj⟩) (hK _ a s (fun j hj => hall j (by omega)) hI)
    rcases Nat.lt_or_ge m ops.length with h | h
    · have := hp _ (hall m h); omega
    · omega
  | succ fuel ih =>
    intro l a s hz hu hp hcl hI
    by_cases hall : ∀ j, j < m → Lst l j
    · refine any_rest hb hd hr hQ (fuel + 1) m l a s hz (Nat.le_refl _) hle ?_ (fun j hj => ⟨hp j, fun h => hall j h⟩) (hK _ a s hall hI)
      have : ∀ k, k ≤ ops.length → k - m ≤ unl l k := by
        intro k
        induction k with
        | zero => intro _; simp
        | succ k ihk =>
          intro hk
          have := ihk (by omega)
          simp only [unl]
          rcases Nat.lt_or_ge k m with h | h
          · omega
          · rw [if_neg (fun hx => by have := hp k hx; omega)]; omega
      have := this ops.length (Nat.le_refl _)
      omega
    · have hex : ∃ j, j < m ∧ ¬ Lst l j := by
        refine Classical.byContradiction fun hn => hall fun j hj => Classical.byContradiction fun hx => hn ⟨j, hj, hx⟩
      refine ⟨fun hnil => ?_, fun j hj => ?_⟩
      · exfalso
        obtain ⟨k, ⟨hk, hkl⟩, hmin⟩ := least hex
        have hk' : k < ops.length := by omega
        have : k ∈ Region.ready .any ops.toArray l := by
          refine mem_ready.2 ⟨by simpa using hk', ?_, ops[k], by simp [hk'], ?_⟩
          · unfold Lst at hkl
            rw [Array.getD_eq_getD_getElem?, Array.getElem?_eq_getElem (by omega)]
            rw [Array.getElem?_eq_getElem (by omega)] at hkl
            simpa using hkl
          · intro e hee hbd
            have hon := onBelow_at (i := 0) hb (List.getElem?_eq_getElem hk') e hee hbd
            have : Lst l e.on := Classical.byContradiction fun hx => by have := hmin e.on ⟨by omega, hx⟩; omega
            unfold Lst at this
            simp [Array.getD_eq_getD_getElem?, this]
        rw [hnil] at this; cases this
      · obtain ⟨h1, h2, o, hoo, h3⟩ := mem_ready.1 hj
        have h1 : j < ops.length := by simpa using h1
        have ho' : ops[j]? = some o := by simpa using hoo
        have hnl : ¬ Lst l j := fun h => by unfold Lst at h; simp [Array.getD_eq_getD_getElem?, h] at h2
        have hL3 : ∀ e ∈ o.after.toList, Region.binds .any e = true → Lst l e.on := fun e hee hbd => by
          have := h3 e hee hbd
          have hon := onBelow_at (i := 0) hb ho' e hee hbd
          unfold Lst
          rw [Array.getD_eq_getD_getElem?, Array.getElem?_eq_getElem (by omega)] at this
          rw [Array.getElem?_eq_getElem (by omega)]
          simpa using this
        have hin := dep_in hb hd hcl j o ho' hL3
        have hjm : j < m := by
          rcases Nat.lt_or_ge j m with h | h
          · exact h
          · exfalso
            obtain ⟨k, hk, hkl⟩ := hex
            refine hkl (hin k (by omega) ?_)
            simp only [restOk, List.all_eq_true, List.mem_range] at hr
            have := hr (j - m) (by omega) k (by omega)
            rwa [show m + (j - m) = j from by omega] at this
        have hgn : o.guard = none := by
          have : o ∈ ops.take m := by
            rw [List.mem_iff_getElem?]
            exact ⟨j, by rw [List.getElem?_take, if_pos hjm]; exact ho'⟩
          have := List.all_eq_true.1 hg o this
          simpa using this
        have hst := hstep _ a s j o hjm ho' hnl hin hI
        simp only [wpOpIn, hoo]
        rw [if_pos (by simp [Region.wanted, hgn])]
        refine hst _ _ fun v t hI' => ?_
        refine ih _ _ t (by simpa using hz) (by have := unl_set_lt l j (by omega) hnl ops.length h1; omega) ?_ ?_ ?_
        · intro x hx
          rcases (lst_set (by omega) x).1 hx with h | h
          · omega
          · exact hp x h
        · intro x ox hx hox e hee hbd
          rw [lst_set (by omega)]
          rcases (lst_set (by omega) x).1 hx with h | h
          · subst h
            rw [ho'] at hox; cases hox
            exact .inr (hL3 e hee hbd)
          · exact .inr (hcl x ox h hox e hee hbd)
        · have : Lst (l.setIfInBounds j true) = fun x => x = j ∨ Lst l x := by
            funext x; exact propext (lst_set (by omega) x)
          rw [this]; exact hI'
/-- A region that draws its order, with an invariant that is told which operations are done. -/
theorem wp_drawI {ops : List Oper} {id : Nat} {a0 : Act} {s0 : St} {Q : Exit → Act → St → Prop} (m : Nat) (I : (Nat → Prop) → Act → St → Prop) (hm : P.follows .mixedOrders = true) (hc : chkI m ops = true)
    (h0 : ∀ t, Ext s0 t → I (fun _ => False) a0 t)
    (hstep : ∀ (D : Nat → Prop) (a : Act) (s : St) (i : Nat) (o : Oper), i < m → ops[i]? = some o → ¬ D i → (∀ j, j < i → ((deps ops [] ops).getD i 0).testBit j = true → D j) → I D a s → OpR P ro o a s (fun v t => I (fun x => x = i ∨ D x) (a.put o.dst v) t))
    (hK : ∀ D a s, (∀ j, j < m → D j) → I D a s → Sq P ro ops.toArray (ops.drop m) a s (fun a t => Q .normal a t)) : Wp P ro (.region id ops.toArray true) a0 s0 Q := by
  refine wpIn_region_draw fun t => ?_
  simp only [Region.schedule, hm, Bool.true_or, if_true]
  refine wpAnyIn_sound _ t _ _ _ ?_
  have hu : ∀ k, unl (Array.replicate ops.length false) k ≤ k := by
    intro k
    induction k with
    | zero => exact Nat.le_refl _
    | succ k ih => simp only [unl]; split <;> omega
  have hnone : ∀ j, ¬ Lst (Array.replicate ops.length false) j := fun j h => by
    unfold Lst at h
    rw [Array.getElem?_replicate] at h
    split at h <;> cases h
  have he : Ext s0 (s0.drew (s0.w.drawn + 1)) := s0.drew_ext _
  have e0 : Lst (Array.replicate ops.length false) = fun _ => False := by
    funext x; exact propext ⟨fun h => hnone x h, fun h => h.elim⟩
  have := any_preI (P := P) (ro := ro) (m := m) (I := I) (Q := fun e a w => ∃ t, t.w = w ∧ Q e a t) (K := fun a t => Q .normal a t) hc (fun a t h => ⟨t, rfl, h⟩) hstep hK ops.toArray.size (Array.replicate ops.toArray.size false) a0 (s0.drew (s0.w.drawn + 1)) (by simp) (by simpa using hu ops.length)
    (fun j h => absurd (by simpa using h) (hnone j)) (fun i o h => absurd (by simpa using h) (hnone i)) (by
      have h1 : I (Lst (Array.replicate ops.length false)) a0 (s0.drew (s0.w.drawn + 1)) := by rw [e0]; exact h0 _ he
      simpa using h1)
  exact this
/-- x, y := a, b where a and b lie in boxes: two boxes are laid, and filled. -/
theorem wp_twins {α : Type} {d : Kn α} {o0 o1 o2 o3 o4 o5 : Oper} {id : Nat} {a0 : Act} {s0 : St} {Q : Exit → Act → St → Prop} {T : TypeId} {TA : TypeId} {t7 t8 t5 t6 A B bA bB N : Nat} {esA esB zc : List Value} {x y : α} {z : Value}
    (hm : P.follows .mixedOrders = true) (hc : (chkI 6 [o0, o1, o2, o3, o4, o5] && ((deps [o0, o1, o2, o3, o4, o5] [] [o0, o1, o2, o3, o4, o5]).getD 4 0).testBit 0 && ((deps [o0, o1, o2, o3, o4, o5] [] [o0, o1, o2, o3, o4, o5]).getD 4 0).testBit 2 && ((deps [o0, o1, o2, o3, o4, o5] [] [o0, o1, o2, o3, o4, o5]).getD 5 0).testBit 1 && ((deps [o0, o1, o2, o3, o4, o5] [] [o0, o1, o2, o3, o4, o5]).getD 5 0).testBit 3) = true)
    (p0 : o0.op = .load T (.tmp A)) (p1 : o1.op = .load T (.tmp B)) (p2 : o2.op = .alloc T) (p3 : o3.op = .alloc T) (p4 : o4.op = .store T (.tmp t5) (.tmp t7)) (p5 : o5.op = .store T (.tmp t6) (.tmp t8))
    (q0 : o0.dst = some t7) (q1 : o1.dst = some t8) (q2 : o2.dst = some t5) (q3 : o3.dst = some t6) (q4 : o4.dst = none) (q5 : o5.dst = none)
    (hne : (Nat.ble (t7 + 1) N && Nat.ble (t8 + 1) N && Nat.ble (t5 + 1) N && Nat.ble (t6 + 1) N && !Nat.beq t7 t8 && !Nat.beq t7 t5 && !Nat.beq t7 t6 && !Nat.beq t8 t5 && !Nat.beq t8 t6 && !Nat.beq t5 t6 && !Nat.beq A t5 && !Nat.beq A t6 && !Nat.beq A t7 && !Nat.beq A t8 && !Nat.beq B t5 && !Nat.beq B t6 && !Nat.beq B t7 && !Nat.beq B t8) = true)
    (hN : a0.tmps.size = N) (hT : Ty P T true d.sz) (hd : d.agg = true) (hz : ∀ w, (zeroValue T).run P w = .ok z w) (hzc : z.cells = zc.toArray) (hzl : zc.length = d.sz)
    (hA : a0.get A = .pointer (some ⟨bA, 0, none⟩)) (hB : a0.get B = .pointer (some ⟨bB, 0, none⟩)) (HA : Bx s0 bA TA esA) (HB : Bx s0 bB TA esB) (rA : d.R s0 esA x) (rB : d.R s0 esB y)
    (hK : ∀ a s b c es fs, Ext s0 s → (∀ i, i ≠ t7 → i ≠ t8 → i ≠ t5 → i ≠ t6 → a.get i = a0.get i) → a.tmps.size = N → a.defers = a0.defers → a.get t5 = .pointer (some ⟨b, 0, none⟩) → a.get t6 = .pointer (some ⟨c, 0, none⟩) → c ≠ b → s0.w.heap.size ≤ b → s0.w.heap.size ≤ c → Bx s b T es → d.R s es x → Bx s c T fs → d.R s fs y → Q .normal a s) :
    Wp P ro (.region id [o0, o1, o2, o3, o4, o5].toArray true) a0 s0 Q := by
  subst hN
  simp only [Bool.and_eq_true] at hc
  obtain ⟨⟨⟨⟨hc, b40⟩, b42⟩, b51⟩, b53⟩ := hc
  have nb : ∀ {m n : Nat}, (!Nat.beq m n) = true → m ≠ n := fun h e => by subst e; rw [Nat.beq_refl] at h; cases h
  simp only [Bool.and_eq_true] at hne
  obtain ⟨⟨⟨⟨⟨⟨⟨⟨⟨⟨⟨⟨⟨⟨⟨⟨⟨l7, l8⟩, l5⟩, l6⟩, n78⟩, n75⟩, n76⟩, n85⟩, n86⟩, n56⟩, nA5⟩, nA6⟩, nA7⟩, nA8⟩, nB5⟩, nB6⟩, nB7⟩, nB8⟩ := hne
  replace l7 := Nat.le_of_ble_eq_true l7
  replace l8 := Nat.le_of_ble_eq_true l8
  replace l5 := Nat.le_of_ble_eq_true l5
  replace l6 := Nat.le_of_ble_eq_true l6
  replace n78 := nb n78
  replace n75 := nb n75
  replace n76 := nb n76
  replace n85 := nb n85
  replace n86 := nb n86
  replace n56 := nb n56
  replace nA5 := nb nA5
  replace nA6 := nb nA6
  replace nA7 := nb nA7
  replace nA8 := nb nA8
  replace nB5 := nb nB5
  replace nB6 := nb nB6
  replace nB7 := nb nB7
  replace nB8 := nb nB8
  have fill : ∀ {es : List Value} {s : St} {u : α}, d.R s es u → wr zc 0 es = es := fun h => by
    have := d.len h
    simp [wr, this, hzl]
  refine wp_drawI 6 (fun D a s => Ext s0 s ∧ (∀ i, i ≠ t7 → i ≠ t8 → i ≠ t5 → i ≠ t6 → a.get i = a0.get i) ∧ a.tmps.size = a0.tmps.size ∧ a.defers = a0.defers ∧ (D 0 → d.V s (a.get t7) x) ∧ (D 1 → d.V s (a.get t8) y) ∧
    (D 2 → ∃ b, a.get t5 = .pointer (some ⟨b, 0, none⟩) ∧ s0.w.heap.size ≤ b ∧ (¬ D 4 → Bx s b T zc) ∧ (D 4 → Hd s b T d x)) ∧
    (D 3 → ∃ b, a.get t6 = .pointer (some ⟨b, 0, none⟩) ∧ s0.w.heap.size ≤ b ∧ (¬ D 5 → Bx s b T zc) ∧ (D 5 → Hd s b T d y)) ∧
    (D 2 → D 3 → ∀ b c, a.get t5 = .pointer (some ⟨b, 0, none⟩) → a.get t6 = .pointer (some ⟨c, 0, none⟩) → c ≠ b) ∧ (D 4 → D 2) ∧ (D 5 → D 3)) hm hc ?_ ?_ ?_
  · intro t he
    exact ⟨he, fun _ _ _ _ _ => rfl, rfl, rfl, fun h => h.elim, fun h => h.elim, fun h => h.elim, fun h => h.elim, fun h => h.elim, fun h => h.elim, fun h => h.elim⟩
  · rintro D a s i o hi ho hnD hdep ⟨he, hf, hsz, hdf, i0, i1, i2, i3, i23, i42, i53⟩
    have hlt : ∀ {b : Nat} {cs : List Value}, Bx s b T cs → b < s.w.heap.size := fun h => h.lt
    match i, hi with
    | 0, _ =>
      cases ho
      refine (op_loadn (d := d) (y := x) (es := esA) p0 hT hd ((hf A nA7 nA8 nA5 nA6).trans hA) (HA.ext he) (by rw [List.drop_zero, ← d.len rA, List.take_length]) (d.mono he.le rA)).mono ?_
      rintro v t ⟨het, hv⟩
      rw [q0]
      refine ⟨he.trans het, fun i h7 h8 h5 h6 => (get_put_ne _ _ _ _ h7).trans (hf i h7 h8 h5 h6), by rw [size_put]; exact hsz, by rw [defers_put]; exact hdf, fun _ => by rw [get_put_eq _ _ _ (by omega)]; exact hv, ?_, ?_, ?_, ?_, ?_, ?_⟩
      · intro h; rw [get_put_ne _ _ _ _ n78.symm]; exact Kn.V_mono het.le (i1 (h.resolve_left (by decide)))
      · intro h
        obtain ⟨b, g1, g2, g3, g4⟩ := i2 (h.resolve_left (by decide))
        rw [get_put_ne _ _ _ _ n75.symm]
        exact ⟨b, g1, g2, fun h4 => (g3 fun h => h4 (.inr h)).ext het, fun h4 => Hd.ext (g4 (h4.resolve_left (by decide))) het⟩
      · intro h
        obtain ⟨b, g1, g2, g3, g4⟩ := i3 (h.resolve_left (by decide))
        rw [get_put_ne _ _ _ _ n76.symm]
        exact ⟨b, g1, g2, fun h4 => (g3 fun h => h4 (.inr h)).ext het, fun h4 => Hd.ext (g4 (h4.resolve_left (by decide))) het⟩
      · intro h2 h3
        rw [get_put_ne _ _ _ _ n75.symm, get_put_ne _ _ _ _ n76.symm]
        exact i23 (h2.resolve_left (by decide)) (h3.resolve_left (by decide))
      · exact fun h => .inr (i42 (h.resolve_left (by decide)))
      · exact fun h => .inr (i53 (h.resolve_left (by decide)))
    | 1, _ =>
      cases ho
      refine (op_loadn (d := d) (y := y) (es := esB) p1 hT hd ((hf B nB7 nB8 nB5 nB6).trans hB) (HB.ext he) (by rw [List.drop_zero, ← d.len rB, List.take_length]) (d.mono he.le rB)).mono ?_
      rintro v t ⟨het, hv⟩
      rw [q1]
      refine ⟨he.trans het, fun i h7 h8 h5 h6 => (get_put_ne _ _ _ _ h8).trans (hf i h7 h8 h5 h6), by rw [size_put]; exact hsz, by rw [defers_put]; exact hdf, ?_, fun _ => by rw [get_put_eq _ _ _ (by omega)]; exact hv, ?_, ?_, ?_, ?_, ?_⟩
      · intro h; rw [get_put_ne _ _ _ _ n78]; exact Kn.V_mono het.le (i0 (h.resolve_left (by decide)))
      · intro h
        obtain ⟨b, g1, g2, g3, g4⟩ := i2 (h.resolve_left (by decide))
        rw [get_put_ne _ _ _ _ n85.symm]
        exact ⟨b, g1, g2, fun h4 => (g3 fun h => h4 (.inr h)).ext het, fun h4 => Hd.ext (g4 (h4.resolve_left (by decide))) het⟩
      · intro h
        obtain ⟨b, g1, g2, g3, g4⟩ := i3 (h.resolve_left (by decide))
        rw [get_put_ne _ _ _ _ n86.symm]
        exact ⟨b, g1, g2, fun h4 => (g3 fun h => h4 (.inr h)).ext het, fun h4 => Hd.ext (g4 (h4.resolve_left (by decide))) het⟩
      · intro h2 h3
        rw [get_put_ne _ _ _ _ n85.symm, get_put_ne _ _ _ _ n86.symm]
        exact i23 (h2.resolve_left (by decide)) (h3.resolve_left (by decide))
      · exact fun h => .inr (i42 (h.resolve_left (by decide)))
      · exact fun h => .inr (i53 (h.resolve_left (by decide)))
    | 2, _ =>
      cases ho
      refine op_alloc p2 hz hzc fun t het hb => ?_
      rw [q2]
      have hn4 : ¬ D 4 := fun h => hnD (i42 h)
      refine ⟨he.trans het, fun i h7 h8 h5 h6 => (get_put_ne _ _ _ _ h5).trans (hf i h7 h8 h5 h6), by rw [size_put]; exact hsz, by rw [defers_put]; exact hdf, ?_, ?_, ?_, ?_, ?_, ?_, ?_⟩
      · intro h; rw [get_put_ne _ _ _ _ n75]; exact Kn.V_mono het.le (i0 (h.resolve_left (by decide)))
      · intro h; rw [get_put_ne _ _ _ _ n85]; exact Kn.V_mono het.le (i1 (h.resolve_left (by decide)))
      · intro _
        rw [get_put_eq _ _ _ (by omega)]
        exact ⟨_, rfl, he.size, fun _ => hb, fun h => absurd (h.resolve_left (by decide)) hn4⟩
      · intro h
        obtain ⟨b, g1, g2, g3, g4⟩ := i3 (h.resolve_left (by decide))
        rw [get_put_ne _ _ _ _ n56.symm]
        exact ⟨b, g1, g2, fun h4 => (g3 fun h => h4 (.inr h)).ext het, fun h4 => Hd.ext (g4 (h4.resolve_left (by decide))) het⟩
      · intro h2 h3 b c hb1 hc1
        rw [get_put_eq _ _ _ (by omega)] at hb1
        rw [get_put_ne _ _ _ _ n56.symm] at hc1
        cases hb1
        obtain ⟨b', g1, g2, g3, g4⟩ := i3 (h3.resolve_left (by decide))
        rw [hc1] at g1; cases g1
        have : c < s.w.heap.size := by
          by_cases h5 : D 5
          · obtain ⟨es, hx, _⟩ := g4 h5; exact hlt hx
          · exact hlt (g3 h5)
        omega
      · exact fun _ => .inl rfl
      · exact fun h => .inr (i53 (h.resolve_left (by decide)))
    | 3, _ =>
      cases ho
      refine op_alloc p3 hz hzc fun t het hb => ?_
      rw [q3]
      have hn5 : ¬ D 5 := fun h => hnD (i53 h)
      refine ⟨he.trans het, fun i h7 h8 h5 h6 => (get_put_ne _ _ _ _ h6).trans (hf i h7 h8 h5 h6), by rw [size_put]; exact hsz, by rw [defers_put]; exact hdf, ?_, ?_, ?_, ?_, ?_, ?_, ?_⟩
      · intro h; rw [get_put_ne _ _ _ _ n76]; exact Kn.V_mono het.le (i0 (h.resolve_left (by decide)))
      · intro h; rw [get_put_ne _ _ _ _ n86]; exact Kn.V_mono het.le (i1 (h.resolve_left (by decide)))
      · intro h
        obtain ⟨b, g1, g2, g3, g4⟩ := i2 (h.resolve_left (by decide))
        rw [get_put_ne _ _ _ _ n56]
        exact ⟨b, g1, g2, fun h4 => (g3 fun h => h4 (.inr h)).ext het, fun h4 => Hd.ext (g4 (h4.resolve_left (by decide))) het⟩
      · intro _
        rw [get_put_eq _ _ _ (by omega)]
        exact ⟨_, rfl, he.size, fun _ => hb, fun h => absurd (h.resolve_left (by decide)) hn5⟩
      · intro h2 h3 b c hb1 hc1
        rw [get_put_eq _ _ _ (by omega)] at hc1
        rw [get_put_ne _ _ _ _ n56] at hb1
        cases hc1
        obtain ⟨b', g1, g2, g3, g4⟩ := i2 (h2.resolve_left (by decide))
        rw [hb1] at g1; cases g1
        have : b < s.w.heap.size := by
          by_cases h4 : D 4
          · obtain ⟨es, hx, _⟩ := g4 h4; exact hlt hx
          · exact hlt (g3 h4)
        omega
      · exact fun h => .inr (i42 (h.resolve_left (by decide)))
      · exact fun _ => .inl rfl
    | 4, _ =>
      cases ho
      have D0 := hdep 0 (by decide) b40
      have D2 := hdep 2 (by decide) b42
      obtain ⟨b, g1, g2, g3, g4⟩ := i2 D2
      refine op_storen (d := d) p4 hT hd g1 (g3 hnD) (i0 D0) (Nat.ble_eq_true_of_le (by rw [hzl]; omega)) fun t es het hb hr => ?_
      rw [q4, put_none]
      rw [fill hr] at hb
      have hext : Ext s0 t := he.chg het fun k hk => by subst hk; exact g2
      refine ⟨hext, hf, hsz, hdf, fun h => Kn.V_mono het.le (i0 (h.resolve_left (by decide))), fun h => Kn.V_mono het.le (i1 (h.resolve_left (by decide))), ?_, ?_, ?_, ?_, ?_⟩
      · intro _
        exact ⟨b, g1, g2, fun h => absurd (Or.inl rfl) h, fun _ => ⟨es, hb, hr⟩⟩
      · intro h3
        have D3 := h3.resolve_left (by decide)
        obtain ⟨c, k1, k2, k3, k4⟩ := i3 D3
        have hcb := i23 D2 D3 b c g1 k1
        exact ⟨c, k1, k2, fun h5 => (k3 fun h => h5 (.inr h)).chg het hcb, fun h5 => Hd.chg (k4 (h5.resolve_left (by decide))) het hcb⟩
      · intro h2 h3
        exact i23 (h2.resolve_left (by decide)) (h3.resolve_left (by decide))
      · exact fun _ => .inr D2
      · exact fun h => .inr (i53 (h.resolve_left (by decide)))
    | 5, _ =>
      cases ho
      have D1 := hdep 1 (by decide) b51
      have D3 := hdep 3 (by decide) b53
      obtain ⟨c, g1, g2, g3, g4⟩ := i3 D3
      refine op_storen (d := d) p5 hT hd g1 (g3 hnD) (i1 D1) (Nat.ble_eq_true_of_le (by rw [hzl]; omega)) fun t es het hb hr => ?_
      rw [q5, put_none]
      rw [fill hr] at hb
      have hext : Ext s0 t := he.chg het fun k hk => by subst hk; exact g2
      refine ⟨hext, hf, hsz, hdf, fun h => Kn.V_mono het.le (i0 (h.resolve_left (by decide))), fun h => Kn.V_mono het.le (i1 (h.resolve_left (by decide))), ?_, ?_, ?_, ?_, ?_⟩
      · intro h2
        have D2 := h2.resolve_left (by decide)
        obtain ⟨b, k1, k2, k3, k4⟩ := i2 D2
        have hcb := (i23 D2 D3 b c k1 g1).symm
        exact ⟨b, k1, k2, fun h5 => (k3 fun h => h5 (.inr h)).chg het hcb, fun h5 => Hd.chg (k4 (h5.resolve_left (by decide))) het hcb⟩
      · intro _
        exact ⟨c, g1, g2, fun h => absurd (Or.inl rfl) h, fun _ => ⟨es, hb, hr⟩⟩
      · intro h2 h3
        exact i23 (h2.resolve_left (by decide)) (h3.resolve_left (by decide))
      · exact fun h => .inr (i42 (h.resolve_left (by decide)))
      · exact fun _ => .inr D3
  · rintro D a s hall ⟨he, hf, hsz, hdf, i0, i1, i2, i3, i23, i42, i53⟩
    obtain ⟨b, g1, g2, _, g4⟩ := i2 (hall 2 (by decide))
    obtain ⟨c, k1, k2, _, k4⟩ := i3 (hall 3 (by decide))
    obtain ⟨es, hb, hr⟩ := g4 (hall 4 (by decide))
    obtain ⟨fs, hb', hr'⟩ := k4 (hall 5 (by decide))
    exact hK a s b c es fs he hf hsz hdf g1 k1 (i23 (hall 2 (by decide)) (hall 3 (by decide)) b c g1 k1) g2 k2 hb hr hb' hr'
theorem hf_of4 {a a0 : Act} {t7 t8 t5 t6 : Nat} (h : ∀ i, i ≠ t7 → i ≠ t8 → i ≠ t5 → i ≠ t6 → a.get i = a0.get i) : ∀ x, isIn x [t7, t8, t5, t6] = false → a.get x = a0.get x := fun x hx => by
  have hn : ∀ y, y ∈ [t7, t8, t5, t6] → x ≠ y := fun y hy e => by
    have : isIn x [t7, t8, t5, t6] = true := isIn_iff.2 (by rw [e]; exact hy)
    rw [this] at hx; cases hx
  exact h x (hn _ (by simp)) (hn _ (by simp)) (hn _ (by simp)) (hn _ (by simp))
end
end
section
attribute [local irreducible] Kn.V PtrV
def order_equal (x0 : Op) (x1 : Op) : Bool := (((((((decide (x0.dot = x1.dot)) && (decide (x0.cart = x1.cart))) && (decide (x0.kind = x1.kind))) && (decide (x0.item = x1.item))) && (decide (x0.qty = x1.qty))) && (same_ x0.deps x1.deps)) && (same_ x0.seen x1.seen))
theorem order_equal.ok {s0 : St} {v0 : Value} {x0 : Op} {v1 : Value} {x1 : Op} (k0 : kOp.V s0 v0 x0) (k1 : kOp.V s0 v1 x1) : Cl Try.prog 140 #[v0, v1] s0 (Okf s0 (Fact.v kB (order_equal x0 x1))) := by
 obtain ⟨r, h⟩ : ∃ r, some (order_equal x0 x1) = some r := ⟨_, rfl⟩
 rw [Option.some.inj h]
 have h : (some (((((((decide (x0.dot = x1.dot)) && (decide (x0.cart = x1.cart))) && (decide (x0.kind = x1.kind))) && (decide (x0.item = x1.item))) && (decide (x0.qty = x1.qty))) && (same_ x0.deps x1.deps)) && (same_ x0.seen x1.seen))) = some r := by rw [← h]; unfold order_equal; first | rfl | simp only [apply_ite some] | (repeat' (first | rfl | split))
 refine cl_of_wp Try.func140 rfl en_140 fun a hz hd hp => ?_; have hz : a.tmps.size = 52 := hz; have E := Chg.refl (fun _ => False) s0; have h0 := V_at k0 E (hp 0 v0 rfl); have h1 := V_at k1 E (hp 1 v1 rfl); refine wp_sr ?_; refine sq_set hz rfl rfl rfl (op_boxn rfl rfl h0 (fun s2 e4 he BB3 r5 => fun a1 h2 hf hz hd1 => ?_)); obtain ⟨b22, hb22⟩ : ∃ b, b = s0.w.heap.size := ⟨_, rfl⟩; rw [← hb22] at BB3 h2; have B22 := BB3; have l22 : s0.w.heap.size ≤ b22 := by have := E.size; omega
 have ⟨hd, E⟩ := hdE hd1 hd E he; have h1 := V_at h1 he (hf 1 rfl); obtain ⟨u6, u7, u8, u9, u10, u11, u12, u13, rfl, c14, c15, c16, c17, c18, c19, c20, c21⟩ := kOp_open r5; refine sq_set hz rfl rfl rfl (op_boxn rfl rfl h1 (fun s24 e26 he BB25 r27 => fun a23 h3 hf hz hd1 => ?_)); obtain ⟨b44, hb44⟩ : ∃ b, b = s2.w.heap.size := ⟨_, rfl⟩; rw [← hb44] at BB25 h3; have B44 := BB25; have l44 : s0.w.heap.size ≤ b44 := by have := E.size; omega
 have ⟨hd, E⟩ := hdE hd1 hd E he; have h2 := (hf 2 rfl).trans h2; have B22 := B22.ext he; obtain ⟨c14, c15, c16, c17, c18, c19, c20, c21⟩ := vm8 he c14 c15 c16 c17 c18 c19 c20 c21; obtain ⟨u28, u29, u30, u31, u32, u33, u34, u35, rfl, c36, c37, c38, c39, c40, c41, c42, c43⟩ := kOp_open r27; refine sq_blk (its := [⟨4, _, []⟩]) [] hz rfl ⟨(fun a s he hf hz => av rfl rfl b_f), trivial⟩ ?_; intro a45 s46 he hf hz hd1; have ⟨hd, E⟩ := hdE hd1 hd E he; obtain ⟨h2, h3⟩ := ea2 hf h2 h3 rfl; obtain ⟨B22, B44⟩ := bx2 he B22 B44; obtain ⟨c14, c15, c16, c17, c18, c19, c20, c21, c36, c37, c38, c39⟩ := vm12 he c14 c15 c16 c17 c18 c19 c20 c21 c36 c37 c38 c39; obtain ⟨c40, c41, c42, c43⟩ := vm4 he c40 c41 c42 c43; refine wp_sr ?_; have hz0 := hz
 refine sq_blk (its := (⟨5, _, []⟩ :: ⟨6, _, [0]⟩ :: ⟨7, _, []⟩ :: ⟨8, _, [2]⟩ :: ⟨9, _, [1, 3]⟩ :: ⟨10, _, [4]⟩ :: ⟨11, _, [5]⟩ :: ⟨12, _, [5, 6]⟩ :: ⟨13, _, [5]⟩ :: ⟨14, _, [5, 8]⟩ :: ⟨15, _, [5, 7, 9]⟩ :: ⟨16, _, [5, 10]⟩ :: ⟨17, _, [11]⟩ :: ⟨18, _, [12]⟩ :: ⟨19, _, [12, 13]⟩ :: ⟨20, _, [12]⟩ :: ⟨21, _, [12, 15]⟩ :: ⟨22, _, [12, 14, 16]⟩ :: ⟨23, _, [12, 17]⟩ :: ⟨24, _, [18]⟩ :: ⟨25, _, [19]⟩ :: ⟨26, _, [19, 20]⟩ :: ⟨27, _, [19]⟩ :: ⟨28, _, [19, 22]⟩ :: ⟨29, _, [19, 21, 23]⟩ :: ⟨30, _, [19, 24]⟩ :: ⟨31, _, [25]⟩ :: ⟨32, _, [26]⟩ :: ⟨33, _, [26, 27]⟩ :: ⟨34, _, [26]⟩ :: ⟨35, _, [26, 29]⟩ :: ⟨36, _, [26, 28, 30]⟩ :: ⟨37, _, [26, 31]⟩ :: ⟨38, _, [32]⟩ :: ⟨39, _, [33]⟩ :: ⟨40, _, [33, 34]⟩ :: ⟨41, _, [33]⟩ :: ⟨42, _, [33, 36]⟩ :: ⟨43, _, [33, 35, 37]⟩ :: ⟨44, _, [33, 38]⟩ :: ⟨45, _, [39]⟩ :: ⟨46, _, [40]⟩ :: ⟨47, _, [40, 41]⟩ :: ⟨48, _, [40]⟩ :: ⟨49, _, [40, 43]⟩ :: ⟨50, _, [40, 42, 44]⟩ :: ⟨51, _, [40, 45]⟩ :: ⟨4, _, [46]⟩ :: [])) [47] hz rfl ⟨(fun a s he hf hz => fb rfl rfl fa_72_0 ((hf 2 rfl).trans h2)), (fun a s he hf hz q0 => ld rfl rfl ty_70 rfl q0 (B22.ext he) rfl (kDot_eta (x := x0.dot) (vm he c14) (vm he c15))), (fun a s he hf hz => fb rfl rfl fa_72_0 ((hf 3 rfl).trans h3)), (fun a s he hf hz q2 => ld rfl rfl ty_70 rfl q2 (B44.ext he) rfl (kDot_eta (x := x1.dot) (vm he c36) (vm he c37))), (fun a s he hf hz q1 q3 => opw rfl (op_steql rfl si_70 q1 q3)), mvq rfl rfl, (fun a s he hf hz q5 => og rfl rfl rfl hz hz0 rfl q5 (fun g => op_faddr_b rfl fa_72_2 ((hf 2 rfl).trans h2))), (fun a s he hf hz q5 q6 => og rfl rfl rfl hz hz0 rfl q5 (fun g => op_load1 rfl ty_9 (q6.1 g) (B22.ext he) rfl (vm he c17))), (fun a s he hf hz q5 => og rfl rfl rfl hz hz0 rfl q5 (fun g => op_faddr_b rfl fa_72_2 ((hf 3 rfl).trans h3))), (fun a s he hf hz q5 q8 => og rfl rfl rfl hz hz0 rfl q5 (fun g => op_load1 rfl ty_9 (q8.1 g) (B44.ext he) rfl (vm he c39))), (fun a s he hf hz q5 q7 q9 => og rfl rfl rfl hz hz0 rfl q5 (fun g => op_seql rfl (q7.1 g) (q9.1 g))), (fun a s he hf hz q5 q10 => an rfl rfl q5 (q10.1)), mvq rfl rfl, (fun a s he hf hz q12 => og rfl rfl rfl hz hz0 rfl q12 (fun g => op_faddr_b rfl fa_72_3 ((hf 2 rfl).trans h2))), (fun a s he hf hz q12 q13 => og rfl rfl rfl hz hz0 rfl q12 (fun g => op_load1 rfl ty_3 (q13.1 g) (B22.ext he) rfl (vm he c18))), (fun a s he hf hz q12 => og rfl rfl rfl hz hz0 rfl q12 (fun g => op_faddr_b rfl fa_72_3 ((hf 3 rfl).trans h3))), (fun a s he hf hz q12 q15 => og rfl rfl rfl hz hz0 rfl q12 (fun g => op_load1 rfl ty_3 (q15.1 g) (B44.ext he) rfl (vm he c40))), (fun a s he hf hz q12 q14 q16 => og rfl rfl rfl hz hz0 rfl q12 (fun g => op_eql rfl (q14.1 g) (q16.1 g))), (fun a s he hf hz q12 q17 => an rfl rfl q12 (q17.1)), mvq rfl rfl, (fun a s he hf hz q19 => og rfl rfl rfl hz hz0 rfl q19 (fun g => op_faddr_b rfl fa_72_4 ((hf 2 rfl).trans h2))), (fun a s he hf hz q19 q20 => og rfl rfl rfl hz hz0 rfl q19 (fun g => op_load1 rfl ty_9 (q20.1 g) (B22.ext he) rfl (vm he c19))), (fun a s he hf hz q19 => og rfl rfl rfl hz hz0 rfl q19 (fun g => op_faddr_b rfl fa_72_4 ((hf 3 rfl).trans h3))), (fun a s he hf hz q19 q22 => og rfl rfl rfl hz hz0 rfl q19 (fun g => op_load1 rfl ty_9 (q22.1 g) (B44.ext he) rfl (vm he c41))), (fun a s he hf hz q19 q21 q23 => og rfl rfl rfl hz hz0 rfl q19 (fun g => op_seql rfl (q21.1 g) (q23.1 g))), (fun a s he hf hz q19 q24 => an rfl rfl q19 (q24.1)), mvq rfl rfl, (fun a s he hf hz q26 => og rfl rfl rfl hz hz0 rfl q26 (fun g => op_faddr_b rfl fa_72_5 ((hf 2 rfl).trans h2))), (fun a s he hf hz q26 q27 => og rfl rfl rfl hz hz0 rfl q26 (fun g => op_load1 rfl ty_2 (q27.1 g) (B22.ext he) rfl (vm he c20))), (fun a s he hf hz q26 => og rfl rfl rfl hz hz0 rfl q26 (fun g => op_faddr_b rfl fa_72_5 ((hf 3 rfl).trans h3))), (fun a s he hf hz q26 q29 => og rfl rfl rfl hz hz0 rfl q26 (fun g => op_load1 rfl ty_2 (q29.1 g) (B44.ext he) rfl (vm he c42))), (fun a s he hf hz q26 q28 q30 => og rfl rfl rfl hz hz0 rfl q26 (fun g => op_eql rfl (q28.1 g) (q30.1 g))), (fun a s he hf hz q26 q31 => an rfl rfl q26 (q31.1)), mvq rfl rfl, (fun a s he hf hz q33 => og rfl rfl rfl hz hz0 rfl q33 (fun g => op_faddr_b rfl fa_72_1 ((hf 2 rfl).trans h2))), (fun a s he hf hz q33 q34 => og rfl rfl rfl hz hz0 rfl q33 (fun g => op_load1 rfl ty_32 (q34.1 g) (B22.ext he) rfl (vm he c16))), (fun a s he hf hz q33 => og rfl rfl rfl hz hz0 rfl q33 (fun g => op_faddr_b rfl fa_72_1 ((hf 3 rfl).trans h3))), (fun a s he hf hz q33 q36 => og rfl rfl rfl hz hz0 rfl q33 (fun g => op_load1 rfl ty_32 (q36.1 g) (B44.ext he) rfl (vm he c38))), (fun a s he hf hz q33 q35 q37 => og rfl rfl rfl hz hz0 rfl q33 (fun g => op_call rfl rfl (slices_Equal_api_Dot_api_Dot.ct (q35.1 g) (q37.1 g)))), (fun a s he hf hz q33 q38 => an rfl rfl q33 (q38.1)), mvq rfl rfl, (fun a s he hf hz q40 => og rfl rfl rfl hz hz0 rfl q40 (fun g => op_faddr_b rfl fa_72_6 ((hf 2 rfl).trans h2))), (fun a s he hf hz q40 q41 => og rfl rfl rfl hz hz0 rfl q40 (fun g => op_load1 rfl ty_32 (q41.1 g) (B22.ext he) rfl (vm he c21))), (fun a s he hf hz q40 => og rfl rfl rfl hz hz0 rfl q40 (fun g => op_faddr_b rfl fa_72_6 ((hf 3 rfl).trans h3))), (fun a s he hf hz q40 q43 => og rfl rfl rfl hz hz0 rfl q40 (fun g => op_load1 rfl ty_32 (q43.1 g) (B44.ext he) rfl (vm he c43))), (fun a s he hf hz q40 q42 q44 => og rfl rfl rfl hz hz0 rfl q40 (fun g => op_call rfl rfl (slices_Equal_api_Dot_api_Dot.ct (q42.1 g) (q44.1 g)))), (fun a s he hf hz q40 q45 => an rfl rfl q40 (q45.1)), avq rfl rfl, trivial⟩ ?_
 intro a47 s48 he hf hz hd1 h4; have ⟨hd, E⟩ := hdE hd1 hd E he; refine wp_ret ?_; cases h
 exact ⟨hd, _, results_tmp rfl _ _ _, E, h4⟩
def order_Same (x0 : Op) (x1 : Op) : Bool := (((rightO x0) && (rightO x1)) && (order_equal x0 x1))
theorem order_Same.ok {s0 : St} {v0 : Value} {x0 : Op} {v1 : Value} {x1 : Op} (k0 : kOp.V s0 v0 x0) (k1 : kOp.V s0 v1 x1) : Cl Try.prog 121 #[v0, v1] s0 (Okf s0 (Fact.v kB (order_Same x0 x1))) := by
 obtain ⟨r, h⟩ : ∃ r, some (order_Same x0 x1) = some r := ⟨_, rfl⟩
 rw [Option.some.inj h]
 have h : (some (((rightO x0) && (rightO x1)) && (order_equal x0 x1))) = some r := by rw [← h]; unfold order_Same; first | rfl | simp only [apply_ite some] | (repeat' (first | rfl | split))
 refine cl_of_wp Try.func121 rfl en_121 fun a hz hd hp => ?_; have hz : a.tmps.size = 16 := hz; have E := Chg.refl (fun _ => False) s0; have h0 := V_at k0 E (hp 0 v0 rfl); have h1 := V_at k1 E (hp 1 v1 rfl); refine wp_sr ?_; refine sq_set hz rfl rfl rfl (op_boxn rfl rfl h0 (fun s2 e4 he BB3 r5 => fun a1 h2 hf hz hd1 => ?_)); obtain ⟨b22, hb22⟩ : ∃ b, b = s0.w.heap.size := ⟨_, rfl⟩; rw [← hb22] at BB3 h2; have B22 := BB3; have l22 : s0.w.heap.size ≤ b22 := by have := E.size; omega
 have ⟨hd, E⟩ := hdE hd1 hd E he; have h1 := V_at h1 he (hf 1 rfl); obtain ⟨u6, u7, u8, u9, u10, u11, u12, u13, rfl, c14, c15, c16, c17, c18, c19, c20, c21⟩ := kOp_open r5; refine sq_set hz rfl rfl rfl (op_boxn rfl rfl h1 (fun s24 e26 he BB25 r27 => fun a23 h3 hf hz hd1 => ?_)); obtain ⟨b44, hb44⟩ : ∃ b, b = s2.w.heap.size := ⟨_, rfl⟩; rw [← hb44] at BB25 h3; have B44 := BB25; have l44 : s0.w.heap.size ≤ b44 := by have := E.size; omega
 have ⟨hd, E⟩ := hdE hd1 hd E he; have h2 := (hf 2 rfl).trans h2; have B22 := B22.ext he; obtain ⟨c14, c15, c16, c17, c18, c19, c20, c21⟩ := vm8 he c14 c15 c16 c17 c18 c19 c20 c21; obtain ⟨u28, u29, u30, u31, u32, u33, u34, u35, rfl, c36, c37, c38, c39, c40, c41, c42, c43⟩ := kOp_open r27; refine sq_blk (its := [⟨4, _, []⟩]) [] hz rfl ⟨(fun a s he hf hz => av rfl rfl b_f), trivial⟩ ?_; intro a45 s46 he hf hz hd1; have ⟨hd, E⟩ := hdE hd1 hd E he; obtain ⟨h2, h3⟩ := ea2 hf h2 h3 rfl; obtain ⟨B22, B44⟩ := bx2 he B22 B44; obtain ⟨c14, c15, c16, c17, c18, c19, c20, c21, c36, c37, c38, c39⟩ := vm12 he c14 c15 c16 c17 c18 c19 c20 c21 c36 c37 c38 c39; obtain ⟨c40, c41, c42, c43⟩ := vm4 he c40 c41 c42 c43; refine wp_sr ?_; have hz0 := hz; refine sq_blk (its := [⟨5, _, []⟩, ⟨6, _, [0]⟩, ⟨7, _, [1]⟩, ⟨8, _, [2]⟩, ⟨9, _, [2, 3]⟩, ⟨10, _, [2, 4]⟩, ⟨11, _, [5]⟩, ⟨12, _, [6]⟩, ⟨13, _, [6]⟩, ⟨14, _, [6, 7, 8]⟩, ⟨15, _, [6, 9]⟩, ⟨4, _, [10]⟩]) [11] hz rfl ⟨(fun a s he hf hz => ld rfl rfl ty_72 rfl ((hf 2 rfl).trans h2) (B22.ext he) rfl (kOp_eta (x := x0) (vm he c14) (vm he c15) (vm he c16) (vm he c17) (vm he c18) (vm he c19) (vm he c20) (vm he c21))), (fun a s he hf hz q0 => opw rfl (op_call rfl rfl (order_Right.ct q0))), mvq rfl rfl, (fun a s he hf hz q2 => og rfl rfl rfl hz hz0 rfl q2 (fun g => op_loadn rfl ty_72 rfl ((hf 3 rfl).trans h3) (B44.ext he) rfl (kOp_eta (x := x1) (vm he c36) (vm he c37) (vm he c38) (vm he c39) (vm he c40) (vm he c41) (vm he c42) (vm he c43)))), (fun a s he hf hz q2 q3 => og rfl rfl rfl hz hz0 rfl q2 (fun g => op_call rfl rfl (order_Right.ct (q3.1 g)))), (fun a s he hf hz q2 q4 => an rfl rfl q2 (q4.1)), mvq rfl rfl, (fun a s he hf hz q6 => og rfl rfl rfl hz hz0 rfl q6 (fun g => op_loadn rfl ty_72 rfl ((hf 2 rfl).trans h2) (B22.ext he) rfl (kOp_eta (x := x0) (vm he c14) (vm he c15) (vm he c16) (vm he c17) (vm he c18) (vm he c19) (vm he c20) (vm he c21)))), (fun a s he hf hz q6 => og rfl rfl rfl hz hz0 rfl q6 (fun g => op_loadn rfl ty_72 rfl ((hf 3 rfl).trans h3) (B44.ext he) rfl (kOp_eta (x := x1) (vm he c36) (vm he c37) (vm he c38) (vm he c39) (vm he c40) (vm he c41) (vm he c42) (vm he c43)))), (fun a s he hf hz q6 q7 q8 => og rfl rfl rfl hz hz0 rfl q6 (fun g => op_call rfl rfl (order_equal.ok (q7.1 g) (q8.1 g)))), (fun a s he hf hz q6 q9 => an rfl rfl q6 (q9.1)), avq rfl rfl, trivial⟩ ?_
 intro a47 s48 he hf hz hd1 h4; have ⟨hd, E⟩ := hdE hd1 hd E he; refine wp_ret ?_; cases h
 exact ⟨hd, _, results_tmp rfl _ _ _, E, h4⟩
theorem order_equal_eq (x y : Op) : order_equal x y = decide (x = y) := by
 unfold order_equal
 unfold same_
 rw [Bool.eq_iff_iff]
 simp only [Bool.and_eq_true, decide_eq_true_eq]
 constructor
 ·rintro ⟨⟨⟨⟨⟨⟨h1, h2⟩, h3⟩, h4⟩, h5⟩, h6⟩, h7⟩
  cases x; cases y; simp only at *; subst h1 h2 h3 h4 h5 h6 h7; rfl
 ·rintro rfl; exact ⟨⟨⟨⟨⟨⟨rfl, rfl⟩, rfl⟩, rfl⟩, rfl⟩, rfl⟩, rfl⟩
def allP (φ : Op → Op → Bool) : List Op → List Op → Bool
 | x :: l, y :: m => φ x y && allP φ l m
 | _, _ => true
def eqFn (x y : List Op) (φ : Op → Op → Bool) : Bool := decide (x.length = y.length) && allP φ x y
def eqFunc.l0 : Nat → (List Op) → (List Op) → (Op → Op → Bool) → Int → Option (Bool)
 | 0, _, _, _, _ => none
 | m12 + 1, x0, x1, φ2, y11 => (if decide (y11 < (x0.length : Int)) = true then (if (0 ≤ y11 ∧ y11 < (x0.length : Int)) then (if (0 ≤ y11 ∧ y11 < (x1.length : Int)) then (if (!(φ2 (List.getD x0 (y11).toNat default) (List.getD x1 (y11).toNat default))) = true then (some false) else (eqFunc.l0 m12 x0 x1 φ2 (IntKind.wrap .i64 (y11 + 1)))) else none) else none) else (some true))
def eqFunc.f (k : Nat) (x0 : (List Op)) (x1 : (List Op)) (φ2 : Op → Op → Bool) : Option (Bool) := (if (!decide ((x0.length : Int) = (x1.length : Int))) = true then (some false) else (eqFunc.l0 k x0 x1 φ2 0))
theorem eqFunc.ok {s0 : St} {v0 : Value} {x0 : (List Op)} {v1 : Value} {x1 : (List Op)} {v2 : Value} {g2 : FuncId} {caps2 : List Value} {φ2 : Op → Op → Bool} {k : Nat} {r : Bool} (k0 : (kSl kOp).V s0 v0 x0) (k1 : (kSl kOp).V s0 v1 x1) (e2 : v2 = .func (.func g2) #[] caps2.toArray) (F2 : ∀ {s : St} {w0 : Value} {y0 : Op} {w1 : Value} {y1 : Op}, Ext s0 s → kOp.V s w0 y0 → kOp.V s w1 y1 → Cl Try.prog g2 ([w0, w1] ++ caps2).toArray s (Okf s (Fact.v kB (φ2 y0 y1)))) (h : eqFunc.f k x0 x1 φ2 = some r) : Cl Try.prog 120 #[v0, v1, v2] s0 (Okf s0 (Fact.v kB r)) := by
 unfold eqFunc.f at h
 refine cl_of_wp Try.func120 rfl en_120 fun a hz hd hp => ?_; have hz : a.tmps.size = 32 := hz; have E := Chg.refl (fun _ => False) s0; have h0 := V_at k0 E (hp 0 v0 rfl); have h1 := V_at k1 E (hp 1 v1 rfl); have h2 := (hp 2 v2 rfl).trans e2; refine wp_sr ?_; refine sq_blk (its := [⟨6, _, []⟩]) [] hz rfl ⟨(fun a s he hf hz => av rfl rfl b_f), trivial⟩ ?_; intro a1 s2 he hf hz hd1; have ⟨hd, E⟩ := hdE hd1 hd E he; obtain ⟨h0, h1⟩ := va2 he hf h0 h1 rfl; have h2 := (hf 2 rfl).trans h2; refine wp_seq ?_; refine wp_sr ?_; refine sq_blk (its := [⟨10, _, []⟩, ⟨11, _, [0]⟩, ⟨12, _, []⟩, ⟨13, _, [2]⟩, ⟨14, _, [1, 3]⟩]) [4] hz rfl ⟨mvs rfl rfl h0 rfl, (fun a s he hf hz q0 => le_ rfl rfl u_22 q0), mvs rfl rfl h1 rfl, (fun a s he hf hz q2 => le_ rfl rfl u_22 q2), (fun a s he hf hz q1 q3 => ne_ rfl rfl q1 q3), trivial⟩ ?_; intro a3 s4 he hf hz hd1 h14; have ⟨hd, E⟩ := hdE hd1 hd E he; obtain ⟨h0, h1⟩ := va2 he hf h0 h1 rfl; have h2 := (hf 2 rfl).trans h2; refine wp_condV h14 (fun hb => ?_) (fun hb => ?_)
 ·have h := ite_t hb h; refine wp_sr ?_; refine sq_blk (its := [⟨6, _, []⟩]) [0] hz rfl ⟨(fun a s he hf hz => av rfl rfl b_f), trivial⟩ ?_; intro a5 s6 he hf hz hd1 h6; have ⟨hd, E⟩ := hdE hd1 hd E he; refine wp_ret ?_; cases h
  exact ⟨hd, _, results_tmp rfl _ _ _, E, h6⟩
 ·have h := ite_f hb h; refine wp_skip ?_; refine wp_seq ?_; refine wp_sr ?_; refine sq_blk (its := [⟨15, _, []⟩, ⟨16, _, [0]⟩, ⟨17, _, []⟩]) [0, 1, 2] hz rfl ⟨mvs rfl rfl h0 rfl, (fun a s he hf hz q0 => le_ rfl rfl u_22 q0), (fun a s he hf hz => mv rfl rfl i0), trivial⟩ ?_; intro a7 s8 he hf hz hd1 h15 h16 h17; have ⟨hd, E⟩ := hdE hd1 hd E he; have h1 := V_at h1 he (hf 1 rfl); have h2 := (hf 2 rfl).trans h2; refine wp_block ?_; refine wp_loop (k := k) (fun m12 a s => ∃ (y11 : Int), eqFunc.l0 m12 x0 x1 φ2 y11 = some r ∧ m12 ≤ k ∧ Ext s0 s ∧ a.tmps.size = 32 ∧ a.defers = [] ∧ (kSl kOp).V s (a.get 1) x1 ∧ a.get 2 = .func (.func g2) #[] caps2.toArray ∧ (kSl kOp).V s (a.get 15) x0 ∧ (kI .i64).V s (a.get 16) (x0.length : Int) ∧ (kI .i64).V s (a.get 17) y11) ⟨_, h, Nat.le_refl _, E, hz, hd, h1, h2, h15, h16, h17⟩ ?_; rintro m12 a10 s9 ⟨y11, h, hkm12, E, hz, hd, h1, h2, h15, h16, h17⟩; obtain _ | m12 := m12
  ·cases h
  refine wp_sr ?_; refine sq_blk (its := [⟨18, _, []⟩]) [0] hz rfl ⟨(fun a s he hf hz => ls rfl rfl (V_at h17 he (hf 17 rfl)) (V_at h16 he (hf 16 rfl))), trivial⟩ ?_; intro a13 s14 he hf hz hd1 h18; have ⟨hd, E⟩ := hdE hd1 hd E he; obtain ⟨h1, h15, h16, h17⟩ := va4 he hf h1 h15 h16 h17 rfl; have h2 := (hf 2 rfl).trans h2; refine wp_seq ?_; refine wp_condV h18 (fun hb => ?_) (fun hb => ?_)
  ·have h := ite_t hb h; refine wp_skip ?_; refine wp_seq ?_; refine wp_block ?_; refine wp_sr ?_; obtain ⟨D15, h⟩ := need h; refine sq_blk (its := [⟨19, _, []⟩, ⟨20, _, []⟩, ⟨21, _, [1]⟩]) [0, 2] hz rfl ⟨mvs rfl rfl h17 rfl, (fun a s he hf hz => ia rfl rfl sl_22 (V_at h15 he (hf 15 rfl)) (V_at h17 he (hf 17 rfl)) D15.1 D15.2), (fun a s he hf hz q1 => lp rfl rfl ty_72 (by decide) q1), trivial⟩ ?_; intro a16 s17 he hf hz hd1 h19 h21; have ⟨hd, E⟩ := hdE hd1 hd E he; obtain ⟨h1, h15, h16, h17⟩ := va4 he hf h1 h15 h16 h17 rfl; have h2 := (hf 2 rfl).trans h2; refine sq_set hz rfl rfl rfl (op_alloc (cs := [.string ⟨#[]⟩, .int .i64 0, .slice none 0 0, .string ⟨#[]⟩, .int .i64 0, .string ⟨#[]⟩, .int .i64 0, .slice none 0 0]) rfl zv_72 rfl (fun s19 he BB20 => fun a18 h8 hf hz hd1 => ?_)); obtain ⟨b29, hb29⟩ : ∃ b, b = s17.w.heap.size := ⟨_, rfl⟩; rw [← hb29] at BB20 h8; have B29 := BB20; have l29 : s0.w.heap.size ≤ b29 := by have := E.size; omega
   have ⟨hd, E⟩ := hdE hd1 hd E he; obtain ⟨h1, h15, h16, h17, h19, h21⟩ := va6 he hf h1 h15 h16 h17 h19 h21 rfl; have h2 := (hf 2 rfl).trans h2; have c21 : kS.V s19 (.string ⟨#[]⟩) ([] : Str) := s_0; have c22 : (kI .i64).V s19 (.int .i64 0) 0 := i0; have c23 : (kSl kDot).V s19 (.slice none 0 0) ([] : (List Dot)) := (lit_nil (d := kDot)); have c24 : kS.V s19 (.string ⟨#[]⟩) ([] : Str) := s_0; have c25 : (kI .i64).V s19 (.int .i64 0) 0 := i0; have c26 : kS.V s19 (.string ⟨#[]⟩) ([] : Str) := s_0; have c27 : (kI .i64).V s19 (.int .i64 0) 0 := i0; have c28 : (kSl kDot).V s19 (.slice none 0 0) ([] : (List Dot)) := (lit_nil (d := kDot)); refine sq_blk (its := [⟨7, _, []⟩]) [0] hz rfl ⟨avs rfl rfl h19 rfl, trivial⟩ ?_; intro a30 s31 he hf hz hd1 h7; have ⟨hd, E⟩ := hdE hd1 hd E he; obtain ⟨h1, h15, h16, h17, h21⟩ := va5 he hf h1 h15 h16 h17 h21 rfl; obtain ⟨h2, h8⟩ := ea2 hf h2 h8 rfl; have B29 := B29.ext he
   refine sq_do rfl rfl (op_storen rfl ty_72 rfl h8 B29 h21 rfl (fun s33 e34 he B29n r35 => ?_)); obtain ⟨h1, h7, h15, h16, h17⟩ := vm5 he h1 h7 h15 h16 h17; have E := Chg.chg E he (fun b e h => (fun e => absurd h (by cases e; exact Nat.not_lt.2 l29)) e); obtain ⟨u36, u37, u38, u39, u40, u41, u42, u43, rfl, c44, c45, c46, c47, c48, c49, c50, c51⟩ := kOp_open r35; have B29 : Bx s33 b29 72 [u36, u37, u38, u39, u40, u41, u42, u43] := B29n; refine wp_sr ?_; obtain ⟨D52, h⟩ := need h; refine sq_blk (its := [⟨22, _, []⟩, ⟨23, _, []⟩, ⟨24, _, [0, 1]⟩, ⟨25, _, [2]⟩]) [3] hz rfl ⟨mvs rfl rfl h1 rfl, mvs rfl rfl h7 rfl, (fun a s he hf hz q0 q1 => ia rfl rfl sl_22 q0 q1 D52.1 D52.2), (fun a s he hf hz q2 => lp rfl rfl ty_72 (by decide) q2), trivial⟩ ?_; intro a53 s54 he hf hz hd1 h25; have ⟨hd, E⟩ := hdE hd1 hd E he; obtain ⟨h1, h15, h16, h17⟩ := va4 he hf h1 h15 h16 h17 rfl; obtain ⟨h2, h8⟩ := ea2 hf h2 h8 rfl; have B29 := B29.ext he; obtain ⟨c44, c45, c46, c47, c48, c49, c50, c51⟩ := vm8 he c44 c45 c46 c47 c48 c49 c50 c51
   refine sq_set hz rfl rfl rfl (op_alloc (cs := [.string ⟨#[]⟩, .int .i64 0, .slice none 0 0, .string ⟨#[]⟩, .int .i64 0, .string ⟨#[]⟩, .int .i64 0, .slice none 0 0]) rfl zv_72 rfl (fun s56 he BB57 => fun a55 h9 hf hz hd1 => ?_)); obtain ⟨b66, hb66⟩ : ∃ b, b = s54.w.heap.size := ⟨_, rfl⟩; rw [← hb66] at BB57 h9; have B66 := BB57; have l66 : s0.w.heap.size ≤ b66 := by have := E.size; omega
   have n66_29 : b66 ≠ b29 := by have := B29.lt; omega
   have ⟨hd, E⟩ := hdE hd1 hd E he; obtain ⟨h1, h15, h16, h17, h25⟩ := va5 he hf h1 h15 h16 h17 h25 rfl; obtain ⟨h2, h8⟩ := ea2 hf h2 h8 rfl; have B29 := B29.ext he; obtain ⟨c44, c45, c46, c47, c48, c49, c50, c51⟩ := vm8 he c44 c45 c46 c47 c48 c49 c50 c51; have c58 : kS.V s56 (.string ⟨#[]⟩) ([] : Str) := s_0; have c59 : (kI .i64).V s56 (.int .i64 0) 0 := i0; have c60 : (kSl kDot).V s56 (.slice none 0 0) ([] : (List Dot)) := (lit_nil (d := kDot)); have c61 : kS.V s56 (.string ⟨#[]⟩) ([] : Str) := s_0; have c62 : (kI .i64).V s56 (.int .i64 0) 0 := i0; have c63 : kS.V s56 (.string ⟨#[]⟩) ([] : Str) := s_0; have c64 : (kI .i64).V s56 (.int .i64 0) 0 := i0; have c65 : (kSl kDot).V s56 (.slice none 0 0) ([] : (List Dot)) := (lit_nil (d := kDot)); refine sq_do rfl rfl (op_storen rfl ty_72 rfl h9 B66 h25 rfl (fun s68 e69 he B66n r70 => ?_)); obtain ⟨h1, h15, h16, h17⟩ := vm4 he h1 h15 h16 h17; have B29 := B29.chg he (fun e => (Ne.symm n66_29) e)
   obtain ⟨c44, c45, c46, c47, c48, c49, c50, c51⟩ := vm8 he c44 c45 c46 c47 c48 c49 c50 c51; have E := Chg.chg E he (fun b e h => (fun e => absurd h (by cases e; exact Nat.not_lt.2 l66)) e); obtain ⟨u71, u72, u73, u74, u75, u76, u77, u78, rfl, c79, c80, c81, c82, c83, c84, c85, c86⟩ := kOp_open r70; have B66 : Bx s68 b66 72 [u71, u72, u73, u74, u75, u76, u77, u78] := B66n; refine wp_sr ?_; refine sq_blk (its := [⟨26, _, []⟩, ⟨27, _, []⟩, ⟨28, _, []⟩, ⟨29, _, [0, 1, 2]⟩, ⟨30, _, [3]⟩]) [4] hz rfl ⟨mes rfl rfl h2 rfl, (fun a s he hf hz => ld rfl rfl ty_72 rfl ((hf 8 rfl).trans h8) (B29.ext he) rfl (kOp_eta (x := (List.getD x0 (y11).toNat default)) (vm he c44) (vm he c45) (vm he c46) (vm he c47) (vm he c48) (vm he c49) (vm he c50) (vm he c51))), (fun a s he hf hz => ld rfl rfl ty_72 rfl ((hf 9 rfl).trans h9) (B66.ext he) rfl (kOp_eta (x := (List.getD x1 (y11).toNat default)) (vm he c79) (vm he c80) (vm he c81) (vm he c82) (vm he c83) (vm he c84) (vm he c85) (vm he c86))), (fun a s he hf hz q0 q1 q2 => opw rfl (op_callv rfl q0 rfl (F2 (E.trans he) q1 q2))), (fun a s he hf hz q3 => no_ rfl rfl q3), trivial⟩ ?_; intro a87 s88 he hf hz hd1 h30
   have ⟨hd, E⟩ := hdE hd1 hd E he; obtain ⟨h1, h15, h16, h17⟩ := va4 he hf h1 h15 h16 h17 rfl; have h2 := (hf 2 rfl).trans h2; refine wp_condV h30 (fun hb => ?_) (fun hb => ?_)
   ·have h := ite_t hb h; refine wp_sr ?_; refine sq_blk (its := [⟨6, _, []⟩]) [0] hz rfl ⟨(fun a s he hf hz => av rfl rfl b_f), trivial⟩ ?_; intro a89 s90 he hf hz hd1 h6; have ⟨hd, E⟩ := hdE hd1 hd E he; refine wp_ret ?_; cases h
    exact ⟨hd, _, results_tmp rfl _ _ _, E, h6⟩
   ·have h := ite_f hb h; refine wp_skip ?_; refine wp_region ?_; refine sq_blk (its := [⟨31, _, []⟩]) [0] hz rfl ⟨(fun a s he hf hz => ad rfl rfl (V_at h17 he (hf 17 rfl)) i1), trivial⟩ ?_; intro a91 s92 he hf hz hd1 h31; have ⟨hd, E⟩ := hdE hd1 hd E he; obtain ⟨h1, h15, h16⟩ := va3 he hf h1 h15 h16 rfl; have h2 := (hf 2 rfl).trans h2; refine sq_blk (its := [⟨17, _, []⟩]) [0] hz rfl ⟨mvs rfl rfl h31 rfl, trivial⟩ ?_; intro a93 s94 he hf hz hd1 h17; have ⟨hd, E⟩ := hdE hd1 hd E he; obtain ⟨h1, h15, h16⟩ := va3 he hf h1 h15 h16 rfl; have h2 := (hf 2 rfl).trans h2; exact ⟨_, (by omega : m12 < m12 + 1), _, h, by omega, E, hz, hd, h1, h2, h15, h16, h17⟩
  ·have h := ite_f hb h; refine wp_exit ?_; refine then_exit ?_; refine then_exit ?_; refine inBlock_hit ?_; refine wp_sr ?_; refine sq_blk (its := [⟨6, _, []⟩]) [0] hz rfl ⟨(fun a s he hf hz => av rfl rfl b_t), trivial⟩ ?_; intro a95 s96 he hf hz hd1 h6; have ⟨hd, E⟩ := hdE hd1 hd E he; refine wp_ret ?_; cases h
   exact ⟨hd, _, results_tmp rfl _ _ _, E, h6⟩
theorem eqFunc.nice (x0 x1 : List Op) (φ2 : Op → Op → Bool) (b0 : (kSl kOp).bd x0) (b1 : (kSl kOp).bd x1) : ∃ k, eqFunc.f k x0 x1 φ2 = some (eqFn x0 x1 φ2) := by
 have hb : x0.length ≤ maxLen := b0.1
 have hm := maxLen_lt
 by_cases hl : x0.length = x1.length
 ·have : ∀ y, y ≤ x0.length → ∃ k, eqFunc.l0 k x0 x1 φ2 (y : Int) = some (allP φ2 (x0.drop y) (x1.drop y)) := by
   refine rounds x0.length ⟨1, ?_⟩ fun y hy ⟨k, hk⟩ => ?_
   ·simp only [eqFunc.l0, List.drop_length, Int.lt_irrefl, decide_false, Bool.false_eq_true, if_false, allP]
   ·push_cast at hk
    have hr : (0 : Int) ≤ y ∧ (y : Int) < x0.length := ⟨by omega, by omega⟩
    have hr' : (0 : Int) ≤ y ∧ (y : Int) < x1.length := ⟨by omega, by omega⟩
    refine ⟨k + 1, ?_⟩
    rw [drop_at default hy, drop_at (xs := x1) default (by omega)]
    simp only [eqFunc.l0, hr, hr', and_self, if_true, decide_true, allP]
    rw [Int.toNat_natCast]
    generalize x0.getD y default = o
    generalize x1.getD y default = p
    cases φ2 o p
    ·simp
    ·simp only [Bool.not_true, Bool.false_eq_true, if_false, Bool.true_and]
     rw [w64s (by omega)]; exact hk
  obtain ⟨k, hk⟩ := this 0 (Nat.zero_le _)
  refine ⟨k, ?_⟩
  unfold eqFunc.f
  rw [if_neg (by simp [hl])]
  rw [show eqFn x0 x1 φ2 = allP φ2 x0 x1 from by simp [eqFn, hl]]
  exact hk
 ·refine ⟨0, ?_⟩
  unfold eqFunc.f eqFn
  rw [if_pos (by simp; omega)]
  simp [hl]
theorem eqFunc.ct {s0 : St} {v0 : Value} {x0 : (List Op)} {v1 : Value} {x1 : (List Op)} {v2 : Value} {g2 : FuncId} {caps2 : List Value} {φ2 : Op → Op → Bool} (k0 : (kSl kOp).V s0 v0 x0) (k1 : (kSl kOp).V s0 v1 x1) (e2 : v2 = .func (.func g2) #[] caps2.toArray) (F2 : ∀ {s : St} {w0 : Value} {y0 : Op} {w1 : Value} {y1 : Op}, Ext s0 s → kOp.V s w0 y0 → kOp.V s w1 y1 → Cl Try.prog g2 ([w0, w1] ++ caps2).toArray s (Okf s (Fact.v kB (φ2 y0 y1)))) : Cl Try.prog 120 #[v0, v1, v2] s0 (Okf s0 (Fact.v kB (eqFn x0 x1 φ2))) := by
 obtain ⟨k, h⟩ := eqFunc.nice x0 x1 φ2 (Kn.V_bd k0) (Kn.V_bd k1)
 exact eqFunc.ok k0 k1 e2 F2 h
def frame_equal (x0 : Frame) (x1 : Frame) : Bool := (((((((((decide (x0.kind = x1.kind)) && (decide (x0.src = x1.src))) && (decide (x0.dst = x1.dst))) && (decide (x0.cart = x1.cart))) && (decide (x0.session = x1.session))) && (decide (x0.index = x1.index))) && (decide (x0.many = x1.many))) && (same_ x0.known x1.known)) && (eqFn x0.ops x1.ops (fun y0 y1 => (order_Same y0 y1))))
theorem frame_equal.ok {s0 : St} {v0 : Value} {x0 : Frame} {v1 : Value} {x1 : Frame} (k0 : kFrame.V s0 v0 x0) (k1 : kFrame.V s0 v1 x1) : Cl Try.prog 84 #[v0, v1] s0 (Okf s0 (Fact.v kB (frame_equal x0 x1))) := by
 obtain ⟨r, h⟩ : ∃ r, some (frame_equal x0 x1) = some r := ⟨_, rfl⟩
 rw [Option.some.inj h]
 have h : (some (((((((((decide (x0.kind = x1.kind)) && (decide (x0.src = x1.src))) && (decide (x0.dst = x1.dst))) && (decide (x0.cart = x1.cart))) && (decide (x0.session = x1.session))) && (decide (x0.index = x1.index))) && (decide (x0.many = x1.many))) && (same_ x0.known x1.known)) && (eqFn x0.ops x1.ops (fun y0 y1 => (order_Same y0 y1))))) = some r := by rw [← h]; unfold frame_equal; first | rfl | simp only [apply_ite some] | (repeat' (first | rfl | split))
 refine cl_of_wp Try.func84 rfl en_84 fun a hz hd hp => ?_; have hz : a.tmps.size = 74 := hz; have E := Chg.refl (fun _ => False) s0; have h0 := V_at k0 E (hp 0 v0 rfl); have h1 := V_at k1 E (hp 1 v1 rfl); refine wp_sr ?_; refine sq_set hz rfl rfl rfl (op_boxn rfl rfl h0 (fun s2 e4 he BB3 r5 => fun a1 h2 hf hz hd1 => ?_)); obtain ⟨b24, hb24⟩ : ∃ b, b = s0.w.heap.size := ⟨_, rfl⟩; rw [← hb24] at BB3 h2; have B24 := BB3; have l24 : s0.w.heap.size ≤ b24 := by have := E.size; omega
 have ⟨hd, E⟩ := hdE hd1 hd E he; have h1 := V_at h1 he (hf 1 rfl); obtain ⟨u6, u7, u8, u9, u10, u11, u12, u13, u14, rfl, c15, c16, c17, c18, c19, c20, c21, c22, c23⟩ := kFrame_open r5; refine sq_set hz rfl rfl rfl (op_boxn rfl rfl h1 (fun s26 e28 he BB27 r29 => fun a25 h3 hf hz hd1 => ?_)); obtain ⟨b48, hb48⟩ : ∃ b, b = s2.w.heap.size := ⟨_, rfl⟩; rw [← hb48] at BB27 h3; have B48 := BB27; have l48 : s0.w.heap.size ≤ b48 := by have := E.size; omega
 have ⟨hd, E⟩ := hdE hd1 hd E he; have h2 := (hf 2 rfl).trans h2; have B24 := B24.ext he; obtain ⟨c15, c16, c17, c18, c19, c20, c21, c22, c23⟩ := vm9 he c15 c16 c17 c18 c19 c20 c21 c22 c23; obtain ⟨u30, u31, u32, u33, u34, u35, u36, u37, u38, rfl, c39, c40, c41, c42, c43, c44, c45, c46, c47⟩ := kFrame_open r29; refine sq_blk (its := [⟨4, _, []⟩]) [] hz rfl ⟨(fun a s he hf hz => av rfl rfl b_f), trivial⟩ ?_; intro a49 s50 he hf hz hd1; have ⟨hd, E⟩ := hdE hd1 hd E he; obtain ⟨h2, h3⟩ := ea2 hf h2 h3 rfl; obtain ⟨B24, B48⟩ := bx2 he B24 B48; obtain ⟨c15, c16, c17, c18, c19, c20, c21, c22, c23, c39, c40, c41⟩ := vm12 he c15 c16 c17 c18 c19 c20 c21 c22 c23 c39 c40 c41; obtain ⟨c42, c43, c44, c45, c46, c47⟩ := vm6 he c42 c43 c44 c45 c46 c47; refine wp_seq ?_
 refine wp_twins (d := kFrame) (x := x0) (y := x1) (z := (.agg #[.int .i64 0, .string ⟨#[]⟩, .string ⟨#[]⟩, .string ⟨#[]⟩, .int .i64 0, .int .i64 0, .int .i64 0, .slice none 0 0, .slice none 0 0])) (zc := [.int .i64 0, .string ⟨#[]⟩, .string ⟨#[]⟩, .string ⟨#[]⟩, .int .i64 0, .int .i64 0, .int .i64 0, .slice none 0 0, .slice none 0 0]) mo (by kernel_rfl) rfl rfl rfl rfl rfl rfl rfl rfl rfl rfl rfl rfl (by decide) hz ty_34 rfl zv_34 rfl rfl h2 h3 B24 B48 (kFrame_eta (x := x0) c15 c16 c17 c18 c19 c20 c21 c22 c23) (kFrame_eta (x := x1) c39 c40 c41 c42 c43 c44 c45 c46 c47) ?_; intro a51 s52 b53 b54 es1 es2 he hf4 hz hd1 h5 h6 n54_53 g1 g2 B53 r1 B54 r2; have hf := hf_of4 hf4; have hd := hd1.trans hd; have l53 : s0.w.heap.size ≤ b53 := by have := E.size; omega
 have n53_24 : b53 ≠ b24 := by have := B24.lt; omega
 have n53_48 : b53 ≠ b48 := by have := B48.lt; omega
 have l54 : s0.w.heap.size ≤ b54 := by have := E.size; omega
 have n54_24 : b54 ≠ b24 := by have := B24.lt; omega
 have n54_48 : b54 ≠ b48 := by have := B48.lt; omega
 obtain ⟨h2, h3⟩ := ea2 hf h2 h3 rfl; obtain ⟨B24, B48⟩ := bx2 he B24 B48; obtain ⟨c22, c23⟩ := vm2 he c22 c23; obtain ⟨c46, c47⟩ := vm2 he c46 c47; have E := E.trans he; obtain ⟨u55, u56, u57, u58, u59, u60, u61, u62, u63, rfl, c64, c65, c66, c67, c68, c69, c70, c71, c72⟩ := kFrame_open r1; obtain ⟨u73, u74, u75, u76, u77, u78, u79, u80, u81, rfl, c82, c83, c84, c85, c86, c87, c88, c89, c90⟩ := kFrame_open r2; refine wp_sr ?_; refine sq_blk (its := [⟨9, _, []⟩]) [0] hz rfl ⟨(fun a s he hf hz => fb rfl rfl fa_34_7 ((hf 5 rfl).trans h5)), trivial⟩ ?_; intro a91 s92 he hf hz hd1 h9; have ⟨hd, E⟩ := hdE hd1 hd E he; obtain ⟨h2, h3, h5, h6⟩ := ea4 hf h2 h3 h5 h6 rfl; obtain ⟨B24, B48, B53, B54⟩ := bx4 he B24 B48 B53 B54; obtain ⟨c22, c23⟩ := vm2 he c22 c23; obtain ⟨c46, c47, c64, c65, c66, c67, c68, c69⟩ := vm8 he c46 c47 c64 c65 c66 c67 c68 c69; obtain ⟨c70, c82, c83, c84, c85, c86, c87, c88⟩ := vm8 he c70 c82 c83 c84 c85 c86 c87 c88; refine sq_do rfl rfl (op_store_v rfl ty_32 rfl h9 B53 (lit_nil (d := kDot)) rfl (fun s94 he B53n c95 => ?_)); have B24 := B24.chg he (fun e => (Ne.symm n53_24) e); have B48 := B48.chg he (fun e => (Ne.symm n53_48) e)
 have B54 := B54.chg he (fun e => n54_53 e); obtain ⟨c22, c23⟩ := vm2 he c22 c23; obtain ⟨c46, c47, c64, c65, c66, c67, c68, c69⟩ := vm8 he c46 c47 c64 c65 c66 c67 c68 c69; obtain ⟨c70, c82, c83, c84, c85, c86, c87, c88⟩ := vm8 he c70 c82 c83 c84 c85 c86 c87 c88; have E := Chg.chg E he (fun b e h => (fun e => absurd h (by cases e; exact Nat.not_lt.2 l53)) e); obtain ⟨u96, huu96⟩ : ∃ u : Value, u = (.slice none 0 0) := ⟨_, rfl⟩; have c95 : (kSl kDot).V s94 u96 ([] : (List Dot)) := by rw [huu96]; exact c95
 have B53 : Bx s94 b53 34 [u55, u56, u57, u58, u59, u60, u61, u96, u63] := by rw [huu96]; exact B53n
 refine sq_blk (its := [⟨10, _, []⟩]) [0] hz rfl ⟨(fun a s he hf hz => fb rfl rfl fa_34_8 ((hf 5 rfl).trans h5)), trivial⟩ ?_; intro a97 s98 he hf hz hd1 h10; have ⟨hd, E⟩ := hdE hd1 hd E he; obtain ⟨h2, h3, h5, h6⟩ := ea4 hf h2 h3 h5 h6 rfl; obtain ⟨B24, B48, B53, B54⟩ := bx4 he B24 B48 B53 B54; obtain ⟨c22, c23⟩ := vm2 he c22 c23; obtain ⟨c46, c47, c64, c65, c66, c67, c68, c69⟩ := vm8 he c46 c47 c64 c65 c66 c67 c68 c69; obtain ⟨c70, c82, c83, c84, c85, c86, c87, c88⟩ := vm8 he c70 c82 c83 c84 c85 c86 c87 c88; refine sq_do rfl rfl (op_store_v rfl ty_22 rfl h10 B53 (lit_nil (d := kOp)) rfl (fun s100 he B53n c101 => ?_)); have B24 := B24.chg he (fun e => (Ne.symm n53_24) e); have B48 := B48.chg he (fun e => (Ne.symm n53_48) e); have B54 := B54.chg he (fun e => n54_53 e); obtain ⟨c22, c23⟩ := vm2 he c22 c23; obtain ⟨c46, c47, c64, c65, c66, c67, c68, c69⟩ := vm8 he c46 c47 c64 c65 c66 c67 c68 c69; obtain ⟨c70, c82, c83, c84, c85, c86, c87, c88⟩ := vm8 he c70 c82 c83 c84 c85 c86 c87 c88; have E := Chg.chg E he (fun b e h => (fun e => absurd h (by cases e; exact Nat.not_lt.2 l53)) e); obtain ⟨u102, huu102⟩ : ∃ u : Value, u = (.slice none 0 0) := ⟨_, rfl⟩
 have c101 : (kSl kOp).V s100 u102 ([] : (List Op)) := by rw [huu102]; exact c101
 have B53 : Bx s100 b53 34 [u55, u56, u57, u58, u59, u60, u61, u96, u102] := by rw [huu102]; exact B53n
 refine sq_blk (its := [⟨11, _, []⟩]) [0] hz rfl ⟨(fun a s he hf hz => fb rfl rfl fa_34_7 ((hf 6 rfl).trans h6)), trivial⟩ ?_; intro a103 s104 he hf hz hd1 h11; have ⟨hd, E⟩ := hdE hd1 hd E he; obtain ⟨h2, h3, h5, h6⟩ := ea4 hf h2 h3 h5 h6 rfl; obtain ⟨B24, B48, B53, B54⟩ := bx4 he B24 B48 B53 B54; obtain ⟨c22, c23⟩ := vm2 he c22 c23; obtain ⟨c46, c47, c64, c65, c66, c67, c68, c69⟩ := vm8 he c46 c47 c64 c65 c66 c67 c68 c69; obtain ⟨c70, c82, c83, c84, c85, c86, c87, c88⟩ := vm8 he c70 c82 c83 c84 c85 c86 c87 c88; refine sq_do rfl rfl (op_store_v rfl ty_32 rfl h11 B54 (lit_nil (d := kDot)) rfl (fun s106 he B54n c107 => ?_)); have B24 := B24.chg he (fun e => (Ne.symm n54_24) e); have B48 := B48.chg he (fun e => (Ne.symm n54_48) e); have B53 := B53.chg he (fun e => (Ne.symm n54_53) e); obtain ⟨c22, c23⟩ := vm2 he c22 c23; obtain ⟨c46, c47, c64, c65, c66, c67, c68, c69⟩ := vm8 he c46 c47 c64 c65 c66 c67 c68 c69; obtain ⟨c70, c82, c83, c84, c85, c86, c87, c88⟩ := vm8 he c70 c82 c83 c84 c85 c86 c87 c88; have E := Chg.chg E he (fun b e h => (fun e => absurd h (by cases e; exact Nat.not_lt.2 l54)) e); obtain ⟨u108, huu108⟩ : ∃ u : Value, u = (.slice none 0 0) := ⟨_, rfl⟩
 have c107 : (kSl kDot).V s106 u108 ([] : (List Dot)) := by rw [huu108]; exact c107
 have B54 : Bx s106 b54 34 [u73, u74, u75, u76, u77, u78, u79, u108, u81] := by rw [huu108]; exact B54n
 refine sq_blk (its := [⟨12, _, []⟩]) [0] hz rfl ⟨(fun a s he hf hz => fb rfl rfl fa_34_8 ((hf 6 rfl).trans h6)), trivial⟩ ?_; intro a109 s110 he hf hz hd1 h12; have ⟨hd, E⟩ := hdE hd1 hd E he; obtain ⟨h2, h3, h5, h6⟩ := ea4 hf h2 h3 h5 h6 rfl; obtain ⟨B24, B48, B53, B54⟩ := bx4 he B24 B48 B53 B54; obtain ⟨c22, c23⟩ := vm2 he c22 c23; obtain ⟨c46, c47, c64, c65, c66, c67, c68, c69⟩ := vm8 he c46 c47 c64 c65 c66 c67 c68 c69; obtain ⟨c70, c82, c83, c84, c85, c86, c87, c88⟩ := vm8 he c70 c82 c83 c84 c85 c86 c87 c88; refine sq_do rfl rfl (op_store_v rfl ty_22 rfl h12 B54 (lit_nil (d := kOp)) rfl (fun s112 he B54n c113 => ?_)); have B24 := B24.chg he (fun e => (Ne.symm n54_24) e); have B48 := B48.chg he (fun e => (Ne.symm n54_48) e); have B53 := B53.chg he (fun e => (Ne.symm n54_53) e); obtain ⟨c22, c23⟩ := vm2 he c22 c23; obtain ⟨c46, c47, c64, c65, c66, c67, c68, c69⟩ := vm8 he c46 c47 c64 c65 c66 c67 c68 c69; obtain ⟨c70, c82, c83, c84, c85, c86, c87, c88⟩ := vm8 he c70 c82 c83 c84 c85 c86 c87 c88; have E := Chg.chg E he (fun b e h => (fun e => absurd h (by cases e; exact Nat.not_lt.2 l54)) e); obtain ⟨u114, huu114⟩ : ∃ u : Value, u = (.slice none 0 0) := ⟨_, rfl⟩
 have c113 : (kSl kOp).V s112 u114 ([] : (List Op)) := by rw [huu114]; exact c113
 have B54 : Bx s112 b54 34 [u73, u74, u75, u76, u77, u78, u79, u108, u114] := by rw [huu114]; exact B54n
 refine wp_sr ?_; have hz0 := hz
 refine sq_blk (its := (⟨13, _, []⟩ :: ⟨14, _, [0]⟩ :: ⟨15, _, []⟩ :: ⟨16, _, [2]⟩ :: ⟨17, _, [1, 3]⟩ :: ⟨18, _, [4]⟩ :: ⟨19, _, [5]⟩ :: ⟨20, _, [5, 6]⟩ :: ⟨21, _, [5]⟩ :: ⟨22, _, [5, 8]⟩ :: ⟨23, _, [5, 7, 9]⟩ :: ⟨24, _, [5, 10]⟩ :: ⟨25, _, [11]⟩ :: ⟨26, _, [12]⟩ :: ⟨27, _, [12, 13]⟩ :: ⟨28, _, [12]⟩ :: ⟨29, _, [12, 15]⟩ :: ⟨30, _, [12, 14, 16]⟩ :: ⟨31, _, [12, 17]⟩ :: ⟨32, _, [18]⟩ :: ⟨33, _, [19]⟩ :: ⟨34, _, [19, 20]⟩ :: ⟨35, _, [19]⟩ :: ⟨36, _, [19, 22]⟩ :: ⟨37, _, [19, 21, 23]⟩ :: ⟨38, _, [19, 24]⟩ :: ⟨39, _, [25]⟩ :: ⟨40, _, [26]⟩ :: ⟨41, _, [26, 27]⟩ :: ⟨42, _, [26]⟩ :: ⟨43, _, [26, 29]⟩ :: ⟨44, _, [26, 28, 30]⟩ :: ⟨45, _, [26, 31]⟩ :: ⟨46, _, [32]⟩ :: ⟨47, _, [33]⟩ :: ⟨48, _, [33, 34]⟩ :: ⟨49, _, [33]⟩ :: ⟨50, _, [33, 36]⟩ :: ⟨51, _, [33, 35, 37]⟩ :: ⟨52, _, [33, 38]⟩ :: ⟨53, _, [39]⟩ :: ⟨54, _, [40]⟩ :: ⟨55, _, [40, 41]⟩ :: ⟨56, _, [40]⟩ :: ⟨57, _, [40, 43]⟩ :: ⟨58, _, [40, 42, 44]⟩ :: ⟨59, _, [40, 45]⟩ :: ⟨60, _, [46]⟩ :: ⟨61, _, [47]⟩ :: ⟨62, _, [47, 48]⟩ :: ⟨63, _, [47]⟩ :: ⟨64, _, [47, 50]⟩ :: ⟨65, _, [47, 49, 51]⟩ :: ⟨66, _, [47, 52]⟩ :: ⟨67, _, [53]⟩ :: ⟨68, _, [54]⟩ :: ⟨69, _, [54, 55]⟩ :: ⟨70, _, [54]⟩ :: ⟨71, _, [54, 57]⟩ :: ⟨72, _, [54, 56, 58]⟩ :: ⟨73, _, [54, 59]⟩ :: ⟨4, _, [60]⟩ :: [])) [61] hz rfl ⟨(fun a s he hf hz => fb rfl rfl fa_34_0 ((hf 5 rfl).trans h5)), (fun a s he hf hz q0 => lo rfl rfl ty_3 q0 (B53.ext he) rfl (vm he c64)), (fun a s he hf hz => fb rfl rfl fa_34_0 ((hf 6 rfl).trans h6)), (fun a s he hf hz q2 => lo rfl rfl ty_3 q2 (B54.ext he) rfl (vm he c82)), (fun a s he hf hz q1 q3 => eq_ rfl rfl q1 q3), mvq rfl rfl, (fun a s he hf hz q5 => og rfl rfl rfl hz hz0 rfl q5 (fun g => op_faddr_b rfl fa_34_1 ((hf 5 rfl).trans h5))), (fun a s he hf hz q5 q6 => og rfl rfl rfl hz hz0 rfl q5 (fun g => op_load1 rfl ty_9 (q6.1 g) (B53.ext he) rfl (vm he c65))), (fun a s he hf hz q5 => og rfl rfl rfl hz hz0 rfl q5 (fun g => op_faddr_b rfl fa_34_1 ((hf 6 rfl).trans h6))), (fun a s he hf hz q5 q8 => og rfl rfl rfl hz hz0 rfl q5 (fun g => op_load1 rfl ty_9 (q8.1 g) (B54.ext he) rfl (vm he c83))), (fun a s he hf hz q5 q7 q9 => og rfl rfl rfl hz hz0 rfl q5 (fun g => op_seql rfl (q7.1 g) (q9.1 g))), (fun a s he hf hz q5 q10 => an rfl rfl q5 (q10.1)), mvq rfl rfl, (fun a s he hf hz q12 => og rfl rfl rfl hz hz0 rfl q12 (fun g => op_faddr_b rfl fa_34_2 ((hf 5 rfl).trans h5))), (fun a s he hf hz q12 q13 => og rfl rfl rfl hz hz0 rfl q12 (fun g => op_load1 rfl ty_9 (q13.1 g) (B53.ext he) rfl (vm he c66))), (fun a s he hf hz q12 => og rfl rfl rfl hz hz0 rfl q12 (fun g => op_faddr_b rfl fa_34_2 ((hf 6 rfl).trans h6))), (fun a s he hf hz q12 q15 => og rfl rfl rfl hz hz0 rfl q12 (fun g => op_load1 rfl ty_9 (q15.1 g) (B54.ext he) rfl (vm he c84))), (fun a s he hf hz q12 q14 q16 => og rfl rfl rfl hz hz0 rfl q12 (fun g => op_seql rfl (q14.1 g) (q16.1 g))), (fun a s he hf hz q12 q17 => an rfl rfl q12 (q17.1)), mvq rfl rfl, (fun a s he hf hz q19 => og rfl rfl rfl hz hz0 rfl q19 (fun g => op_faddr_b rfl fa_34_3 ((hf 5 rfl).trans h5))), (fun a s he hf hz q19 q20 => og rfl rfl rfl hz hz0 rfl q19 (fun g => op_load1 rfl ty_9 (q20.1 g) (B53.ext he) rfl (vm he c67))), (fun a s he hf hz q19 => og rfl rfl rfl hz hz0 rfl q19 (fun g => op_faddr_b rfl fa_34_3 ((hf 6 rfl).trans h6))), (fun a s he hf hz q19 q22 => og rfl rfl rfl hz hz0 rfl q19 (fun g => op_load1 rfl ty_9 (q22.1 g) (B54.ext he) rfl (vm he c85))), (fun a s he hf hz q19 q21 q23 => og rfl rfl rfl hz hz0 rfl q19 (fun g => op_seql rfl (q21.1 g) (q23.1 g))), (fun a s he hf hz q19 q24 => an rfl rfl q19 (q24.1)), mvq rfl rfl, (fun a s he hf hz q26 => og rfl rfl rfl hz hz0 rfl q26 (fun g => op_faddr_b rfl fa_34_4 ((hf 5 rfl).trans h5))), (fun a s he hf hz q26 q27 => og rfl rfl rfl hz hz0 rfl q26 (fun g => op_load1 rfl ty_2 (q27.1 g) (B53.ext he) rfl (vm he c68))), (fun a s he hf hz q26 => og rfl rfl rfl hz hz0 rfl q26 (fun g => op_faddr_b rfl fa_34_4 ((hf 6 rfl).trans h6))), (fun a s he hf hz q26 q29 => og rfl rfl rfl hz hz0 rfl q26 (fun g => op_load1 rfl ty_2 (q29.1 g) (B54.ext he) rfl (vm he c86))), (fun a s he hf hz q26 q28 q30 => og rfl rfl rfl hz hz0 rfl q26 (fun g => op_eql rfl (q28.1 g) (q30.1 g))), (fun a s he hf hz q26 q31 => an rfl rfl q26 (q31.1)), mvq rfl rfl, (fun a s he hf hz q33 => og rfl rfl rfl hz hz0 rfl q33 (fun g => op_faddr_b rfl fa_34_5 ((hf 5 rfl).trans h5))), (fun a s he hf hz q33 q34 => og rfl rfl rfl hz hz0 rfl q33 (fun g => op_load1 rfl ty_2 (q34.1 g) (B53.ext he) rfl (vm he c69))), (fun a s he hf hz q33 => og rfl rfl rfl hz hz0 rfl q33 (fun g => op_faddr_b rfl fa_34_5 ((hf 6 rfl).trans h6))), (fun a s he hf hz q33 q36 => og rfl rfl rfl hz hz0 rfl q33 (fun g => op_load1 rfl ty_2 (q36.1 g) (B54.ext he) rfl (vm he c87))), (fun a s he hf hz q33 q35 q37 => og rfl rfl rfl hz hz0 rfl q33 (fun g => op_eql rfl (q35.1 g) (q37.1 g))), (fun a s he hf hz q33 q38 => an rfl rfl q33 (q38.1)), mvq rfl rfl, (fun a s he hf hz q40 => og rfl rfl rfl hz hz0 rfl q40 (fun g => op_faddr_b rfl fa_34_6 ((hf 5 rfl).trans h5))), (fun a s he hf hz q40 q41 => og rfl rfl rfl hz hz0 rfl q40 (fun g => op_load1 rfl ty_2 (q41.1 g) (B53.ext he) rfl (vm he c70))), (fun a s he hf hz q40 => og rfl rfl rfl hz hz0 rfl q40 (fun g => op_faddr_b rfl fa_34_6 ((hf 6 rfl).trans h6))), (fun a s he hf hz q40 q43 => og rfl rfl rfl hz hz0 rfl q40 (fun g => op_load1 rfl ty_2 (q43.1 g) (B54.ext he) rfl (vm he c88))), (fun a s he hf hz q40 q42 q44 => og rfl rfl rfl hz hz0 rfl q40 (fun g => op_eql rfl (q42.1 g) (q44.1 g))), (fun a s he hf hz q40 q45 => an rfl rfl q40 (q45.1)), mvq rfl rfl, (fun a s he hf hz q47 => og rfl rfl rfl hz hz0 rfl q47 (fun g => op_faddr_b rfl fa_34_7 ((hf 2 rfl).trans h2))), (fun a s he hf hz q47 q48 => og rfl rfl rfl hz hz0 rfl q47 (fun g => op_load1 rfl ty_32 (q48.1 g) (B24.ext he) rfl (vm he c22))), (fun a s he hf hz q47 => og rfl rfl rfl hz hz0 rfl q47 (fun g => op_faddr_b rfl fa_34_7 ((hf 3 rfl).trans h3))), (fun a s he hf hz q47 q50 => og rfl rfl rfl hz hz0 rfl q47 (fun g => op_load1 rfl ty_32 (q50.1 g) (B48.ext he) rfl (vm he c46))), (fun a s he hf hz q47 q49 q51 => og rfl rfl rfl hz hz0 rfl q47 (fun g => op_call rfl rfl (slices_Equal_api_Dot_api_Dot.ct (q49.1 g) (q51.1 g)))), (fun a s he hf hz q47 q52 => an rfl rfl q47 (q52.1)), mvq rfl rfl, (fun a s he hf hz q54 => og rfl rfl rfl hz hz0 rfl q54 (fun g => op_faddr_b rfl fa_34_8 ((hf 2 rfl).trans h2))), (fun a s he hf hz q54 q55 => og rfl rfl rfl hz hz0 rfl q54 (fun g => op_load1 rfl ty_22 (q55.1 g) (B24.ext he) rfl (vm he c23))), (fun a s he hf hz q54 => og rfl rfl rfl hz hz0 rfl q54 (fun g => op_faddr_b rfl fa_34_8 ((hf 3 rfl).trans h3))), (fun a s he hf hz q54 q57 => og rfl rfl rfl hz hz0 rfl q54 (fun g => op_load1 rfl ty_22 (q57.1 g) (B48.ext he) rfl (vm he c47))), (fun a s he hf hz q54 q56 q58 => og rfl rfl rfl hz hz0 rfl q54 (fun g => op_call rfl (argc rfl (argc rfl (argc rfl rfl))) (eqFunc.ct (q56.1 g) (q58.1 g) rfl (φ2 := (fun y0 y1 => (order_Same y0 y1))) (fun he' hv0 hv1 => order_Same.ok hv0 hv1)))), (fun a s he hf hz q54 q59 => an rfl rfl q54 (q59.1)), avq rfl rfl, trivial⟩ ?_
 intro a115 s116 he hf hz hd1 h4; have ⟨hd, E⟩ := hdE hd1 hd E he; refine wp_ret ?_; cases h
 exact ⟨hd, _, results_tmp rfl _ _ _, E, h4⟩
def frame_Same (x0 : Frame) (x1 : Frame) : Bool := (((frame_Right x0) && (frame_Right x1)) && (frame_equal x0 x1))
theorem frame_Same.ok {s0 : St} {v0 : Value} {x0 : Frame} {v1 : Value} {x1 : Frame} (k0 : kFrame.V s0 v0 x0) (k1 : kFrame.V s0 v1 x1) : Cl Try.prog 31 #[v0, v1] s0 (Okf s0 (Fact.v kB (frame_Same x0 x1))) := by
 obtain ⟨r, h⟩ : ∃ r, some (frame_Same x0 x1) = some r := ⟨_, rfl⟩
 rw [Option.some.inj h]
 have h : (some (((frame_Right x0) && (frame_Right x1)) && (frame_equal x0 x1))) = some r := by rw [← h]; unfold frame_Same; first | rfl | simp only [apply_ite some] | (repeat' (first | rfl | split))
 refine cl_of_wp Try.func31 rfl en_31 fun a hz hd hp => ?_; have hz : a.tmps.size = 16 := hz; have E := Chg.refl (fun _ => False) s0; have h0 := V_at k0 E (hp 0 v0 rfl); have h1 := V_at k1 E (hp 1 v1 rfl); refine wp_sr ?_; refine sq_set hz rfl rfl rfl (op_boxn rfl rfl h0 (fun s2 e4 he BB3 r5 => fun a1 h2 hf hz hd1 => ?_)); obtain ⟨b24, hb24⟩ : ∃ b, b = s0.w.heap.size := ⟨_, rfl⟩; rw [← hb24] at BB3 h2; have B24 := BB3; have l24 : s0.w.heap.size ≤ b24 := by have := E.size; omega
 have ⟨hd, E⟩ := hdE hd1 hd E he; have h1 := V_at h1 he (hf 1 rfl); obtain ⟨u6, u7, u8, u9, u10, u11, u12, u13, u14, rfl, c15, c16, c17, c18, c19, c20, c21, c22, c23⟩ := kFrame_open r5; refine sq_set hz rfl rfl rfl (op_boxn rfl rfl h1 (fun s26 e28 he BB27 r29 => fun a25 h3 hf hz hd1 => ?_)); obtain ⟨b48, hb48⟩ : ∃ b, b = s2.w.heap.size := ⟨_, rfl⟩; rw [← hb48] at BB27 h3; have B48 := BB27; have l48 : s0.w.heap.size ≤ b48 := by have := E.size; omega
 have ⟨hd, E⟩ := hdE hd1 hd E he; have h2 := (hf 2 rfl).trans h2; have B24 := B24.ext he; obtain ⟨c15, c16, c17, c18, c19, c20, c21, c22, c23⟩ := vm9 he c15 c16 c17 c18 c19 c20 c21 c22 c23; obtain ⟨u30, u31, u32, u33, u34, u35, u36, u37, u38, rfl, c39, c40, c41, c42, c43, c44, c45, c46, c47⟩ := kFrame_open r29; refine sq_blk (its := [⟨4, _, []⟩]) [] hz rfl ⟨(fun a s he hf hz => av rfl rfl b_f), trivial⟩ ?_; intro a49 s50 he hf hz hd1; have ⟨hd, E⟩ := hdE hd1 hd E he; obtain ⟨h2, h3⟩ := ea2 hf h2 h3 rfl; obtain ⟨B24, B48⟩ := bx2 he B24 B48; obtain ⟨c15, c16, c17, c18, c19, c20, c21, c22, c23, c39, c40, c41⟩ := vm12 he c15 c16 c17 c18 c19 c20 c21 c22 c23 c39 c40 c41; obtain ⟨c42, c43, c44, c45, c46, c47⟩ := vm6 he c42 c43 c44 c45 c46 c47; refine wp_sr ?_; have hz0 := hz; refine sq_blk (its := [⟨5, _, []⟩, ⟨6, _, [0]⟩, ⟨7, _, [1]⟩, ⟨8, _, [2]⟩, ⟨9, _, [2, 3]⟩, ⟨10, _, [2, 4]⟩, ⟨11, _, [5]⟩, ⟨12, _, [6]⟩, ⟨13, _, [6]⟩, ⟨14, _, [6, 7, 8]⟩, ⟨15, _, [6, 9]⟩, ⟨4, _, [10]⟩]) [11] hz rfl ⟨(fun a s he hf hz => ld rfl rfl ty_34 rfl ((hf 2 rfl).trans h2) (B24.ext he) rfl (kFrame_eta (x := x0) (vm he c15) (vm he c16) (vm he c17) (vm he c18) (vm he c19) (vm he c20) (vm he c21) (vm he c22) (vm he c23))), (fun a s he hf hz q0 => opw rfl (op_call rfl rfl (frame_Right.ok q0))), mvq rfl rfl, (fun a s he hf hz q2 => og rfl rfl rfl hz hz0 rfl q2 (fun g => op_loadn rfl ty_34 rfl ((hf 3 rfl).trans h3) (B48.ext he) rfl (kFrame_eta (x := x1) (vm he c39) (vm he c40) (vm he c41) (vm he c42) (vm he c43) (vm he c44) (vm he c45) (vm he c46) (vm he c47)))), (fun a s he hf hz q2 q3 => og rfl rfl rfl hz hz0 rfl q2 (fun g => op_call rfl rfl (frame_Right.ok (q3.1 g)))), (fun a s he hf hz q2 q4 => an rfl rfl q2 (q4.1)), mvq rfl rfl, (fun a s he hf hz q6 => og rfl rfl rfl hz hz0 rfl q6 (fun g => op_loadn rfl ty_34 rfl ((hf 2 rfl).trans h2) (B24.ext he) rfl (kFrame_eta (x := x0) (vm he c15) (vm he c16) (vm he c17) (vm he c18) (vm he c19) (vm he c20) (vm he c21) (vm he c22) (vm he c23)))), (fun a s he hf hz q6 => og rfl rfl rfl hz hz0 rfl q6 (fun g => op_loadn rfl ty_34 rfl ((hf 3 rfl).trans h3) (B48.ext he) rfl (kFrame_eta (x := x1) (vm he c39) (vm he c40) (vm he c41) (vm he c42) (vm he c43) (vm he c44) (vm he c45) (vm he c46) (vm he c47)))), (fun a s he hf hz q6 q7 q8 => og rfl rfl rfl hz hz0 rfl q6 (fun g => op_call rfl rfl (frame_equal.ok (q7.1 g) (q8.1 g)))), (fun a s he hf hz q6 q9 => an rfl rfl q6 (q9.1)), avq rfl rfl, trivial⟩ ?_
 intro a51 s52 he hf hz hd1 h4; have ⟨hd, E⟩ := hdE hd1 hd E he; refine wp_ret ?_; cases h
 exact ⟨hd, _, results_tmp rfl _ _ _, E, h4⟩
theorem allP_right : ∀ (l m : List Op), l.length = m.length → (∀ o ∈ l, rightO o = true) → (∀ o ∈ m, rightO o = true) → allP (fun y0 y1 => order_Same y0 y1) l m = decide (l = m)
 | [], [], _, _, _ => by simp [allP]
 | [], _ :: _, h, _, _ => by simp at h
 | _ :: _, [], h, _, _ => by simp at h
 | x :: l, y :: m, h, h1, h2 => by
  have ih := allP_right l m (by simpa using h) (fun o ho => h1 o (by simp [ho])) (fun o ho => h2 o (by simp [ho]))
  have e : order_Same x y = decide (x = y) := by
   unfold order_Same
   rw [h1 x (by simp), h2 y (by simp), order_equal_eq]; simp
  simp only [allP, ih, e]
  by_cases hx : x = y <;> by_cases hl : l = m <;> simp [hx, hl]
theorem eqFn_right {l m : List Op} (h1 : ∀ o ∈ l, rightO o = true) (h2 : ∀ o ∈ m, rightO o = true) : eqFn l m (fun y0 y1 => order_Same y0 y1) = decide (l = m) := by
 unfold eqFn
 by_cases hl : l.length = m.length
 ·rw [allP_right l m hl h1 h2]; simp [hl]
 ·have : ¬ l = m := fun e => hl (by rw [e])
  simp [hl, this]
def sameF (x y : Frame) : Bool := rightF x && rightF y && decide (x = y)
theorem frame_Same_eq (x y : Frame) : frame_Same x y = sameF x y := by
 unfold frame_Same sameF
 rw [frame_Right_eq, frame_Right_eq]
 cases hx : rightF x
 ·simp
 ·cases hy : rightF y
  ·simp
  ·simp only [Bool.true_and]
   unfold frame_equal same_
   rw [eqFn_right (rightF_ops hx) (rightF_ops hy), Bool.eq_iff_iff]
   simp only [Bool.and_eq_true, decide_eq_true_eq]
   constructor
   ·rintro ⟨⟨⟨⟨⟨⟨⟨⟨h1, h2⟩, h3⟩, h4⟩, h5⟩, h6⟩, h7⟩, h8⟩, h9⟩
    cases x; cases y; simp only at *; subst h1 h2 h3 h4 h5 h6 h7 h8 h9; rfl
   ·rintro rfl; exact ⟨⟨⟨⟨⟨⟨⟨⟨rfl, rfl⟩, rfl⟩, rfl⟩, rfl⟩, rfl⟩, rfl⟩, rfl⟩, rfl⟩
end
section
/-- Block b begins with these bytes; none of it is settled. -/
structure Raw (s : St) (b : Nat) (m : Str) : Prop where
  cells : ∀ j, j < m.length → s.w.cell? ⟨b, j, none⟩ = some (.int .u8 ((m.getD j 0).toNat : Int))
  thaw : ∀ j, j < m.length → s.w.frozen? ⟨b, j, none⟩ = false
  lt : b < s.w.heap.size
  free : ∀ a : Addr, a.block = b → s.σ a = none
theorem Raw.chg {M : Nat → Prop} {s t : St} {b : Nat} {m : Str} (h : Raw s b m) (hc : Chg M s t) (hm : ¬ M b) : Raw t b m :=
  ⟨fun j hj => (World.cell?_of_block (hc.block b h.lt hm)).trans (h.cells j hj), fun j hj => (World.frozen?_of_block (hc.block b h.lt hm)).trans (h.thaw j hj), Nat.lt_of_lt_of_le h.lt hc.size,
    fun a ha => (hc.same a (by rw [ha]; exact h.lt) (by rw [ha]; exact hm)).trans (h.free a ha)⟩
section
variable {P : Program} {ro : Option Nat} {o : Oper} {a : Act} {s : St} {K : Value → St → Prop}
theorem op_tobytes_raw {T U E : TypeId} {x : Operand} {m : Str} (ho : o.op = .convert T U x) (h1 : P.underlying T = some .string) (h2 : P.underlying U = some (.slice E)) (h3 : P.underlying E = some (.int .u8)) (hx : kS.V s (a.eval x) m)
    (h : ∀ t c, Ext s t → Raw t s.w.heap.size m → m.length ≤ c → c ≤ maxLen → K (.slice (some ⟨s.w.heap.size, 0, none⟩) m.length c) t) : OpR P ro o a s K := by
  have ex : a.eval x = .string ⟨m.toArray⟩ := List.cons.inj hx.1 |>.1
  have hsz : (⟨m.toArray⟩ : ByteArray).size = m.length := by simp [ByteArray.size]
  have hrun := Lib.run_convert_string_bytes (P := P) s.w T U E ⟨m.toArray⟩ h1 h2 h3
  have hold := fun j hj => Lib.bytesWorld_at_old s.w E ⟨m.toArray⟩ j hj
  let t : St := { w := Lib.bytesWorld s.w E ⟨m.toArray⟩, σ := s.σ, good := fun p v h => (World.cell?_of_block (hold _ (s.lt h))).trans (s.good p v h) }
  have he : Ext s t := ⟨rfl, rfl, rfl, by show _ ≤ (Lib.bytesWorld s.w E _).heap.size; rw [Lib.bytesWorld_size]; omega, fun k hk _ => hold k hk, fun _ _ _ => rfl, fun _ _ h => h⟩
  have hnew := Lib.bytesWorld_at_new s.w E ⟨m.toArray⟩
  refine opr_val (t := t) (v := .slice (some ⟨s.w.heap.size, 0, none⟩) m.length (grownCap s.w m.length 0 E)) (by simp [ho]) (by simp only [execOp, ho, ex, Sem.run_bind, hrun, Result.andThen_ok, hsz]; rfl)
    (h t _ he ⟨fun j hj => ?_, fun j hj => ?_, by show _ < (Lib.bytesWorld s.w E _).heap.size; rw [Lib.bytesWorld_size]; omega, fun p hp => s.none_of_ge (by rw [hp]; exact Nat.le_refl _)⟩ (by simp [grownCap, Question.cut]) (grownCap_le_maxLen _ _ _ _ hx.2))
  · have := Lib.bytesWorld_cell s.w E ⟨m.toArray⟩ j (by rw [hsz]; exact hj)
    simpa using this
  · have hc : m.length ≤ (Lib.bytesCells s.w E ⟨m.toArray⟩).size := by simp [Lib.bytesCells]
    show (Lib.bytesWorld s.w E ⟨m.toArray⟩).frozen? _ = false
    simp only [World.frozen?, hnew]
    simp
    omega
theorem op_iaddr_raw {k : IntKind} {T E : TypeId} {x y : Operand} {b n c : Nat} {i : Int} (ho : o.op = .indexAddr T x y) (hT : SlTy P T E 1) (hx : a.eval x = .slice (some ⟨b, 0, none⟩) n c) (hy : (kI k).V s (a.eval y) i) (h0 : 0 ≤ i) (h1 : i < n) :
    OpR P ro o a s (Okf s (Fact.eq (.pointer (some ⟨b, i.toNat, none⟩)))) := by
  have ey : a.eval y = .int k i := List.cons.inj hy.1 |>.1
  exact opr_pure (v := .pointer (some ((⟨b, 0, none⟩ : Addr).add (i.toNat * 1)))) (by simp [ho]) (by simp [execOp, ho, hx, ey, Instr.indexAt, asIntOf, run_underlying hT.und, h0, h1, hT.size s.w]) (by rw [add_plain, Nat.zero_add, Nat.mul_one]; rfl)
theorem op_store_raw {T : TypeId} {x y : Operand} {b i c : Nat} {m : Str} {v : Int} (ho : o.op = .store T x y) (hT : Ty P T false 1) (hx : a.eval x = .pointer (some ⟨b, i, none⟩)) (hR : Raw s b m) (hi : i < m.length) (hy : (kI .u8).V s (a.eval y) v) (hc1 : m.length ≤ c) (hc2 : c ≤ maxLen)
    (h : ∀ t, Chg (· = b) s t → (kSl kY).V t (.slice (some ⟨b, 0, none⟩) m.length c) (m.set i (UInt8.ofNat v.toNat)) → K undef t) : OpR P ro o a s K := by
  have ey : a.eval y = .int .u8 v := List.cons.inj hy.1 |>.1
  have hv : kY.V s (a.eval y) (UInt8.ofNat v.toNat) := V_i2y hy
  have ev : (v : Int) = ((UInt8.ofNat v.toNat).toNat : Int) := by
    have : a.eval y = .int .u8 ((UInt8.ofNat v.toNat).toNat : Int) := List.cons.inj hv |>.1
    rw [ey] at this; injection this
  have hcell := hR.cells i hi
  have hth := hR.thaw i hi
  let t : St :=
    { w := s.w.setCell ⟨b, i, none⟩ (.int .u8 v)
      σ := fun p => if p.block = b then (if p.spot = none ∧ p.off < m.length then some (.int .u8 (((m.set i (UInt8.ofNat v.toNat)).getD p.off 0).toNat : Int)) else none) else s.σ p
      good := fun p u hp => by
        by_cases e : p.block = b
        · simp only [e, if_true] at hp
          split at hp
          · rename_i h'
            have ep : p = ⟨b, p.off, none⟩ := by
              obtain ⟨pb, po, ps⟩ := p
              simp only at e h'
              rw [e, h'.1]
            cases hp
            by_cases ei : p.off = i
            · have : p = ⟨b, i, none⟩ := by rw [ep, ei]
              rw [this, World.cell?_setCell_same _ _ _ hcell]
              simp only [List.getD_eq_getElem?_getD, List.getElem?_set_self hi, Option.getD_some]
              rw [← ev]
            · rw [World.cell?_setCell_other _ _ _ _ (fun e' => ei (by first | rw [← e'] | rw [e'])), ep, hR.cells _ h'.2]
              simp only [List.getD_eq_getElem?_getD, List.getElem?_set_ne (Ne.symm ei)]
          · cases hp
        · simp only [e, if_false] at hp
          rw [World.cell?_setCell_other _ _ _ _ (fun e' => e (by first | rw [← e'] | rw [e']))]
          exact s.good p u hp }
  have hc : Chg (· = b) s t := ⟨by simp [t, World.setCell], by simp [t, World.setCell], by simp [t, World.setCell], by simp [t, World.setCell], fun k _ hk => Below.heap_setCell _ _ _ _ hk, fun p _ hp => by simp only [t, if_neg hp],
    fun p u hp => by
      have hne : p.block ≠ b := fun e => by rw [hR.free p e] at hp; cases hp
      simp only [t, if_neg hne]; exact hp⟩
  refine opr_skip (t := t) (by simp [ho]) ?_ (h t hc ⟨some ⟨b, 0, none⟩, c, by rw [List.length_set], by rw [List.length_set]; exact hc1, hc2, fun _ => ⟨_, rfl, fun j y hj => ⟨_, rfl, fun q u hu => ?_⟩⟩⟩)
  · simp [execOp, ho, Instr.storeAt, Instr.sureAddr, hx, storeVar, hT.size s.w, ey, Value.cells, storeCells, run_store_int, stored, hcell, hth, Addr.add, t]
  · cases q with
    | succ q => simp at hu
    | zero =>
      simp at hu; subst hu
      have hj' := List.getElem?_eq_some_iff.1 hj
      have hl : j < m.length := by have := hj'.1; rwa [List.length_set] at this
      rw [add_plain]
      simp only [kY, Nat.mul_one, Nat.add_zero, Nat.zero_add]
      show (if _ then (if _ then _ else _) else _) = _
      rw [if_pos rfl, if_pos ⟨rfl, hl⟩]
      simp only [List.getD_eq_getElem?_getD, hj, Option.getD_some]
end
end
section
attribute [local irreducible] Kn.V PtrV
def law14_FrameTurns.f (k : Nat) (x0 : Frame) (x1 : Int) (x2 : Int) : Option (Bool) := (if ((((!decide (((layF x0).2) = 0)) || (decide (x1 < 0))) || (decide ((((layF x0).1).length : Int) ≤ x1))) = false → (0 ≤ x1 ∧ x1 < (((layF x0).1).length : Int))) then (if ((((!decide (((layF x0).2) = 0)) || (decide (x1 < 0))) || (decide ((((layF x0).1).length : Int) ≤ x1))) || (decide (((List.getD ((layF x0).1) (x1).toNat 0).toNat : Int) = x2))) = true then (some (shownT)) else (if (0 ≤ x1 ∧ x1 < (((layF x0).1).length : Int)) then (some ((shownT) && ((decide (((parseF (List.set ((layF x0).1) (x1).toNat (UInt8.ofNat (x2).toNat))).2) = 110)) || ((decide (((parseF (List.set ((layF x0).1) (x1).toNat (UInt8.ofNat (x2).toNat))).2) = 0)) && (!(frame_Same x0 ((parseF (List.set ((layF x0).1) (x1).toNat (UInt8.ofNat (x2).toNat))).1))))))) else none)) else none)
theorem law14_FrameTurns.ok {s0 : St} {v0 : Value} {x0 : Frame} {v1 : Value} {x1 : Int} {v2 : Value} {x2 : Int} {k : Nat} {r : Bool} (k0 : kFrame.V s0 v0 x0) (k1 : (kI .i64).V s0 v1 x1) (k2 : (kI .u8).V s0 v2 x2) (h : law14_FrameTurns.f k x0 x1 x2 = some r) : Cl Try.prog 8 #[v0, v1, v2] s0 (Okf s0 (Fact.v kB r)) := by
 unfold law14_FrameTurns.f at h
 refine cl_of_wp Try.func8 rfl en_8 fun a hz hd hp => ?_; have hz : a.tmps.size = 66 := hz; have E := Chg.refl (fun _ => False) s0; have h0 := V_at k0 E (hp 0 v0 rfl); have h1 := V_at k1 E (hp 1 v1 rfl); have h2 := V_at k2 E (hp 2 v2 rfl); refine wp_sr ?_; refine sq_set hz rfl rfl rfl (op_boxn rfl rfl h0 (fun s2 e4 he BB3 r5 => fun a1 h3 hf hz hd1 => ?_)); obtain ⟨b24, hb24⟩ : ∃ b, b = s0.w.heap.size := ⟨_, rfl⟩; rw [← hb24] at BB3 h3; have B24 := BB3; have l24 : s0.w.heap.size ≤ b24 := by have := E.size; omega
 have ⟨hd, E⟩ := hdE hd1 hd E he; obtain ⟨h1, h2⟩ := va2 he hf h1 h2 rfl; obtain ⟨u6, u7, u8, u9, u10, u11, u12, u13, u14, rfl, c15, c16, c17, c18, c19, c20, c21, c22, c23⟩ := kFrame_open r5; refine sq_blk (its := [⟨6, _, []⟩]) [] hz rfl ⟨(fun a s he hf hz => av rfl rfl b_f), trivial⟩ ?_; intro a25 s26 he hf hz hd1; have ⟨hd, E⟩ := hdE hd1 hd E he; obtain ⟨h1, h2⟩ := va2 he hf h1 h2 rfl; have h3 := (hf 3 rfl).trans h3; have B24 := B24.ext he; obtain ⟨c15, c16, c17, c18, c19, c20, c21, c22, c23⟩ := vm9 he c15 c16 c17 c18 c19 c20 c21 c22 c23; refine wp_sr ?_; refine sq_blk (its := [⟨13, _, []⟩, ⟨7, _, [0]⟩]) [1] hz rfl ⟨(fun a s he hf hz => opw rfl (op_call rfl rfl (law14_shown.ct ))), avq rfl rfl, trivial⟩ ?_; intro a27 s28 he hf hz hd1 h7; have ⟨hd, E⟩ := hdE hd1 hd E he; obtain ⟨h1, h2⟩ := va2 he hf h1 h2 rfl; have h3 := (hf 3 rfl).trans h3; have B24 := B24.ext he; obtain ⟨c15, c16, c17, c18, c19, c20, c21, c22, c23⟩ := vm9 he c15 c16 c17 c18 c19 c20 c21 c22 c23; refine wp_sr ?_
 refine sq_blk (its := [⟨15, _, []⟩, ⟨16, _, [0]⟩, ⟨14, _, [1]⟩, ⟨17, _, [2]⟩, ⟨18, _, [2]⟩, ⟨8, _, [3]⟩, ⟨9, _, [4]⟩]) [5, 6] hz rfl ⟨(fun a s he hf hz => ld rfl rfl ty_34 rfl ((hf 3 rfl).trans h3) (B24.ext he) rfl (kFrame_eta (x := x0) (vm he c15) (vm he c16) (vm he c17) (vm he c18) (vm he c19) (vm he c20) (vm he c21) (vm he c22) (vm he c23))), (fun a s he hf hz q0 => opw rfl (op_call rfl rfl (frame_Lay.ct q0))), (fun a s he hf hz q1 => opw rfl (op_move rfl (f := Fact.tup _) q1)), (fun a s he hf hz q2 => opw rfl (op_extract (f := Fact.v _ _) rfl q2 rfl)), (fun a s he hf hz q2 => opw rfl (op_extract (f := Fact.v _ _) rfl q2 rfl)), avq rfl rfl, avq rfl rfl, trivial⟩ ?_; intro a29 s30 he hf hz hd1 h8 h9; have ⟨hd, E⟩ := hdE hd1 hd E he; obtain ⟨h1, h2, h7⟩ := va3 he hf h1 h2 h7 rfl; have h3 := (hf 3 rfl).trans h3; have B24 := B24.ext he; obtain ⟨c15, c16, c17, c18, c19, c20, c21, c22, c23⟩ := vm9 he c15 c16 c17 c18 c19 c20 c21 c22 c23; refine wp_seq ?_; refine wp_sr ?_; obtain ⟨D31, h⟩ := need h; have hz0 := hz
 refine sq_blk (its := [⟨19, _, []⟩, ⟨20, _, [0]⟩, ⟨21, _, [1]⟩, ⟨22, _, [2]⟩, ⟨23, _, [2, 3]⟩, ⟨24, _, [2, 4]⟩, ⟨25, _, [5]⟩, ⟨26, _, [6]⟩, ⟨27, _, [6]⟩, ⟨28, _, [6, 8]⟩, ⟨29, _, [6, 7, 9]⟩, ⟨30, _, [6, 10]⟩, ⟨31, _, [11]⟩, ⟨32, _, [12]⟩, ⟨33, _, [12]⟩, ⟨34, _, [12, 13, 14]⟩, ⟨35, _, [12]⟩, ⟨36, _, [12, 15, 16]⟩, ⟨37, _, [12, 17]⟩]) [18] hz rfl ⟨mvs rfl rfl h9 rfl, (fun a s he hf hz q0 => ne_ rfl rfl q0 i0), mvq rfl rfl, (fun a s he hf hz q2 => og rfl rfl rfl hz hz0 rfl q2 (fun g => op_move_v rfl (V_at h1 he (hf 1 rfl)))), (fun a s he hf hz q2 q3 => og rfl rfl rfl hz hz0 rfl q2 (fun g => op_lss rfl (q3.1 g) i0)), (fun a s he hf hz q2 q4 => oe rfl rfl q2 (q4.1)), mvq rfl rfl, (fun a s he hf hz q6 => og rfl rfl rfl hz hz0 rfl q6 (fun g => op_move_v rfl (V_at h1 he (hf 1 rfl)))), (fun a s he hf hz q6 => og rfl rfl rfl hz hz0 rfl q6 (fun g => op_move_v rfl (V_at h8 he (hf 8 rfl)))), (fun a s he hf hz q6 q8 => og rfl rfl rfl hz hz0 rfl q6 (fun g => op_len_s rfl u_9 (q8.1 g))), (fun a s he hf hz q6 q7 q9 => og rfl rfl rfl hz hz0 rfl q6 (fun g => op_geq rfl (q7.1 g) (q9.1 g))), (fun a s he hf hz q6 q10 => oe rfl rfl q6 (q10.1)), mvq rfl rfl, (fun a s he hf hz q12 => og rfl rfl rfl hz hz0 rfl q12 (fun g => op_move_v rfl (V_at h8 he (hf 8 rfl)))), (fun a s he hf hz q12 => og rfl rfl rfl hz hz0 rfl q12 (fun g => op_move_v rfl (V_at h1 he (hf 1 rfl)))), (fun a s he hf hz q12 q13 q14 => og rfl rfl rfl hz hz0 rfl q12 (fun g => op_index_s rfl u_9 (q13.1 g) (q14.1 g) (D31 g).1 (D31 g).2)), (fun a s he hf hz q12 => og rfl rfl rfl hz hz0 rfl q12 (fun g => op_move_v rfl (V_at h2 he (hf 2 rfl)))), (fun a s he hf hz q12 q15 q16 => og rfl rfl rfl hz hz0 rfl q12 (fun g => op_eql rfl (q15.1 g) (q16.1 g))), (fun a s he hf hz q12 q17 => oe rfl rfl q12 (q17.1)), trivial⟩ ?_
 intro a32 s33 he hf hz hd1 h37; have ⟨hd, E⟩ := hdE hd1 hd E he; obtain ⟨h1, h2, h7, h8⟩ := va4 he hf h1 h2 h7 h8 rfl; have h3 := (hf 3 rfl).trans h3; have B24 := B24.ext he; obtain ⟨c15, c16, c17, c18, c19, c20, c21, c22, c23⟩ := vm9 he c15 c16 c17 c18 c19 c20 c21 c22 c23; refine wp_condV h37 (fun hb => ?_) (fun hb => ?_)
 ·have h := ite_t hb h; refine wp_sr ?_; refine sq_blk (its := [⟨38, _, []⟩, ⟨6, _, [0]⟩]) [1] hz rfl ⟨mvs rfl rfl h7 rfl, avq rfl rfl, trivial⟩ ?_; intro a34 s35 he hf hz hd1 h6; have ⟨hd, E⟩ := hdE hd1 hd E he; refine wp_ret ?_; cases h
  exact ⟨hd, _, results_tmp rfl _ _ _, E, h6⟩
 ·have h := ite_f hb h; refine wp_skip ?_; refine wp_sr ?_; refine sq_blk (its := [⟨39, _, []⟩]) [0] hz rfl ⟨mvs rfl rfl h8 rfl, trivial⟩ ?_; intro a36 s37 he hf hz hd1 h39; have ⟨hd, E⟩ := hdE hd1 hd E he; obtain ⟨h1, h2, h7⟩ := va3 he hf h1 h2 h7 rfl; have h3 := (hf 3 rfl).trans h3; have B24 := B24.ext he; obtain ⟨c15, c16, c17, c18, c19, c20, c21, c22, c23⟩ := vm9 he c15 c16 c17 c18 c19 c20 c21 c22 c23; refine sq_set hz rfl rfl rfl (op_tobytes_raw rfl u_9 u_53 u_5 h39 (fun s39 cap40 he RR hq1 hq2 => fun a38 h40 hf hz hd1 => ?_)); obtain ⟨b41, hb41⟩ : ∃ b, b = s37.w.heap.size := ⟨_, rfl⟩; rw [← hb41] at RR h40; have R41 := RR; have l41 : s0.w.heap.size ≤ b41 := by have := E.size; omega
  have n41_24 : b41 ≠ b24 := by have := B24.lt; omega
  have ⟨hd, E⟩ := hdE hd1 hd E he; obtain ⟨h1, h2, h7⟩ := va3 he hf h1 h2 h7 rfl; have h3 := (hf 3 rfl).trans h3; have B24 := B24.ext he; obtain ⟨c15, c16, c17, c18, c19, c20, c21, c22, c23⟩ := vm9 he c15 c16 c17 c18 c19 c20 c21 c22 c23; refine sq_blk (its := [⟨10, _, []⟩]) [0] hz rfl ⟨aes rfl rfl h40 rfl, trivial⟩ ?_; intro a42 s43 he hf hz hd1 h10; have ⟨hd, E⟩ := hdE hd1 hd E he; obtain ⟨h1, h2, h7⟩ := va3 he hf h1 h2 h7 rfl; have h3 := (hf 3 rfl).trans h3; have R41 := R41.chg he (fun h => h); have B24 := B24.ext he; obtain ⟨c15, c16, c17, c18, c19, c20, c21, c22, c23⟩ := vm9 he c15 c16 c17 c18 c19 c20 c21 c22 c23; refine wp_sr ?_; obtain ⟨D44, h⟩ := need h; refine sq_blk (its := [⟨41, _, []⟩, ⟨42, _, []⟩, ⟨43, _, []⟩, ⟨44, _, [0, 1]⟩]) [2, 3] hz rfl ⟨mes rfl rfl h10 rfl, mvs rfl rfl h1 rfl, mvs rfl rfl h2 rfl, (fun a s he hf hz q0 q1 => opw rfl (op_iaddr_raw rfl sl_53 q0 q1 D44.1 D44.2)), trivial⟩ ?_; intro a45 s46 he hf hz hd1 h43 h44; have hd := hd1.trans hd; have h7 := V_at h7 he (hf 7 rfl); obtain ⟨h3, h10⟩ := ea2 hf h3 h10 rfl; have R41 := R41.chg he (fun h => h); have B24 := B24.ext he
  obtain ⟨c15, c16, c17, c18, c19, c20, c21, c22, c23⟩ := vm9 he c15 c16 c17 c18 c19 c20 c21 c22 c23; have E := E.trans he; refine sq_do rfl rfl (op_store_raw rfl ty_5 h44 R41 (by have := D44.1; have := D44.2; omega) h43 hq1 hq2 (fun s48 he hV => ?_)); have h7 := vm he h7; have B24 := B24.chg he (fun e => (Ne.symm n41_24) e); obtain ⟨c15, c16, c17, c18, c19, c20, c21, c22, c23⟩ := vm9 he c15 c16 c17 c18 c19 c20 c21 c22 c23; have E := Chg.chg E he (fun b e h => absurd h (by cases e; exact Nat.not_lt.2 l41)); have h10 := V_eq h10 hV; refine wp_sr ?_; refine sq_blk (its := [⟨46, _, []⟩, ⟨47, _, [0]⟩, ⟨48, _, [1]⟩, ⟨45, _, [2]⟩, ⟨49, _, [3]⟩, ⟨50, _, [3]⟩]) [4, 5] hz rfl ⟨mvs rfl rfl h10 rfl, (fun a s he hf hz q0 => opw rfl (op_tostr rfl u_53 u_5 u_9 q0)), (fun a s he hf hz q1 => opw rfl (op_call rfl rfl (frame_Read.ct q1))), (fun a s he hf hz q2 => opw rfl (op_move rfl (f := Fact.tup _) q2)), (fun a s he hf hz q3 => opw rfl (op_extract (f := Fact.v _ _) rfl q3 rfl)), (fun a s he hf hz q3 => opw rfl (op_extract (f := Fact.v _ _) rfl q3 rfl)), trivial⟩ ?_; intro a49 s50 he hf hz hd1 h49 h50; have hd := hd1.trans hd; have h7 := V_at h7 he (hf 7 rfl)
  have h3 := (hf 3 rfl).trans h3; have B24 := B24.ext he; obtain ⟨c15, c16, c17, c18, c19, c20, c21, c22, c23⟩ := vm9 he c15 c16 c17 c18 c19 c20 c21 c22 c23; have E := E.trans he; refine sq_set hz rfl rfl rfl (op_alloc (cs := [.int .i64 0, .string ⟨#[]⟩, .string ⟨#[]⟩, .string ⟨#[]⟩, .int .i64 0, .int .i64 0, .int .i64 0, .slice none 0 0, .slice none 0 0]) rfl zv_34 rfl (fun s52 he BB53 => fun a51 h11 hf hz hd1 => ?_)); obtain ⟨b63, hb63⟩ : ∃ b, b = s50.w.heap.size := ⟨_, rfl⟩; rw [← hb63] at BB53 h11; have B63 := BB53; have l63 : s0.w.heap.size ≤ b63 := by have := E.size; omega
  have n63_24 : b63 ≠ b24 := by have := B24.lt; omega
  have ⟨hd, E⟩ := hdE hd1 hd E he; obtain ⟨h7, h49, h50⟩ := va3 he hf h7 h49 h50 rfl; have h3 := (hf 3 rfl).trans h3; have B24 := B24.ext he; obtain ⟨c15, c16, c17, c18, c19, c20, c21, c22, c23⟩ := vm9 he c15 c16 c17 c18 c19 c20 c21 c22 c23; have c54 : (kI .i64).V s52 (.int .i64 0) 0 := i0; have c55 : kS.V s52 (.string ⟨#[]⟩) ([] : Str) := s_0; have c56 : kS.V s52 (.string ⟨#[]⟩) ([] : Str) := s_0; have c57 : kS.V s52 (.string ⟨#[]⟩) ([] : Str) := s_0; have c58 : (kI .i64).V s52 (.int .i64 0) 0 := i0; have c59 : (kI .i64).V s52 (.int .i64 0) 0 := i0; have c60 : (kI .i64).V s52 (.int .i64 0) 0 := i0; have c61 : (kSl kDot).V s52 (.slice none 0 0) ([] : (List Dot)) := (lit_nil (d := kDot)); have c62 : (kSl kOp).V s52 (.slice none 0 0) ([] : (List Op)) := (lit_nil (d := kOp)); refine sq_do rfl rfl (op_storen rfl ty_34 rfl h11 B63 h49 rfl (fun s65 e66 he B63n r67 => ?_)); obtain ⟨h7, h50⟩ := vm2 he h7 h50
  have B24 := B24.chg he (fun e => (Ne.symm n63_24) e); obtain ⟨c15, c16, c17, c18, c19, c20, c21, c22, c23⟩ := vm9 he c15 c16 c17 c18 c19 c20 c21 c22 c23; have E := Chg.chg E he (fun b e h => (fun e => absurd h (by cases e; exact Nat.not_lt.2 l63)) e); obtain ⟨u68, u69, u70, u71, u72, u73, u74, u75, u76, rfl, c77, c78, c79, c80, c81, c82, c83, c84, c85⟩ := kFrame_open r67; have B63 : Bx s65 b63 34 [u68, u69, u70, u71, u72, u73, u74, u75, u76] := B63n; refine sq_blk (its := [⟨12, _, []⟩]) [0] hz rfl ⟨avs rfl rfl h50 rfl, trivial⟩ ?_; intro a86 s87 he hf hz hd1 h12; have ⟨hd, E⟩ := hdE hd1 hd E he; have h7 := V_at h7 he (hf 7 rfl); obtain ⟨h3, h11⟩ := ea2 hf h3 h11 rfl; obtain ⟨B24, B63⟩ := bx2 he B24 B63; obtain ⟨c15, c16, c17, c18, c19, c20, c21, c22, c23, c77, c78, c79⟩ := vm12 he c15 c16 c17 c18 c19 c20 c21 c22 c23 c77 c78 c79; obtain ⟨c80, c81, c82, c83, c84, c85⟩ := vm6 he c80 c81 c82 c83 c84 c85; refine wp_sr ?_; have hz0 := hz
  refine sq_blk (its := [⟨51, _, []⟩, ⟨52, _, [0]⟩, ⟨53, _, [1]⟩, ⟨54, _, [1, 2]⟩, ⟨55, _, [1, 3]⟩, ⟨56, _, [4]⟩, ⟨57, _, [4, 5]⟩, ⟨58, _, [4, 6]⟩, ⟨59, _, [7]⟩, ⟨60, _, [7]⟩, ⟨61, _, [7, 8, 9]⟩, ⟨62, _, [7, 10]⟩, ⟨63, _, [4, 7, 11]⟩, ⟨64, _, [1, 4, 12]⟩, ⟨65, _, [1, 13]⟩, ⟨6, _, [14]⟩]) [15] hz rfl ⟨mvs rfl rfl h7 rfl, mvq rfl rfl, (fun a s he hf hz q1 => og rfl rfl rfl hz hz0 rfl q1 (fun g => op_move_v rfl (V_at h12 he (hf 12 rfl)))), (fun a s he hf hz q1 q2 => og rfl rfl rfl hz hz0 rfl q1 (fun g => op_eql rfl (q2.1 g) (lit_i (k := .i64) (n := 110) (by decide)))), (fun a s he hf hz q1 q3 => og rfl rfl rfl hz hz0 rfl q1 (fun g => op_move_v rfl (q3.1 g))), (fun a s he hf hz q4 => ogg rfl rfl rfl hz hz0 rfl q4 (fun g => op_move_v rfl (V_at h12 he (hf 12 rfl)))), (fun a s he hf hz q4 q5 => ogg rfl rfl rfl hz hz0 rfl q4 (fun g => op_eql rfl (q5.1 g) i0)), (fun a s he hf hz q4 q6 => ogg rfl rfl rfl hz hz0 rfl q4 (fun g => op_move_v rfl (q6.1 g))), (fun a s he hf hz q7 => ogg rfl rfl rfl hz hz0 rfl q7 (fun g => op_loadn rfl ty_34 rfl ((hf 3 rfl).trans h3) (B24.ext he) rfl (kFrame_eta (x := x0) (vm he c15) (vm he c16) (vm he c17) (vm he c18) (vm he c19) (vm he c20) (vm he c21) (vm he c22) (vm he c23)))), (fun a s he hf hz q7 => ogg rfl rfl rfl hz hz0 rfl q7 (fun g => op_loadn rfl ty_34 rfl ((hf 11 rfl).trans h11) (B63.ext he) rfl (kFrame_eta (x := (parseF (List.set ((layF x0).1) (x1).toNat (UInt8.ofNat (x2).toNat))).1) (vm he c77) (vm he c78) (vm he c79) (vm he c80) (vm he c81) (vm he c82) (vm he c83) (vm he c84) (vm he c85)))), (fun a s he hf hz q7 q8 q9 => ogg rfl rfl rfl hz hz0 rfl q7 (fun g => op_call rfl rfl (frame_Same.ok (q8.1 g) (q9.1 g)))), (fun a s he hf hz q7 q10 => ogg rfl rfl rfl hz hz0 rfl q7 (fun g => op_not rfl (q10.1 g))), (fun a s he hf hz q4 q7 q11 => ogg rfl rfl rfl hz hz0 rfl q4 (fun g => op_and_then rfl (q7.1 g) (fun e => q11.1 ⟨g, e⟩))), (fun a s he hf hz q1 q4 q12 => og rfl rfl rfl hz hz0 rfl q1 (fun g => op_or_else rfl (q4.1 g) (fun e => q12.1 ⟨g, e⟩))), (fun a s he hf hz q1 q13 => an rfl rfl q1 (q13.1)), avq rfl rfl, trivial⟩ ?_
  intro a88 s89 he hf hz hd1 h6; have ⟨hd, E⟩ := hdE hd1 hd E he; refine wp_ret ?_; cases h
  exact ⟨hd, _, results_tmp rfl _ _ _, E, h6⟩
theorem set_ne {s : Str} {i : Nat} {c : UInt8} (hi : i < s.length) (h : List.set s i c = s) : List.getD s i 0 = c := by
 have : (List.set s i c)[i]? = some c := List.getElem?_set_self hi
 rw [h] at this
 rw [List.getD_eq_getElem?_getD, this] <;> rfl
theorem frameTurns_cl {s0 : St} {v0 : Value} {x0 : Frame} {v1 : Value} {x1 : Int} {v2 : Value} {x2 : Int} (k0 : kFrame.V s0 v0 x0) (k1 : (kI .i64).V s0 v1 x1) (k2 : (kI .u8).V s0 v2 x2) : Cl Try.prog 8 #[v0, v1, v2] s0 (Okf s0 (Fact.v kB true)) := by
 refine law14_FrameTurns.ok (k := 0) k0 k1 k2 ?_
 have hb := inKu8 (Kn.V_bd k2)
 unfold law14_FrameTurns.f
 cases hr : rightF x0
 ·have hl : layF x0 = ([], 2) := by unfold layF; rw [hr] <;> rfl
  rw [hl]; simp [shownT]
 ·have hl : layF x0 = (sealed x0.kind (frmB x0), 0) := by unfold layF; rw [if_pos hr]
  rw [hl]
  dsimp only
  obtain ⟨s, hs⟩ : ∃ s, s = sealed x0.kind (frmB x0) := ⟨_, rfl⟩
  rw [← hs]
  by_cases hin : 0 ≤ x1 ∧ x1 < (s.length : Int)
  ·rw [if_pos (fun _ => hin)]
   by_cases he : ((List.getD s x1.toNat 0).toNat : Int) = x2
   ·rw [if_pos (by rw [Bool.or_eq_true]; right; exact decide_eq_true he)] <;> rfl
   ·have h1 : ((((!decide ((0 : Int) = 0)) || (decide (x1 < 0))) || (decide ((s.length : Int) ≤ x1))) || (decide (((List.getD s (x1).toNat 0).toNat : Int) = x2))) = false := by
     rw [Bool.or_eq_false_iff, Bool.or_eq_false_iff, Bool.or_eq_false_iff, decide_eq_false_iff_not, decide_eq_false_iff_not, decide_eq_false_iff_not]
     exact ⟨⟨⟨by decide, by omega⟩, by omega⟩, he⟩
    rw [if_neg (by rw [h1]; simp), if_pos hin, frame_Same_eq]
    obtain ⟨t, ht⟩ : ∃ t, t = List.set s x1.toNat (UInt8.ofNat x2.toNat) := ⟨_, rfl⟩
    rw [← ht]
    have hne : t ≠ s := fun e => by
     rw [ht] at e
     have := set_ne (by omega) e
     apply he
     rw [this, UInt8.toNat_ofNat']
     omega
    rcases parseF_lays (x := t) (f := (parseF t).1) (e := (parseF t).2) rfl with ⟨g1, g2, g3⟩ | ⟨g1, g2, g3⟩
    ·have hd : ¬ x0 = (parseF t).1 := fun e => hne (by rw [← g3, ← e, hs])
     simp [shownT, g1, sameF, hd]
    ·simp [shownT, g1]
  ·have h1 : (((!decide ((0 : Int) = 0)) || (decide (x1 < 0))) || (decide ((s.length : Int) ≤ x1))) = true := by
    rw [Bool.or_eq_true, Bool.or_eq_true, decide_eq_true_eq, decide_eq_true_eq]
    omega
   rw [if_pos (fun h => by rw [h1] at h; cases h), if_pos (by rw [h1]; rfl)] <;> rfl
end
end Go.Proofs.Ytfaenhhiogcacaa.Px
