/-
  PARTS OF ONE PROOF: W17 W19 W20 W21 W22 W23. CONDITIONS: none of their own; each line names its own.
-/
import Derived.Test.YtfaenhhiogcacaaZFrameTurns3
import Derived.Test.YtfaenhhiogcacaaProg
import Derived.KernelRfl
set_option linter.unusedSimpArgs false
set_option linter.unusedVariables false
set_option maxRecDepth 4000
set_option maxHeartbeats 1000000
namespace Go.Proofs.Ytfaenhhiogcacaa.Px
open Go Go.RowKit
section
attribute [local irreducible] Kn.V PtrV
theorem numM_sfx {most : Nat} {x r : Str} {n : Nat} (h : numM most x = some (n, r)) : r <:+ x := ⟨numB n, (numM_lays h).1.symm⟩
theorem readD_sfx {w : Int} {x r : Str} {d : Dot} (h : readD w x = some (d, r)) : r <:+ x := ⟨dotB d, (readD_lays h).1.symm⟩
theorem readV_sfx {x r : Str} {l : List Dot} (h : readV x = some (l, r)) : r <:+ x := ⟨vecB l, (readV_lays h).1.symm⟩
theorem takeV_sfx {r b : Str} (h : r <:+ b) : takeV b ((b.length : Int) - r.length) = match readV r with
  | none => ([], 0, 70)
  | some (l, q) => (l, (b.length : Int) - q.length, 0) := by
 rw [sfx_at h]
 unfold takeV
 rw [if_neg (by omega), Int.toNat_natCast, sfx_drop h] <;> rfl
theorem rdT {b r : Str} (h : r <:+ b) : order_reader_text ⟨b, (b.length : Int) - r.length, false⟩ = match readT 32 r with
  | none => (⟨b, (b.length : Int) - r.length, true⟩, [])
  | some (x, q) => (⟨b, (b.length : Int) - q.length, false⟩, x) := by
 unfold order_reader_text
 simp only [takeT_sfx 32 h]
 cases readT 32 r with
 | none => simp
 | some p => simp
theorem rdN {b r : Str} (h : r <:+ b) : order_reader_number ⟨b, (b.length : Int) - r.length, false⟩ = match numM 4611686018427387904 r with
  | none => (⟨b, (b.length : Int) - r.length, true⟩, 0)
  | some (n, q) => (⟨b, (b.length : Int) - q.length, false⟩, (n : Int)) := by
 unfold order_reader_number numM
 simp only [takeN_sfx h]
 cases readN r with
 | none => simp
 | some p =>
  obtain ⟨n, q⟩ := p
  simp only [Option.bind_some]
  by_cases hn : 4611686018427387904 < n
  ·have h2 : (4611686018427387904 : Int) < (n : Int) := by omega
   rw [if_pos hn]; simp [h2]
  ·have h2 : ¬ (4611686018427387904 : Int) < (n : Int) := by omega
   rw [if_neg hn]; simp [h2]; exact w64 (by omega) (by omega)
theorem rdT_bad (b : Str) (i : Int) : order_reader_text ⟨b, i, true⟩ = (⟨b, i, true⟩, []) := by unfold order_reader_text; simp
theorem rdN_bad (b : Str) (i : Int) : order_reader_number ⟨b, i, true⟩ = (⟨b, i, true⟩, 0) := by unfold order_reader_number; simp
theorem rdD_bad (b : Str) (i : Int) : order_reader_dot ⟨b, i, true⟩ = (⟨b, i, true⟩, ⟨[], 0⟩) := by unfold order_reader_dot; simp only [rdT_bad, rdN_bad]
theorem rdD {b r : Str} (h : r <:+ b) : (∃ i w, readD 32 r = none ∧ order_reader_dot ⟨b, (b.length : Int) - r.length, false⟩ = (⟨b, i, true⟩, w)) ∨ (∃ d q, readD 32 r = some (d, q) ∧ order_reader_dot ⟨b, (b.length : Int) - r.length, false⟩ = (⟨b, (b.length : Int) - q.length, false⟩, d)) := by
 unfold order_reader_dot readD
 have h1 := rdT h
 cases e : readT 32 r with
 | none => rw [e] at h1; simp only [] at h1; left; rw [h1]; simp only [rdN_bad]; exact ⟨_, _, rfl, rfl⟩
 | some p =>
  obtain ⟨x, q⟩ := p
  rw [e] at h1; simp only [] at h1
  have h2 := rdN ((readT_sfx e).trans h)
  simp only [Option.bind_some]
  cases e2 : numM 4611686018427387904 q with
  | none => rw [e2] at h2; simp only [] at h2; left; rw [h1]; simp only [h2]; exact ⟨_, _, rfl, rfl⟩
  | some p2 =>
   obtain ⟨n, q2⟩ := p2
   rw [e2] at h2; simp only [] at h2; right; rw [h1]; simp only [h2]; exact ⟨_, _, rfl, rfl⟩
def order_Read.l0 : Nat → Str → (Reader × Int) → Int → (List UInt8) → Int → Bool → Str → Int → (List Dot) → Str → Int → Str → Int → (List Dot) → Option (Op × Int)
 | 0, _, _, _, _, _, _, _, _, _, _, _, _, _, _ => none
 | m299 + 1, x0, y215, y264, y265, y268, y271, y274, y277, y280, y283, y286, y289, y292, y295 => (if decide (y264 < y215.2) = true then (if (List.length y295 + List.length ([(order_reader_dot (⟨y265, y268, y271⟩ : Reader)).2] : List Dot)) * 24 ≤ 140737488355328 then (order_Read.l0 m299 x0 y215 (IntKind.wrap .i64 (y264 + 1)) ((order_reader_dot (⟨y265, y268, y271⟩ : Reader)).1.b) ((order_reader_dot (⟨y265, y268, y271⟩ : Reader)).1.at_) ((order_reader_dot (⟨y265, y268, y271⟩ : Reader)).1.bad) y274 y277 y280 y283 y286 y289 y292 (y295 ++ ([(order_reader_dot (⟨y265, y268, y271⟩ : Reader)).2] : List Dot))) else none) else (if ((y271 || (!decide (y268 = (x0.length : Int)))) || (!(rightO (⟨(⟨y274, y277⟩ : Dot), y280, y283, y286, y289, y292, y295⟩ : Op)))) = true then (some ((⟨(⟨([] : Str), 0⟩ : Dot), ([] : (List Dot)), ([] : Str), 0, ([] : Str), 0, ([] : (List Dot))⟩ : Op), 80)) else (some ((⟨(⟨y274, y277⟩ : Dot), y280, y283, y286, y289, y292, y295⟩ : Op), 0))))
def order_Read.f (k : Nat) (x0 : Str) : Option (Op × Int) := (bindv (order_reader_dot (⟨x0, 0, false⟩ : Reader)) (fun y38 => (if (y38.1.bad || (!decide (((takeV y38.1.b y38.1.at_).2.2) = 0))) = true then (some ((⟨(⟨([] : Str), 0⟩ : Dot), ([] : (List Dot)), ([] : Str), 0, ([] : Str), 0, ([] : (List Dot))⟩ : Op), 80)) else (bindv (order_reader_text (⟨y38.1.b, (takeV y38.1.b y38.1.at_).2.1, y38.1.bad⟩ : Reader)) (fun y139 => (bindv (order_reader_text y139.1) (fun y153 => (bindv (order_reader_number y153.1) (fun y179 => (bindv (order_reader_number y179.1) (fun y195 => (bindv (order_reader_number y195.1) (fun y215 => (if ((y215.1.bad || (decide (3 < y179.2))) || (decide (128 < y215.2))) = true then (some ((⟨(⟨([] : Str), 0⟩ : Dot), ([] : (List Dot)), ([] : Str), 0, ([] : Str), 0, ([] : (List Dot))⟩ : Op), 80)) else (order_Read.l0 k x0 y215 0 y215.1.b y215.1.at_ y215.1.bad y38.2.who y38.2.n ((takeV y38.1.b y38.1.at_).1) y139.2 y179.2 y153.2 y195.2 ([] : (List Dot)))))))))))))))))
theorem order_Read.ok {s0 : St} {v0 : Value} {x0 : Str} {k : Nat} {r : Op × Int} (k0 : kS.V s0 v0 x0) (h : order_Read.f k x0 = some r) : Cl Try.prog 63 #[v0] s0 (Okf s0 (Fact.tup [Fact.v kOp r.1, Fact.v (kI .i64) r.2])) := by
 unfold order_Read.f at h
 refine cl_of_wp Try.func63 rfl en_63 fun a hz hd hp => ?_; have hz : a.tmps.size = 105 := hz; have E := Chg.refl (fun _ => False) s0; have h0 := V_at k0 E (hp 0 v0 rfl); refine wp_sr ?_; refine sq_set hz rfl rfl rfl (op_alloc (cs := [.string ⟨#[]⟩, .int .i64 0, .slice none 0 0, .string ⟨#[]⟩, .int .i64 0, .string ⟨#[]⟩, .int .i64 0, .slice none 0 0]) rfl zv_72 rfl (fun s2 he BB3 => fun a1 h2 hf hz hd1 => ?_)); obtain ⟨b12, hb12⟩ : ∃ b, b = s0.w.heap.size := ⟨_, rfl⟩; rw [← hb12] at BB3 h2; have B12 := BB3; have l12 : s0.w.heap.size ≤ b12 := by have := E.size; omega
 have ⟨hd, E⟩ := hdE hd1 hd E he; have h0 := V_at h0 he (hf 0 rfl); have c4 : kS.V s2 (.string ⟨#[]⟩) ([] : Str) := s_0; have c5 : (kI .i64).V s2 (.int .i64 0) 0 := i0; have c6 : (kSl kDot).V s2 (.slice none 0 0) ([] : (List Dot)) := (lit_nil (d := kDot)); have c7 : kS.V s2 (.string ⟨#[]⟩) ([] : Str) := s_0; have c8 : (kI .i64).V s2 (.int .i64 0) 0 := i0; have c9 : kS.V s2 (.string ⟨#[]⟩) ([] : Str) := s_0; have c10 : (kI .i64).V s2 (.int .i64 0) 0 := i0; have c11 : (kSl kDot).V s2 (.slice none 0 0) ([] : (List Dot)) := (lit_nil (d := kDot)); have p12_2 : Sp s2 (.slice none 0 0) 70 2 := Spare.nil _ _ _ 0; have f12_2 : ∀ g, sb (.slice none 0 0) = some g → s0.w.heap.size ≤ g ∧ g ≠ b12 := fun g hg => by simp [sb] at hg
 have p12_7 : Sp s2 (.slice none 0 0) 70 2 := Spare.nil _ _ _ 0; have f12_7 : ∀ g, sb (.slice none 0 0) = some g → s0.w.heap.size ≤ g ∧ g ≠ b12 := fun g hg => by simp [sb] at hg
 refine sq_blk (its := [⟨3, _, []⟩]) [] hz rfl ⟨(fun a s he hf hz => av rfl rfl i0), trivial⟩ ?_; intro a15 s16 he hf hz hd1; have ⟨hd, E⟩ := hdE hd1 hd E he; have h0 := V_at h0 he (hf 0 rfl); have h2 := (hf 2 rfl).trans h2; have p12_2 := px he p12_2; have p12_7 := px he p12_7; have B12 := B12.ext he; obtain ⟨c4, c5, c6, c7, c8, c9, c10, c11⟩ := vm8 he c4 c5 c6 c7 c8 c9 c10 c11; refine wp_sr ?_; refine sq_blk (its := [⟨11, _, []⟩, ⟨12, _, [0]⟩, ⟨13, _, [1]⟩]) [2] hz rfl ⟨mvs rfl rfl h0 rfl, (fun a s he hf hz q0 => opw rfl (op_tobytes rfl u_9 u_53 u_5 q0)), (fun a s he hf hz q1 => opw rfl (op_build rfl bt_147 (ps := [(0, [(a.get 12)])]) ⟨rfl, V_cells1 (s := s) rfl q1, trivial⟩ rfl (f := Fact.v kReader (⟨x0, 0, false⟩ : Reader)) (V_mk rfl (kReader_close q1 i0 b_f)))), trivial⟩ ?_; intro a17 s18 he hf hz hd1 h13; have hd := hd1.trans hd; have h0 := V_at h0 he (hf 0 rfl); have h2 := (hf 2 rfl).trans h2; have p12_2 := px he p12_2; have p12_7 := px he p12_7; have B12 := B12.ext he; obtain ⟨c4, c5, c6, c7, c8, c9, c10, c11⟩ := vm8 he c4 c5 c6 c7 c8 c9 c10 c11
 have E := E.trans he; refine sq_set hz rfl rfl rfl (op_boxn rfl rfl h13 (fun s20 e22 he BB21 r23 => fun a19 h14 hf hz hd1 => ?_)); obtain ⟨b30, hb30⟩ : ∃ b, b = s18.w.heap.size := ⟨_, rfl⟩; rw [← hb30] at BB21 h14; have B30 := BB21; have l30 : s0.w.heap.size ≤ b30 := by have := E.size; omega
 have n30_12 : b30 ≠ b12 := by have := B12.lt; omega
 have f12_2 : ∀ g, sb (.slice none 0 0) = some g → s0.w.heap.size ≤ g ∧ g ≠ b12 ∧ g ≠ b30 := fun g hg => ⟨(f12_2 g hg).1, (f12_2 g hg).2, (by have := Spare.lt p12_2 hg; omega)⟩; have f12_7 : ∀ g, sb (.slice none 0 0) = some g → s0.w.heap.size ≤ g ∧ g ≠ b12 ∧ g ≠ b30 := fun g hg => ⟨(f12_7 g hg).1, (f12_7 g hg).2, (by have := Spare.lt p12_7 hg; omega)⟩; have ⟨hd, E⟩ := hdE hd1 hd E he; have h0 := V_at h0 he (hf 0 rfl); have h2 := (hf 2 rfl).trans h2; have p12_2 := px he p12_2; have p12_7 := px he p12_7; have B12 := B12.ext he; obtain ⟨c4, c5, c6, c7, c8, c9, c10, c11⟩ := vm8 he c4 c5 c6 c7 c8 c9 c10 c11; obtain ⟨u24, u25, u26, rfl, c27, c28, c29⟩ := kReader_open r23; refine sq_blk (its := [⟨4, _, []⟩]) [0] hz rfl ⟨aes rfl rfl h14 rfl, trivial⟩ ?_; intro a31 s32 he hf hz hd1 h4; have ⟨hd, E⟩ := hdE hd1 hd E he; have h0 := V_at h0 he (hf 0 rfl); have h2 := (hf 2 rfl).trans h2; have p12_2 := px he p12_2; have p12_7 := px he p12_7; obtain ⟨B12, B30⟩ := bx2 he B12 B30; obtain ⟨c4, c5, c6, c7, c8, c9, c10, c11, c27, c28, c29⟩ := vm11 he c4 c5 c6 c7 c8 c9 c10 c11 c27 c28 c29; refine wp_sr ?_
 refine sq_blk (its := [⟨15, _, []⟩]) [0] hz rfl ⟨mes rfl rfl h4 rfl, trivial⟩ ?_; intro a33 s34 he hf hz hd1 h15; have ⟨hd, E⟩ := hdE hd1 hd E he; have h0 := V_at h0 he (hf 0 rfl); obtain ⟨h2, h4⟩ := ea2 hf h2 h4 rfl; have p12_2 := px he p12_2; have p12_7 := px he p12_7; obtain ⟨B12, B30⟩ := bx2 he B12 B30; obtain ⟨c4, c5, c6, c7, c8, c9, c10, c11, c27, c28, c29⟩ := vm11 he c4 c5 c6 c7 c8 c9 c10 c11 c27 c28 c29; refine sq_set hz rfl rfl rfl (op_call rfl (argc h15 rfl) (Cl.mono (order_reader_dot.ok ⟨_, B30, (kReader_close c27 c28 c29)⟩) (fun v s36 hR => fun a35 hd' hf hz hd1 => ?_))); obtain ⟨he, H37, hv⟩ := hR; obtain ⟨y38, hy, h⟩ := bindv_h h; rw [hy] at H37 hv; have hd := hd1.trans hd; have h0 := V_at h0 he (hf 0 rfl); obtain ⟨h2, h4⟩ := ea2 hf h2 h4 rfl; have B12 := B12.chg he (fun e => (Ne.symm n30_12) e); have p12_2 := Sp.chg p12_2 he (fun g hg => (fun e => (f12_2 g hg).2.2 e)); have p12_7 := Sp.chg p12_7 he (fun g hg => (fun e => (f12_7 g hg).2.2 e)); obtain ⟨c4, c5, c6, c7, c8, c9, c10, c11⟩ := vm8 he c4 c5 c6 c7 c8 c9 c10 c11; have E := Chg.chg E he (fun b e h => (fun e => absurd h (by cases e; exact Nat.not_lt.2 l30)) e); obtain ⟨e39, B30, r40⟩ := H37
 obtain ⟨u41, u42, u43, rfl, c44, c45, c46⟩ := kReader_open r40; have h16 := V_eq hd' hv; refine sq_blk (its := [⟨17, _, []⟩]) [0] hz rfl ⟨(fun a s he hf hz => opw rfl ((by obtain ⟨e47, w49, r48⟩ := V_open rfl (V_at h16 he (hf 16 rfl)); obtain ⟨u50, u51, rfl, c52, c53⟩ := kDot_open r48; exact op_build rfl bt_72 (ps := [(0, [u50, u51])]) ⟨rfl, congrArg Value.cells w49, trivial⟩ rfl (f := Fact.nils kOp (⟨y38.2, ([] : (List Dot)), ([] : Str), 0, ([] : Str), 0, ([] : (List Dot))⟩ : Op) [2, 7]) ⟨V_mk rfl (kOp_close c52 c53 (lit_nil (d := kDot)) s_0 i0 s_0 i0 (lit_nil (d := kDot))), rfl, rfl, trivial⟩))), trivial⟩ ?_; intro a54 s55 he hf hz hd1 k17; have ⟨hd, E⟩ := hdE hd1 hd E he; have h0 := V_at h0 he (hf 0 rfl); obtain ⟨h2, h4⟩ := ea2 hf h2 h4 rfl; have p12_2 := px he p12_2; have p12_7 := px he p12_7; obtain ⟨B12, B30⟩ := bx2 he B12 B30; obtain ⟨c4, c5, c6, c7, c8, c9, c10, c11, c44, c45, c46⟩ := vm11 he c4 c5 c6 c7 c8 c9 c10 c11 c44 c45 c46; have h17 := k17.1; have z17 := k17.2
 refine sq_set hz rfl rfl rfl (op_alloc (cs := [.string ⟨#[]⟩, .int .i64 0, .slice none 0 0, .string ⟨#[]⟩, .int .i64 0, .string ⟨#[]⟩, .int .i64 0, .slice none 0 0]) rfl zv_72 rfl (fun s57 he BB58 => fun a56 h5 hf hz hd1 => ?_)); obtain ⟨b67, hb67⟩ : ∃ b, b = s55.w.heap.size := ⟨_, rfl⟩; rw [← hb67] at BB58 h5; have B67 := BB58; have l67 : s0.w.heap.size ≤ b67 := by have := E.size; omega
 have n67_12 : b67 ≠ b12 := by have := B12.lt; omega
 have n67_30 : b67 ≠ b30 := by have := B30.lt; omega
 have f12_2 : ∀ g, sb (.slice none 0 0) = some g → s0.w.heap.size ≤ g ∧ g ≠ b12 ∧ g ≠ b30 ∧ g ≠ b67 := fun g hg => ⟨(f12_2 g hg).1, (f12_2 g hg).2.1, (f12_2 g hg).2.2, (by have := Spare.lt p12_2 hg; omega)⟩; have f12_7 : ∀ g, sb (.slice none 0 0) = some g → s0.w.heap.size ≤ g ∧ g ≠ b12 ∧ g ≠ b30 ∧ g ≠ b67 := fun g hg => ⟨(f12_7 g hg).1, (f12_7 g hg).2.1, (f12_7 g hg).2.2, (by have := Spare.lt p12_7 hg; omega)⟩; have ⟨hd, E⟩ := hdE hd1 hd E he; have z17 := nilAt_at z17 (hf 17 rfl); obtain ⟨h0, h17⟩ := va2 he hf h0 h17 rfl; obtain ⟨h2, h4⟩ := ea2 hf h2 h4 rfl; have p12_2 := px he p12_2; have p12_7 := px he p12_7; obtain ⟨B12, B30⟩ := bx2 he B12 B30; obtain ⟨c4, c5, c6, c7, c8, c9, c10, c11, c44, c45, c46⟩ := vm11 he c4 c5 c6 c7 c8 c9 c10 c11 c44 c45 c46; have c59 : kS.V s57 (.string ⟨#[]⟩) ([] : Str) := s_0; have c60 : (kI .i64).V s57 (.int .i64 0) 0 := i0; have c61 : (kSl kDot).V s57 (.slice none 0 0) ([] : (List Dot)) := (lit_nil (d := kDot)); have c62 : kS.V s57 (.string ⟨#[]⟩) ([] : Str) := s_0
 have c63 : (kI .i64).V s57 (.int .i64 0) 0 := i0; have c64 : kS.V s57 (.string ⟨#[]⟩) ([] : Str) := s_0; have c65 : (kI .i64).V s57 (.int .i64 0) 0 := i0; have c66 : (kSl kDot).V s57 (.slice none 0 0) ([] : (List Dot)) := (lit_nil (d := kDot)); have p67_2 : Sp s57 (.slice none 0 0) 70 2 := Spare.nil _ _ _ 0; have p67_7 : Sp s57 (.slice none 0 0) 70 2 := Spare.nil _ _ _ 0; refine sq_do rfl rfl (op_storen' rfl ty_72 rfl h5 B67 h17 rfl (fun s71 e72 he B67n r73 zeq => ?_)); have zz := nilAt_at z17 zeq.symm; have h0 := vm he h0; have B12 := B12.chg he (fun e => (Ne.symm n67_12) e); have p12_2 := Sp.chg p12_2 he (fun g hg => (fun e => (f12_2 g hg).2.2.2 e)); have p12_7 := Sp.chg p12_7 he (fun g hg => (fun e => (f12_7 g hg).2.2.2 e)); have B30 := B30.chg he (fun e => (Ne.symm n67_30) e); obtain ⟨c4, c5, c6, c7, c8, c9, c10, c11, c44, c45, c46⟩ := vm11 he c4 c5 c6 c7 c8 c9 c10 c11 c44 c45 c46; have E := Chg.chg E he (fun b e h => (fun e => absurd h (by cases e; exact Nat.not_lt.2 l67)) e)
 obtain ⟨u74, u75, u76, u77, u78, u79, u80, u81, rfl, c82, c83, c84, c85, c86, c87, c88, c89⟩ := kOp_open r73; have p67_2 : Sp s71 u76 70 2 := nil_sp (u := u76) zz.1; have p67_7 : Sp s71 u81 70 2 := nil_sp (u := u81) zz.2.1; have f67_7 : ∀ g, sb u81 = some g → s0.w.heap.size ≤ g ∧ g ≠ b12 ∧ g ≠ b30 ∧ g ≠ b67 := fun g hg => absurd ((nil_sb (u := u81) zz.2.1).symm.trans hg) (fun h => by cases h); have B67 : Bx s71 b67 72 [u74, u75, u76, u77, u78, u79, u80, u81] := B67n; refine wp_seq ?_; refine wp_draw (its := [⟨19, _, []⟩, ⟨20, _, [0]⟩, ⟨21, _, [1]⟩, ⟨22, _, [2]⟩, ⟨23, _, []⟩, ⟨24, _, [4]⟩, ⟨25, _, [5]⟩, ⟨26, _, [6]⟩, ⟨27, _, [3, 7]⟩, ⟨18, _, [8]⟩, ⟨28, _, [9]⟩, ⟨29, _, [9]⟩, ⟨30, _, [9]⟩, ⟨6, _, [10]⟩, ⟨7, _, [11]⟩, ⟨8, _, [12]⟩]) [13, 14, 15] mo hz (by kernel_rfl) ⟨mes rfl rfl h4 rfl, (fun a s he hf hz q0 => nk rfl rfl q0), (fun a s he hf hz q1 => fb rfl rfl fa_147_0 q1), (fun a s he hf hz q2 => lo rfl rfl ty_53 q2 (B30.ext he) rfl (vm he c44)), mes rfl rfl h4 rfl, (fun a s he hf hz q4 => nk rfl rfl q4), (fun a s he hf hz q5 => fb rfl rfl fa_147_1 q5), (fun a s he hf hz q6 => lo rfl rfl ty_3 q6 (B30.ext he) rfl (vm he c45)), (fun a s he hf hz q3 q7 => opw rfl (op_call rfl rfl (vector_Take.ct q3 q7))), (fun a s he hf hz q8 => opw rfl (op_move rfl (f := Fact.tup _) q8)), (fun a s he hf hz q9 => opw rfl (op_extract (f := Fact.v _ _) rfl q9 rfl)), (fun a s he hf hz q9 => opw rfl (op_extract (f := Fact.v _ _) rfl q9 rfl)), (fun a s he hf hz q9 => opw rfl (op_extract (f := Fact.v _ _) rfl q9 rfl)), avq rfl rfl, avq rfl rfl, avq rfl rfl, trivial⟩ ?_
 intro a92 s93 he hf hz hd1 h6 h7 h8; have ⟨hd, E⟩ := hdE hd1 hd E he; have h0 := V_at h0 he (hf 0 rfl); obtain ⟨h2, h4, h5⟩ := ea3 hf h2 h4 h5 rfl; have p12_2 := px he p12_2; have p12_7 := px he p12_7; have p67_7 := px he p67_7; obtain ⟨B12, B30, B67⟩ := bx3 he B12 B30 B67; obtain ⟨c4, c5, c6, c7, c8, c9, c10, c11, c44, c46, c82⟩ := vm11 he c4 c5 c6 c7 c8 c9 c10 c11 c44 c46 c82; obtain ⟨c83, c89⟩ := vm2 he c83 c89; refine wp_seq ?_; refine wp_sr ?_; have hz0 := hz; refine sq_blk (its := [⟨31, _, []⟩, ⟨32, _, [0]⟩, ⟨33, _, [1]⟩, ⟨34, _, [2]⟩, ⟨35, _, [3]⟩, ⟨36, _, [4]⟩, ⟨37, _, [4, 5]⟩, ⟨38, _, [4, 6]⟩]) [7] hz rfl ⟨mes rfl rfl h4 rfl, (fun a s he hf hz q0 => nk rfl rfl q0), (fun a s he hf hz q1 => fb rfl rfl fa_147_2 q1), (fun a s he hf hz q2 => lo rfl rfl ty_4 q2 (B30.ext he) rfl (vm he c46)), mvq rfl rfl, (fun a s he hf hz q4 => og rfl rfl rfl hz hz0 rfl q4 (fun g => op_move_v rfl (V_at h8 he (hf 8 rfl)))), (fun a s he hf hz q4 q5 => og rfl rfl rfl hz hz0 rfl q4 (fun g => op_neq rfl (q5.1 g) i0)), (fun a s he hf hz q4 q6 => oe rfl rfl q4 (q6.1)), trivial⟩ ?_; intro a94 s95 he hf hz hd1 h38
 have ⟨hd, E⟩ := hdE hd1 hd E he; obtain ⟨h0, h6, h7⟩ := va3 he hf h0 h6 h7 rfl; obtain ⟨h2, h4, h5⟩ := ea3 hf h2 h4 h5 rfl; have p12_2 := px he p12_2; have p12_7 := px he p12_7; have p67_7 := px he p67_7; obtain ⟨B12, B30, B67⟩ := bx3 he B12 B30 B67; obtain ⟨c4, c5, c6, c7, c8, c9, c10, c11, c44, c46, c82⟩ := vm11 he c4 c5 c6 c7 c8 c9 c10 c11 c44 c46 c82; obtain ⟨c83, c89⟩ := vm2 he c83 c89; refine wp_condV h38 (fun hb => ?_) (fun hb => ?_)
 ·have h := ite_t hb h; refine wp_sr ?_; refine sq_blk (its := [⟨39, _, []⟩]) [0] hz rfl ⟨(fun a s he hf hz => opw rfl (op_build rfl bt_72 (ps := []) trivial rfl (f := Fact.nils kOp (⟨(⟨([] : Str), 0⟩ : Dot), ([] : (List Dot)), ([] : Str), 0, ([] : Str), 0, ([] : (List Dot))⟩ : Op) [2, 7]) ⟨V_mk rfl (kOp_close s_0 i0 (lit_nil (d := kDot)) s_0 i0 s_0 i0 (lit_nil (d := kDot))), rfl, rfl, trivial⟩)), trivial⟩ ?_; intro a96 s97 he hf hz hd1 k39; have ⟨hd, E⟩ := hdE hd1 hd E he; have h2 := (hf 2 rfl).trans h2; have p12_2 := px he p12_2; have p12_7 := px he p12_7; have B12 := B12.ext he; have h39 := k39.1; have z39 := k39.2; refine sq_do rfl rfl (op_storen' rfl ty_72 rfl h2 B12 h39 rfl (fun s99 e100 he B12n r101 zeq => ?_)); have zz := nilAt_at z39 zeq.symm; have E := Chg.chg E he (fun b e h => (fun e => absurd h (by cases e; exact Nat.not_lt.2 l12)) e)
  obtain ⟨u102, u103, u104, u105, u106, u107, u108, u109, rfl, c110, c111, c112, c113, c114, c115, c116, c117⟩ := kOp_open r101; have p12_2 : Sp s99 u104 70 2 := nil_sp (u := u104) zz.1; have p12_7 : Sp s99 u109 70 2 := nil_sp (u := u109) zz.2.1; have B12 : Bx s99 b12 72 [u102, u103, u104, u105, u106, u107, u108, u109] := B12n; refine sq_blk (its := [⟨3, _, []⟩]) [0] hz rfl ⟨(fun a s he hf hz => av rfl rfl (lit_i (k := .i64) (n := 80) (by decide))), trivial⟩ ?_; intro a120 s121 he hf hz hd1 h3; have ⟨hd, E⟩ := hdE hd1 hd E he; have h2 := (hf 2 rfl).trans h2; have B12 := B12.ext he; obtain ⟨c110, c111, c112, c113, c114, c115, c116, c117⟩ := vm8 he c110 c111 c112 c113 c114 c115 c116 c117; refine wp_ret ?_; cases h
  exact ⟨hd, _, results_cell_tmp (es := [u102, u103, u104, u105, u106, u107, u108, u109]) rfl (agg := true) ty_72 (by simp) h2 B12, E, tup2 (V_mk rfl (kOp_close c110 c111 c112 c113 c114 c115 c116 c117)) h3⟩
 ·have h := ite_f hb h; refine wp_skip ?_; refine wp_sr ?_; refine sq_blk (its := [⟨40, _, []⟩, ⟨41, _, []⟩, ⟨42, _, []⟩, ⟨43, _, []⟩]) [0, 1, 2, 3] hz rfl ⟨mes rfl rfl h4 rfl, mvs rfl rfl h6 rfl, mvs rfl rfl h7 rfl, (fun a s he hf hz => fb rfl rfl fa_72_1 ((hf 5 rfl).trans h5)), trivial⟩ ?_; intro a122 s123 he hf hz hd1 h40 h41 h42 h43; have ⟨hd, E⟩ := hdE hd1 hd E he; have h0 := V_at h0 he (hf 0 rfl); obtain ⟨h2, h4, h5⟩ := ea3 hf h2 h4 h5 rfl; have p12_2 := px he p12_2; have p12_7 := px he p12_7; have p67_7 := px he p67_7; obtain ⟨B12, B30, B67⟩ := bx3 he B12 B30 B67; obtain ⟨c4, c5, c6, c7, c8, c9, c10, c11, c44, c46, c82⟩ := vm11 he c4 c5 c6 c7 c8 c9 c10 c11 c44 c46 c82; obtain ⟨c83, c89⟩ := vm2 he c83 c89; refine sq_do rfl rfl (op_store_v rfl ty_32 rfl h43 B67 h41 rfl (fun s125 he B67n c126 => ?_)); obtain ⟨h0, h42⟩ := vm2 he h0 h42; have B12 := B12.chg he (fun e => (Ne.symm n67_12) e); have p12_2 := Sp.chg p12_2 he (fun g hg => (fun e => (f12_2 g hg).2.2.2 e)); have p12_7 := Sp.chg p12_7 he (fun g hg => (fun e => (f12_7 g hg).2.2.2 e)); have B30 := B30.chg he (fun e => (Ne.symm n67_30) e)
  have p67_7 := Sp.chg p67_7 he (fun g hg => (fun e => (f67_7 g hg).2.2.2 e)); obtain ⟨c4, c5, c6, c7, c8, c9, c10, c11, c44, c46, c82⟩ := vm11 he c4 c5 c6 c7 c8 c9 c10 c11 c44 c46 c82; obtain ⟨c83, c89⟩ := vm2 he c83 c89; have E := Chg.chg E he (fun b e h => (fun e => absurd h (by cases e; exact Nat.not_lt.2 l67)) e); obtain ⟨u127, huu127⟩ : ∃ u : Value, u = (a122.get 41) := ⟨_, rfl⟩; have c126 : (kSl kDot).V s125 u127 ((takeV y38.1.b y38.1.at_).1) := by rw [huu127]; exact c126
  have B67 : Bx s125 b67 72 [u74, u75, u127, u77, u78, u79, u80, u81] := by rw [huu127]; exact B67n
  refine sq_blk (its := [⟨44, _, []⟩, ⟨45, _, [0]⟩]) [1] hz rfl ⟨(fun a s he hf hz => nk rfl rfl ((hf 40 rfl).trans h40)), (fun a s he hf hz q0 => fb rfl rfl fa_147_1 q0), trivial⟩ ?_; intro a128 s129 he hf hz hd1 h45; have ⟨hd, E⟩ := hdE hd1 hd E he; obtain ⟨h0, h42⟩ := va2 he hf h0 h42 rfl; obtain ⟨h2, h4, h5⟩ := ea3 hf h2 h4 h5 rfl; have p12_2 := px he p12_2; have p12_7 := px he p12_7; have p67_7 := px he p67_7; obtain ⟨B12, B30, B67⟩ := bx3 he B12 B30 B67; obtain ⟨c4, c5, c6, c7, c8, c9, c10, c11, c44, c46, c82⟩ := vm11 he c4 c5 c6 c7 c8 c9 c10 c11 c44 c46 c82; obtain ⟨c83, c126, c89⟩ := vm3 he c83 c126 c89; refine sq_do rfl rfl (op_store_v rfl ty_3 rfl h45 B30 h42 rfl (fun s131 he B30n c132 => ?_)); have h0 := vm he h0; have B12 := B12.chg he (fun e => (Ne.symm n30_12) e); have p12_2 := Sp.chg p12_2 he (fun g hg => (fun e => (f12_2 g hg).2.2.1 e)); have p12_7 := Sp.chg p12_7 he (fun g hg => (fun e => (f12_7 g hg).2.2.1 e)); have B67 := B67.chg he (fun e => n67_30 e); have p67_7 := Sp.chg p67_7 he (fun g hg => (fun e => (f67_7 g hg).2.2.1 e)); obtain ⟨c4, c5, c6, c7, c8, c9, c10, c11, c44, c46, c82, c83⟩ := vm12 he c4 c5 c6 c7 c8 c9 c10 c11 c44 c46 c82 c83
  obtain ⟨c126, c89⟩ := vm2 he c126 c89; have E := Chg.chg E he (fun b e h => (fun e => absurd h (by cases e; exact Nat.not_lt.2 l30)) e); obtain ⟨u133, huu133⟩ : ∃ u : Value, u = (a128.get 42) := ⟨_, rfl⟩; have c132 : (kI .i64).V s131 u133 ((takeV y38.1.b y38.1.at_).2.1) := by rw [huu133]; exact c132
  have B30 : Bx s131 b30 147 [u41, u133, u43] := by rw [huu133]; exact B30n
  refine wp_sr ?_; refine sq_blk (its := [⟨46, _, []⟩]) [0] hz rfl ⟨mes rfl rfl h4 rfl, trivial⟩ ?_; intro a134 s135 he hf hz hd1 h46; have ⟨hd, E⟩ := hdE hd1 hd E he; have h0 := V_at h0 he (hf 0 rfl); obtain ⟨h2, h4, h5⟩ := ea3 hf h2 h4 h5 rfl; have p12_2 := px he p12_2; have p12_7 := px he p12_7; have p67_7 := px he p67_7; obtain ⟨B12, B30, B67⟩ := bx3 he B12 B30 B67; obtain ⟨c4, c5, c6, c7, c8, c9, c10, c11, c44, c132, c46, c82⟩ := vm12 he c4 c5 c6 c7 c8 c9 c10 c11 c44 c132 c46 c82; obtain ⟨c83, c126, c89⟩ := vm3 he c83 c126 c89; refine sq_set hz rfl rfl rfl (op_call rfl (argc h46 rfl) (Cl.mono (order_reader_text.ok ⟨_, B30, (kReader_close c44 c132 c46)⟩) (fun v s137 hR => fun a136 hd' hf hz hd1 => ?_))); obtain ⟨he, H138, hv⟩ := hR; obtain ⟨y139, hy, h⟩ := bindv_h h; rw [hy] at H138 hv; have hd := hd1.trans hd; have h0 := V_at h0 he (hf 0 rfl); obtain ⟨h2, h4, h5⟩ := ea3 hf h2 h4 h5 rfl; have B12 := B12.chg he (fun e => (Ne.symm n30_12) e); have p12_2 := Sp.chg p12_2 he (fun g hg => (fun e => (f12_2 g hg).2.2.1 e)); have p12_7 := Sp.chg p12_7 he (fun g hg => (fun e => (f12_7 g hg).2.2.1 e)); have B67 := B67.chg he (fun e => n67_30 e)
  have p67_7 := Sp.chg p67_7 he (fun g hg => (fun e => (f67_7 g hg).2.2.1 e)); obtain ⟨c4, c5, c6, c7, c8, c9, c10, c11, c82, c83, c126⟩ := vm11 he c4 c5 c6 c7 c8 c9 c10 c11 c82 c83 c126; have c89 := vm he c89; have E := Chg.chg E he (fun b e h => (fun e => absurd h (by cases e; exact Nat.not_lt.2 l30)) e); obtain ⟨e140, B30, r141⟩ := H138; obtain ⟨u142, u143, u144, rfl, c145, c146, c147⟩ := kReader_open r141; have h47 := V_eq hd' hv; refine sq_blk (its := [⟨48, _, []⟩]) [0] hz rfl ⟨mes rfl rfl h4 rfl, trivial⟩ ?_; intro a148 s149 he hf hz hd1 h48; have ⟨hd, E⟩ := hdE hd1 hd E he; obtain ⟨h0, h47⟩ := va2 he hf h0 h47 rfl; obtain ⟨h2, h4, h5⟩ := ea3 hf h2 h4 h5 rfl; have p12_2 := px he p12_2; have p12_7 := px he p12_7; have p67_7 := px he p67_7; obtain ⟨B12, B30, B67⟩ := bx3 he B12 B30 B67; obtain ⟨c4, c5, c6, c7, c8, c9, c10, c11, c145, c146, c147, c82⟩ := vm12 he c4 c5 c6 c7 c8 c9 c10 c11 c145 c146 c147 c82; obtain ⟨c83, c126, c89⟩ := vm3 he c83 c126 c89; refine sq_set hz rfl rfl rfl (op_call rfl (argc h48 rfl) (Cl.mono (order_reader_text.ok ⟨_, B30, (kReader_eta (x := y139.1) c145 c146 c147)⟩) (fun v s151 hR => fun a150 hd' hf hz hd1 => ?_)))
  obtain ⟨he, H152, hv⟩ := hR; obtain ⟨y153, hy, h⟩ := bindv_h h; rw [hy] at H152 hv; have hd := hd1.trans hd; obtain ⟨h0, h47⟩ := va2 he hf h0 h47 rfl; obtain ⟨h2, h4, h5⟩ := ea3 hf h2 h4 h5 rfl; have B12 := B12.chg he (fun e => (Ne.symm n30_12) e); have p12_2 := Sp.chg p12_2 he (fun g hg => (fun e => (f12_2 g hg).2.2.1 e)); have p12_7 := Sp.chg p12_7 he (fun g hg => (fun e => (f12_7 g hg).2.2.1 e)); have B67 := B67.chg he (fun e => n67_30 e); have p67_7 := Sp.chg p67_7 he (fun g hg => (fun e => (f67_7 g hg).2.2.1 e)); obtain ⟨c4, c5, c6, c7, c8, c9, c10, c11, c82, c83, c126⟩ := vm11 he c4 c5 c6 c7 c8 c9 c10 c11 c82 c83 c126; have c89 := vm he c89; have E := Chg.chg E he (fun b e h => (fun e => absurd h (by cases e; exact Nat.not_lt.2 l30)) e); obtain ⟨e154, B30, r155⟩ := H152; obtain ⟨u156, u157, u158, rfl, c159, c160, c161⟩ := kReader_open r155; have h49 := V_eq hd' hv; refine sq_blk (its := [⟨50, _, []⟩]) [0] hz rfl ⟨(fun a s he hf hz => fb rfl rfl fa_72_2 ((hf 5 rfl).trans h5)), trivial⟩ ?_; intro a162 s163 he hf hz hd1 h50; have hd := hd1.trans hd; obtain ⟨h0, h47, h49⟩ := va3 he hf h0 h47 h49 rfl; obtain ⟨h2, h4, h5⟩ := ea3 hf h2 h4 h5 rfl; have p12_2 := px he p12_2
  have p12_7 := px he p12_7; have p67_7 := px he p67_7; obtain ⟨B12, B30, B67⟩ := bx3 he B12 B30 B67; obtain ⟨c4, c5, c6, c7, c8, c9, c10, c11, c159, c160, c161, c82⟩ := vm12 he c4 c5 c6 c7 c8 c9 c10 c11 c159 c160 c161 c82; obtain ⟨c83, c126, c89⟩ := vm3 he c83 c126 c89; have E := E.trans he; refine sq_do rfl rfl (op_store_v rfl ty_9 rfl h50 B67 h47 rfl (fun s165 he B67n c166 => ?_)); obtain ⟨h0, h49⟩ := vm2 he h0 h49; have B12 := B12.chg he (fun e => (Ne.symm n67_12) e); have p12_2 := Sp.chg p12_2 he (fun g hg => (fun e => (f12_2 g hg).2.2.2 e)); have p12_7 := Sp.chg p12_7 he (fun g hg => (fun e => (f12_7 g hg).2.2.2 e)); have B30 := B30.chg he (fun e => (Ne.symm n67_30) e); have p67_7 := Sp.chg p67_7 he (fun g hg => (fun e => (f67_7 g hg).2.2.2 e)); obtain ⟨c4, c5, c6, c7, c8, c9, c10, c11, c159, c160, c161, c82⟩ := vm12 he c4 c5 c6 c7 c8 c9 c10 c11 c159 c160 c161 c82; obtain ⟨c83, c126, c89⟩ := vm3 he c83 c126 c89; have E := Chg.chg E he (fun b e h => (fun e => absurd h (by cases e; exact Nat.not_lt.2 l67)) e); obtain ⟨u167, huu167⟩ : ∃ u : Value, u = (a162.get 47) := ⟨_, rfl⟩; have c166 : kS.V s165 u167 y139.2 := by rw [huu167]; exact c166
  have B67 : Bx s165 b67 72 [u74, u75, u127, u167, u78, u79, u80, u81] := by rw [huu167]; exact B67n
  refine sq_blk (its := [⟨51, _, []⟩]) [0] hz rfl ⟨(fun a s he hf hz => fb rfl rfl fa_72_4 ((hf 5 rfl).trans h5)), trivial⟩ ?_; intro a168 s169 he hf hz hd1 h51; have ⟨hd, E⟩ := hdE hd1 hd E he; obtain ⟨h0, h49⟩ := va2 he hf h0 h49 rfl; obtain ⟨h2, h4, h5⟩ := ea3 hf h2 h4 h5 rfl; have p12_2 := px he p12_2; have p12_7 := px he p12_7; have p67_7 := px he p67_7; obtain ⟨B12, B30, B67⟩ := bx3 he B12 B30 B67; obtain ⟨c4, c5, c6, c7, c8, c9, c10, c11, c159, c160, c161, c82⟩ := vm12 he c4 c5 c6 c7 c8 c9 c10 c11 c159 c160 c161 c82; obtain ⟨c83, c126, c166, c89⟩ := vm4 he c83 c126 c166 c89; refine sq_do rfl rfl (op_store_v rfl ty_9 rfl h51 B67 h49 rfl (fun s171 he B67n c172 => ?_)); have h0 := vm he h0; have B12 := B12.chg he (fun e => (Ne.symm n67_12) e); have p12_2 := Sp.chg p12_2 he (fun g hg => (fun e => (f12_2 g hg).2.2.2 e)); have p12_7 := Sp.chg p12_7 he (fun g hg => (fun e => (f12_7 g hg).2.2.2 e)); have B30 := B30.chg he (fun e => (Ne.symm n67_30) e); have p67_7 := Sp.chg p67_7 he (fun g hg => (fun e => (f67_7 g hg).2.2.2 e)); obtain ⟨c4, c5, c6, c7, c8, c9, c10, c11, c159, c160, c161, c82⟩ := vm12 he c4 c5 c6 c7 c8 c9 c10 c11 c159 c160 c161 c82
  obtain ⟨c83, c126, c166, c89⟩ := vm4 he c83 c126 c166 c89; have E := Chg.chg E he (fun b e h => (fun e => absurd h (by cases e; exact Nat.not_lt.2 l67)) e); obtain ⟨u173, huu173⟩ : ∃ u : Value, u = (a168.get 49) := ⟨_, rfl⟩; have c172 : kS.V s171 u173 y153.2 := by rw [huu173]; exact c172
  have B67 : Bx s171 b67 72 [u74, u75, u127, u167, u78, u173, u80, u81] := by rw [huu173]; exact B67n
  refine wp_sr ?_; refine sq_blk (its := [⟨52, _, []⟩]) [0] hz rfl ⟨mes rfl rfl h4 rfl, trivial⟩ ?_; intro a174 s175 he hf hz hd1 h52; have ⟨hd, E⟩ := hdE hd1 hd E he; have h0 := V_at h0 he (hf 0 rfl); obtain ⟨h2, h4, h5⟩ := ea3 hf h2 h4 h5 rfl; have p12_2 := px he p12_2; have p12_7 := px he p12_7; have p67_7 := px he p67_7; obtain ⟨B12, B30, B67⟩ := bx3 he B12 B30 B67; obtain ⟨c4, c5, c6, c7, c8, c9, c10, c11, c159, c160, c161, c82⟩ := vm12 he c4 c5 c6 c7 c8 c9 c10 c11 c159 c160 c161 c82; obtain ⟨c83, c126, c166, c172, c89⟩ := vm5 he c83 c126 c166 c172 c89; refine sq_set hz rfl rfl rfl (op_call rfl (argc h52 rfl) (Cl.mono (order_reader_number.ok ⟨_, B30, (kReader_eta (x := y153.1) c159 c160 c161)⟩) (fun v s177 hR => fun a176 hd' hf hz hd1 => ?_))); obtain ⟨he, H178, hv⟩ := hR; obtain ⟨y179, hy, h⟩ := bindv_h h; rw [hy] at H178 hv; have hd := hd1.trans hd; have h0 := V_at h0 he (hf 0 rfl); obtain ⟨h2, h4, h5⟩ := ea3 hf h2 h4 h5 rfl; have B12 := B12.chg he (fun e => (Ne.symm n30_12) e); have p12_2 := Sp.chg p12_2 he (fun g hg => (fun e => (f12_2 g hg).2.2.1 e)); have p12_7 := Sp.chg p12_7 he (fun g hg => (fun e => (f12_7 g hg).2.2.1 e))
  have B67 := B67.chg he (fun e => n67_30 e); have p67_7 := Sp.chg p67_7 he (fun g hg => (fun e => (f67_7 g hg).2.2.1 e)); obtain ⟨c4, c5, c6, c7, c8, c9, c10, c11, c82, c83, c126, c166⟩ := vm12 he c4 c5 c6 c7 c8 c9 c10 c11 c82 c83 c126 c166; obtain ⟨c172, c89⟩ := vm2 he c172 c89; have E := Chg.chg E he (fun b e h => (fun e => absurd h (by cases e; exact Nat.not_lt.2 l30)) e); obtain ⟨e180, B30, r181⟩ := H178; obtain ⟨u182, u183, u184, rfl, c185, c186, c187⟩ := kReader_open r181; have h53 := V_eq hd' hv; refine sq_blk (its := [⟨9, _, []⟩]) [0] hz rfl ⟨avs rfl rfl h53 rfl, trivial⟩ ?_; intro a188 s189 he hf hz hd1 h9; have ⟨hd, E⟩ := hdE hd1 hd E he; have h0 := V_at h0 he (hf 0 rfl); obtain ⟨h2, h4, h5⟩ := ea3 hf h2 h4 h5 rfl; have p12_2 := px he p12_2; have p12_7 := px he p12_7; have p67_7 := px he p67_7; obtain ⟨B12, B30, B67⟩ := bx3 he B12 B30 B67; obtain ⟨c4, c5, c6, c7, c8, c9, c10, c11, c185, c186, c187, c82⟩ := vm12 he c4 c5 c6 c7 c8 c9 c10 c11 c185 c186 c187 c82; obtain ⟨c83, c126, c166, c172, c89⟩ := vm5 he c83 c126 c166 c172 c89; refine wp_sr ?_; refine sq_blk (its := [⟨54, _, []⟩]) [0] hz rfl ⟨mes rfl rfl h4 rfl, trivial⟩ ?_
  intro a190 s191 he hf hz hd1 h54; have ⟨hd, E⟩ := hdE hd1 hd E he; obtain ⟨h0, h9⟩ := va2 he hf h0 h9 rfl; obtain ⟨h2, h4, h5⟩ := ea3 hf h2 h4 h5 rfl; have p12_2 := px he p12_2; have p12_7 := px he p12_7; have p67_7 := px he p67_7; obtain ⟨B12, B30, B67⟩ := bx3 he B12 B30 B67; obtain ⟨c4, c5, c6, c7, c8, c9, c10, c11, c185, c186, c187, c82⟩ := vm12 he c4 c5 c6 c7 c8 c9 c10 c11 c185 c186 c187 c82; obtain ⟨c83, c126, c166, c172, c89⟩ := vm5 he c83 c126 c166 c172 c89; refine sq_set hz rfl rfl rfl (op_call rfl (argc h54 rfl) (Cl.mono (order_reader_number.ok ⟨_, B30, (kReader_eta (x := y179.1) c185 c186 c187)⟩) (fun v s193 hR => fun a192 hd' hf hz hd1 => ?_))); obtain ⟨he, H194, hv⟩ := hR; obtain ⟨y195, hy, h⟩ := bindv_h h; rw [hy] at H194 hv; have hd := hd1.trans hd; obtain ⟨h0, h9⟩ := va2 he hf h0 h9 rfl; obtain ⟨h2, h4, h5⟩ := ea3 hf h2 h4 h5 rfl; have B12 := B12.chg he (fun e => (Ne.symm n30_12) e); have p12_2 := Sp.chg p12_2 he (fun g hg => (fun e => (f12_2 g hg).2.2.1 e)); have p12_7 := Sp.chg p12_7 he (fun g hg => (fun e => (f12_7 g hg).2.2.1 e)); have B67 := B67.chg he (fun e => n67_30 e)
  have p67_7 := Sp.chg p67_7 he (fun g hg => (fun e => (f67_7 g hg).2.2.1 e)); obtain ⟨c4, c5, c6, c7, c8, c9, c10, c11, c82, c83, c126, c166⟩ := vm12 he c4 c5 c6 c7 c8 c9 c10 c11 c82 c83 c126 c166; obtain ⟨c172, c89⟩ := vm2 he c172 c89; have E := Chg.chg E he (fun b e h => (fun e => absurd h (by cases e; exact Nat.not_lt.2 l30)) e); obtain ⟨e196, B30, r197⟩ := H194; obtain ⟨u198, u199, u200, rfl, c201, c202, c203⟩ := kReader_open r197; have h55 := V_eq hd' hv; refine sq_blk (its := [⟨56, _, []⟩]) [0] hz rfl ⟨(fun a s he hf hz => fb rfl rfl fa_72_5 ((hf 5 rfl).trans h5)), trivial⟩ ?_; intro a204 s205 he hf hz hd1 h56; have ⟨hd, E⟩ := hdE hd1 hd E he; obtain ⟨h0, h9, h55⟩ := va3 he hf h0 h9 h55 rfl; obtain ⟨h2, h4, h5⟩ := ea3 hf h2 h4 h5 rfl; have p12_2 := px he p12_2; have p12_7 := px he p12_7; have p67_7 := px he p67_7; obtain ⟨B12, B30, B67⟩ := bx3 he B12 B30 B67; obtain ⟨c4, c5, c6, c7, c8, c9, c10, c11, c201, c202, c203, c82⟩ := vm12 he c4 c5 c6 c7 c8 c9 c10 c11 c201 c202 c203 c82; obtain ⟨c83, c126, c166, c172, c89⟩ := vm5 he c83 c126 c166 c172 c89; refine sq_do rfl rfl (op_store_v rfl ty_2 rfl h56 B67 h55 rfl (fun s207 he B67n c208 => ?_))
  obtain ⟨h0, h9⟩ := vm2 he h0 h9; have B12 := B12.chg he (fun e => (Ne.symm n67_12) e); have p12_2 := Sp.chg p12_2 he (fun g hg => (fun e => (f12_2 g hg).2.2.2 e)); have p12_7 := Sp.chg p12_7 he (fun g hg => (fun e => (f12_7 g hg).2.2.2 e)); have B30 := B30.chg he (fun e => (Ne.symm n67_30) e); have p67_7 := Sp.chg p67_7 he (fun g hg => (fun e => (f67_7 g hg).2.2.2 e)); obtain ⟨c4, c5, c6, c7, c8, c9, c10, c11, c201, c202, c203, c82⟩ := vm12 he c4 c5 c6 c7 c8 c9 c10 c11 c201 c202 c203 c82; obtain ⟨c83, c126, c166, c172, c89⟩ := vm5 he c83 c126 c166 c172 c89; have E := Chg.chg E he (fun b e h => (fun e => absurd h (by cases e; exact Nat.not_lt.2 l67)) e); obtain ⟨u209, huu209⟩ : ∃ u : Value, u = (a204.get 55) := ⟨_, rfl⟩; have c208 : (kI .i64).V s207 u209 y195.2 := by rw [huu209]; exact c208
  have B67 : Bx s207 b67 72 [u74, u75, u127, u167, u78, u173, u209, u81] := by rw [huu209]; exact B67n
  refine wp_sr ?_; refine sq_blk (its := [⟨57, _, []⟩]) [0] hz rfl ⟨mes rfl rfl h4 rfl, trivial⟩ ?_; intro a210 s211 he hf hz hd1 h57; have ⟨hd, E⟩ := hdE hd1 hd E he; obtain ⟨h0, h9⟩ := va2 he hf h0 h9 rfl; obtain ⟨h2, h4, h5⟩ := ea3 hf h2 h4 h5 rfl; have p12_2 := px he p12_2; have p12_7 := px he p12_7; have p67_7 := px he p67_7; obtain ⟨B12, B30, B67⟩ := bx3 he B12 B30 B67; obtain ⟨c4, c5, c6, c7, c8, c9, c10, c11, c201, c202, c203, c82⟩ := vm12 he c4 c5 c6 c7 c8 c9 c10 c11 c201 c202 c203 c82; obtain ⟨c83, c126, c166, c172, c208, c89⟩ := vm6 he c83 c126 c166 c172 c208 c89; refine sq_set hz rfl rfl rfl (op_call rfl (argc h57 rfl) (Cl.mono (order_reader_number.ok ⟨_, B30, (kReader_eta (x := y195.1) c201 c202 c203)⟩) (fun v s213 hR => fun a212 hd' hf hz hd1 => ?_))); obtain ⟨he, H214, hv⟩ := hR; obtain ⟨y215, hy, h⟩ := bindv_h h; rw [hy] at H214 hv; have hd := hd1.trans hd; obtain ⟨h0, h9⟩ := va2 he hf h0 h9 rfl; obtain ⟨h2, h4, h5⟩ := ea3 hf h2 h4 h5 rfl; have B12 := B12.chg he (fun e => (Ne.symm n30_12) e); have p12_2 := Sp.chg p12_2 he (fun g hg => (fun e => (f12_2 g hg).2.2.1 e))
  have p12_7 := Sp.chg p12_7 he (fun g hg => (fun e => (f12_7 g hg).2.2.1 e)); have B67 := B67.chg he (fun e => n67_30 e); have p67_7 := Sp.chg p67_7 he (fun g hg => (fun e => (f67_7 g hg).2.2.1 e)); obtain ⟨c4, c5, c6, c7, c8, c9, c10, c11, c82, c83, c126, c166⟩ := vm12 he c4 c5 c6 c7 c8 c9 c10 c11 c82 c83 c126 c166; obtain ⟨c172, c208, c89⟩ := vm3 he c172 c208 c89; have E := Chg.chg E he (fun b e h => (fun e => absurd h (by cases e; exact Nat.not_lt.2 l30)) e); obtain ⟨e216, B30, r217⟩ := H214; obtain ⟨u218, u219, u220, rfl, c221, c222, c223⟩ := kReader_open r217; have h58 := V_eq hd' hv; refine sq_blk (its := [⟨10, _, []⟩]) [0] hz rfl ⟨avs rfl rfl h58 rfl, trivial⟩ ?_; intro a224 s225 he hf hz hd1 h10; have ⟨hd, E⟩ := hdE hd1 hd E he; obtain ⟨h0, h9⟩ := va2 he hf h0 h9 rfl; obtain ⟨h2, h4, h5⟩ := ea3 hf h2 h4 h5 rfl; have p12_2 := px he p12_2; have p12_7 := px he p12_7; have p67_7 := px he p67_7; obtain ⟨B12, B30, B67⟩ := bx3 he B12 B30 B67; obtain ⟨c4, c5, c6, c7, c8, c9, c10, c11, c221, c222, c223, c82⟩ := vm12 he c4 c5 c6 c7 c8 c9 c10 c11 c221 c222 c223 c82; obtain ⟨c83, c126, c166, c172, c208, c89⟩ := vm6 he c83 c126 c166 c172 c208 c89; refine wp_seq ?_
  refine wp_sr ?_; have hz0 := hz; refine sq_blk (its := [⟨59, _, []⟩, ⟨60, _, [0]⟩, ⟨61, _, [1]⟩, ⟨62, _, [2]⟩, ⟨63, _, [3]⟩, ⟨64, _, [4]⟩, ⟨65, _, [4, 5]⟩, ⟨66, _, [4, 6]⟩, ⟨67, _, [7]⟩, ⟨68, _, [8]⟩, ⟨69, _, [8, 9]⟩, ⟨70, _, [8, 10]⟩]) [11] hz rfl ⟨mes rfl rfl h4 rfl, (fun a s he hf hz q0 => nk rfl rfl q0), (fun a s he hf hz q1 => fb rfl rfl fa_147_2 q1), (fun a s he hf hz q2 => lo rfl rfl ty_4 q2 (B30.ext he) rfl (vm he c223)), mvq rfl rfl, (fun a s he hf hz q4 => og rfl rfl rfl hz hz0 rfl q4 (fun g => op_move_v rfl (V_at h9 he (hf 9 rfl)))), (fun a s he hf hz q4 q5 => og rfl rfl rfl hz hz0 rfl q4 (fun g => op_gtr rfl (q5.1 g) (lit_i (k := .i64) (n := 3) (by decide)))), (fun a s he hf hz q4 q6 => oe rfl rfl q4 (q6.1)), mvq rfl rfl, (fun a s he hf hz q8 => og rfl rfl rfl hz hz0 rfl q8 (fun g => op_move_v rfl (V_at h10 he (hf 10 rfl)))), (fun a s he hf hz q8 q9 => og rfl rfl rfl hz hz0 rfl q8 (fun g => op_gtr rfl (q9.1 g) (lit_i (k := .i64) (n := 128) (by decide)))), (fun a s he hf hz q8 q10 => oe rfl rfl q8 (q10.1)), trivial⟩ ?_; intro a226 s227 he hf hz hd1 h70; have hd := hd1.trans hd; obtain ⟨h0, h9, h10⟩ := va3 he hf h0 h9 h10 rfl
  obtain ⟨h2, h4, h5⟩ := ea3 hf h2 h4 h5 rfl; have p12_2 := px he p12_2; have p12_7 := px he p12_7; have p67_7 := px he p67_7; obtain ⟨B12, B30, B67⟩ := bx3 he B12 B30 B67; obtain ⟨c4, c5, c6, c7, c8, c9, c10, c11, c221, c222, c223, c82⟩ := vm12 he c4 c5 c6 c7 c8 c9 c10 c11 c221 c222 c223 c82; obtain ⟨c83, c126, c166, c172, c208, c89⟩ := vm6 he c83 c126 c166 c172 c208 c89; have E := E.trans he; refine wp_condV h70 (fun hb => ?_) (fun hb => ?_)
  ·have h := ite_t hb h; refine wp_sr ?_; refine sq_blk (its := [⟨71, _, []⟩]) [0] hz rfl ⟨(fun a s he hf hz => opw rfl (op_build rfl bt_72 (ps := []) trivial rfl (f := Fact.nils kOp (⟨(⟨([] : Str), 0⟩ : Dot), ([] : (List Dot)), ([] : Str), 0, ([] : Str), 0, ([] : (List Dot))⟩ : Op) [2, 7]) ⟨V_mk rfl (kOp_close s_0 i0 (lit_nil (d := kDot)) s_0 i0 s_0 i0 (lit_nil (d := kDot))), rfl, rfl, trivial⟩)), trivial⟩ ?_; intro a228 s229 he hf hz hd1 k71; have ⟨hd, E⟩ := hdE hd1 hd E he; have h2 := (hf 2 rfl).trans h2; have p12_2 := px he p12_2; have p12_7 := px he p12_7; have B12 := B12.ext he; have h71 := k71.1; have z71 := k71.2; refine sq_do rfl rfl (op_storen' rfl ty_72 rfl h2 B12 h71 rfl (fun s231 e232 he B12n r233 zeq => ?_)); have zz := nilAt_at z71 zeq.symm; have E := Chg.chg E he (fun b e h => (fun e => absurd h (by cases e; exact Nat.not_lt.2 l12)) e)
   obtain ⟨u234, u235, u236, u237, u238, u239, u240, u241, rfl, c242, c243, c244, c245, c246, c247, c248, c249⟩ := kOp_open r233; have p12_2 : Sp s231 u236 70 2 := nil_sp (u := u236) zz.1; have p12_7 : Sp s231 u241 70 2 := nil_sp (u := u241) zz.2.1; have B12 : Bx s231 b12 72 [u234, u235, u236, u237, u238, u239, u240, u241] := B12n; refine sq_blk (its := [⟨3, _, []⟩]) [0] hz rfl ⟨(fun a s he hf hz => av rfl rfl (lit_i (k := .i64) (n := 80) (by decide))), trivial⟩ ?_; intro a252 s253 he hf hz hd1 h3; have ⟨hd, E⟩ := hdE hd1 hd E he; have h2 := (hf 2 rfl).trans h2; have B12 := B12.ext he; obtain ⟨c242, c243, c244, c245, c246, c247, c248, c249⟩ := vm8 he c242 c243 c244 c245 c246 c247 c248 c249; refine wp_ret ?_; cases h
   exact ⟨hd, _, results_cell_tmp (es := [u234, u235, u236, u237, u238, u239, u240, u241]) rfl (agg := true) ty_72 (by simp) h2 B12, E, tup2 (V_mk rfl (kOp_close c242 c243 c244 c245 c246 c247 c248 c249)) h3⟩
  ·have h := ite_f hb h; refine wp_skip ?_; refine wp_sr ?_; refine sq_blk (its := [⟨72, _, []⟩, ⟨73, _, []⟩]) [0, 1] hz rfl ⟨mvs rfl rfl h9 rfl, (fun a s he hf hz => fb rfl rfl fa_72_3 ((hf 5 rfl).trans h5)), trivial⟩ ?_; intro a254 s255 he hf hz hd1 h72 h73; have ⟨hd, E⟩ := hdE hd1 hd E he; obtain ⟨h0, h10⟩ := va2 he hf h0 h10 rfl; obtain ⟨h2, h4, h5⟩ := ea3 hf h2 h4 h5 rfl; have p12_2 := px he p12_2; have p12_7 := px he p12_7; have p67_7 := px he p67_7; obtain ⟨B12, B30, B67⟩ := bx3 he B12 B30 B67; obtain ⟨c4, c5, c6, c7, c8, c9, c10, c11, c221, c222, c223, c82⟩ := vm12 he c4 c5 c6 c7 c8 c9 c10 c11 c221 c222 c223 c82; obtain ⟨c83, c126, c166, c172, c208, c89⟩ := vm6 he c83 c126 c166 c172 c208 c89; refine sq_do rfl rfl (op_store_v rfl ty_3 rfl h73 B67 h72 rfl (fun s257 he B67n c258 => ?_)); obtain ⟨h0, h10⟩ := vm2 he h0 h10; have B12 := B12.chg he (fun e => (Ne.symm n67_12) e); have p12_2 := Sp.chg p12_2 he (fun g hg => (fun e => (f12_2 g hg).2.2.2 e)); have p12_7 := Sp.chg p12_7 he (fun g hg => (fun e => (f12_7 g hg).2.2.2 e)); have B30 := B30.chg he (fun e => (Ne.symm n67_30) e)
   have p67_7 := Sp.chg p67_7 he (fun g hg => (fun e => (f67_7 g hg).2.2.2 e)); obtain ⟨c4, c5, c6, c7, c8, c9, c10, c11, c221, c222, c223, c82⟩ := vm12 he c4 c5 c6 c7 c8 c9 c10 c11 c221 c222 c223 c82; obtain ⟨c83, c126, c166, c172, c208, c89⟩ := vm6 he c83 c126 c166 c172 c208 c89; have E := Chg.chg E he (fun b e h => (fun e => absurd h (by cases e; exact Nat.not_lt.2 l67)) e); obtain ⟨u259, huu259⟩ : ∃ u : Value, u = (a254.get 72) := ⟨_, rfl⟩; have c258 : (kI .i64).V s257 u259 y179.2 := by rw [huu259]; exact c258
   have B67 : Bx s257 b67 72 [u74, u75, u127, u167, u259, u173, u209, u81] := by rw [huu259]; exact B67n
   refine wp_seq ?_; refine wp_sr ?_; refine sq_blk (its := [⟨74, _, []⟩, ⟨75, _, []⟩]) [0, 1] hz rfl ⟨mvs rfl rfl h10 rfl, (fun a s he hf hz => mv rfl rfl i0), trivial⟩ ?_; intro a260 s261 he hf hz hd1 h74 h75; have ⟨hd, E⟩ := hdE hd1 hd E he; have h0 := V_at h0 he (hf 0 rfl); obtain ⟨h2, h4, h5⟩ := ea3 hf h2 h4 h5 rfl; have p12_2 := px he p12_2; have p12_7 := px he p12_7; have p67_7 := px he p67_7; obtain ⟨B12, B30, B67⟩ := bx3 he B12 B30 B67; obtain ⟨c4, c5, c6, c7, c8, c9, c10, c11, c221, c222, c223, c82⟩ := vm12 he c4 c5 c6 c7 c8 c9 c10 c11 c221 c222 c223 c82; obtain ⟨c83, c126, c166, c258, c172, c208, c89⟩ := vm7 he c83 c126 c166 c258 c172 c208 c89; refine wp_block ?_
   refine wp_loop (k := k) (fun m299 a s => ∃ (y264 : Int) (y265 : (List UInt8)) (y268 : Int) (y271 : Bool) (y274 : Str) (y277 : Int) (y280 : (List Dot)) (y283 : Str) (y286 : Int) (y289 : Str) (y292 : Int) (y295 : (List Dot)) (u266 : Value) (u269 : Value) (u272 : Value) (u275 : Value) (u278 : Value) (u281 : Value) (u284 : Value) (u287 : Value) (u290 : Value) (u293 : Value) (u296 : Value), order_Read.l0 m299 x0 y215 y264 y265 y268 y271 y274 y277 y280 y283 y286 y289 y292 y295 = some r ∧ m299 ≤ k ∧ Ext s0 s ∧ a.tmps.size = 105 ∧ a.defers = [] ∧ kS.V s (a.get 0) x0 ∧ a.get 2 = .pointer (some ⟨b12, 0, none⟩) ∧ a.get 4 = .pointer (some ⟨b30, 0, none⟩) ∧ a.get 5 = .pointer (some ⟨b67, 0, none⟩) ∧ (kI .i64).V s (a.get 74) y215.2 ∧ (kI .i64).V s (a.get 75) y264 ∧ Bx s b12 72 [(.string ⟨#[]⟩), (.int .i64 0), (.slice none 0 0), (.string ⟨#[]⟩), (.int .i64 0), (.string ⟨#[]⟩), (.int .i64 0), (.slice none 0 0)] ∧ kS.V s (.string ⟨#[]⟩) ([] : Str) ∧ (kI .i64).V s (.int .i64 0) 0 ∧ (kSl kDot).V s (.slice none 0 0) ([] : (List Dot)) ∧ kS.V s (.string ⟨#[]⟩) ([] : Str) ∧ (kI .i64).V s (.int .i64 0) 0 ∧ kS.V s (.string ⟨#[]⟩) ([] : Str) ∧ (kI .i64).V s (.int .i64 0) 0 ∧ (kSl kDot).V s (.slice none 0 0) ([] : (List Dot)) ∧ Bx s b30 147 [u266, u269, u272] ∧ (kSl kY).V s u266 y265 ∧ (kI .i64).V s u269 y268 ∧ kB.V s u272 y271 ∧ Bx s b67 72 [u275, u278, u281, u284, u287, u290, u293, u296] ∧ kS.V s u275 y274 ∧ (kI .i64).V s u278 y277 ∧ (kSl kDot).V s u281 y280 ∧ kS.V s u284 y283 ∧ (kI .i64).V s u287 y286 ∧ kS.V s u290 y289 ∧ (kI .i64).V s u293 y292 ∧ (kSl kDot).V s u296 y295 ∧ Sp s u296 70 2 ∧ (∀ g, sb u296 = some g → s0.w.heap.size ≤ g ∧ g ≠ b12 ∧ g ≠ b30 ∧ g ≠ b67)) ⟨_, _, _, _, _, _, _, _, _, _, _, _, _, _, _, _, _, _, _, _, _, _, _, h, Nat.le_refl _, E, hz, hd, h0, h2, h4, h5, h74, h75, B12, c4, c5, c6, c7, c8, c9, c10, c11, B30, c221, c222, c223, B67, c82, c83, c126, c166, c258, c172, c208, c89, p67_7, f67_7⟩ ?_
   rintro m299 a263 s262 ⟨y264, y265, y268, y271, y274, y277, y280, y283, y286, y289, y292, y295, u266, u269, u272, u275, u278, u281, u284, u287, u290, u293, u296, h, hkm299, E, hz, hd, h0, h2, h4, h5, h74, h75, B12, c4, c5, c6, c7, c8, c9, c10, c11, B30, c267, c270, c273, B67, c276, c279, c282, c285, c288, c291, c294, c297, p67_7, f67_7⟩
   obtain _ | m299 := m299
   ·cases h
   refine wp_sr ?_; refine sq_blk (its := [⟨76, _, []⟩]) [0] hz rfl ⟨(fun a s he hf hz => ls rfl rfl (V_at h75 he (hf 75 rfl)) (V_at h74 he (hf 74 rfl))), trivial⟩ ?_; intro a300 s301 he hf hz hd1 h76; have ⟨hd, E⟩ := hdE hd1 hd E he; obtain ⟨h0, h74, h75⟩ := va3 he hf h0 h74 h75 rfl; obtain ⟨h2, h4, h5⟩ := ea3 hf h2 h4 h5 rfl; have p67_7 := px he p67_7; obtain ⟨B12, B30, B67⟩ := bx3 he B12 B30 B67; obtain ⟨c4, c5, c6, c7, c8, c9, c10, c11, c267, c270, c273, c276⟩ := vm12 he c4 c5 c6 c7 c8 c9 c10 c11 c267 c270 c273 c276; obtain ⟨c279, c282, c285, c288, c291, c294, c297⟩ := vm7 he c279 c282 c285 c288 c291 c294 c297; refine wp_seq ?_; refine wp_condV h76 (fun hb => ?_) (fun hb => ?_)
   ·have h := ite_t hb h; refine wp_skip ?_; refine wp_seq ?_; refine wp_block ?_; refine wp_drawM (M := fun b => b = b30) (fun t => Hd t b30 147 kReader ((order_reader_dot (⟨y265, y268, y271⟩ : Reader)).1)) 3 (its := [⟨77, _, []⟩, ⟨78, _, [0]⟩, ⟨79, _, []⟩, ⟨80, Fact.v kDot ((order_reader_dot (⟨y265, y268, y271⟩ : Reader)).2), [2]⟩, ⟨81, _, [3]⟩]) [1, 4] mo hz (by kernel_rfl) (fun s t h he => Hd.ext h he) ⟨.inr leF_eq, .inr leF_eq, .inr leF_eq, .inl rfl, .inr leF_v, trivial⟩ ⟨(fun a s he hf hz => fb rfl rfl fa_72_6 ((hf 5 rfl).trans h5)), (fun a s he hf hz q0 => opw rfl (op_load_1 (f := Fact.eq (u296)) rfl ty_32 q0 (B67.chg he (fun e => n67_30 e)) rfl rfl)), mes rfl rfl h4 rfl, (⟨rfl, fun a s he hf hz q2 => op_call rfl (argc q2 rfl) (Cl.mono (order_reader_dot.ok ⟨_, (B30.ext he), (kReader_close (vm he c267) (vm he c270) (vm he c273))⟩) (fun v t hR => hR))⟩), (fun a s he hf hz q3 => opw rfl ((by obtain ⟨e302, w304, r303⟩ := V_open rfl q3; obtain ⟨u305, u306, rfl, c307, c308⟩ := kDot_open r303; exact op_lit_v (d := kDot) rfl lt_32 (zc := [.string ⟨#[]⟩, .int .i64 0]) (by kernel_rfl) (ps := [(0, [u305, u306])]) ⟨rfl, congrArg Value.cells w304, trivial⟩ rfl (by decide) (ys := ([(order_reader_dot (⟨y265, y268, y271⟩ : Reader)).2] : List Dot)) rfl (by decide) rfl (lit_rows1 (show kDot.R _ [u305, u306] ((order_reader_dot (⟨y265, y268, y271⟩ : Reader)).2) from kDot_close c307 c308))))), trivial⟩ ?_
    intro a309 s310 he H311 hf hz hd1 k78 k81; have hd := hd1.trans hd; obtain ⟨h0, h74, h75⟩ := va3 he hf h0 h74 h75 rfl; obtain ⟨h2, h4, h5⟩ := ea3 hf h2 h4 h5 rfl; have B12 := B12.chg he (fun e => (Ne.symm n30_12) e); have B67 := B67.chg he (fun e => n67_30 e); have p67_7 := Sp.chg p67_7 he (fun g hg => (fun e => (f67_7 g hg).2.2.1 e)); obtain ⟨c4, c5, c6, c7, c8, c9, c10, c11, c276, c279, c282, c285⟩ := vm12 he c4 c5 c6 c7 c8 c9 c10 c11 c276 c279 c282 c285; obtain ⟨c288, c291, c294, c297⟩ := vm4 he c288 c291 c294 c297; have E := Chg.chg E he (fun b e h => (fun e => absurd h (by cases e; exact Nat.not_lt.2 l30)) e); have h78 := k78; have h81 := k81; obtain ⟨e312, B30, r313⟩ := H311; obtain ⟨u314, u315, u316, rfl, c317, c318, c319⟩ := kReader_open r313; have pp := Sp_at p67_7 (Chg.refl (fun _ => False) _) (fun _ _ hf => hf) h78; have ff := sb_at f67_7 h78; obtain ⟨D322, h⟩ := need h; refine sq_set hz rfl rfl rfl (op_append2 rfl el_32 (V_at c297 (Chg.refl (fun _ => False) _) h78) pp h81 D322 rfl (fun v s321 he hv hp hq => fun a320 hd' hf hz hd1 => ?_)); have f82' : ∀ g, sb (a320.get 82) = some g → s0.w.heap.size ≤ g ∧ g ≠ b12 ∧ g ≠ b30 ∧ g ≠ b67 := by
     intro g hg; rw [hd'] at hg; rcases hq g hg with h | h
     ·have h1 := ff g h; exact ⟨h1.1, h1.2.1, h1.2.2.1, h1.2.2.2⟩
     ·have h2 := E.size; have l12 := B12.lt; have l30 := B30.lt; have l67 := B67.lt; exact ⟨(by omega), (by omega), (by omega), (by omega)⟩
    have hd := hd1.trans hd; obtain ⟨h0, h74, h75⟩ := va3 he hf h0 h74 h75 rfl; obtain ⟨h2, h4, h5⟩ := ea3 hf h2 h4 h5 rfl; have B12 := B12.chg he (fun e => (ff b12 e).2.1 rfl); have B30 := B30.chg he (fun e => (ff b30 e).2.2.1 rfl); have B67 := B67.chg he (fun e => (ff b67 e).2.2.2 rfl); obtain ⟨c4, c5, c6, c7, c8, c9, c10, c11, c317, c318, c319, c276⟩ := vm12 he c4 c5 c6 c7 c8 c9 c10 c11 c317 c318 c319 c276; obtain ⟨c279, c282, c285, c288, c291, c294⟩ := vm6 he c279 c282 c285 c288 c291 c294; have E := Chg.chg E he (fun b e h => absurd h (Nat.not_lt.2 (ff b e).1)); have h82 := V_eq hd' hv; have p82 := Sp_at hp (Chg.refl (fun _ => False) _) (fun _ _ hf => hf) hd'; have f82 := f82'; refine sq_blk (its := [⟨83, _, []⟩]) [0] hz rfl ⟨(fun a s he hf hz => fb rfl rfl fa_72_6 ((hf 5 rfl).trans h5)), trivial⟩ ?_; intro a324 s325 he hf hz hd1 h83; have hd := hd1.trans hd; have p82 := pa he p82 (hf 82 rfl); have f82 := sb_at f82 (hf 82 rfl); obtain ⟨h0, h74, h75, h82⟩ := va4 he hf h0 h74 h75 h82 rfl; obtain ⟨h2, h4, h5⟩ := ea3 hf h2 h4 h5 rfl; obtain ⟨B12, B30, B67⟩ := bx3 he B12 B30 B67
    obtain ⟨c4, c5, c6, c7, c8, c9, c10, c11, c317, c318, c319, c276⟩ := vm12 he c4 c5 c6 c7 c8 c9 c10 c11 c317 c318 c319 c276; obtain ⟨c279, c282, c285, c288, c291, c294⟩ := vm6 he c279 c282 c285 c288 c291 c294; have E := E.trans he; refine sq_do rfl rfl (op_store_v rfl ty_32 rfl h83 B67 h82 rfl (fun s327 he B67n c328 => ?_)); have pn := Sp.chg p82 he (fun g hg => (fun e => (f82 g hg).2.2.2 e)); have fn := f82; obtain ⟨h0, h74, h75⟩ := vm3 he h0 h74 h75; have B12 := B12.chg he (fun e => (Ne.symm n67_12) e); have B30 := B30.chg he (fun e => (Ne.symm n67_30) e); obtain ⟨c4, c5, c6, c7, c8, c9, c10, c11, c317, c318, c319, c276⟩ := vm12 he c4 c5 c6 c7 c8 c9 c10 c11 c317 c318 c319 c276; obtain ⟨c279, c282, c285, c288, c291, c294⟩ := vm6 he c279 c282 c285 c288 c291 c294; have E := Chg.chg E he (fun b e h => (fun e => absurd h (by cases e; exact Nat.not_lt.2 l67)) e); obtain ⟨u329, huu329⟩ : ∃ u : Value, u = (a324.get 82) := ⟨_, rfl⟩; have c328 : (kSl kDot).V s327 u329 (y295 ++ ([(order_reader_dot (⟨y265, y268, y271⟩ : Reader)).2] : List Dot)) := by rw [huu329]; exact c328
    have p67_7 : Sp s327 u329 70 2 := by rw [huu329]; exact pn
    have f67_7 : ∀ g, sb u329 = some g → s0.w.heap.size ≤ g ∧ g ≠ b12 ∧ g ≠ b30 ∧ g ≠ b67 := by rw [huu329]; exact fn
    have B67 : Bx s327 b67 72 [u275, u278, u281, u284, u287, u290, u293, u329] := by rw [huu329]; exact B67n
    refine wp_region ?_; refine sq_blk (its := [⟨84, _, []⟩]) [0] hz rfl ⟨(fun a s he hf hz => ad rfl rfl (V_at h75 he (hf 75 rfl)) i1), trivial⟩ ?_; intro a330 s331 he hf hz hd1 h84; have ⟨hd, E⟩ := hdE hd1 hd E he; obtain ⟨h0, h74⟩ := va2 he hf h0 h74 rfl; obtain ⟨h2, h4, h5⟩ := ea3 hf h2 h4 h5 rfl; have p67_7 := px he p67_7; obtain ⟨B12, B30, B67⟩ := bx3 he B12 B30 B67; obtain ⟨c4, c5, c6, c7, c8, c9, c10, c11, c317, c318, c319, c276⟩ := vm12 he c4 c5 c6 c7 c8 c9 c10 c11 c317 c318 c319 c276; obtain ⟨c279, c282, c285, c288, c291, c294, c328⟩ := vm7 he c279 c282 c285 c288 c291 c294 c328; refine sq_blk (its := [⟨75, _, []⟩]) [0] hz rfl ⟨mvs rfl rfl h84 rfl, trivial⟩ ?_; intro a332 s333 he hf hz hd1 h75; have ⟨hd, E⟩ := hdE hd1 hd E he; obtain ⟨h0, h74⟩ := va2 he hf h0 h74 rfl; obtain ⟨h2, h4, h5⟩ := ea3 hf h2 h4 h5 rfl; have p67_7 := px he p67_7; obtain ⟨B12, B30, B67⟩ := bx3 he B12 B30 B67; obtain ⟨c4, c5, c6, c7, c8, c9, c10, c11, c317, c318, c319, c276⟩ := vm12 he c4 c5 c6 c7 c8 c9 c10 c11 c317 c318 c319 c276; obtain ⟨c279, c282, c285, c288, c291, c294, c328⟩ := vm7 he c279 c282 c285 c288 c291 c294 c328
    exact ⟨_, (by omega : m299 < m299 + 1), _, _, _, _, _, _, _, _, _, _, _, _, _, _, _, _, _, _, _, _, _, _, _, h, by omega, E, hz, hd, h0, h2, h4, h5, h74, h75, B12, c4, c5, c6, c7, c8, c9, c10, c11, B30, c317, c318, c319, B67, c276, c279, c282, c285, c288, c291, c294, c328, p67_7, (fun g hg => ⟨(f67_7 g hg).1, (f67_7 g hg).2.1, (f67_7 g hg).2.2.1, (f67_7 g hg).2.2.2⟩)⟩
   ·have h := ite_f hb h; refine wp_exit ?_; refine then_exit ?_; refine then_exit ?_; refine inBlock_hit ?_; refine wp_seq ?_; refine wp_sr ?_; have hz0 := hz; refine sq_blk (its := [⟨85, _, []⟩, ⟨86, _, [0]⟩, ⟨87, _, [1]⟩, ⟨88, _, [2]⟩, ⟨89, _, [3]⟩, ⟨90, _, [4]⟩, ⟨91, _, [4, 5]⟩, ⟨92, _, [4, 6]⟩, ⟨93, _, [4, 7]⟩, ⟨94, _, [4]⟩, ⟨95, _, [4, 9]⟩, ⟨96, _, [4, 8, 10]⟩, ⟨97, _, [4, 11]⟩, ⟨98, _, [12]⟩, ⟨99, _, [13]⟩, ⟨100, _, [13, 14]⟩, ⟨101, _, [13, 15]⟩, ⟨102, _, [13, 16]⟩]) [17] hz rfl ⟨mes rfl rfl h4 rfl, (fun a s he hf hz q0 => nk rfl rfl q0), (fun a s he hf hz q1 => fb rfl rfl fa_147_2 q1), (fun a s he hf hz q2 => lo rfl rfl ty_4 q2 (B30.ext he) rfl (vm he c273)), mvq rfl rfl, (fun a s he hf hz q4 => og rfl rfl rfl hz hz0 rfl q4 (fun g => op_move_e rfl ((hf 4 rfl).trans h4))), (fun a s he hf hz q4 q5 => og rfl rfl rfl hz hz0 rfl q4 (fun g => op_nilcheck rfl (q5.1 g))), (fun a s he hf hz q4 q6 => og rfl rfl rfl hz hz0 rfl q4 (fun g => op_faddr_b rfl fa_147_1 (q6.1 g))), (fun a s he hf hz q4 q7 => og rfl rfl rfl hz hz0 rfl q4 (fun g => op_load1 rfl ty_3 (q7.1 g) (B30.ext he) rfl (vm he c270))), (fun a s he hf hz q4 => og rfl rfl rfl hz hz0 rfl q4 (fun g => op_move_v rfl (V_at h0 he (hf 0 rfl)))), (fun a s he hf hz q4 q9 => og rfl rfl rfl hz hz0 rfl q4 (fun g => op_len_s rfl u_9 (q9.1 g))), (fun a s he hf hz q4 q8 q10 => og rfl rfl rfl hz hz0 rfl q4 (fun g => op_neq rfl (q8.1 g) (q10.1 g))), (fun a s he hf hz q4 q11 => oe rfl rfl q4 (q11.1)), mvq rfl rfl, (fun a s he hf hz q13 => og rfl rfl rfl hz hz0 rfl q13 (fun g => op_loadn rfl ty_72 rfl ((hf 5 rfl).trans h5) (B67.ext he) rfl (kOp_close (vm he c276) (vm he c279) (vm he c282) (vm he c285) (vm he c288) (vm he c291) (vm he c294) (vm he c297)))), (fun a s he hf hz q13 q14 => og rfl rfl rfl hz hz0 rfl q13 (fun g => op_call rfl rfl (order_Right.ct (q14.1 g)))), (fun a s he hf hz q13 q15 => og rfl rfl rfl hz hz0 rfl q13 (fun g => op_not rfl (q15.1 g))), (fun a s he hf hz q13 q16 => oe rfl rfl q13 (q16.1)), trivial⟩ ?_
    intro a334 s335 he hf hz hd1 h102; have ⟨hd, E⟩ := hdE hd1 hd E he; obtain ⟨h2, h5⟩ := ea2 hf h2 h5 rfl; obtain ⟨B12, B67⟩ := bx2 he B12 B67; have c276 := vm he c276; obtain ⟨c279, c282, c285, c288, c291, c294, c297⟩ := vm7 he c279 c282 c285 c288 c291 c294 c297; refine wp_condV h102 (fun hb => ?_) (fun hb => ?_)
    ·have h := ite_t hb h; refine wp_sr ?_; refine sq_blk (its := [⟨103, _, []⟩]) [0] hz rfl ⟨(fun a s he hf hz => opw rfl (op_build rfl bt_72 (ps := []) trivial rfl (f := Fact.nils kOp (⟨(⟨([] : Str), 0⟩ : Dot), ([] : (List Dot)), ([] : Str), 0, ([] : Str), 0, ([] : (List Dot))⟩ : Op) [2, 7]) ⟨V_mk rfl (kOp_close s_0 i0 (lit_nil (d := kDot)) s_0 i0 s_0 i0 (lit_nil (d := kDot))), rfl, rfl, trivial⟩)), trivial⟩ ?_; intro a336 s337 he hf hz hd1 k103; have ⟨hd, E⟩ := hdE hd1 hd E he; have h2 := (hf 2 rfl).trans h2; have B12 := B12.ext he; have h103 := k103.1; have z103 := k103.2; refine sq_do rfl rfl (op_storen' rfl ty_72 rfl h2 B12 h103 rfl (fun s339 e340 he B12n r341 zeq => ?_)); have zz := nilAt_at z103 zeq.symm; have E := Chg.chg E he (fun b e h => (fun e => absurd h (by cases e; exact Nat.not_lt.2 l12)) e); obtain ⟨u342, u343, u344, u345, u346, u347, u348, u349, rfl, c350, c351, c352, c353, c354, c355, c356, c357⟩ := kOp_open r341
     have p12_2 : Sp s339 u344 70 2 := nil_sp (u := u344) zz.1; have p12_7 : Sp s339 u349 70 2 := nil_sp (u := u349) zz.2.1; have B12 : Bx s339 b12 72 [u342, u343, u344, u345, u346, u347, u348, u349] := B12n; refine sq_blk (its := [⟨3, _, []⟩]) [0] hz rfl ⟨(fun a s he hf hz => av rfl rfl (lit_i (k := .i64) (n := 80) (by decide))), trivial⟩ ?_; intro a360 s361 he hf hz hd1 h3; have ⟨hd, E⟩ := hdE hd1 hd E he; have h2 := (hf 2 rfl).trans h2; have B12 := B12.ext he; obtain ⟨c350, c351, c352, c353, c354, c355, c356, c357⟩ := vm8 he c350 c351 c352 c353 c354 c355 c356 c357; refine wp_ret ?_; cases h
     exact ⟨hd, _, results_cell_tmp (es := [u342, u343, u344, u345, u346, u347, u348, u349]) rfl (agg := true) ty_72 (by simp) h2 B12, E, tup2 (V_mk rfl (kOp_close c350 c351 c352 c353 c354 c355 c356 c357)) h3⟩
    ·have h := ite_f hb h; refine wp_skip ?_; refine wp_sr ?_; refine sq_blk (its := [⟨104, _, []⟩]) [0] hz rfl ⟨(fun a s he hf hz => ld rfl rfl ty_72 rfl ((hf 5 rfl).trans h5) (B67.ext he) rfl (kOp_close (vm he c276) (vm he c279) (vm he c282) (vm he c285) (vm he c288) (vm he c291) (vm he c294) (vm he c297))), trivial⟩ ?_; intro a362 s363 he hf hz hd1 h104; have ⟨hd, E⟩ := hdE hd1 hd E he; have h2 := (hf 2 rfl).trans h2; have B12 := B12.ext he; refine sq_do rfl rfl (op_storen rfl ty_72 rfl h2 B12 h104 rfl (fun s365 e366 he B12n r367 => ?_)); have E := Chg.chg E he (fun b e h => (fun e => absurd h (by cases e; exact Nat.not_lt.2 l12)) e); obtain ⟨u368, u369, u370, u371, u372, u373, u374, u375, rfl, c376, c377, c378, c379, c380, c381, c382, c383⟩ := kOp_open r367; have B12 : Bx s365 b12 72 [u368, u369, u370, u371, u372, u373, u374, u375] := B12n; refine sq_blk (its := [⟨3, _, []⟩]) [0] hz rfl ⟨(fun a s he hf hz => av rfl rfl i0), trivial⟩ ?_; intro a384 s385 he hf hz hd1 h3; have hd := hd1.trans hd; have h2 := (hf 2 rfl).trans h2; have B12 := B12.ext he
     obtain ⟨c376, c377, c378, c379, c380, c381, c382, c383⟩ := vm8 he c376 c377 c378 c379 c380 c381 c382 c383; have E := E.trans he; refine wp_ret ?_; cases h
     exact ⟨hd, _, results_cell_tmp (es := [u368, u369, u370, u371, u372, u373, u374, u375]) rfl (agg := true) ty_72 (by simp) h2 B12, E, tup2 (V_mk rfl (kOp_close c376 c377 c378 c379 c380 c381 c382 c383)) h3⟩
theorem order_Read.nice (x0 : Str) (b0 : kS.bd x0) : ∃ k, order_Read.f k x0 = some (parseO x0) := by
 have e0 : ((0 : Int)) = (x0.length : Int) - x0.length := by omega
 have hD := rdD (List.suffix_refl x0)
 rw [← e0] at hD
 rcases hD with ⟨i, w, r1, E1⟩ | ⟨d, q1, r1, E1⟩
 ·refine ⟨0, ?_⟩
  simp only [order_Read.f, bindv, E1, Bool.true_or, if_true, parseO, readO, r1, Option.bind_none]; rfl
 have s1 := readD_sfx r1
 have E2 := takeV_sfx s1
 cases r2 : readV q1 with
 | none =>
  rw [r2] at E2; simp only [] at E2
  refine ⟨0, ?_⟩
  simp only [order_Read.f, bindv, E1, E2, parseO, readO, r1, r2, Option.bind_some, Option.bind_none]; rfl
 | some p2 =>
 obtain ⟨v, q2⟩ := p2
 rw [r2] at E2; simp only [] at E2
 have s2 := (readV_sfx r2).trans s1
 have E3 := rdT s2
 cases r3 : readT 32 q2 with
 | none =>
  rw [r3] at E3; simp only [] at E3
  refine ⟨0, ?_⟩
  simp only [order_Read.f, bindv, E1, E2, E3, rdT_bad, rdN_bad, parseO, readO, r1, r2, r3, Option.bind_some, Option.bind_none]; rfl
 | some p3 =>
 obtain ⟨c, q3⟩ := p3
 rw [r3] at E3; simp only [] at E3
 have s3 := (readT_sfx r3).trans s2
 have E4 := rdT s3
 cases r4 : readT 32 q3 with
 | none =>
  rw [r4] at E4; simp only [] at E4
  refine ⟨0, ?_⟩
  simp only [order_Read.f, bindv, E1, E2, E3, E4, rdT_bad, rdN_bad, parseO, readO, r1, r2, r3, r4, Option.bind_some, Option.bind_none]; rfl
 | some p4 =>
 obtain ⟨it, q4⟩ := p4
 rw [r4] at E4; simp only [] at E4
 have s4 := (readT_sfx r4).trans s3
 have E5 := rdN s4
 cases r5 : numM 4611686018427387904 q4 with
 | none =>
  rw [r5] at E5; simp only [] at E5
  refine ⟨0, ?_⟩
  simp only [order_Read.f, bindv, E1, E2, E3, E4, E5, rdT_bad, rdN_bad, parseO, readO, r1, r2, r3, r4, r5, Option.bind_some, Option.bind_none]; rfl
 | some p5 =>
 obtain ⟨kd, q5⟩ := p5
 rw [r5] at E5; simp only [] at E5
 have s5 := (numM_sfx r5).trans s4
 have E6 := rdN s5
 cases r6 : numM 4611686018427387904 q5 with
 | none =>
  rw [r6] at E6; simp only [] at E6
  refine ⟨0, ?_⟩
  simp only [order_Read.f, bindv, E1, E2, E3, E4, E5, E6, rdT_bad, rdN_bad, parseO, readO, r1, r2, r3, r4, r5, r6, Option.bind_some, Option.bind_none]; rfl
 | some p6 =>
 obtain ⟨qt, q6⟩ := p6
 rw [r6] at E6; simp only [] at E6
 have s6 := (numM_sfx r6).trans s5
 have E7 := rdN s6
 cases r7 : numM 4611686018427387904 q6 with
 | none =>
  rw [r7] at E7; simp only [] at E7
  refine ⟨0, ?_⟩
  simp only [order_Read.f, bindv, E1, E2, E3, E4, E5, E6, E7, rdT_bad, rdN_bad, parseO, readO, r1, r2, r3, r4, r5, r6, r7, Option.bind_some, Option.bind_none]; rfl
 | some p7 =>
 obtain ⟨m, q7⟩ := p7
 rw [r7] at E7; simp only [] at E7
 have s7 := (numM_sfx r7).trans s6
 by_cases hlim : 3 < kd ∨ 128 < m
 ·refine ⟨0, ?_⟩
  have hl : (decide ((3 : Int) < (kd : Int)) || decide ((128 : Int) < (m : Int))) = true := by
   rw [Bool.or_eq_true, decide_eq_true_eq, decide_eq_true_eq]; omega
  simp only [order_Read.f, bindv, E1, E2, E3, E4, E5, E6, E7, Bool.false_or, decide_true, Bool.not_true, Bool.or_false, Bool.false_eq_true, if_false, hl, if_true]
  simp only [parseO, readO, r1, r2, r3, r4, r5, r6, r7, Option.bind_some, hlim, if_true]; rfl
 ·have hl1 : (decide ((3 : Int) < (kd : Int))) = false := by rw [decide_eq_false_iff_not]; omega
  have hl2 : (decide ((128 : Int) < (m : Int))) = false := by rw [decide_eq_false_iff_not]; omega
  have bad : ∀ y, y ≤ m → ∀ (i : Int) (acc : List Dot), acc.length ≤ y → ∃ k, order_Read.l0 k x0 ((⟨x0, (x0.length : Int) - q7.length, false⟩ : Reader), (m : Int)) (y : Int) x0 i true d.who d.n v c (kd : Int) it (qt : Int) acc = some (zOp, 80) := by
   refine rounds m ?_ ?_
   ·intro i acc ha
    refine ⟨1, ?_⟩
    simp only [order_Read.l0, E1, E2, E3, E4, E5, E6, E7, Int.lt_irrefl, decide_false, Bool.false_eq_true, if_false, Bool.true_or, if_true]; rfl
   ·intro y hy ih i acc ha
    obtain ⟨k, hk⟩ := ih i (acc ++ [⟨[], 0⟩]) (by simp; omega)
    push_cast at hk
    refine ⟨k + 1, ?_⟩
    have h1 : decide ((y : Int) < (m : Int)) = true := by rw [decide_eq_true_eq]; omega
    have h2 : (acc.length + ([⟨[], 0⟩] : List Dot).length) * 24 ≤ 140737488355328 := by simp; omega
    simp only [order_Read.l0, E1, E2, E3, E4, E5, E6, E7, rdD_bad, h1, if_true]
    rw [if_pos h2, w64s (by omega)]
    exact hk
  have good : ∀ y, y ≤ m → ∀ (r : Str) (acc : List Dot), r <:+ x0 → acc.length ≤ y → ∃ k, order_Read.l0 k x0 ((⟨x0, (x0.length : Int) - q7.length, false⟩ : Reader), (m : Int)) (y : Int) x0 ((x0.length : Int) - r.length) false d.who d.n v c (kd : Int) it (qt : Int) acc =
    some (match readS 32 (m - y) r with | none => (zOp, 80) | some (l, q) => if q = [] ∧ rightO ⟨d, v, c, (kd : Int), it, (qt : Int), acc ++ l⟩ = true then (⟨d, v, c, (kd : Int), it, (qt : Int), acc ++ l⟩, 0) else (zOp, 80)) := by
   refine rounds m ?_ ?_
   ·intro r acc hr ha
    refine ⟨1, ?_⟩
    have hle := hr.length_le
    simp only [order_Read.l0, E1, E2, E3, E4, E5, E6, E7, Int.lt_irrefl, decide_false, Bool.false_eq_true, if_false, Bool.false_or, Nat.sub_self, readS, List.append_nil]
    cases r with
    | nil =>
     have : decide ((x0.length : Int) - (([] : Str).length : Int) = (x0.length : Int)) = true := by simp
     rw [this]
     obtain ⟨dw, dn⟩ := d
     cases hr2 : rightO ⟨⟨dw, dn⟩, v, c, (kd : Int), it, (qt : Int), acc⟩ <;> simp [hr2] <;> rfl
    | cons a l =>
     have : decide ((x0.length : Int) - ((a :: l).length : Int) = (x0.length : Int)) = false := by
      rw [decide_eq_false_iff_not, List.length_cons]; omega
     rw [this]
     simp; rfl
   ·intro y hy ih r acc hr ha
    have h1 : decide ((y : Int) < (m : Int)) = true := by rw [decide_eq_true_eq]; omega
    have hs : m - y = (m - (y + 1)) + 1 := by omega
    rcases rdD hr with ⟨i, w, g1, E⟩ | ⟨e, q, g1, E⟩
    ·obtain ⟨k, hk⟩ := bad (y + 1) (by omega) i (acc ++ [w]) (by simp; omega)
     push_cast at hk
     refine ⟨k + 1, ?_⟩
     have h2 : (acc.length + ([w] : List Dot).length) * 24 ≤ 140737488355328 := by simp; omega
     simp only [order_Read.l0, E1, E2, E3, E4, E5, E6, E7, E, h1, if_true]
     rw [if_pos h2, w64s (by omega), hk, hs]
     simp only [readS, g1, Option.bind_none]
    ·obtain ⟨k, hk⟩ := ih q (acc ++ [e]) ((readD_sfx g1).trans hr) (by simp; omega)
     push_cast at hk
     refine ⟨k + 1, ?_⟩
     have h2 : (acc.length + ([e] : List Dot).length) * 24 ≤ 140737488355328 := by simp; omega
     simp only [order_Read.l0, E1, E2, E3, E4, E5, E6, E7, E, h1, if_true]
     rw [if_pos h2, w64s (by omega), hk, hs]
     simp only [readS, g1, Option.bind_some]
     cases readS 32 (m - (y + 1)) q with
     | none => rfl
     | some p => simp only [Option.bind_some, List.append_assoc, List.cons_append, List.nil_append]
  obtain ⟨k, hk⟩ := good 0 (Nat.zero_le _) q7 [] s7 (by simp)
  refine ⟨k, ?_⟩
  have hk : order_Read.l0 k x0 ((⟨x0, (x0.length : Int) - q7.length, false⟩ : Reader), (m : Int)) 0 x0 ((x0.length : Int) - q7.length) false d.who d.n v c (kd : Int) it (qt : Int) [] = _ := hk
  simp only [order_Read.f, bindv, E1, E2, E3, E4, E5, E6, E7, hl1, hl2, Bool.false_or, Bool.or_false, decide_true, Bool.not_true, Bool.false_eq_true, if_false]
  rw [hk]
  simp only [parseO, readO, r1, r2, r3, r4, r5, r6, r7, Option.bind_some, hlim, if_false, Nat.sub_zero, List.nil_append]
  cases readS 32 m q7 with
  | none => rfl
  | some p => rfl
theorem order_Read.ct {s0 : St} {v0 : Value} {x0 : Str} (k0 : kS.V s0 v0 x0) : Cl Try.prog 63 #[v0] s0 (Okf s0 (Fact.tup [Fact.v kOp ((parseO x0).1), Fact.v (kI .i64) ((parseO x0).2)])) := by
 obtain ⟨k, h⟩ := order_Read.nice x0 (Kn.V_bd k0)
 exact order_Read.ok k0 h
end
section
attribute [local irreducible] Kn.V PtrV
def readP : Nat → Str → Option (List Op × Str)
 | 0, x => some ([], x)
 | n + 1, x => (readT 1048576 x).bind fun p => if (parseO p.1).2 = 0 then (readP n p.2).bind fun q => some ((parseO p.1).1 :: q.1, q.2) else none
def opsB (l : List Op) : Str := (l.map fun o => textB (opB o)).flatten
def rightF (f : Frame) : Bool := isName f.src && isName f.dst && !decide (f.src = f.dst) && textOk f.cart && decide (1 ≤ f.session) && decide (f.session ≤ 1152921504606846976) && decide (0 ≤ f.index) &&
  (if f.kind = 1 then decide (f.many = 0) && decide (f.ops.length = 0) && rightV f.known && decide (f.index ≤ 1152921504606846976)
   else if f.kind = 2 then decide (f.known.length = 0) && decide (f.index < f.many) && decide (f.many ≤ 512) && decide (1 ≤ f.ops.length) && decide (f.ops.length ≤ 8) && f.ops.all (fun o => decide (o.cart = f.cart) && rightO o)
   else decide (f.kind = 3) && decide (f.many = 0) && decide (f.known.length = 0) && decide (f.ops.length = 0) && decide (f.index ≤ 512))
def frmH (f : Frame) : Str := textB f.src ++ textB f.dst ++ textB f.cart ++ numB f.session.toNat ++ numB f.index.toNat
def frmB (f : Frame) : Str := frmH f ++ (if f.kind = 1 then vecB f.known else if f.kind = 2 then numB f.many.toNat ++ numB f.ops.length ++ opsB f.ops else [])
def layF (f : Frame) : Str × Int := if rightF f = true then (sealed f.kind (frmB f), 0) else ([], 2)
def readF (k : Int) (x : Str) : Option (Frame × Str) := (readT 24 x).bind fun a => (readT 24 a.2).bind fun b => (readT 32 b.2).bind fun c => (numM 1152921504606846976 c.2).bind fun s => (numM 1152921504606846976 s.2).bind fun i =>
 if k = 1 then (readV i.2).bind fun v => some (⟨k, a.1, b.1, c.1, (s.1 : Int), (i.1 : Int), 0, v.1, []⟩, v.2)
 else if k = 2 then (numM 1152921504606846976 i.2).bind fun m => (numM 1152921504606846976 m.2).bind fun n => (readP n.1 n.2).bind fun o => some (⟨k, a.1, b.1, c.1, (s.1 : Int), (i.1 : Int), (m.1 : Int), [], o.1⟩, o.2)
 else some (⟨k, a.1, b.1, c.1, (s.1 : Int), (i.1 : Int), 0, [], []⟩, i.2)
def zF : Frame := ⟨0, [], [], [], 0, 0, 0, [], []⟩
def parseF (x : Str) : Frame × Int := if (openS x 0 1048576).2.2.2 = 0 ∧ (openS x 0 1048576).2.2.1 = (x.length : Int) then (match readF (openS x 0 1048576).1 (openS x 0 1048576).2.1 with
 | none => (zF, 110)
 | some (f, r) => if r = [] ∧ rightF f = true then (f, 0) else (zF, 110)) else (zF, 110)
theorem readP_lays : ∀ {n : Nat} {x r : Str} {l : List Op}, readP n x = some (l, r) → x = opsB l ++ r ∧ l.length = n ∧ ∀ o ∈ l, rightO o = true
 | 0, x, r, l, h => by cases h; exact ⟨rfl, rfl, by simp⟩
 | n + 1, x, r, l, h => by
  unfold readP at h
  cases e : readT 1048576 x with
  | none => rw [e] at h; cases h
  | some p =>
   rw [e] at h
   simp only [Option.bind_some] at h
   split at h
   ·rename_i hc
    cases e2 : readP n p.2 with
    | none => rw [e2] at h; cases h
    | some q =>
     rw [e2] at h
     cases h
     obtain ⟨h1, _, _⟩ := readT_lays (y := p.1) (r := p.2) e
     obtain ⟨h2, h3, h4⟩ := readP_lays (l := q.1) (r := q.2) e2
     rcases parseO_lays (x := p.1) (o := (parseO p.1).1) (e := (parseO p.1).2) rfl with ⟨_, g1, g2⟩ | ⟨g1, _⟩
     ·refine ⟨?_, by rw [List.length_cons, h3], ?_⟩
      ·rw [h1, h2]
       simp only [opsB, List.map_cons, List.flatten_cons, List.append_assoc, textB, g2]
      ·intro o ho
       rcases List.mem_cons.1 ho with rfl | ho
       ·exact g1
       ·exact h4 o ho
     ·omega
   ·cases h
theorem readP_laid : ∀ {l : List Op} (_ : ∀ o ∈ l, rightO o = true) (r : Str), readP l.length (opsB l ++ r) = some (l, r)
 | [], _, r => rfl
 | o :: l, h, r => by
  have ho := h o (by simp)
  have hl := opB_len ho
  simp only [List.length_cons, readP, opsB, List.map_cons, List.flatten_cons, textB, List.append_assoc]
  rw [← List.append_assoc, readT_laid (by omega) (by omega)]
  simp only [Option.bind_some]
  rw [parseO_laid ho]
  simp only []
  have := readP_laid (l := l) (fun e he => h e (by simp [he])) r
  simp only [opsB, textB] at this
  rw [if_pos trivial, this]
  rfl
theorem textOk_parts {x : Str} (h : textOk x = true) : 1 ≤ x.length ∧ x.length ≤ 32 := by
 unfold textOk at h
 simp only [Bool.and_eq_true, decide_eq_true_eq] at h
 exact h
theorem name_parts {x : Str} (h : isName x = true) : 1 ≤ x.length ∧ x.length ≤ 24 := by
 unfold isName at h
 simp only [Bool.and_eq_true, decide_eq_true_eq] at h
 omega
theorem rightF_parts {f : Frame} (h : rightF f = true) : (1 ≤ f.src.length ∧ f.src.length ≤ 24) ∧ (1 ≤ f.dst.length ∧ f.dst.length ≤ 24) ∧ (1 ≤ f.cart.length ∧ f.cart.length ≤ 32) ∧ (1 ≤ f.session ∧ f.session ≤ 1152921504606846976) ∧ (0 ≤ f.index ∧ f.index ≤ 1152921504606846976) ∧
  ((f.kind = 1 ∧ f.many = 0 ∧ f.ops = [] ∧ rightV f.known = true) ∨ (f.kind = 2 ∧ f.known = [] ∧ (1 ≤ f.many ∧ f.many ≤ 512) ∧ (1 ≤ f.ops.length ∧ f.ops.length ≤ 8) ∧ ∀ o ∈ f.ops, rightO o = true) ∨ (f.kind = 3 ∧ f.many = 0 ∧ f.known = [] ∧ f.ops = [])) := by
 unfold rightF at h
 simp only [Bool.and_eq_true, decide_eq_true_eq] at h
 obtain ⟨⟨⟨⟨⟨⟨⟨h1, h2⟩, h3⟩, h4⟩, h5⟩, h6⟩, h7⟩, h8⟩ := h
 have n1 := name_parts h1
 have n2 := name_parts h2
 have n3 := textOk_parts h4
 split at h8
 ·rename_i hk
  simp only [Bool.and_eq_true, decide_eq_true_eq] at h8
  obtain ⟨⟨⟨g1, g2⟩, g3⟩, g4⟩ := h8
  exact ⟨n1, n2, n3, ⟨h5, h6⟩, ⟨h7, g4⟩, .inl ⟨hk, g1, List.length_eq_zero_iff.1 g2, g3⟩⟩
 ·split at h8
  ·rename_i hk
   simp only [Bool.and_eq_true, decide_eq_true_eq, List.all_eq_true] at h8
   obtain ⟨⟨⟨⟨⟨g1, g2⟩, g3⟩, g4⟩, g5⟩, g6⟩ := h8
   exact ⟨n1, n2, n3, ⟨h5, h6⟩, ⟨h7, by omega⟩, .inr (.inl ⟨hk, List.length_eq_zero_iff.1 g1, ⟨by omega, g3⟩, ⟨g4, g5⟩, fun o ho => (g6 o ho).2⟩)⟩
  ·simp only [Bool.and_eq_true, decide_eq_true_eq] at h8
   obtain ⟨⟨⟨⟨g1, g2⟩, g3⟩, g4⟩, g5⟩ := h8
   exact ⟨n1, n2, n3, ⟨h5, h6⟩, ⟨h7, by omega⟩, .inr (.inr ⟨g1, g2, List.length_eq_zero_iff.1 g3, List.length_eq_zero_iff.1 g4⟩)⟩
theorem readF_lays {k : Int} {x r : Str} {f : Frame} (h : readF k x = some (f, r)) : f.kind = k ∧ x = frmB f ++ r := by
 unfold readF at h
 cases e1 : readT 24 x with
 | none => rw [e1] at h; cases h
 | some a =>
  rw [e1] at h; simp only [Option.bind_some] at h
  cases e2 : readT 24 a.2 with
  | none => rw [e2] at h; cases h
  | some b =>
   rw [e2] at h; simp only [Option.bind_some] at h
   cases e3 : readT 32 b.2 with
   | none => rw [e3] at h; cases h
   | some c =>
    rw [e3] at h; simp only [Option.bind_some] at h
    cases e4 : numM 1152921504606846976 c.2 with
    | none => rw [e4] at h; cases h
    | some s =>
     rw [e4] at h; simp only [Option.bind_some] at h
     cases e5 : numM 1152921504606846976 s.2 with
     | none => rw [e5] at h; cases h
     | some i =>
      rw [e5] at h; simp only [Option.bind_some] at h
      have g1 := (readT_lays (y := a.1) (r := a.2) e1).1
      have g2 := (readT_lays (y := b.1) (r := b.2) e2).1
      have g3 := (readT_lays (y := c.1) (r := c.2) e3).1
      have g4 := (numM_lays (n := s.1) (r := s.2) e4).1
      have g5 := (numM_lays (n := i.1) (r := i.2) e5).1
      split at h
      ·rename_i hk
       cases e6 : readV i.2 with
       | none => rw [e6] at h; cases h
       | some v =>
        rw [e6] at h; cases h
        have g6 := (readV_lays (l := v.1) (r := v.2) e6).1
        refine ⟨rfl, ?_⟩
        rw [g1, g2, g3, g4, g5, g6]
        simp only [frmB, frmH, textB, Int.toNat_natCast, List.append_assoc, hk, if_true]
      ·rename_i hk1
       split at h
       ·rename_i hk
        cases e6 : numM 1152921504606846976 i.2 with
        | none => rw [e6] at h; cases h
        | some m =>
         rw [e6] at h; simp only [Option.bind_some] at h
         cases e7 : numM 1152921504606846976 m.2 with
         | none => rw [e7] at h; cases h
         | some n =>
          rw [e7] at h; simp only [Option.bind_some] at h
          cases e8 : readP n.1 n.2 with
          | none => rw [e8] at h; cases h
          | some o =>
           rw [e8] at h; cases h
           have g6 := (numM_lays (n := m.1) (r := m.2) e6).1
           have g7 := (numM_lays (n := n.1) (r := n.2) e7).1
           obtain ⟨g8, g9, _⟩ := readP_lays (l := o.1) (r := o.2) e8
           refine ⟨rfl, ?_⟩
           rw [g1, g2, g3, g4, g5, g6, g7, g8]
           simp only [frmB, frmH, textB, Int.toNat_natCast, List.append_assoc, hk, g9]
           rw [if_neg (by decide), if_pos trivial]
           simp only [List.append_assoc]
       ·rename_i hk2
        cases h
        refine ⟨rfl, ?_⟩
        rw [g1, g2, g3, g4, g5]
        simp only [frmB, frmH, textB, Int.toNat_natCast, List.append_assoc, hk1, hk2, if_false, List.nil_append]
theorem readF_laid {f : Frame} (h : rightF f = true) (r : Str) : readF f.kind (frmB f ++ r) = some (f, r) := by
 obtain ⟨h1, h2, h3, h4, h5, h6⟩ := rightF_parts h
 unfold readF frmB
 obtain ⟨t, ht⟩ : ∃ t, t = (if f.kind = 1 then vecB f.known else if f.kind = 2 then numB f.many.toNat ++ numB f.ops.length ++ opsB f.ops else []) := ⟨_, rfl⟩
 rw [← ht, show frmH f ++ t ++ r = numB f.src.length ++ f.src ++ (numB f.dst.length ++ f.dst ++ (numB f.cart.length ++ f.cart ++ (numB f.session.toNat ++ (numB f.index.toNat ++ (t ++ r))))) from by simp only [frmH, textB, List.append_assoc]]
 rw [readT_laid (by omega) (by omega)]; simp only [Option.bind_some]
 rw [readT_laid (by omega) (by omega)]; simp only [Option.bind_some]
 rw [readT_laid (by omega) (by omega)]; simp only [Option.bind_some]
 rw [numM_laid _ (by omega) (by decide)]; simp only [Option.bind_some]
 rw [numM_laid _ (by omega) (by decide)]; simp only [Option.bind_some]
 rw [Int.toNat_of_nonneg (by omega), Int.toNat_of_nonneg (by omega)]
 obtain ⟨kind, src, dst, cart, session, index, many, known, ops⟩ := f
 simp only [] at *
 rcases h6 with ⟨k1, k2, k3, k4⟩ | ⟨k1, k2, k3, k4, k5⟩ | ⟨k1, k2, k3, k4⟩
 ·subst k1 k2 k3 ht
  rw [if_pos rfl, if_pos rfl, readV_laid k4] <;> rfl
 ·subst k1 k2 ht
  rw [if_neg (by decide), if_pos rfl, if_neg (by decide), if_pos rfl, List.append_assoc, List.append_assoc, numM_laid _ (by omega) (by decide)]; simp only [Option.bind_some]
  rw [numM_laid _ (by omega) (by decide)]; simp only [Option.bind_some]
  rw [readP_laid k5]; simp only [Option.bind_some]
  rw [Int.toNat_of_nonneg (by omega)]
 ·subst k1 k2 k3 k4 ht
  rw [if_neg (by decide), if_neg (by decide), if_neg (by decide), if_neg (by decide)] <;> rfl
theorem flat_le {α : Type} (g : α → Str) (m : Nat) : ∀ (l : List α), (∀ x ∈ l, (g x).length ≤ m) → (l.map g).flatten.length ≤ l.length * m
 | [], _ => by simp
 | x :: l, h => by
  have h1 := h x (by simp)
  have h2 := flat_le g m l (fun y hy => h y (by simp [hy]))
  simp only [List.map_cons, List.flatten_cons, List.length_append, List.length_cons, Nat.add_mul]
  omega
theorem dotB_le' {d : Dot} (h : vector_isDot d = true) : (dotB d).length ≤ 42 := by
 obtain ⟨h1, _⟩ := dot_parts h
 have := numB_le d.who.length
 have := numB_le d.n.toNat
 simp only [dotB, List.length_append]
 omega
theorem vecB_le {l : List Dot} (h : rightV l = true) : (vecB l).length ≤ 2697 := by
 obtain ⟨h1, h2⟩ := rightV_dots h
 have := numB_le l.length
 have := flat_le dotB 42 l fun d hd => dotB_le' (h2 d hd)
 simp only [vecB, List.length_append]
 omega
theorem textB_le {x : Str} {n : Nat} (h : x.length ≤ n) : (textB x).length ≤ n + 9 := by
 have := numB_le x.length
 simp only [textB, List.length_append]; omega
theorem opsB_le {l : List Op} (h : ∀ o ∈ l, rightO o = true) : (opsB l).length ≤ l.length * 8309 :=
 flat_le _ 8309 l fun o ho => textB_le (opB_len (h o ho))
theorem frmB_le {f : Frame} (h : rightF f = true) : (frmB f).length ≤ 70000 := by
 obtain ⟨h1, h2, h3, h4, h5, h6⟩ := rightF_parts h
 have a1 := textB_le h1.2
 have a2 := textB_le h2.2
 have a3 := textB_le h3.2
 have a4 := numB_le f.session.toNat
 have a5 := numB_le f.index.toNat
 simp only [frmB, frmH, List.length_append]
 rcases h6 with ⟨k1, k2, k3, k4⟩ | ⟨k1, k2, k3, k4, k5⟩ | ⟨k1, k2, k3, k4⟩
 ·have := vecB_le k4
  rw [if_pos k1]; omega
 ·have b1 := opsB_le k5
  have b2 := numB_le f.many.toNat
  have b3 := numB_le f.ops.length
  rw [if_neg (by rw [k1]; decide), if_pos k1]
  simp only [List.length_append]
  omega
 ·rw [if_neg (by rw [k1]; decide), if_neg (by rw [k1]; decide)]
  simp only [List.length_nil]
  omega
theorem sealed_eq (k : Int) (y : Str) : sealed k y = UInt8.ofNat k.toNat :: (numB y.length ++ y ++ seal4 (sumN (text [UInt8.ofNat k.toNat] y))) := by
 unfold sealed
 simp only [text, number, Int.toNat_natCast, List.cons_append, List.nil_append, List.append_assoc]
theorem seal4_length (n : Int) : (seal4 n).length = 4 := rfl
theorem openS_laid {k : Int} {y : Str} {most : Int} (h0 : 0 ≤ k) (h1 : k < 256) (h2 : (y.length : Int) ≤ most) (h3 : y.length < 18446744073709551616) : openS (sealed k y) 0 most = (k, y, ((sealed k y).length : Int), 0) := by
 have hs := sealed_eq k y
 unfold openS
 rw [if_neg (by omega)]
 simp only [Int.toNat_zero, List.drop_zero]
 rw [hs]
 simp only []
 rw [readT_laid h2 h3]
 simp only []
 rw [if_neg (by rw [seal4_length]; decide), List.take_of_length_le (by rw [seal4_length]; exact Nat.le_refl _), if_pos rfl]
 have : ((UInt8.ofNat k.toNat).toNat : Int) = k := by
  rw [UInt8.toNat_ofNat']
  omega
 rw [this]
 simp only [List.length_cons, List.length_append, seal4_length, Prod.mk.injEq, and_true, true_and]
 push_cast
 omega
theorem openS_lays {s y : Str} {k n most : Int} (h : openS s 0 most = (k, y, n, 0)) (hn : n = (s.length : Int)) : s = sealed k y ∧ (y.length : Int) ≤ most ∧ 0 ≤ k ∧ k < 256 := by
 unfold openS at h
 rw [if_neg (by omega)] at h
 simp only [Int.toNat_zero, List.drop_zero] at h
 split at h
 ·cases h
 ·rename_i c l
  split at h
  ·cases h
  ·rename_i z r hr
   split at h
   ·cases h
   ·split at h
    ·rename_i h4 hc
     cases h
     obtain ⟨g1, g2, g3⟩ := readT_lays hr
     have hl : r.length = 4 := by
      simp only [List.length_cons] at hn
      omega
     have hb := c.toNat_lt
     refine ⟨?_, g2, by omega, by omega⟩
     rw [sealed_eq, u8_self, hc, g1, ← hl, List.take_length]
    ·cases h
theorem parseF_laid {f : Frame} (h : rightF f = true) : parseF (sealed f.kind (frmB f)) = (f, 0) := by
 have hb := frmB_le h
 obtain ⟨_, _, _, _, _, h6⟩ := rightF_parts h
 have hk : 0 ≤ f.kind ∧ f.kind < 256 := by rcases h6 with h | h | h <;> omega
 unfold parseF
 rw [openS_laid hk.1 hk.2 (by omega) (by omega)]
 simp only []
 rw [if_pos ⟨trivial, trivial⟩]
 have := readF_laid h []
 rw [List.append_nil] at this
 rw [this]
 simp only []
 rw [if_pos ⟨trivial, h⟩]
theorem parseF_lays {x : Str} {f : Frame} {e : Int} (h : parseF x = (f, e)) : (e = 0 ∧ rightF f = true ∧ sealed f.kind (frmB f) = x) ∨ (e = 110 ∧ f = zF ∧ ∀ g, rightF g = true → sealed g.kind (frmB g) ≠ x) := by
 by_cases hx : ∃ p, rightF p = true ∧ sealed p.kind (frmB p) = x
 ·obtain ⟨p, h1, h2⟩ := hx
  subst h2
  rw [parseF_laid h1] at h
  cases h
  exact .inl ⟨rfl, h1, rfl⟩
 ·refine .inr ?_
  have hn : ∀ p, rightF p = true → sealed p.kind (frmB p) ≠ x := fun p h1 h2 => hx ⟨p, h1, h2⟩
  unfold parseF at h
  split at h
  ·rename_i ho
   split at h
   ·cases h; exact ⟨rfl, rfl, hn⟩
   ·rename_i o' r hr
    split at h
    ·rename_i hc
     obtain ⟨g1, g2⟩ := readF_lays hr
     have := (openS_lays (s := x) (k := (openS x 0 1048576).1) (y := (openS x 0 1048576).2.1) (n := (openS x 0 1048576).2.2.1) (Prod.ext rfl (Prod.ext rfl (Prod.ext rfl ho.1))) ho.2).1
     rw [g2, hc.1, List.append_nil, ← g1] at this
     exact absurd this.symm (hn _ hc.2)
    ·cases h; exact ⟨rfl, rfl, hn⟩
  ·cases h; exact ⟨rfl, rfl, hn⟩
def idxF (φ : Op → Bool) : List Op → Nat → Int
 | [], _ => -1
 | x :: l, i => if φ x = true then (i : Int) else idxF φ l (i + 1)
theorem idxF_any (φ : Op → Bool) : ∀ (l : List Op) (i : Nat), decide (0 ≤ idxF φ l i) = l.any φ
 | [], i => by simp [idxF]
 | x :: l, i => by
  rw [List.any_cons, ← idxF_any φ l (i + 1)]
  have e : idxF φ (x :: l) i = if φ x = true then (i : Int) else idxF φ l (i + 1) := rfl
  rw [e]
  by_cases h : φ x = true
  ·rw [if_pos h, h]; simp
  ·rw [if_neg h]; rw [Bool.not_eq_true] at h; rw [h, Bool.false_or]
def indexOp.l0 : Nat → (List Op) → (Op → Bool) → Int → Option (Int)
 | 0, _, _, _ => none
 | m8 + 1, x0, φ1, y7 => (if decide (y7 < (x0.length : Int)) = true then (if (0 ≤ y7 ∧ y7 < (x0.length : Int)) then (if φ1 (List.getD x0 (y7).toNat default) = true then (some y7) else (indexOp.l0 m8 x0 φ1 (IntKind.wrap .i64 (y7 + 1)))) else none) else (some (-1)))
def indexOp.f (k : Nat) (x0 : (List Op)) (φ1 : Op → Bool) : Option (Int) := (indexOp.l0 k x0 φ1 0)
theorem indexOp.ok {s0 : St} {v0 : Value} {x0 : (List Op)} {v1 : Value} {g1 : FuncId} {caps1 : List Value} {φ1 : Op → Bool} {k : Nat} {r : Int} (k0 : (kSl kOp).V s0 v0 x0) (e1 : v1 = .func (.func g1) #[] caps1.toArray) (F1 : ∀ {s : St} {w0 : Value} {y0 : Op}, Ext s0 s → kOp.V s w0 y0 → Cl Try.prog g1 ([w0] ++ caps1).toArray s (Okf s (Fact.v kB (φ1 y0)))) (h : indexOp.f k x0 φ1 = some r) : Cl Try.prog 92 #[v0, v1] s0 (Okf s0 (Fact.v (kI .i64) r)) := by
 unfold indexOp.f at h
 refine cl_of_wp Try.func92 rfl en_92 fun a hz hd hp => ?_; have hz : a.tmps.size = 19 := hz; have E := Chg.refl (fun _ => False) s0; have h0 := V_at k0 E (hp 0 v0 rfl); have h1 := (hp 1 v1 rfl).trans e1; refine wp_sr ?_; refine sq_blk (its := [⟨4, _, []⟩]) [] hz rfl ⟨(fun a s he hf hz => av rfl rfl i0), trivial⟩ ?_; intro a1 s2 he hf hz hd1; have ⟨hd, E⟩ := hdE hd1 hd E he; have h0 := V_at h0 he (hf 0 rfl); have h1 := (hf 1 rfl).trans h1; refine wp_seq ?_; refine wp_sr ?_; refine sq_blk (its := [⟨6, _, []⟩, ⟨7, _, [0]⟩, ⟨8, _, []⟩]) [1, 2] hz rfl ⟨mvs rfl rfl h0 rfl, (fun a s he hf hz q0 => le_ rfl rfl u_22 q0), (fun a s he hf hz => mv rfl rfl i0), trivial⟩ ?_; intro a3 s4 he hf hz hd1 h7 h8; have ⟨hd, E⟩ := hdE hd1 hd E he; have h0 := V_at h0 he (hf 0 rfl); have h1 := (hf 1 rfl).trans h1; refine wp_block ?_
 refine wp_loop (k := k) (fun m8 a s => ∃ (y7 : Int), indexOp.l0 m8 x0 φ1 y7 = some r ∧ m8 ≤ k ∧ Ext s0 s ∧ a.tmps.size = 19 ∧ a.defers = [] ∧ (kSl kOp).V s (a.get 0) x0 ∧ a.get 1 = .func (.func g1) #[] caps1.toArray ∧ (kI .i64).V s (a.get 7) (x0.length : Int) ∧ (kI .i64).V s (a.get 8) y7) ⟨_, h, Nat.le_refl _, E, hz, hd, h0, h1, h7, h8⟩ ?_; rintro m8 a6 s5 ⟨y7, h, hkm8, E, hz, hd, h0, h1, h7, h8⟩; obtain _ | m8 := m8
 ·cases h
 refine wp_sr ?_; refine sq_blk (its := [⟨9, _, []⟩]) [0] hz rfl ⟨(fun a s he hf hz => ls rfl rfl (V_at h8 he (hf 8 rfl)) (V_at h7 he (hf 7 rfl))), trivial⟩ ?_; intro a9 s10 he hf hz hd1 h9; have ⟨hd, E⟩ := hdE hd1 hd E he; obtain ⟨h0, h7, h8⟩ := va3 he hf h0 h7 h8 rfl; have h1 := (hf 1 rfl).trans h1; refine wp_seq ?_; refine wp_condV h9 (fun hb => ?_) (fun hb => ?_)
 ·have h := ite_t hb h; refine wp_skip ?_; refine wp_seq ?_; refine wp_block ?_; refine wp_sr ?_; refine sq_blk (its := [⟨10, _, []⟩, ⟨5, _, [0]⟩]) [1] hz rfl ⟨mvs rfl rfl h8 rfl, avq rfl rfl, trivial⟩ ?_; intro a11 s12 he hf hz hd1 h5; have ⟨hd, E⟩ := hdE hd1 hd E he; obtain ⟨h0, h7, h8⟩ := va3 he hf h0 h7 h8 rfl; have h1 := (hf 1 rfl).trans h1; refine wp_sr ?_; obtain ⟨D13, h⟩ := need h; refine sq_blk (its := [⟨11, _, []⟩, ⟨12, _, []⟩, ⟨13, _, []⟩, ⟨14, _, [1, 2]⟩, ⟨15, _, [3]⟩, ⟨16, _, [0, 4]⟩]) [5] hz rfl ⟨mes rfl rfl h1 rfl, mvs rfl rfl h0 rfl, mvs rfl rfl h5 rfl, (fun a s he hf hz q1 q2 => ia rfl rfl sl_22 q1 q2 D13.1 D13.2), (fun a s he hf hz q3 => lp rfl rfl ty_72 (by decide) q3), (fun a s he hf hz q0 q4 => opw rfl (op_callv rfl q0 rfl (F1 (E.trans he) q4))), trivial⟩ ?_; intro a14 s15 he hf hz hd1 h16; have ⟨hd, E⟩ := hdE hd1 hd E he; obtain ⟨h0, h5, h7, h8⟩ := va4 he hf h0 h5 h7 h8 rfl; have h1 := (hf 1 rfl).trans h1; refine wp_condV h16 (fun hb => ?_) (fun hb => ?_)
  ·have h := ite_t hb h; refine wp_sr ?_; refine sq_blk (its := [⟨17, _, []⟩, ⟨4, _, [0]⟩]) [1] hz rfl ⟨mvs rfl rfl h5 rfl, avq rfl rfl, trivial⟩ ?_; intro a16 s17 he hf hz hd1 h4; have ⟨hd, E⟩ := hdE hd1 hd E he; refine wp_ret ?_; cases h
   exact ⟨hd, _, results_tmp rfl _ _ _, E, h4⟩
  ·have h := ite_f hb h; refine wp_skip ?_; refine wp_region ?_; refine sq_blk (its := [⟨18, _, []⟩]) [0] hz rfl ⟨(fun a s he hf hz => ad rfl rfl (V_at h8 he (hf 8 rfl)) i1), trivial⟩ ?_; intro a18 s19 he hf hz hd1 h18; have ⟨hd, E⟩ := hdE hd1 hd E he; obtain ⟨h0, h7⟩ := va2 he hf h0 h7 rfl; have h1 := (hf 1 rfl).trans h1; refine sq_blk (its := [⟨8, _, []⟩]) [0] hz rfl ⟨mvs rfl rfl h18 rfl, trivial⟩ ?_; intro a20 s21 he hf hz hd1 h8; have ⟨hd, E⟩ := hdE hd1 hd E he; obtain ⟨h0, h7⟩ := va2 he hf h0 h7 rfl; have h1 := (hf 1 rfl).trans h1; exact ⟨_, (by omega : m8 < m8 + 1), _, h, by omega, E, hz, hd, h0, h1, h7, h8⟩
 ·have h := ite_f hb h; refine wp_exit ?_; refine then_exit ?_; refine then_exit ?_; refine inBlock_hit ?_; refine wp_sr ?_; refine sq_blk (its := [⟨4, _, []⟩]) [0] hz rfl ⟨(fun a s he hf hz => av rfl rfl (lit_i (k := .i64) (n := (-1)) (by decide))), trivial⟩ ?_; intro a22 s23 he hf hz hd1 h4; have ⟨hd, E⟩ := hdE hd1 hd E he; refine wp_ret ?_; cases h
  exact ⟨hd, _, results_tmp rfl _ _ _, E, h4⟩
def idxF0 (x : List Op) (φ : Op → Bool) : Int := idxF φ x 0
theorem indexOp.nice (x0 : List Op) (φ1 : Op → Bool) (b0 : (kSl kOp).bd x0) : ∃ k, indexOp.f k x0 φ1 = some (idxF0 x0 φ1) := by
 have hb : x0.length ≤ maxLen := b0.1
 have hm := maxLen_lt
 have : ∀ y, y ≤ x0.length → ∃ k, indexOp.l0 k x0 φ1 (y : Int) = some (idxF φ1 (x0.drop y) y) := by
  refine rounds x0.length ⟨1, ?_⟩ fun y hy ⟨k, hk⟩ => ?_
  ·simp only [indexOp.l0, List.drop_length, idxF, Int.lt_irrefl, decide_false, Bool.false_eq_true, if_false]
  ·push_cast at hk
   have hr : (0 : Int) ≤ y ∧ (y : Int) < x0.length := ⟨by omega, by omega⟩
   refine ⟨k + 1, ?_⟩
   rw [drop_at default hy]
   simp only [indexOp.l0, idxF, hr, and_self, if_true, decide_true]
   rw [Int.toNat_natCast]
   generalize x0.getD y default = o
   cases φ1 o
   ·simp only [Bool.false_eq_true, if_false]; rw [w64s (by omega)]; exact hk
   ·simp only [if_true]
 exact this 0 (Nat.zero_le _)
theorem indexOp.ct {s0 : St} {v0 : Value} {x0 : (List Op)} {v1 : Value} {g1 : FuncId} {caps1 : List Value} {φ1 : Op → Bool} (k0 : (kSl kOp).V s0 v0 x0) (e1 : v1 = .func (.func g1) #[] caps1.toArray) (F1 : ∀ {s : St} {w0 : Value} {y0 : Op}, Ext s0 s → kOp.V s w0 y0 → Cl Try.prog g1 ([w0] ++ caps1).toArray s (Okf s (Fact.v kB (φ1 y0)))) : Cl Try.prog 92 #[v0, v1] s0 (Okf s0 (Fact.v (kI .i64) (idxF0 x0 φ1))) := by
 obtain ⟨k, h⟩ := indexOp.nice x0 φ1 (Kn.V_bd k0)
 exact indexOp.ok k0 e1 F1 h
def hasOp (x0 : (List Op)) (φ1 : Op → Bool) : Bool := (decide (0 ≤ (idxF0 x0 φ1)))
theorem hasOp.ok {s0 : St} {v0 : Value} {x0 : (List Op)} {v1 : Value} {g1 : FuncId} {caps1 : List Value} {φ1 : Op → Bool} (k0 : (kSl kOp).V s0 v0 x0) (e1 : v1 = .func (.func g1) #[] caps1.toArray) (F1 : ∀ {s : St} {w0 : Value} {y0 : Op}, Ext s0 s → kOp.V s w0 y0 → Cl Try.prog g1 ([w0] ++ caps1).toArray s (Okf s (Fact.v kB (φ1 y0)))) : Cl Try.prog 45 #[v0, v1] s0 (Okf s0 (Fact.v kB (hasOp x0 φ1))) := by
 obtain ⟨r, h⟩ : ∃ r, some (hasOp x0 φ1) = some r := ⟨_, rfl⟩
 rw [Option.some.inj h]
 have h : (some (decide (0 ≤ (idxF0 x0 φ1)))) = some r := by rw [← h]; unfold hasOp; first | rfl | simp only [apply_ite some] | (repeat' (first | rfl | split))
 refine cl_of_wp Try.func45 rfl en_45 fun a hz hd hp => ?_; have hz : a.tmps.size = 9 := hz; have E := Chg.refl (fun _ => False) s0; have h0 := V_at k0 E (hp 0 v0 rfl); have h1 := (hp 1 v1 rfl).trans e1; refine wp_sr ?_; refine sq_blk (its := [⟨4, _, []⟩]) [] hz rfl ⟨(fun a s he hf hz => av rfl rfl b_f), trivial⟩ ?_; intro a1 s2 he hf hz hd1; have ⟨hd, E⟩ := hdE hd1 hd E he; have h0 := V_at h0 he (hf 0 rfl); have h1 := (hf 1 rfl).trans h1; refine wp_sr ?_; refine sq_blk (its := [⟨5, _, []⟩, ⟨6, _, []⟩, ⟨7, _, [0, 1]⟩, ⟨8, _, [2]⟩, ⟨4, _, [3]⟩]) [4] hz rfl ⟨mvs rfl rfl h0 rfl, mes rfl rfl h1 rfl, (fun a s he hf hz q0 q1 => opw rfl (op_call rfl (argc rfl (argc rfl rfl)) (indexOp.ct q0 q1 (φ1 := φ1) (fun he' hv0 => F1 ((E.trans he).trans he') hv0)))), (fun a s he hf hz q2 => opw rfl (op_geq rfl q2 i0)), avq rfl rfl, trivial⟩ ?_; intro a3 s4 he hf hz hd1 h4; have ⟨hd, E⟩ := hdE hd1 hd E he; refine wp_ret ?_; cases h
 exact ⟨hd, _, results_tmp rfl _ _ _, E, h4⟩
def frame_Right_1 (x0 : Op) (x1 : Frame) : Bool := ((!decide (x0.cart = x1.cart)) || (!(rightO x0)))
theorem frame_Right_1.ok {s0 : St} {v0 : Value} {x0 : Op} {b1 : Nat} {x1 : Frame} (k0 : kOp.V s0 v0 x0) (H1 : Hd s0 b1 34 kFrame x1) : Cl Try.prog 81 #[v0, .pointer (some ⟨b1, 0, none⟩)] s0 (Okf s0 (Fact.v kB (frame_Right_1 x0 x1))) := by
 obtain ⟨r, h⟩ : ∃ r, some (frame_Right_1 x0 x1) = some r := ⟨_, rfl⟩
 rw [Option.some.inj h]
 have h : (some ((!decide (x0.cart = x1.cart)) || (!(rightO x0)))) = some r := by rw [← h]; unfold frame_Right_1; first | rfl | simp only [apply_ite some] | (repeat' (first | rfl | split))
 refine cl_of_wp Try.func81 rfl en_81 fun a hz hd hp => ?_; have hz : a.tmps.size = 14 := hz; have E := Chg.refl (fun _ => False) s0; obtain ⟨e2, B1, r3⟩ := H1; obtain ⟨u4, u5, u6, u7, u8, u9, u10, u11, u12, rfl, c13, c14, c15, c16, c17, c18, c19, c20, c21⟩ := kFrame_open r3; have h0 := V_at k0 E (hp 0 v0 rfl); have h1 : a.get 1 = .pointer (some ⟨b1, 0, none⟩) := hp 1 _ rfl; refine wp_sr ?_; refine sq_set hz rfl rfl rfl (op_boxn rfl rfl h0 (fun s23 e25 he BB24 r26 => fun a22 h2 hf hz hd1 => ?_)); obtain ⟨b43, hb43⟩ : ∃ b, b = s0.w.heap.size := ⟨_, rfl⟩; rw [← hb43] at BB24 h2; have B43 := BB24; have l43 : s0.w.heap.size ≤ b43 := by have := E.size; omega
 have ⟨hd, E⟩ := hdE hd1 hd E he; have h1 := (hf 1 rfl).trans h1; have B1 := B1.ext he; have c16 := vm he c16; obtain ⟨u27, u28, u29, u30, u31, u32, u33, u34, rfl, c35, c36, c37, c38, c39, c40, c41, c42⟩ := kOp_open r26; refine sq_blk (its := [⟨3, _, []⟩]) [] hz rfl ⟨(fun a s he hf hz => av rfl rfl b_f), trivial⟩ ?_; intro a44 s45 he hf hz hd1; have ⟨hd, E⟩ := hdE hd1 hd E he; obtain ⟨h1, h2⟩ := ea2 hf h1 h2 rfl; obtain ⟨B1, B43⟩ := bx2 he B1 B43; obtain ⟨c16, c35, c36, c37⟩ := vm4 he c16 c35 c36 c37; obtain ⟨c38, c39, c40, c41, c42⟩ := vm5 he c38 c39 c40 c41 c42; refine wp_sr ?_; have hz0 := hz; refine sq_blk (its := [⟨4, _, []⟩, ⟨5, _, [0]⟩, ⟨6, _, []⟩, ⟨7, _, [2]⟩, ⟨8, _, [1, 3]⟩, ⟨9, _, [4]⟩, ⟨10, _, [5]⟩, ⟨11, _, [5, 6]⟩, ⟨12, _, [5, 7]⟩, ⟨13, _, [5, 8]⟩, ⟨3, _, [9]⟩]) [10] hz rfl ⟨(fun a s he hf hz => fb rfl rfl fa_72_2 ((hf 2 rfl).trans h2)), (fun a s he hf hz q0 => lo rfl rfl ty_9 q0 (B43.ext he) rfl (vm he c38)), (fun a s he hf hz => fb rfl rfl fa_34_3 ((hf 1 rfl).trans h1)), (fun a s he hf hz q2 => lo rfl rfl ty_9 q2 (B1.ext he) rfl (vm he c16)), (fun a s he hf hz q1 q3 => opw rfl (op_sneq rfl q1 q3)), mvq rfl rfl, (fun a s he hf hz q5 => og rfl rfl rfl hz hz0 rfl q5 (fun g => op_loadn rfl ty_72 rfl ((hf 2 rfl).trans h2) (B43.ext he) rfl (kOp_eta (x := x0) (vm he c35) (vm he c36) (vm he c37) (vm he c38) (vm he c39) (vm he c40) (vm he c41) (vm he c42)))), (fun a s he hf hz q5 q6 => og rfl rfl rfl hz hz0 rfl q5 (fun g => op_call rfl rfl (order_Right.ct (q6.1 g)))), (fun a s he hf hz q5 q7 => og rfl rfl rfl hz hz0 rfl q5 (fun g => op_not rfl (q7.1 g))), (fun a s he hf hz q5 q8 => oe rfl rfl q5 (q8.1)), avq rfl rfl, trivial⟩ ?_
 intro a46 s47 he hf hz hd1 h3; have ⟨hd, E⟩ := hdE hd1 hd E he; refine wp_ret ?_; cases h
 exact ⟨hd, _, results_tmp rfl _ _ _, E, h3⟩
def frame_Right (x0 : Frame) : Bool := if ((((((((!(isName x0.src)) || (!(isName x0.dst))) || (decide (x0.src = x0.dst))) || (decide (x0.cart = ([] : Str)))) || (decide (32 < (x0.cart.length : Int)))) || (decide (x0.session < 1))) || (decide (1152921504606846976 < x0.session))) || (decide (x0.index < 0))) = true then (false) else (if decide (x0.kind = 1) = true then ((((frame_bare (⟨x0.kind, x0.src, x0.dst, x0.cart, x0.session, x0.index, x0.many, ([] : (List Dot)), x0.ops⟩ : Frame)) && (rightV x0.known)) && (decide (x0.index ≤ 1152921504606846976)))) else (if decide (x0.kind = 2) = true then (((((((decide ((x0.known.length : Int) = 0)) && (decide (x0.index < x0.many))) && (decide (x0.many ≤ 512))) && (decide (0 < (x0.ops.length : Int)))) && (decide ((x0.ops.length : Int) ≤ 8))) && (!(hasOp x0.ops (fun y0 => (frame_Right_1 y0 x0)))))) else ((((decide (x0.kind = 3)) && (frame_bare x0)) && (decide (x0.index ≤ 512))))))
theorem frame_Right.ok {s0 : St} {v0 : Value} {x0 : Frame} (k0 : kFrame.V s0 v0 x0) : Cl Try.prog 29 #[v0] s0 (Okf s0 (Fact.v kB (frame_Right x0))) := by
 obtain ⟨r, h⟩ : ∃ r, some (frame_Right x0) = some r := ⟨_, rfl⟩
 rw [Option.some.inj h]
 have h : (if ((((((((!(isName x0.src)) || (!(isName x0.dst))) || (decide (x0.src = x0.dst))) || (decide (x0.cart = ([] : Str)))) || (decide (32 < (x0.cart.length : Int)))) || (decide (x0.session < 1))) || (decide (1152921504606846976 < x0.session))) || (decide (x0.index < 0))) = true then (some false) else (if decide (x0.kind = 1) = true then (some (((frame_bare (⟨x0.kind, x0.src, x0.dst, x0.cart, x0.session, x0.index, x0.many, ([] : (List Dot)), x0.ops⟩ : Frame)) && (rightV x0.known)) && (decide (x0.index ≤ 1152921504606846976)))) else (if decide (x0.kind = 2) = true then (some ((((((decide ((x0.known.length : Int) = 0)) && (decide (x0.index < x0.many))) && (decide (x0.many ≤ 512))) && (decide (0 < (x0.ops.length : Int)))) && (decide ((x0.ops.length : Int) ≤ 8))) && (!(hasOp x0.ops (fun y0 => (frame_Right_1 y0 x0)))))) else (some (((decide (x0.kind = 3)) && (frame_bare x0)) && (decide (x0.index ≤ 512))))))) = some r := by rw [← h]; unfold frame_Right; first | rfl | simp only [apply_ite some] | (repeat' (first | rfl | split))
 refine cl_of_wp Try.func29 rfl en_29 fun a hz hd hp => ?_; have hz : a.tmps.size = 115 := hz; have E := Chg.refl (fun _ => False) s0; have h0 := V_at k0 E (hp 0 v0 rfl); refine wp_sr ?_; refine sq_set hz rfl rfl rfl (op_boxn rfl rfl h0 (fun s2 e4 he BB3 r5 => fun a1 h1 hf hz hd1 => ?_)); obtain ⟨b24, hb24⟩ : ∃ b, b = s0.w.heap.size := ⟨_, rfl⟩; rw [← hb24] at BB3 h1; have B24 := BB3; have l24 : s0.w.heap.size ≤ b24 := by have := E.size; omega
 have ⟨hd, E⟩ := hdE hd1 hd E he; obtain ⟨u6, u7, u8, u9, u10, u11, u12, u13, u14, rfl, c15, c16, c17, c18, c19, c20, c21, c22, c23⟩ := kFrame_open r5; refine sq_blk (its := [⟨2, _, []⟩]) [] hz rfl ⟨(fun a s he hf hz => av rfl rfl b_f), trivial⟩ ?_; intro a25 s26 he hf hz hd1; have ⟨hd, E⟩ := hdE hd1 hd E he; have h1 := (hf 1 rfl).trans h1; have B24 := B24.ext he; obtain ⟨c15, c16, c17, c18, c19, c20, c21, c22, c23⟩ := vm9 he c15 c16 c17 c18 c19 c20 c21 c22 c23; refine wp_seq ?_; refine wp_sr ?_; have hz0 := hz
 refine sq_blk (its := (⟨5, _, []⟩ :: ⟨6, _, [0]⟩ :: ⟨7, _, [1]⟩ :: ⟨8, _, [2]⟩ :: ⟨9, _, [3]⟩ :: ⟨10, _, [4]⟩ :: ⟨11, _, [4, 5]⟩ :: ⟨12, _, [4, 6]⟩ :: ⟨13, _, [4, 7]⟩ :: ⟨14, _, [4, 8]⟩ :: ⟨15, _, [9]⟩ :: ⟨16, _, [10]⟩ :: ⟨17, _, [10, 11]⟩ :: ⟨18, _, [10]⟩ :: ⟨19, _, [10, 13]⟩ :: ⟨20, _, [10, 12, 14]⟩ :: ⟨21, _, [10, 15]⟩ :: ⟨22, _, [16]⟩ :: ⟨23, _, [17]⟩ :: ⟨24, _, [17, 18]⟩ :: ⟨25, _, [17, 19]⟩ :: ⟨26, _, [17, 20]⟩ :: ⟨27, _, [21]⟩ :: ⟨28, _, [22]⟩ :: ⟨29, _, [22, 23]⟩ :: ⟨30, _, [22, 24]⟩ :: ⟨31, _, [22, 25]⟩ :: ⟨32, _, [22, 26]⟩ :: ⟨33, _, [27]⟩ :: ⟨34, _, [28]⟩ :: ⟨35, _, [28, 29]⟩ :: ⟨36, _, [28, 30]⟩ :: ⟨37, _, [28, 31]⟩ :: ⟨38, _, [32]⟩ :: ⟨39, _, [33]⟩ :: ⟨40, _, [33, 34]⟩ :: ⟨41, _, [33, 35]⟩ :: ⟨42, _, [33, 36]⟩ :: ⟨43, _, [37]⟩ :: ⟨44, _, [38]⟩ :: ⟨45, _, [38, 39]⟩ :: ⟨46, _, [38, 40]⟩ :: ⟨47, _, [38, 41]⟩ :: [])) [42] hz rfl ⟨(fun a s he hf hz => fb rfl rfl fa_34_1 ((hf 1 rfl).trans h1)), (fun a s he hf hz q0 => lo rfl rfl ty_9 q0 (B24.ext he) rfl (vm he c16)), (fun a s he hf hz q1 => opw rfl (op_call rfl rfl (vector_IsName.ct q1))), (fun a s he hf hz q2 => no_ rfl rfl q2), mvq rfl rfl, (fun a s he hf hz q4 => og rfl rfl rfl hz hz0 rfl q4 (fun g => op_faddr_b rfl fa_34_2 ((hf 1 rfl).trans h1))), (fun a s he hf hz q4 q5 => og rfl rfl rfl hz hz0 rfl q4 (fun g => op_load1 rfl ty_9 (q5.1 g) (B24.ext he) rfl (vm he c17))), (fun a s he hf hz q4 q6 => og rfl rfl rfl hz hz0 rfl q4 (fun g => op_call rfl rfl (vector_IsName.ct (q6.1 g)))), (fun a s he hf hz q4 q7 => og rfl rfl rfl hz hz0 rfl q4 (fun g => op_not rfl (q7.1 g))), (fun a s he hf hz q4 q8 => oe rfl rfl q4 (q8.1)), mvq rfl rfl, (fun a s he hf hz q10 => og rfl rfl rfl hz hz0 rfl q10 (fun g => op_faddr_b rfl fa_34_1 ((hf 1 rfl).trans h1))), (fun a s he hf hz q10 q11 => og rfl rfl rfl hz hz0 rfl q10 (fun g => op_load1 rfl ty_9 (q11.1 g) (B24.ext he) rfl (vm he c16))), (fun a s he hf hz q10 => og rfl rfl rfl hz hz0 rfl q10 (fun g => op_faddr_b rfl fa_34_2 ((hf 1 rfl).trans h1))), (fun a s he hf hz q10 q13 => og rfl rfl rfl hz hz0 rfl q10 (fun g => op_load1 rfl ty_9 (q13.1 g) (B24.ext he) rfl (vm he c17))), (fun a s he hf hz q10 q12 q14 => og rfl rfl rfl hz hz0 rfl q10 (fun g => op_seql rfl (q12.1 g) (q14.1 g))), (fun a s he hf hz q10 q15 => oe rfl rfl q10 (q15.1)), mvq rfl rfl, (fun a s he hf hz q17 => og rfl rfl rfl hz hz0 rfl q17 (fun g => op_faddr_b rfl fa_34_3 ((hf 1 rfl).trans h1))), (fun a s he hf hz q17 q18 => og rfl rfl rfl hz hz0 rfl q17 (fun g => op_load1 rfl ty_9 (q18.1 g) (B24.ext he) rfl (vm he c18))), (fun a s he hf hz q17 q19 => og rfl rfl rfl hz hz0 rfl q17 (fun g => op_seql rfl (q19.1 g) s_0)), (fun a s he hf hz q17 q20 => oe rfl rfl q17 (q20.1)), mvq rfl rfl, (fun a s he hf hz q22 => og rfl rfl rfl hz hz0 rfl q22 (fun g => op_faddr_b rfl fa_34_3 ((hf 1 rfl).trans h1))), (fun a s he hf hz q22 q23 => og rfl rfl rfl hz hz0 rfl q22 (fun g => op_load1 rfl ty_9 (q23.1 g) (B24.ext he) rfl (vm he c18))), (fun a s he hf hz q22 q24 => og rfl rfl rfl hz hz0 rfl q22 (fun g => op_len_s rfl u_9 (q24.1 g))), (fun a s he hf hz q22 q25 => og rfl rfl rfl hz hz0 rfl q22 (fun g => op_gtr rfl (q25.1 g) (lit_i (k := .i64) (n := 32) (by decide)))), (fun a s he hf hz q22 q26 => oe rfl rfl q22 (q26.1)), mvq rfl rfl, (fun a s he hf hz q28 => og rfl rfl rfl hz hz0 rfl q28 (fun g => op_faddr_b rfl fa_34_4 ((hf 1 rfl).trans h1))), (fun a s he hf hz q28 q29 => og rfl rfl rfl hz hz0 rfl q28 (fun g => op_load1 rfl ty_2 (q29.1 g) (B24.ext he) rfl (vm he c19))), (fun a s he hf hz q28 q30 => og rfl rfl rfl hz hz0 rfl q28 (fun g => op_lss rfl (q30.1 g) i1)), (fun a s he hf hz q28 q31 => oe rfl rfl q28 (q31.1)), mvq rfl rfl, (fun a s he hf hz q33 => og rfl rfl rfl hz hz0 rfl q33 (fun g => op_faddr_b rfl fa_34_4 ((hf 1 rfl).trans h1))), (fun a s he hf hz q33 q34 => og rfl rfl rfl hz hz0 rfl q33 (fun g => op_load1 rfl ty_2 (q34.1 g) (B24.ext he) rfl (vm he c19))), (fun a s he hf hz q33 q35 => og rfl rfl rfl hz hz0 rfl q33 (fun g => op_gtr rfl (q35.1 g) (lit_i (k := .i64) (n := 1152921504606846976) (by decide)))), (fun a s he hf hz q33 q36 => oe rfl rfl q33 (q36.1)), mvq rfl rfl, (fun a s he hf hz q38 => og rfl rfl rfl hz hz0 rfl q38 (fun g => op_faddr_b rfl fa_34_5 ((hf 1 rfl).trans h1))), (fun a s he hf hz q38 q39 => og rfl rfl rfl hz hz0 rfl q38 (fun g => op_load1 rfl ty_2 (q39.1 g) (B24.ext he) rfl (vm he c20))), (fun a s he hf hz q38 q40 => og rfl rfl rfl hz hz0 rfl q38 (fun g => op_lss rfl (q40.1 g) i0)), (fun a s he hf hz q38 q41 => oe rfl rfl q38 (q41.1)), trivial⟩ ?_
 intro a27 s28 he hf hz hd1 h47; have ⟨hd, E⟩ := hdE hd1 hd E he; have h1 := (hf 1 rfl).trans h1; have B24 := B24.ext he; obtain ⟨c15, c16, c17, c18, c19, c20, c21, c22, c23⟩ := vm9 he c15 c16 c17 c18 c19 c20 c21 c22 c23; refine wp_condV h47 (fun hb => ?_) (fun hb => ?_)
 ·have h := ite_t hb h; refine wp_sr ?_; refine sq_blk (its := [⟨2, _, []⟩]) [0] hz rfl ⟨(fun a s he hf hz => av rfl rfl b_f), trivial⟩ ?_; intro a29 s30 he hf hz hd1 h2; have ⟨hd, E⟩ := hdE hd1 hd E he; refine wp_ret ?_; cases h
  exact ⟨hd, _, results_tmp rfl _ _ _, E, h2⟩
 ·have h := ite_f hb h; refine wp_skip ?_; refine wp_sr ?_; refine sq_blk (its := [⟨48, _, []⟩, ⟨49, _, [0]⟩, ⟨3, _, [1]⟩]) [2] hz rfl ⟨(fun a s he hf hz => fb rfl rfl fa_34_7 ((hf 1 rfl).trans h1)), (fun a s he hf hz q0 => lo rfl rfl ty_32 q0 (B24.ext he) rfl (vm he c22)), avq rfl rfl, trivial⟩ ?_; intro a31 s32 he hf hz hd1 h3; have ⟨hd, E⟩ := hdE hd1 hd E he; have h1 := (hf 1 rfl).trans h1; have B24 := B24.ext he; obtain ⟨c15, c16, c17, c18, c19, c20, c21, c22, c23⟩ := vm9 he c15 c16 c17 c18 c19 c20 c21 c22 c23; refine wp_seq ?_; refine wp_sr ?_; refine sq_blk (its := [⟨50, _, []⟩, ⟨51, _, [0]⟩]) [1] hz rfl ⟨(fun a s he hf hz => fb rfl rfl fa_34_0 ((hf 1 rfl).trans h1)), (fun a s he hf hz q0 => lo rfl rfl ty_3 q0 (B24.ext he) rfl (vm he c15)), trivial⟩ ?_; intro a33 s34 he hf hz hd1 h51; have ⟨hd, E⟩ := hdE hd1 hd E he; have h3 := V_at h3 he (hf 3 rfl); have h1 := (hf 1 rfl).trans h1; have B24 := B24.ext he; obtain ⟨c15, c16, c17, c18, c19, c20, c21, c22, c23⟩ := vm9 he c15 c16 c17 c18 c19 c20 c21 c22 c23; refine wp_block ?_; refine wp_sr ?_
  refine sq_blk (its := [⟨53, _, []⟩, ⟨52, _, [0]⟩]) [1] hz rfl ⟨(fun a s he hf hz => eq_ rfl rfl (V_at h51 he (hf 51 rfl)) i1), avq rfl rfl, trivial⟩ ?_; intro a35 s36 he hf hz hd1 h52; have ⟨hd, E⟩ := hdE hd1 hd E he; obtain ⟨h3, h51⟩ := va2 he hf h3 h51 rfl; have h1 := (hf 1 rfl).trans h1; have B24 := B24.ext he; obtain ⟨c15, c16, c17, c18, c19, c20, c21, c22, c23⟩ := vm9 he c15 c16 c17 c18 c19 c20 c21 c22 c23; refine wp_condV h52 (fun hb => ?_) (fun hb => ?_)
  ·have h := ite_t hb h; refine wp_sr ?_; refine sq_blk (its := [⟨54, _, []⟩]) [0] hz rfl ⟨(fun a s he hf hz => fb rfl rfl fa_34_7 ((hf 1 rfl).trans h1)), trivial⟩ ?_; intro a37 s38 he hf hz hd1 h54; have ⟨hd, E⟩ := hdE hd1 hd E he; have h3 := V_at h3 he (hf 3 rfl); have h1 := (hf 1 rfl).trans h1; have B24 := B24.ext he; obtain ⟨c15, c16, c17, c18, c19, c20, c21, c23⟩ := vm8 he c15 c16 c17 c18 c19 c20 c21 c23; refine sq_do rfl rfl (op_store_v rfl ty_32 rfl h54 B24 (lit_nil (d := kDot)) rfl (fun s40 he B24n c41 => ?_)); have h3 := vm he h3; obtain ⟨c15, c16, c17, c18, c19, c20, c21, c23⟩ := vm8 he c15 c16 c17 c18 c19 c20 c21 c23; have E := Chg.chg E he (fun b e h => (fun e => absurd h (by cases e; exact Nat.not_lt.2 l24)) e); obtain ⟨u42, huu42⟩ : ∃ u : Value, u = (.slice none 0 0) := ⟨_, rfl⟩; have c41 : (kSl kDot).V s40 u42 ([] : (List Dot)) := by rw [huu42]; exact c41
   have B24 : Bx s40 b24 34 [u6, u7, u8, u9, u10, u11, u12, u42, u14] := by rw [huu42]; exact B24n
   refine wp_sr ?_; have hz0 := hz; refine sq_blk (its := [⟨55, _, []⟩, ⟨56, _, [0]⟩, ⟨57, _, [1]⟩, ⟨58, _, [2]⟩, ⟨59, _, [2, 3]⟩, ⟨60, _, [2, 4]⟩, ⟨61, _, [5]⟩, ⟨62, _, [6]⟩, ⟨63, _, [6, 7]⟩, ⟨64, _, [6, 8]⟩, ⟨65, _, [6, 9]⟩, ⟨2, _, [10]⟩]) [11] hz rfl ⟨(fun a s he hf hz => ld rfl rfl ty_34 rfl ((hf 1 rfl).trans h1) (B24.ext he) rfl (kFrame_close (vm he c15) (vm he c16) (vm he c17) (vm he c18) (vm he c19) (vm he c20) (vm he c21) (vm he c41) (vm he c23))), (fun a s he hf hz q0 => opw rfl (op_call rfl rfl (frame_bare.ok q0))), mvq rfl rfl, (fun a s he hf hz q2 => og rfl rfl rfl hz hz0 rfl q2 (fun g => op_move_v rfl (V_at h3 he (hf 3 rfl)))), (fun a s he hf hz q2 q3 => og rfl rfl rfl hz hz0 rfl q2 (fun g => op_call rfl rfl (vector_Right.ct (q3.1 g)))), (fun a s he hf hz q2 q4 => an rfl rfl q2 (q4.1)), mvq rfl rfl, (fun a s he hf hz q6 => og rfl rfl rfl hz hz0 rfl q6 (fun g => op_faddr_b rfl fa_34_5 ((hf 1 rfl).trans h1))), (fun a s he hf hz q6 q7 => og rfl rfl rfl hz hz0 rfl q6 (fun g => op_load1 rfl ty_2 (q7.1 g) (B24.ext he) rfl (vm he c20))), (fun a s he hf hz q6 q8 => og rfl rfl rfl hz hz0 rfl q6 (fun g => op_leq rfl (q8.1 g) (lit_i (k := .i64) (n := 1152921504606846976) (by decide)))), (fun a s he hf hz q6 q9 => an rfl rfl q6 (q9.1)), avq rfl rfl, trivial⟩ ?_
   intro a43 s44 he hf hz hd1 h2; have ⟨hd, E⟩ := hdE hd1 hd E he; refine wp_ret ?_; cases h
   exact ⟨hd, _, results_tmp rfl _ _ _, E, h2⟩
  ·have h := ite_f hb h; refine wp_sr ?_; refine sq_blk (its := [⟨67, _, []⟩, ⟨66, _, [0]⟩]) [1] hz rfl ⟨(fun a s he hf hz => eq_ rfl rfl (V_at h51 he (hf 51 rfl)) (lit_i (k := .i64) (n := 2) (by decide))), avq rfl rfl, trivial⟩ ?_; intro a45 s46 he hf hz hd1 h66; have ⟨hd, E⟩ := hdE hd1 hd E he; have h3 := V_at h3 he (hf 3 rfl); have h1 := (hf 1 rfl).trans h1; have B24 := B24.ext he; obtain ⟨c15, c16, c17, c18, c19, c20, c21, c22, c23⟩ := vm9 he c15 c16 c17 c18 c19 c20 c21 c22 c23; refine wp_condV h66 (fun hb => ?_) (fun hb => ?_)
   ·have h := ite_t hb h; refine wp_sr ?_; refine sq_blk (its := [⟨68, _, []⟩, ⟨4, _, [0]⟩]) [1] hz rfl ⟨(fun a s he hf hz => opw rfl (op_func rfl (f := Fact.eq (.func (.func 81) #[] #[.pointer (some ⟨b24, 0, none⟩)])) (caps1 ((hf 1 rfl).trans h1)))), (fun a s he hf hz q0 => ae rfl rfl q0), trivial⟩ ?_; intro a47 s48 he hf hz hd1 h4; have ⟨hd, E⟩ := hdE hd1 hd E he; have h3 := V_at h3 he (hf 3 rfl); have h1 := (hf 1 rfl).trans h1; have B24 := B24.ext he; obtain ⟨c15, c16, c17, c18, c19, c20, c21, c22, c23⟩ := vm9 he c15 c16 c17 c18 c19 c20 c21 c22 c23; refine wp_sr ?_; have hz0 := hz
    refine sq_blk (its := (⟨69, _, []⟩ :: ⟨70, _, [0]⟩ :: ⟨71, _, [1]⟩ :: ⟨72, _, [2]⟩ :: ⟨73, _, [3]⟩ :: ⟨74, _, [3, 4]⟩ :: ⟨75, _, [3]⟩ :: ⟨76, _, [3, 6]⟩ :: ⟨77, _, [3, 5, 7]⟩ :: ⟨78, _, [3, 8]⟩ :: ⟨79, _, [9]⟩ :: ⟨80, _, [10]⟩ :: ⟨81, _, [10, 11]⟩ :: ⟨82, _, [10, 12]⟩ :: ⟨83, _, [10, 13]⟩ :: ⟨84, _, [14]⟩ :: ⟨85, _, [15]⟩ :: ⟨86, _, [15, 16]⟩ :: ⟨87, _, [15, 17]⟩ :: ⟨88, _, [15, 18]⟩ :: ⟨89, _, [15, 19]⟩ :: ⟨90, _, [20]⟩ :: ⟨91, _, [21]⟩ :: ⟨92, _, [21, 22]⟩ :: ⟨93, _, [21, 23]⟩ :: ⟨94, _, [21, 24]⟩ :: ⟨95, _, [21, 25]⟩ :: ⟨96, _, [26]⟩ :: ⟨97, _, [27]⟩ :: ⟨98, _, [27, 28]⟩ :: ⟨99, _, [27]⟩ :: ⟨100, _, [27, 29, 30]⟩ :: ⟨101, _, [27, 31]⟩ :: ⟨102, _, [27, 32]⟩ :: ⟨2, _, [33]⟩ :: [])) [34] hz rfl ⟨mvs rfl rfl h3 rfl, (fun a s he hf hz q0 => le_ rfl rfl u_32 q0), (fun a s he hf hz q1 => eq_ rfl rfl q1 i0), mvq rfl rfl, (fun a s he hf hz q3 => og rfl rfl rfl hz hz0 rfl q3 (fun g => op_faddr_b rfl fa_34_5 ((hf 1 rfl).trans h1))), (fun a s he hf hz q3 q4 => og rfl rfl rfl hz hz0 rfl q3 (fun g => op_load1 rfl ty_2 (q4.1 g) (B24.ext he) rfl (vm he c20))), (fun a s he hf hz q3 => og rfl rfl rfl hz hz0 rfl q3 (fun g => op_faddr_b rfl fa_34_6 ((hf 1 rfl).trans h1))), (fun a s he hf hz q3 q6 => og rfl rfl rfl hz hz0 rfl q3 (fun g => op_load1 rfl ty_2 (q6.1 g) (B24.ext he) rfl (vm he c21))), (fun a s he hf hz q3 q5 q7 => og rfl rfl rfl hz hz0 rfl q3 (fun g => op_lss rfl (q5.1 g) (q7.1 g))), (fun a s he hf hz q3 q8 => an rfl rfl q3 (q8.1)), mvq rfl rfl, (fun a s he hf hz q10 => og rfl rfl rfl hz hz0 rfl q10 (fun g => op_faddr_b rfl fa_34_6 ((hf 1 rfl).trans h1))), (fun a s he hf hz q10 q11 => og rfl rfl rfl hz hz0 rfl q10 (fun g => op_load1 rfl ty_2 (q11.1 g) (B24.ext he) rfl (vm he c21))), (fun a s he hf hz q10 q12 => og rfl rfl rfl hz hz0 rfl q10 (fun g => op_leq rfl (q12.1 g) (lit_i (k := .i64) (n := 512) (by decide)))), (fun a s he hf hz q10 q13 => an rfl rfl q10 (q13.1)), mvq rfl rfl, (fun a s he hf hz q15 => og rfl rfl rfl hz hz0 rfl q15 (fun g => op_faddr_b rfl fa_34_8 ((hf 1 rfl).trans h1))), (fun a s he hf hz q15 q16 => og rfl rfl rfl hz hz0 rfl q15 (fun g => op_load1 rfl ty_22 (q16.1 g) (B24.ext he) rfl (vm he c23))), (fun a s he hf hz q15 q17 => og rfl rfl rfl hz hz0 rfl q15 (fun g => op_len rfl u_22 (q17.1 g))), (fun a s he hf hz q15 q18 => og rfl rfl rfl hz hz0 rfl q15 (fun g => op_gtr rfl (q18.1 g) i0)), (fun a s he hf hz q15 q19 => an rfl rfl q15 (q19.1)), mvq rfl rfl, (fun a s he hf hz q21 => og rfl rfl rfl hz hz0 rfl q21 (fun g => op_faddr_b rfl fa_34_8 ((hf 1 rfl).trans h1))), (fun a s he hf hz q21 q22 => og rfl rfl rfl hz hz0 rfl q21 (fun g => op_load1 rfl ty_22 (q22.1 g) (B24.ext he) rfl (vm he c23))), (fun a s he hf hz q21 q23 => og rfl rfl rfl hz hz0 rfl q21 (fun g => op_len rfl u_22 (q23.1 g))), (fun a s he hf hz q21 q24 => og rfl rfl rfl hz hz0 rfl q21 (fun g => op_leq rfl (q24.1 g) (lit_i (k := .i64) (n := 8) (by decide)))), (fun a s he hf hz q21 q25 => an rfl rfl q21 (q25.1)), mvq rfl rfl, (fun a s he hf hz q27 => og rfl rfl rfl hz hz0 rfl q27 (fun g => op_faddr_b rfl fa_34_8 ((hf 1 rfl).trans h1))), (fun a s he hf hz q27 q28 => og rfl rfl rfl hz hz0 rfl q27 (fun g => op_load1 rfl ty_22 (q28.1 g) (B24.ext he) rfl (vm he c23))), (fun a s he hf hz q27 => og rfl rfl rfl hz hz0 rfl q27 (fun g => op_move_e rfl ((hf 4 rfl).trans h4))), (fun a s he hf hz q27 q29 q30 => og rfl rfl rfl hz hz0 rfl q27 (fun g => op_call rfl (argc rfl (argc rfl rfl)) (hasOp.ok (q29.1 g) (q30.1 g) (φ1 := (fun y0 => (frame_Right_1 y0 x0))) (fun he' hv0 => frame_Right_1.ok hv0 (Hd.ext (show Hd _ b24 34 kFrame x0 from ⟨_, (B24.ext he), (kFrame_eta (x := x0) (vm he c15) (vm he c16) (vm he c17) (vm he c18) (vm he c19) (vm he c20) (vm he c21) (vm he c22) (vm he c23))⟩) he'))))), (fun a s he hf hz q27 q31 => og rfl rfl rfl hz hz0 rfl q27 (fun g => op_not rfl (q31.1 g))), (fun a s he hf hz q27 q32 => an rfl rfl q27 (q32.1)), avq rfl rfl, trivial⟩ ?_
    intro a49 s50 he hf hz hd1 h2; have ⟨hd, E⟩ := hdE hd1 hd E he; refine wp_ret ?_; cases h
    exact ⟨hd, _, results_tmp rfl _ _ _, E, h2⟩
   ·have h := ite_f hb h; refine wp_skip ?_; refine wp_sr ?_; have hz0 := hz; refine sq_blk (its := [⟨103, _, []⟩, ⟨104, _, [0]⟩, ⟨105, _, [1]⟩, ⟨106, _, [2]⟩, ⟨107, _, [3]⟩, ⟨108, _, [3, 4]⟩, ⟨109, _, [3, 5]⟩, ⟨110, _, [6]⟩, ⟨111, _, [7]⟩, ⟨112, _, [7, 8]⟩, ⟨113, _, [7, 9]⟩, ⟨114, _, [7, 10]⟩, ⟨2, _, [11]⟩]) [12] hz rfl ⟨(fun a s he hf hz => fb rfl rfl fa_34_0 ((hf 1 rfl).trans h1)), (fun a s he hf hz q0 => lo rfl rfl ty_3 q0 (B24.ext he) rfl (vm he c15)), (fun a s he hf hz q1 => eq_ rfl rfl q1 (lit_i (k := .i64) (n := 3) (by decide))), mvq rfl rfl, (fun a s he hf hz q3 => og rfl rfl rfl hz hz0 rfl q3 (fun g => op_loadn rfl ty_34 rfl ((hf 1 rfl).trans h1) (B24.ext he) rfl (kFrame_eta (x := x0) (vm he c15) (vm he c16) (vm he c17) (vm he c18) (vm he c19) (vm he c20) (vm he c21) (vm he c22) (vm he c23)))), (fun a s he hf hz q3 q4 => og rfl rfl rfl hz hz0 rfl q3 (fun g => op_call rfl rfl (frame_bare.ok (q4.1 g)))), (fun a s he hf hz q3 q5 => an rfl rfl q3 (q5.1)), mvq rfl rfl, (fun a s he hf hz q7 => og rfl rfl rfl hz hz0 rfl q7 (fun g => op_faddr_b rfl fa_34_5 ((hf 1 rfl).trans h1))), (fun a s he hf hz q7 q8 => og rfl rfl rfl hz hz0 rfl q7 (fun g => op_load1 rfl ty_2 (q8.1 g) (B24.ext he) rfl (vm he c20))), (fun a s he hf hz q7 q9 => og rfl rfl rfl hz hz0 rfl q7 (fun g => op_leq rfl (q9.1 g) (lit_i (k := .i64) (n := 512) (by decide)))), (fun a s he hf hz q7 q10 => an rfl rfl q7 (q10.1)), avq rfl rfl, trivial⟩ ?_
    intro a51 s52 he hf hz hd1 h2; have ⟨hd, E⟩ := hdE hd1 hd E he; refine wp_ret ?_; cases h
    exact ⟨hd, _, results_tmp rfl _ _ _, E, h2⟩
theorem hasOp_eq (x : Frame) : (!hasOp x.ops (fun y0 => frame_Right_1 y0 x)) = x.ops.all (fun o => decide (o.cart = x.cart) && rightO o) := by
 unfold hasOp idxF0
 rw [idxF_any, List.not_any_eq_all_not]
 congr 1
 funext o
 simp [frame_Right_1]
theorem nilOk (x : Str) : (decide (x = ([] : Str)) = decide (x.length = 0)) := by cases x <;> simp
theorem frame_Right_eq (x : Frame) : frame_Right x = rightF x := by
 unfold frame_Right
 rw [hasOp_eq, nilOk]
 unfold rightF frame_bare textOk
 simp only []
 generalize x.ops.all (fun o => decide (o.cart = x.cart) && rightO o) = z
 generalize rightV x.known = v
 generalize isName x.src = a
 generalize isName x.dst = b
 generalize x.cart.length = cl
 generalize x.ops.length = ol
 generalize x.known.length = nl
 rw [Bool.eq_iff_iff]
 by_cases hs : x.src = x.dst
 ·simp [hs]
 by_cases k1 : x.kind = 1
 ·simp [k1, hs]; cases a <;> cases b <;> simp <;> cases v <;> simp <;> omega
 ·by_cases k2 : x.kind = 2
  ·simp [k1, k2, hs]; cases a <;> cases b <;> simp <;> cases z <;> simp <;> omega
  ·by_cases k3 : x.kind = 3
   ·simp [k3, hs]; cases a <;> cases b <;> simp <;> omega
   ·simp [k1, k2, k3]
end
section
attribute [local irreducible] Kn.V PtrV
def ref08_Equal (x0 : Op) (x1 : Op) : Bool := (((((((same_ x0.deps x1.deps) && (same_ x0.seen x1.seen)) && (decide (x0.dot = x1.dot))) && (decide (x0.cart = x1.cart))) && (decide (x0.kind = x1.kind))) && (decide (x0.item = x1.item))) && (decide (x0.qty = x1.qty)))
theorem ref08_Equal.ok {s0 : St} {v0 : Value} {x0 : Op} {v1 : Value} {x1 : Op} (k0 : kOp.V s0 v0 x0) (k1 : kOp.V s0 v1 x1) : Cl Try.prog 56 #[v0, v1] s0 (Okf s0 (Fact.v kB (ref08_Equal x0 x1))) := by
 obtain ⟨r, h⟩ : ∃ r, some (ref08_Equal x0 x1) = some r := ⟨_, rfl⟩
 rw [Option.some.inj h]
 have h : (some (((((((same_ x0.deps x1.deps) && (same_ x0.seen x1.seen)) && (decide (x0.dot = x1.dot))) && (decide (x0.cart = x1.cart))) && (decide (x0.kind = x1.kind))) && (decide (x0.item = x1.item))) && (decide (x0.qty = x1.qty)))) = some r := by rw [← h]; unfold ref08_Equal; first | rfl | simp only [apply_ite some] | (repeat' (first | rfl | split))
 refine cl_of_wp Try.func56 rfl en_56 fun a hz hd hp => ?_; have hz : a.tmps.size = 56 := hz; have E := Chg.refl (fun _ => False) s0; have h0 := V_at k0 E (hp 0 v0 rfl); have h1 := V_at k1 E (hp 1 v1 rfl); refine wp_sr ?_; refine sq_set hz rfl rfl rfl (op_boxn rfl rfl h0 (fun s2 e4 he BB3 r5 => fun a1 h2 hf hz hd1 => ?_)); obtain ⟨b22, hb22⟩ : ∃ b, b = s0.w.heap.size := ⟨_, rfl⟩; rw [← hb22] at BB3 h2; have B22 := BB3; have l22 : s0.w.heap.size ≤ b22 := by have := E.size; omega
 have ⟨hd, E⟩ := hdE hd1 hd E he; have h1 := V_at h1 he (hf 1 rfl); obtain ⟨u6, u7, u8, u9, u10, u11, u12, u13, rfl, c14, c15, c16, c17, c18, c19, c20, c21⟩ := kOp_open r5; refine sq_set hz rfl rfl rfl (op_boxn rfl rfl h1 (fun s24 e26 he BB25 r27 => fun a23 h3 hf hz hd1 => ?_)); obtain ⟨b44, hb44⟩ : ∃ b, b = s2.w.heap.size := ⟨_, rfl⟩; rw [← hb44] at BB25 h3; have B44 := BB25; have l44 : s0.w.heap.size ≤ b44 := by have := E.size; omega
 have ⟨hd, E⟩ := hdE hd1 hd E he; have h2 := (hf 2 rfl).trans h2; have B22 := B22.ext he; obtain ⟨c14, c15, c16, c17, c18, c19, c20, c21⟩ := vm8 he c14 c15 c16 c17 c18 c19 c20 c21; obtain ⟨u28, u29, u30, u31, u32, u33, u34, u35, rfl, c36, c37, c38, c39, c40, c41, c42, c43⟩ := kOp_open r27; refine sq_blk (its := [⟨4, _, []⟩]) [] hz rfl ⟨(fun a s he hf hz => av rfl rfl b_f), trivial⟩ ?_; intro a45 s46 he hf hz hd1; have ⟨hd, E⟩ := hdE hd1 hd E he; obtain ⟨h2, h3⟩ := ea2 hf h2 h3 rfl; obtain ⟨B22, B44⟩ := bx2 he B22 B44; obtain ⟨c14, c15, c16, c17, c18, c19, c20, c21, c36, c37, c38, c39⟩ := vm12 he c14 c15 c16 c17 c18 c19 c20 c21 c36 c37 c38 c39; obtain ⟨c40, c41, c42, c43⟩ := vm4 he c40 c41 c42 c43; refine wp_sr ?_; refine sq_blk (its := [⟨7, _, []⟩, ⟨8, _, [0]⟩, ⟨9, _, []⟩, ⟨10, _, [2]⟩, ⟨11, _, [1, 3]⟩, ⟨5, _, [4]⟩]) [5] hz rfl ⟨(fun a s he hf hz => fb rfl rfl fa_72_1 ((hf 2 rfl).trans h2)), (fun a s he hf hz q0 => lo rfl rfl ty_32 q0 (B22.ext he) rfl (vm he c16)), (fun a s he hf hz => fb rfl rfl fa_72_1 ((hf 3 rfl).trans h3)), (fun a s he hf hz q2 => lo rfl rfl ty_32 q2 (B44.ext he) rfl (vm he c38)), (fun a s he hf hz q1 q3 => opw rfl (op_call rfl rfl (ref07_Same.ct q1 q3))), avq rfl rfl, trivial⟩ ?_
 intro a47 s48 he hf hz hd1 h5; have ⟨hd, E⟩ := hdE hd1 hd E he; obtain ⟨h2, h3⟩ := ea2 hf h2 h3 rfl; obtain ⟨B22, B44⟩ := bx2 he B22 B44; obtain ⟨c14, c15, c17, c18, c19, c20, c21, c36, c37, c39⟩ := vm10 he c14 c15 c17 c18 c19 c20 c21 c36 c37 c39; obtain ⟨c40, c41, c42, c43⟩ := vm4 he c40 c41 c42 c43; refine wp_sr ?_; refine sq_blk (its := [⟨12, _, []⟩, ⟨13, _, [0]⟩, ⟨14, _, []⟩, ⟨15, _, [2]⟩, ⟨16, _, [1, 3]⟩, ⟨6, _, [4]⟩]) [5] hz rfl ⟨(fun a s he hf hz => fb rfl rfl fa_72_6 ((hf 2 rfl).trans h2)), (fun a s he hf hz q0 => lo rfl rfl ty_32 q0 (B22.ext he) rfl (vm he c21)), (fun a s he hf hz => fb rfl rfl fa_72_6 ((hf 3 rfl).trans h3)), (fun a s he hf hz q2 => lo rfl rfl ty_32 q2 (B44.ext he) rfl (vm he c43)), (fun a s he hf hz q1 q3 => opw rfl (op_call rfl rfl (ref07_Same.ct q1 q3))), avq rfl rfl, trivial⟩ ?_; intro a49 s50 he hf hz hd1 h6; have ⟨hd, E⟩ := hdE hd1 hd E he; have h5 := V_at h5 he (hf 5 rfl); obtain ⟨h2, h3⟩ := ea2 hf h2 h3 rfl; obtain ⟨B22, B44⟩ := bx2 he B22 B44; obtain ⟨c14, c15, c17, c18, c19, c20, c36, c37, c39⟩ := vm9 he c14 c15 c17 c18 c19 c20 c36 c37 c39; obtain ⟨c40, c41, c42⟩ := vm3 he c40 c41 c42
 refine wp_sr ?_; have hz0 := hz; refine sq_blk (its := (⟨17, _, []⟩ :: ⟨18, _, [0]⟩ :: ⟨19, _, [1]⟩ :: ⟨20, _, [1, 2]⟩ :: ⟨21, _, [3]⟩ :: ⟨22, _, [4]⟩ :: ⟨23, _, [4, 5]⟩ :: ⟨24, _, [4]⟩ :: ⟨25, _, [4, 7]⟩ :: ⟨26, _, [4, 6, 8]⟩ :: ⟨27, _, [4, 9]⟩ :: ⟨28, _, [10]⟩ :: ⟨29, _, [11]⟩ :: ⟨30, _, [11, 12]⟩ :: ⟨31, _, [11]⟩ :: ⟨32, _, [11, 14]⟩ :: ⟨33, _, [11, 13, 15]⟩ :: ⟨34, _, [11, 16]⟩ :: ⟨35, _, [17]⟩ :: ⟨36, _, [18]⟩ :: ⟨37, _, [18, 19]⟩ :: ⟨38, _, [18]⟩ :: ⟨39, _, [18, 21]⟩ :: ⟨40, _, [18, 20, 22]⟩ :: ⟨41, _, [18, 23]⟩ :: ⟨42, _, [24]⟩ :: ⟨43, _, [25]⟩ :: ⟨44, _, [25, 26]⟩ :: ⟨45, _, [25]⟩ :: ⟨46, _, [25, 28]⟩ :: ⟨47, _, [25, 27, 29]⟩ :: ⟨48, _, [25, 30]⟩ :: ⟨49, _, [31]⟩ :: ⟨50, _, [32]⟩ :: ⟨51, _, [32, 33]⟩ :: ⟨52, _, [32]⟩ :: ⟨53, _, [32, 35]⟩ :: ⟨54, _, [32, 34, 36]⟩ :: ⟨55, _, [32, 37]⟩ :: ⟨4, _, [38]⟩ :: [])) [39] hz rfl ⟨mvs rfl rfl h5 rfl, mvq rfl rfl, (fun a s he hf hz q1 => og rfl rfl rfl hz hz0 rfl q1 (fun g => op_move_v rfl (V_at h6 he (hf 6 rfl)))), (fun a s he hf hz q1 q2 => an rfl rfl q1 (q2.1)), mvq rfl rfl, (fun a s he hf hz q4 => og rfl rfl rfl hz hz0 rfl q4 (fun g => op_faddr_b rfl fa_72_0 ((hf 2 rfl).trans h2))), (fun a s he hf hz q4 q5 => og rfl rfl rfl hz hz0 rfl q4 (fun g => op_loadn rfl ty_70 rfl (q5.1 g) (B22.ext he) rfl (kDot_eta (x := x0.dot) (vm he c14) (vm he c15)))), (fun a s he hf hz q4 => og rfl rfl rfl hz hz0 rfl q4 (fun g => op_faddr_b rfl fa_72_0 ((hf 3 rfl).trans h3))), (fun a s he hf hz q4 q7 => og rfl rfl rfl hz hz0 rfl q4 (fun g => op_loadn rfl ty_70 rfl (q7.1 g) (B44.ext he) rfl (kDot_eta (x := x1.dot) (vm he c36) (vm he c37)))), (fun a s he hf hz q4 q6 q8 => og rfl rfl rfl hz hz0 rfl q4 (fun g => op_steql rfl si_70 (q6.1 g) (q8.1 g))), (fun a s he hf hz q4 q9 => an rfl rfl q4 (q9.1)), mvq rfl rfl, (fun a s he hf hz q11 => og rfl rfl rfl hz hz0 rfl q11 (fun g => op_faddr_b rfl fa_72_2 ((hf 2 rfl).trans h2))), (fun a s he hf hz q11 q12 => og rfl rfl rfl hz hz0 rfl q11 (fun g => op_load1 rfl ty_9 (q12.1 g) (B22.ext he) rfl (vm he c17))), (fun a s he hf hz q11 => og rfl rfl rfl hz hz0 rfl q11 (fun g => op_faddr_b rfl fa_72_2 ((hf 3 rfl).trans h3))), (fun a s he hf hz q11 q14 => og rfl rfl rfl hz hz0 rfl q11 (fun g => op_load1 rfl ty_9 (q14.1 g) (B44.ext he) rfl (vm he c39))), (fun a s he hf hz q11 q13 q15 => og rfl rfl rfl hz hz0 rfl q11 (fun g => op_seql rfl (q13.1 g) (q15.1 g))), (fun a s he hf hz q11 q16 => an rfl rfl q11 (q16.1)), mvq rfl rfl, (fun a s he hf hz q18 => og rfl rfl rfl hz hz0 rfl q18 (fun g => op_faddr_b rfl fa_72_3 ((hf 2 rfl).trans h2))), (fun a s he hf hz q18 q19 => og rfl rfl rfl hz hz0 rfl q18 (fun g => op_load1 rfl ty_3 (q19.1 g) (B22.ext he) rfl (vm he c18))), (fun a s he hf hz q18 => og rfl rfl rfl hz hz0 rfl q18 (fun g => op_faddr_b rfl fa_72_3 ((hf 3 rfl).trans h3))), (fun a s he hf hz q18 q21 => og rfl rfl rfl hz hz0 rfl q18 (fun g => op_load1 rfl ty_3 (q21.1 g) (B44.ext he) rfl (vm he c40))), (fun a s he hf hz q18 q20 q22 => og rfl rfl rfl hz hz0 rfl q18 (fun g => op_eql rfl (q20.1 g) (q22.1 g))), (fun a s he hf hz q18 q23 => an rfl rfl q18 (q23.1)), mvq rfl rfl, (fun a s he hf hz q25 => og rfl rfl rfl hz hz0 rfl q25 (fun g => op_faddr_b rfl fa_72_4 ((hf 2 rfl).trans h2))), (fun a s he hf hz q25 q26 => og rfl rfl rfl hz hz0 rfl q25 (fun g => op_load1 rfl ty_9 (q26.1 g) (B22.ext he) rfl (vm he c19))), (fun a s he hf hz q25 => og rfl rfl rfl hz hz0 rfl q25 (fun g => op_faddr_b rfl fa_72_4 ((hf 3 rfl).trans h3))), (fun a s he hf hz q25 q28 => og rfl rfl rfl hz hz0 rfl q25 (fun g => op_load1 rfl ty_9 (q28.1 g) (B44.ext he) rfl (vm he c41))), (fun a s he hf hz q25 q27 q29 => og rfl rfl rfl hz hz0 rfl q25 (fun g => op_seql rfl (q27.1 g) (q29.1 g))), (fun a s he hf hz q25 q30 => an rfl rfl q25 (q30.1)), mvq rfl rfl, (fun a s he hf hz q32 => og rfl rfl rfl hz hz0 rfl q32 (fun g => op_faddr_b rfl fa_72_5 ((hf 2 rfl).trans h2))), (fun a s he hf hz q32 q33 => og rfl rfl rfl hz hz0 rfl q32 (fun g => op_load1 rfl ty_2 (q33.1 g) (B22.ext he) rfl (vm he c20))), (fun a s he hf hz q32 => og rfl rfl rfl hz hz0 rfl q32 (fun g => op_faddr_b rfl fa_72_5 ((hf 3 rfl).trans h3))), (fun a s he hf hz q32 q35 => og rfl rfl rfl hz hz0 rfl q32 (fun g => op_load1 rfl ty_2 (q35.1 g) (B44.ext he) rfl (vm he c42))), (fun a s he hf hz q32 q34 q36 => og rfl rfl rfl hz hz0 rfl q32 (fun g => op_eql rfl (q34.1 g) (q36.1 g))), (fun a s he hf hz q32 q37 => an rfl rfl q32 (q37.1)), avq rfl rfl, trivial⟩ ?_
 intro a51 s52 he hf hz hd1 h4; have ⟨hd, E⟩ := hdE hd1 hd E he; refine wp_ret ?_; cases h
 exact ⟨hd, _, results_tmp rfl _ _ _, E, h4⟩
theorem ref08_Equal_eq (x y : Op) : ref08_Equal x y = decide (x = y) := by
 unfold ref08_Equal
 unfold same_
 rw [Bool.eq_iff_iff]
 simp only [Bool.and_eq_true, decide_eq_true_eq]
 constructor
 ·rintro ⟨⟨⟨⟨⟨⟨h1, h2⟩, h3⟩, h4⟩, h5⟩, h6⟩, h7⟩
  cases x; cases y; simp only at *; subst h1 h2 h3 h4 h5 h6 h7; rfl
 ·rintro rfl; exact ⟨⟨⟨⟨⟨⟨rfl, rfl⟩, rfl⟩, rfl⟩, rfl⟩, rfl⟩, rfl⟩
def sameO (x y : List Op) : Bool := decide (x = y)
def ref08_SameOps.l0 : Nat → (List Op) → (List Op) → Int → Option (Bool)
 | 0, _, _, _ => none
 | m12 + 1, x0, x1, y11 => (if decide (y11 < (x0.length : Int)) = true then (if (0 ≤ y11 ∧ y11 < (x0.length : Int)) then (if (0 ≤ y11 ∧ y11 < (x1.length : Int)) then (if (!(ref08_Equal (List.getD x0 (y11).toNat default) (List.getD x1 (y11).toNat default))) = true then (some false) else (ref08_SameOps.l0 m12 x0 x1 (IntKind.wrap .i64 (y11 + 1)))) else none) else none) else (some true))
def ref08_SameOps.f (k : Nat) (x0 : (List Op)) (x1 : (List Op)) : Option (Bool) := (if (!decide ((x0.length : Int) = (x1.length : Int))) = true then (some false) else (ref08_SameOps.l0 k x0 x1 0))
theorem ref08_SameOps.ok {s0 : St} {v0 : Value} {x0 : (List Op)} {v1 : Value} {x1 : (List Op)} {k : Nat} {r : Bool} (k0 : (kSl kOp).V s0 v0 x0) (k1 : (kSl kOp).V s0 v1 x1) (h : ref08_SameOps.f k x0 x1 = some r) : Cl Try.prog 23 #[v0, v1] s0 (Okf s0 (Fact.v kB r)) := by
 unfold ref08_SameOps.f at h
 refine cl_of_wp Try.func23 rfl en_23 fun a hz hd hp => ?_; have hz : a.tmps.size = 29 := hz; have E := Chg.refl (fun _ => False) s0; have h0 := V_at k0 E (hp 0 v0 rfl); have h1 := V_at k1 E (hp 1 v1 rfl); refine wp_sr ?_; refine sq_blk (its := [⟨4, _, []⟩]) [] hz rfl ⟨(fun a s he hf hz => av rfl rfl b_f), trivial⟩ ?_; intro a1 s2 he hf hz hd1; have ⟨hd, E⟩ := hdE hd1 hd E he; obtain ⟨h0, h1⟩ := va2 he hf h0 h1 rfl; refine wp_seq ?_; refine wp_sr ?_; refine sq_blk (its := [⟨7, _, []⟩, ⟨8, _, [0]⟩, ⟨9, _, []⟩, ⟨10, _, [2]⟩, ⟨11, _, [1, 3]⟩]) [4] hz rfl ⟨mvs rfl rfl h0 rfl, (fun a s he hf hz q0 => le_ rfl rfl u_22 q0), mvs rfl rfl h1 rfl, (fun a s he hf hz q2 => le_ rfl rfl u_22 q2), (fun a s he hf hz q1 q3 => ne_ rfl rfl q1 q3), trivial⟩ ?_; intro a3 s4 he hf hz hd1 h11; have ⟨hd, E⟩ := hdE hd1 hd E he; obtain ⟨h0, h1⟩ := va2 he hf h0 h1 rfl; refine wp_condV h11 (fun hb => ?_) (fun hb => ?_)
 ·have h := ite_t hb h; refine wp_sr ?_; refine sq_blk (its := [⟨4, _, []⟩]) [0] hz rfl ⟨(fun a s he hf hz => av rfl rfl b_f), trivial⟩ ?_; intro a5 s6 he hf hz hd1 h4; have ⟨hd, E⟩ := hdE hd1 hd E he; refine wp_ret ?_; cases h
  exact ⟨hd, _, results_tmp rfl _ _ _, E, h4⟩
 ·have h := ite_f hb h; refine wp_skip ?_; refine wp_seq ?_; refine wp_sr ?_; refine sq_blk (its := [⟨5, _, []⟩]) [0] hz rfl ⟨(fun a s he hf hz => av rfl rfl i0), trivial⟩ ?_; intro a7 s8 he hf hz hd1 h5; have ⟨hd, E⟩ := hdE hd1 hd E he; obtain ⟨h0, h1⟩ := va2 he hf h0 h1 rfl; refine wp_block ?_; refine wp_loop (k := k) (fun m12 a s => ∃ (y11 : Int), ref08_SameOps.l0 m12 x0 x1 y11 = some r ∧ m12 ≤ k ∧ Ext s0 s ∧ a.tmps.size = 29 ∧ a.defers = [] ∧ (kSl kOp).V s (a.get 0) x0 ∧ (kSl kOp).V s (a.get 1) x1 ∧ (kI .i64).V s (a.get 5) y11) ⟨_, h, Nat.le_refl _, E, hz, hd, h0, h1, h5⟩ ?_; rintro m12 a10 s9 ⟨y11, h, hkm12, E, hz, hd, h0, h1, h5⟩; obtain _ | m12 := m12
  ·cases h
  refine wp_seq ?_; refine wp_sr ?_; refine sq_blk (its := [⟨12, _, []⟩, ⟨13, _, []⟩, ⟨14, _, [1]⟩, ⟨15, _, [0, 2]⟩]) [3] hz rfl ⟨mvs rfl rfl h5 rfl, mvs rfl rfl h0 rfl, (fun a s he hf hz q1 => le_ rfl rfl u_22 q1), (fun a s he hf hz q0 q2 => ls rfl rfl q0 q2), trivial⟩ ?_; intro a13 s14 he hf hz hd1 h15; have ⟨hd, E⟩ := hdE hd1 hd E he; obtain ⟨h0, h1, h5⟩ := va3 he hf h0 h1 h5 rfl; refine wp_condV h15 (fun hb => ?_) (fun hb => ?_)
  ·have h := ite_t hb h; refine wp_skip ?_; refine wp_seq ?_; refine wp_block ?_; refine wp_seq ?_; obtain ⟨D15, h⟩ := need h; obtain ⟨D16, h⟩ := need h; refine wp_draw (its := [⟨18, _, []⟩, ⟨19, _, []⟩, ⟨20, _, [0, 1]⟩, ⟨21, _, [2]⟩, ⟨22, _, []⟩, ⟨23, _, []⟩, ⟨24, _, [4, 5]⟩, ⟨25, _, [6]⟩, ⟨26, _, [3, 7]⟩, ⟨6, _, [8]⟩]) [9] mo hz (by kernel_rfl) ⟨mvs rfl rfl h0 rfl, mvs rfl rfl h5 rfl, (fun a s he hf hz q0 q1 => ia rfl rfl sl_22 q0 q1 D15.1 D15.2), (fun a s he hf hz q2 => lp rfl rfl ty_72 (by decide) q2), mvs rfl rfl h1 rfl, mvs rfl rfl h5 rfl, (fun a s he hf hz q4 q5 => ia rfl rfl sl_22 q4 q5 D16.1 D16.2), (fun a s he hf hz q6 => lp rfl rfl ty_72 (by decide) q6), (fun a s he hf hz q3 q7 => opw rfl (op_call rfl rfl (ref08_Equal.ok q3 q7))), avq rfl rfl, trivial⟩ ?_; intro a17 s18 he hf hz hd1 h6; have ⟨hd, E⟩ := hdE hd1 hd E he; obtain ⟨h0, h1, h5⟩ := va3 he hf h0 h1 h5 rfl; refine wp_sr ?_; refine sq_blk (its := [⟨27, _, []⟩, ⟨28, _, [0]⟩]) [1] hz rfl ⟨mvs rfl rfl h6 rfl, (fun a s he hf hz q0 => no_ rfl rfl q0), trivial⟩ ?_; intro a19 s20 he hf hz hd1 h28; have hd := hd1.trans hd; obtain ⟨h0, h1, h5⟩ := va3 he hf h0 h1 h5 rfl
   have E := E.trans he; refine wp_condV h28 (fun hb => ?_) (fun hb => ?_)
   ·have h := ite_t hb h; refine wp_sr ?_; refine sq_blk (its := [⟨4, _, []⟩]) [0] hz rfl ⟨(fun a s he hf hz => av rfl rfl b_f), trivial⟩ ?_; intro a21 s22 he hf hz hd1 h4; have ⟨hd, E⟩ := hdE hd1 hd E he; refine wp_ret ?_; cases h
    exact ⟨hd, _, results_tmp rfl _ _ _, E, h4⟩
   ·have h := ite_f hb h; refine wp_skip ?_; refine wp_region ?_; refine sq_blk (its := [⟨16, _, []⟩, ⟨17, _, [0]⟩]) [1] hz rfl ⟨mvs rfl rfl h5 rfl, (fun a s he hf hz q0 => ad rfl rfl q0 i1), trivial⟩ ?_; intro a23 s24 he hf hz hd1 h17; have ⟨hd, E⟩ := hdE hd1 hd E he; obtain ⟨h0, h1⟩ := va2 he hf h0 h1 rfl; refine sq_blk (its := [⟨5, _, []⟩]) [0] hz rfl ⟨avs rfl rfl h17 rfl, trivial⟩ ?_; intro a25 s26 he hf hz hd1 h5; have ⟨hd, E⟩ := hdE hd1 hd E he; obtain ⟨h0, h1⟩ := va2 he hf h0 h1 rfl; exact ⟨_, (by omega : m12 < m12 + 1), _, h, by omega, E, hz, hd, h0, h1, h5⟩
  ·have h := ite_f hb h; refine wp_exit ?_; refine then_exit ?_; refine then_exit ?_; refine inBlock_hit ?_; refine wp_sr ?_; refine sq_blk (its := [⟨4, _, []⟩]) [0] hz rfl ⟨(fun a s he hf hz => av rfl rfl b_t), trivial⟩ ?_; intro a27 s28 he hf hz hd1 h4; have ⟨hd, E⟩ := hdE hd1 hd E he; refine wp_ret ?_; cases h
   exact ⟨hd, _, results_tmp rfl _ _ _, E, h4⟩
theorem ref08_SameOps.nice (x0 x1 : List Op) (b0 : (kSl kOp).bd x0) (b1 : (kSl kOp).bd x1) : ∃ k, ref08_SameOps.f k x0 x1 = some (sameO x0 x1) := by
 have hb : x0.length ≤ maxLen := b0.1
 have hm := maxLen_lt
 by_cases hl : x0.length = x1.length
 ·have : ∀ y, y ≤ x0.length → ∃ k, ref08_SameOps.l0 k x0 x1 (y : Int) = some (decide (x0.drop y = x1.drop y)) := by
   refine rounds x0.length ⟨1, ?_⟩ fun y hy ⟨k, hk⟩ => ?_
   ·simp only [ref08_SameOps.l0, List.drop_length, Int.lt_irrefl, decide_false, Bool.false_eq_true, if_false]
    rw [hl, List.drop_length]; simp
   ·push_cast at hk
    have hr : (0 : Int) ≤ y ∧ (y : Int) < x0.length := ⟨by omega, by omega⟩
    have hr' : (0 : Int) ≤ y ∧ (y : Int) < x1.length := ⟨by omega, by omega⟩
    refine ⟨k + 1, ?_⟩
    rw [drop_at default hy, drop_at (xs := x1) default (by omega)]
    simp only [ref08_SameOps.l0, hr, hr', and_self, if_true, decide_true, ref08_Equal_eq]
    rw [Int.toNat_natCast]
    generalize x0.getD y default = o
    generalize x1.getD y default = p
    by_cases ho : o = p
    ·subst ho
     simp only [decide_true, Bool.not_true, Bool.false_eq_true, if_false]
     rw [w64s (by omega), hk]
     simp
    ·simp [ho]
  obtain ⟨k, hk⟩ := this 0 (Nat.zero_le _)
  refine ⟨k, ?_⟩
  unfold ref08_SameOps.f
  rw [if_neg (by simp [hl])]
  exact hk
 ·refine ⟨0, ?_⟩
  unfold ref08_SameOps.f sameO
  rw [if_pos (by simp; omega)]
  have : ¬ x0 = x1 := fun e => hl (by rw [e])
  simp [this]
theorem ref08_SameOps.ct {s0 : St} {v0 : Value} {x0 : (List Op)} {v1 : Value} {x1 : (List Op)} (k0 : (kSl kOp).V s0 v0 x0) (k1 : (kSl kOp).V s0 v1 x1) : Cl Try.prog 23 #[v0, v1] s0 (Okf s0 (Fact.v kB (sameO x0 x1))) := by
 obtain ⟨k, h⟩ := ref08_SameOps.nice x0 x1 (Kn.V_bd k0) (Kn.V_bd k1)
 exact ref08_SameOps.ok k0 k1 h
def ref14_Equal (x0 : Frame) (x1 : Frame) : Bool := (((((((((same_ x0.known x1.known) && (sameO x0.ops x1.ops)) && (decide (x0.kind = x1.kind))) && (decide (x0.src = x1.src))) && (decide (x0.dst = x1.dst))) && (decide (x0.cart = x1.cart))) && (decide (x0.session = x1.session))) && (decide (x0.index = x1.index))) && (decide (x0.many = x1.many)))
theorem ref14_Equal.ok {s0 : St} {v0 : Value} {x0 : Frame} {v1 : Value} {x1 : Frame} (k0 : kFrame.V s0 v0 x0) (k1 : kFrame.V s0 v1 x1) : Cl Try.prog 18 #[v0, v1] s0 (Okf s0 (Fact.v kB (ref14_Equal x0 x1))) := by
 obtain ⟨r, h⟩ : ∃ r, some (ref14_Equal x0 x1) = some r := ⟨_, rfl⟩
 rw [Option.some.inj h]
 have h : (some (((((((((same_ x0.known x1.known) && (sameO x0.ops x1.ops)) && (decide (x0.kind = x1.kind))) && (decide (x0.src = x1.src))) && (decide (x0.dst = x1.dst))) && (decide (x0.cart = x1.cart))) && (decide (x0.session = x1.session))) && (decide (x0.index = x1.index))) && (decide (x0.many = x1.many)))) = some r := by rw [← h]; unfold ref14_Equal; first | rfl | simp only [apply_ite some] | (repeat' (first | rfl | split))
 refine cl_of_wp Try.func18 rfl en_18 fun a hz hd hp => ?_; have hz : a.tmps.size = 70 := hz; have E := Chg.refl (fun _ => False) s0; have h0 := V_at k0 E (hp 0 v0 rfl); have h1 := V_at k1 E (hp 1 v1 rfl); refine wp_sr ?_; refine sq_set hz rfl rfl rfl (op_boxn rfl rfl h0 (fun s2 e4 he BB3 r5 => fun a1 h2 hf hz hd1 => ?_)); obtain ⟨b24, hb24⟩ : ∃ b, b = s0.w.heap.size := ⟨_, rfl⟩; rw [← hb24] at BB3 h2; have B24 := BB3; have l24 : s0.w.heap.size ≤ b24 := by have := E.size; omega
 have ⟨hd, E⟩ := hdE hd1 hd E he; have h1 := V_at h1 he (hf 1 rfl); obtain ⟨u6, u7, u8, u9, u10, u11, u12, u13, u14, rfl, c15, c16, c17, c18, c19, c20, c21, c22, c23⟩ := kFrame_open r5; refine sq_set hz rfl rfl rfl (op_boxn rfl rfl h1 (fun s26 e28 he BB27 r29 => fun a25 h3 hf hz hd1 => ?_)); obtain ⟨b48, hb48⟩ : ∃ b, b = s2.w.heap.size := ⟨_, rfl⟩; rw [← hb48] at BB27 h3; have B48 := BB27; have l48 : s0.w.heap.size ≤ b48 := by have := E.size; omega
 have ⟨hd, E⟩ := hdE hd1 hd E he; have h2 := (hf 2 rfl).trans h2; have B24 := B24.ext he; obtain ⟨c15, c16, c17, c18, c19, c20, c21, c22, c23⟩ := vm9 he c15 c16 c17 c18 c19 c20 c21 c22 c23; obtain ⟨u30, u31, u32, u33, u34, u35, u36, u37, u38, rfl, c39, c40, c41, c42, c43, c44, c45, c46, c47⟩ := kFrame_open r29; refine sq_blk (its := [⟨4, _, []⟩]) [] hz rfl ⟨(fun a s he hf hz => av rfl rfl b_f), trivial⟩ ?_; intro a49 s50 he hf hz hd1; have ⟨hd, E⟩ := hdE hd1 hd E he; obtain ⟨h2, h3⟩ := ea2 hf h2 h3 rfl; obtain ⟨B24, B48⟩ := bx2 he B24 B48; obtain ⟨c15, c16, c17, c18, c19, c20, c21, c22, c23, c39, c40, c41⟩ := vm12 he c15 c16 c17 c18 c19 c20 c21 c22 c23 c39 c40 c41; obtain ⟨c42, c43, c44, c45, c46, c47⟩ := vm6 he c42 c43 c44 c45 c46 c47; refine wp_sr ?_; refine sq_blk (its := [⟨7, _, []⟩, ⟨8, _, [0]⟩, ⟨9, _, []⟩, ⟨10, _, [2]⟩, ⟨11, _, [1, 3]⟩, ⟨5, _, [4]⟩]) [5] hz rfl ⟨(fun a s he hf hz => fb rfl rfl fa_34_7 ((hf 2 rfl).trans h2)), (fun a s he hf hz q0 => lo rfl rfl ty_32 q0 (B24.ext he) rfl (vm he c22)), (fun a s he hf hz => fb rfl rfl fa_34_7 ((hf 3 rfl).trans h3)), (fun a s he hf hz q2 => lo rfl rfl ty_32 q2 (B48.ext he) rfl (vm he c46)), (fun a s he hf hz q1 q3 => opw rfl (op_call rfl rfl (ref07_Same.ct q1 q3))), avq rfl rfl, trivial⟩ ?_
 intro a51 s52 he hf hz hd1 h5; have ⟨hd, E⟩ := hdE hd1 hd E he; obtain ⟨h2, h3⟩ := ea2 hf h2 h3 rfl; obtain ⟨B24, B48⟩ := bx2 he B24 B48; obtain ⟨c15, c16, c17, c18, c19, c20, c21, c23, c39, c40, c41⟩ := vm11 he c15 c16 c17 c18 c19 c20 c21 c23 c39 c40 c41; obtain ⟨c42, c43, c44, c45, c47⟩ := vm5 he c42 c43 c44 c45 c47; refine wp_sr ?_; refine sq_blk (its := [⟨12, _, []⟩, ⟨13, _, [0]⟩, ⟨14, _, []⟩, ⟨15, _, [2]⟩, ⟨16, _, [1, 3]⟩, ⟨6, _, [4]⟩]) [5] hz rfl ⟨(fun a s he hf hz => fb rfl rfl fa_34_8 ((hf 2 rfl).trans h2)), (fun a s he hf hz q0 => lo rfl rfl ty_22 q0 (B24.ext he) rfl (vm he c23)), (fun a s he hf hz => fb rfl rfl fa_34_8 ((hf 3 rfl).trans h3)), (fun a s he hf hz q2 => lo rfl rfl ty_22 q2 (B48.ext he) rfl (vm he c47)), (fun a s he hf hz q1 q3 => opw rfl (op_call rfl rfl (ref08_SameOps.ct q1 q3))), avq rfl rfl, trivial⟩ ?_; intro a53 s54 he hf hz hd1 h6; have hd := hd1.trans hd; have h5 := V_at h5 he (hf 5 rfl); obtain ⟨h2, h3⟩ := ea2 hf h2 h3 rfl; obtain ⟨B24, B48⟩ := bx2 he B24 B48; obtain ⟨c15, c16, c17, c18, c19, c20, c21, c39, c40, c41⟩ := vm10 he c15 c16 c17 c18 c19 c20 c21 c39 c40 c41
 obtain ⟨c42, c43, c44, c45⟩ := vm4 he c42 c43 c44 c45; have E := E.trans he; refine wp_sr ?_; have hz0 := hz
 refine sq_blk (its := (⟨17, _, []⟩ :: ⟨18, _, [0]⟩ :: ⟨19, _, [1]⟩ :: ⟨20, _, [1, 2]⟩ :: ⟨21, _, [3]⟩ :: ⟨22, _, [4]⟩ :: ⟨23, _, [4, 5]⟩ :: ⟨24, _, [4]⟩ :: ⟨25, _, [4, 7]⟩ :: ⟨26, _, [4, 6, 8]⟩ :: ⟨27, _, [4, 9]⟩ :: ⟨28, _, [10]⟩ :: ⟨29, _, [11]⟩ :: ⟨30, _, [11, 12]⟩ :: ⟨31, _, [11]⟩ :: ⟨32, _, [11, 14]⟩ :: ⟨33, _, [11, 13, 15]⟩ :: ⟨34, _, [11, 16]⟩ :: ⟨35, _, [17]⟩ :: ⟨36, _, [18]⟩ :: ⟨37, _, [18, 19]⟩ :: ⟨38, _, [18]⟩ :: ⟨39, _, [18, 21]⟩ :: ⟨40, _, [18, 20, 22]⟩ :: ⟨41, _, [18, 23]⟩ :: ⟨42, _, [24]⟩ :: ⟨43, _, [25]⟩ :: ⟨44, _, [25, 26]⟩ :: ⟨45, _, [25]⟩ :: ⟨46, _, [25, 28]⟩ :: ⟨47, _, [25, 27, 29]⟩ :: ⟨48, _, [25, 30]⟩ :: ⟨49, _, [31]⟩ :: ⟨50, _, [32]⟩ :: ⟨51, _, [32, 33]⟩ :: ⟨52, _, [32]⟩ :: ⟨53, _, [32, 35]⟩ :: ⟨54, _, [32, 34, 36]⟩ :: ⟨55, _, [32, 37]⟩ :: ⟨56, _, [38]⟩ :: ⟨57, _, [39]⟩ :: ⟨58, _, [39, 40]⟩ :: ⟨59, _, [39]⟩ :: ⟨60, _, [39, 42]⟩ :: ⟨61, _, [39, 41, 43]⟩ :: ⟨62, _, [39, 44]⟩ :: ⟨63, _, [45]⟩ :: ⟨64, _, [46]⟩ :: ⟨65, _, [46, 47]⟩ :: ⟨66, _, [46]⟩ :: ⟨67, _, [46, 49]⟩ :: ⟨68, _, [46, 48, 50]⟩ :: ⟨69, _, [46, 51]⟩ :: ⟨4, _, [52]⟩ :: [])) [53] hz rfl ⟨mvs rfl rfl h5 rfl, mvq rfl rfl, (fun a s he hf hz q1 => og rfl rfl rfl hz hz0 rfl q1 (fun g => op_move_v rfl (V_at h6 he (hf 6 rfl)))), (fun a s he hf hz q1 q2 => an rfl rfl q1 (q2.1)), mvq rfl rfl, (fun a s he hf hz q4 => og rfl rfl rfl hz hz0 rfl q4 (fun g => op_faddr_b rfl fa_34_0 ((hf 2 rfl).trans h2))), (fun a s he hf hz q4 q5 => og rfl rfl rfl hz hz0 rfl q4 (fun g => op_load1 rfl ty_3 (q5.1 g) (B24.ext he) rfl (vm he c15))), (fun a s he hf hz q4 => og rfl rfl rfl hz hz0 rfl q4 (fun g => op_faddr_b rfl fa_34_0 ((hf 3 rfl).trans h3))), (fun a s he hf hz q4 q7 => og rfl rfl rfl hz hz0 rfl q4 (fun g => op_load1 rfl ty_3 (q7.1 g) (B48.ext he) rfl (vm he c39))), (fun a s he hf hz q4 q6 q8 => og rfl rfl rfl hz hz0 rfl q4 (fun g => op_eql rfl (q6.1 g) (q8.1 g))), (fun a s he hf hz q4 q9 => an rfl rfl q4 (q9.1)), mvq rfl rfl, (fun a s he hf hz q11 => og rfl rfl rfl hz hz0 rfl q11 (fun g => op_faddr_b rfl fa_34_1 ((hf 2 rfl).trans h2))), (fun a s he hf hz q11 q12 => og rfl rfl rfl hz hz0 rfl q11 (fun g => op_load1 rfl ty_9 (q12.1 g) (B24.ext he) rfl (vm he c16))), (fun a s he hf hz q11 => og rfl rfl rfl hz hz0 rfl q11 (fun g => op_faddr_b rfl fa_34_1 ((hf 3 rfl).trans h3))), (fun a s he hf hz q11 q14 => og rfl rfl rfl hz hz0 rfl q11 (fun g => op_load1 rfl ty_9 (q14.1 g) (B48.ext he) rfl (vm he c40))), (fun a s he hf hz q11 q13 q15 => og rfl rfl rfl hz hz0 rfl q11 (fun g => op_seql rfl (q13.1 g) (q15.1 g))), (fun a s he hf hz q11 q16 => an rfl rfl q11 (q16.1)), mvq rfl rfl, (fun a s he hf hz q18 => og rfl rfl rfl hz hz0 rfl q18 (fun g => op_faddr_b rfl fa_34_2 ((hf 2 rfl).trans h2))), (fun a s he hf hz q18 q19 => og rfl rfl rfl hz hz0 rfl q18 (fun g => op_load1 rfl ty_9 (q19.1 g) (B24.ext he) rfl (vm he c17))), (fun a s he hf hz q18 => og rfl rfl rfl hz hz0 rfl q18 (fun g => op_faddr_b rfl fa_34_2 ((hf 3 rfl).trans h3))), (fun a s he hf hz q18 q21 => og rfl rfl rfl hz hz0 rfl q18 (fun g => op_load1 rfl ty_9 (q21.1 g) (B48.ext he) rfl (vm he c41))), (fun a s he hf hz q18 q20 q22 => og rfl rfl rfl hz hz0 rfl q18 (fun g => op_seql rfl (q20.1 g) (q22.1 g))), (fun a s he hf hz q18 q23 => an rfl rfl q18 (q23.1)), mvq rfl rfl, (fun a s he hf hz q25 => og rfl rfl rfl hz hz0 rfl q25 (fun g => op_faddr_b rfl fa_34_3 ((hf 2 rfl).trans h2))), (fun a s he hf hz q25 q26 => og rfl rfl rfl hz hz0 rfl q25 (fun g => op_load1 rfl ty_9 (q26.1 g) (B24.ext he) rfl (vm he c18))), (fun a s he hf hz q25 => og rfl rfl rfl hz hz0 rfl q25 (fun g => op_faddr_b rfl fa_34_3 ((hf 3 rfl).trans h3))), (fun a s he hf hz q25 q28 => og rfl rfl rfl hz hz0 rfl q25 (fun g => op_load1 rfl ty_9 (q28.1 g) (B48.ext he) rfl (vm he c42))), (fun a s he hf hz q25 q27 q29 => og rfl rfl rfl hz hz0 rfl q25 (fun g => op_seql rfl (q27.1 g) (q29.1 g))), (fun a s he hf hz q25 q30 => an rfl rfl q25 (q30.1)), mvq rfl rfl, (fun a s he hf hz q32 => og rfl rfl rfl hz hz0 rfl q32 (fun g => op_faddr_b rfl fa_34_4 ((hf 2 rfl).trans h2))), (fun a s he hf hz q32 q33 => og rfl rfl rfl hz hz0 rfl q32 (fun g => op_load1 rfl ty_2 (q33.1 g) (B24.ext he) rfl (vm he c19))), (fun a s he hf hz q32 => og rfl rfl rfl hz hz0 rfl q32 (fun g => op_faddr_b rfl fa_34_4 ((hf 3 rfl).trans h3))), (fun a s he hf hz q32 q35 => og rfl rfl rfl hz hz0 rfl q32 (fun g => op_load1 rfl ty_2 (q35.1 g) (B48.ext he) rfl (vm he c43))), (fun a s he hf hz q32 q34 q36 => og rfl rfl rfl hz hz0 rfl q32 (fun g => op_eql rfl (q34.1 g) (q36.1 g))), (fun a s he hf hz q32 q37 => an rfl rfl q32 (q37.1)), mvq rfl rfl, (fun a s he hf hz q39 => og rfl rfl rfl hz hz0 rfl q39 (fun g => op_faddr_b rfl fa_34_5 ((hf 2 rfl).trans h2))), (fun a s he hf hz q39 q40 => og rfl rfl rfl hz hz0 rfl q39 (fun g => op_load1 rfl ty_2 (q40.1 g) (B24.ext he) rfl (vm he c20))), (fun a s he hf hz q39 => og rfl rfl rfl hz hz0 rfl q39 (fun g => op_faddr_b rfl fa_34_5 ((hf 3 rfl).trans h3))), (fun a s he hf hz q39 q42 => og rfl rfl rfl hz hz0 rfl q39 (fun g => op_load1 rfl ty_2 (q42.1 g) (B48.ext he) rfl (vm he c44))), (fun a s he hf hz q39 q41 q43 => og rfl rfl rfl hz hz0 rfl q39 (fun g => op_eql rfl (q41.1 g) (q43.1 g))), (fun a s he hf hz q39 q44 => an rfl rfl q39 (q44.1)), mvq rfl rfl, (fun a s he hf hz q46 => og rfl rfl rfl hz hz0 rfl q46 (fun g => op_faddr_b rfl fa_34_6 ((hf 2 rfl).trans h2))), (fun a s he hf hz q46 q47 => og rfl rfl rfl hz hz0 rfl q46 (fun g => op_load1 rfl ty_2 (q47.1 g) (B24.ext he) rfl (vm he c21))), (fun a s he hf hz q46 => og rfl rfl rfl hz hz0 rfl q46 (fun g => op_faddr_b rfl fa_34_6 ((hf 3 rfl).trans h3))), (fun a s he hf hz q46 q49 => og rfl rfl rfl hz hz0 rfl q46 (fun g => op_load1 rfl ty_2 (q49.1 g) (B48.ext he) rfl (vm he c45))), (fun a s he hf hz q46 q48 q50 => og rfl rfl rfl hz hz0 rfl q46 (fun g => op_eql rfl (q48.1 g) (q50.1 g))), (fun a s he hf hz q46 q51 => an rfl rfl q46 (q51.1)), avq rfl rfl, trivial⟩ ?_
 intro a55 s56 he hf hz hd1 h4; have ⟨hd, E⟩ := hdE hd1 hd E he; refine wp_ret ?_; cases h
 exact ⟨hd, _, results_tmp rfl _ _ _, E, h4⟩
theorem rightF_ops {f : Frame} (h : rightF f = true) : ∀ o ∈ f.ops, rightO o = true := by
 obtain ⟨_, _, _, _, _, h6⟩ := rightF_parts h
 rcases h6 with ⟨_, _, e, _⟩ | ⟨_, _, _, _, e⟩ | ⟨_, _, _, e⟩
 ·rw [e]; simp
 ·exact e
 ·rw [e]; simp
theorem ref14_Equal_eq (x y : Frame) : ref14_Equal x y = decide (x = y) := by
 unfold ref14_Equal sameO same_
 rw [Bool.eq_iff_iff]
 simp only [Bool.and_eq_true, decide_eq_true_eq]
 constructor
 ·rintro ⟨⟨⟨⟨⟨⟨⟨⟨h1, h2⟩, h3⟩, h4⟩, h5⟩, h6⟩, h7⟩, h8⟩, h9⟩
  cases x; cases y; simp only at *; subst h1 h2 h3 h4 h5 h6 h7 h8 h9; rfl
 ·rintro rfl; exact ⟨⟨⟨⟨⟨⟨⟨⟨rfl, rfl⟩, rfl⟩, rfl⟩, rfl⟩, rfl⟩, rfl⟩, rfl⟩, rfl⟩
end
section
attribute [local irreducible] Kn.V PtrV
theorem layO_right {o : Op} (h : rightO o = true) : (layO o).1 = opB o := by unfold layO; rw [if_pos h]
theorem layV_right {b : Str} {x : List Dot} (h : rightV x = true) : (layV b x).1 = b ++ vecB x := by unfold layV; rw [if_pos h]
theorem frm_head (x : Frame) (h : rightF x = true) : number (number (text (text (text ([] : (List UInt8)) x.src) x.dst) x.cart) (IntKind.wrap .u64 x.session)) (IntKind.wrap .u64 x.index) = frmH x := by
 obtain ⟨_, _, _, h4, h5, _⟩ := rightF_parts h
 rw [wrap_u64i (by omega) (by omega), wrap_u64i (by omega) (by omega)]
 simp only [text_eq, number, frmH, List.nil_append]
theorem frmH_le {x : Frame} (h : rightF x = true) : (frmH x).length ≤ 200 := by
 obtain ⟨h1, h2, h3, _, _, _⟩ := rightF_parts h
 have a1 := textB_le h1.2
 have a2 := textB_le h2.2
 have a3 := textB_le h3.2
 have a4 := numB_le x.session.toNat
 have a5 := numB_le x.index.toNat
 simp only [frmH, List.length_append]
 omega
theorem frmB1 {x : Frame} (h : x.kind = 1) : frmB x = frmH x ++ vecB x.known := by unfold frmB; rw [if_pos h]
theorem frmB2 {x : Frame} (h : x.kind = 2) : frmB x = frmH x ++ (numB x.many.toNat ++ numB x.ops.length ++ opsB x.ops) := by unfold frmB; rw [if_neg (by omega), if_pos h]
theorem frmB3 {x : Frame} (h : x.kind = 3) : frmB x = frmH x := by unfold frmB; rw [if_neg (by omega), if_neg (by omega), List.append_nil]
theorem text3_le {x : Frame} (h : rightF x = true) : (text ([] : Str) x.src).length ≤ 33 ∧ (text (text ([] : Str) x.src) x.dst).length ≤ 66 ∧ (text (text (text ([] : Str) x.src) x.dst) x.cart).length ≤ 107 ∧ (number (text (text (text ([] : (List UInt8)) x.src) x.dst) x.cart) (IntKind.wrap .u64 x.session)).length ≤ 116 := by
 obtain ⟨h1, h2, h3, _, _, _⟩ := rightF_parts h
 have a1 := textB_le h1.2
 have a2 := textB_le h2.2
 have a3 := textB_le h3.2
 have a4 := numB_le (IntKind.wrap .u64 x.session).toNat
 simp only [text_eq, number, List.nil_append, List.length_append]
 omega
end
section
attribute [local irreducible] Kn.V PtrV
def frame_laid (x0 : (List Op)) : (List Op) := x0
theorem frame_laid.ok {s0 : St} {v0 : Value} {x0 : (List Op)} (k0 : (kSl kOp).V s0 v0 x0) : Cl Try.prog 72 #[v0] s0 (fun v t => Ext s0 t ∧ ∃ b, v = .func (.func 112) #[] #[.pointer (some ⟨b, 0, none⟩)] ∧ s0.w.heap.size ≤ b ∧ Hd t b 22 (kSl kOp) (frame_laid x0)) := by
 obtain ⟨r, h⟩ : ∃ r, some (frame_laid x0) = some r := ⟨_, rfl⟩
 rw [Option.some.inj h]
 have h : (some x0) = some r := by rw [← h]; unfold frame_laid; first | rfl | simp only [apply_ite some] | (repeat' (first | rfl | split))
 refine cl_of_wp Try.func72 rfl en_72 fun a hz hd hp => ?_; have hz : a.tmps.size = 4 := hz; have E := Chg.refl (fun _ => False) s0; have h0 := V_at k0 E (hp 0 v0 rfl); refine wp_sr ?_; refine sq_set hz rfl rfl rfl (op_box1 rfl rfl h0 (fun s2 u4 he BB3 c5 => fun a1 h1 hf hz hd1 => ?_)); obtain ⟨b6, hb6⟩ : ∃ b, b = s0.w.heap.size := ⟨_, rfl⟩; rw [← hb6] at BB3 h1; have B6 := BB3; have l6 : s0.w.heap.size ≤ b6 := by have := E.size; omega
 have ⟨hd, E⟩ := hdE hd1 hd E he; refine sq_blk (its := [⟨2, _, []⟩]) [] hz rfl ⟨(fun a s he hf hz => ae rfl rfl rfl), trivial⟩ ?_; intro a7 s8 he hf hz hd1; have ⟨hd, E⟩ := hdE hd1 hd E he; have h1 := (hf 1 rfl).trans h1; have B6 := B6.ext he; have c5 := vm he c5; refine wp_sr ?_; refine sq_blk (its := [⟨3, _, []⟩, ⟨2, _, [0]⟩]) [1] hz rfl ⟨(fun a s he hf hz => opw rfl (op_func rfl (f := Fact.eq (.func (.func 112) #[] #[.pointer (some ⟨b6, 0, none⟩)])) (caps1 ((hf 1 rfl).trans h1)))), (fun a s he hf hz q0 => ae rfl rfl q0), trivial⟩ ?_; intro a9 s10 he hf hz hd1 h2; have ⟨hd, E⟩ := hdE hd1 hd E he; have B6 := B6.ext he; have c5 := vm he c5; refine wp_ret ?_; cases h
 exact ⟨hd, _, results_tmp rfl _ _ _, E, b6, h2, l6, ⟨_, B6, V_one rfl c5⟩⟩
def laidS (x : List Op) : List Str := x.map fun o => (layO o).1
def frame_laid_1.l0 : Nat → (List Op) → Int → Option (List Str)
 | 0, _, _ => none
 | m11 + 1, x1, y10 => (if decide (y10 < (x1.length : Int)) = true then (if (0 ≤ y10 ∧ y10 < (x1.length : Int)) then (Option.map (fun q => ((layO (List.getD x1 (y10).toNat default)).1) :: q) (if (!true) = true then (some []) else (frame_laid_1.l0 m11 x1 (IntKind.wrap .i64 (y10 + 1))))) else none) else (some []))
def frame_laid_1.f (k : Nat) (x1 : (List Op)) : Option (List Str) := (frame_laid_1.l0 k x1 0)
theorem frame_laid_1.ok {s0 : St} {l : Nat} {M : Nat → Prop} {J : List Str → St → Prop} {b1 : Nat} {x1 : (List Op)} {k : Nat} {r : List Str} (H1 : Hd s0 b1 22 (kSl kOp) x1) (hM : ∀ k, M k → k < s0.w.heap.size) (hJ : ∀ q t t', J q t → Chg (fun k => k = b1) t t' → J q t') (hy : ∀ x q t u0, J (x :: q) t → kS.V t u0 x → Yd Try.prog l #[u0] t (fun v t' => v = .bool true ∧ Chg M t t' ∧ J q t')) (m1 : ¬ M b1) (J0 : J r s0) (h : frame_laid_1.f k x1 = some r) : Cl Try.prog 112 #[.func (.yield l) #[] #[], .pointer (some ⟨b1, 0, none⟩)] s0 (fun v t => Chg (fun k => M k ∨ k = b1) s0 t ∧ J [] t) := by
 unfold frame_laid_1.f at h
 refine cl_of_wp Try.func112 rfl en_112 fun a hz hd hp => ?_; have hz : a.tmps.size = 23 := hz; have E := Chg.refl (fun k => M k ∨ k = b1) s0; have jj := J0; have EJ := Chg.refl (fun k => k = b1) s0; obtain ⟨e2, B1, r3⟩ := H1; obtain ⟨u4, rfl, c5⟩ := one_of rfl rfl r3; have h0 : a.get 0 = .func (.yield l) #[] #[] := hp 0 _ rfl; have h1 : a.get 1 = .pointer (some ⟨b1, 0, none⟩) := hp 1 _ rfl; refine wp_sr ?_; refine sq_blk (its := [⟨7, _, []⟩, ⟨8, _, [0]⟩, ⟨9, _, []⟩]) [0, 1, 2] hz rfl ⟨(fun a s he hf hz => lo rfl rfl ty_22 ((hf 1 rfl).trans h1) (B1.ext he) rfl (vm he c5)), (fun a s he hf hz q0 => le_ rfl rfl u_22 q0), (fun a s he hf hz => mv rfl rfl i0), trivial⟩ ?_; intro a6 s7 he hf hz hd1 h7 h8 h9; have hd := hd1.trans hd; have h0 := (hf 0 rfl).trans h0; have B1 := B1.ext he; have c5 := vm he c5; have E := E.trans (Chg.of_ext he); have EJ := EJ.trans (Chg.of_ext he); refine wp_block ?_; have jj := hJ _ _ _ jj EJ
 refine wp_loop (k := k) (fun m11 a s => ∃ (r : List Str) (y10 : Int), frame_laid_1.l0 m11 x1 y10 = some r ∧ m11 ≤ k ∧ Chg (fun k => M k ∨ k = b1) s0 s ∧ a.tmps.size = 23 ∧ a.defers = [] ∧ J r s ∧ a.get 0 = .func (.yield l) #[] #[] ∧ (kSl kOp).V s (a.get 7) x1 ∧ (kI .i64).V s (a.get 8) (x1.length : Int) ∧ (kI .i64).V s (a.get 9) y10 ∧ Bx s b1 22 [u4] ∧ (kSl kOp).V s u4 x1) ⟨_, _, h, Nat.le_refl _, E, hz, hd, jj, h0, h7, h8, h9, B1, c5⟩ ?_; rintro m11 a9 s8 ⟨r, y10, h, hkm11, E, hz, hd, jj, h0, h7, h8, h9, B1, c5⟩; have EJ := Chg.refl (fun k => k = b1) s8; obtain _ | m11 := m11
 ·cases h
 refine wp_sr ?_; refine sq_blk (its := [⟨10, _, []⟩]) [0] hz rfl ⟨(fun a s he hf hz => ls rfl rfl (V_at h9 he (hf 9 rfl)) (V_at h8 he (hf 8 rfl))), trivial⟩ ?_; intro a12 s13 he hf hz hd1 h10; have hd := hd1.trans hd; obtain ⟨h7, h8, h9⟩ := va3 he hf h7 h8 h9 rfl; have h0 := (hf 0 rfl).trans h0; have B1 := B1.ext he; have c5 := vm he c5; have E := E.trans (Chg.of_ext he); have EJ := EJ.trans (Chg.of_ext he); refine wp_seq ?_; refine wp_condV h10 (fun hb => ?_) (fun hb => ?_)
 ·have h := ite_t hb h; refine wp_skip ?_; refine wp_seq ?_; refine wp_block ?_; refine wp_sr ?_; obtain ⟨D14, h⟩ := need h; refine sq_blk (its := [⟨11, _, []⟩, ⟨12, _, [0]⟩]) [1] hz rfl ⟨(fun a s he hf hz => ia rfl rfl sl_22 (V_at h7 he (hf 7 rfl)) (V_at h9 he (hf 9 rfl)) D14.1 D14.2), (fun a s he hf hz q0 => lp rfl rfl ty_72 (by decide) q0), trivial⟩ ?_; intro a15 s16 he hf hz hd1 h12; have hd := hd1.trans hd; obtain ⟨h7, h8, h9⟩ := va3 he hf h7 h8 h9 rfl; have h0 := (hf 0 rfl).trans h0; have B1 := B1.ext he; have c5 := vm he c5; have E := E.trans (Chg.of_ext he); have EJ := EJ.trans (Chg.of_ext he); refine sq_set hz rfl rfl rfl (op_alloc (cs := [.string ⟨#[]⟩, .int .i64 0, .slice none 0 0, .string ⟨#[]⟩, .int .i64 0, .string ⟨#[]⟩, .int .i64 0, .slice none 0 0]) rfl zv_72 rfl (fun s18 he BB19 => fun a17 h4 hf hz hd1 => ?_)); obtain ⟨b28, hb28⟩ : ∃ b, b = s16.w.heap.size := ⟨_, rfl⟩; rw [← hb28] at BB19 h4; have B28 := BB19; have l28 : s0.w.heap.size ≤ b28 := by have := E.size; omega
  have lJ28 : s8.w.heap.size ≤ b28 := by have := EJ.size; omega
  have n28_1 : b28 ≠ b1 := by have := B1.lt; omega
  have hd := hd1.trans hd; obtain ⟨h7, h8, h9, h12⟩ := va4 he hf h7 h8 h9 h12 rfl; have h0 := (hf 0 rfl).trans h0; have B1 := B1.ext he; have c5 := vm he c5; have E := E.trans (Chg.of_ext he); have EJ := EJ.trans (Chg.of_ext he); have c20 : kS.V s18 (.string ⟨#[]⟩) ([] : Str) := s_0; have c21 : (kI .i64).V s18 (.int .i64 0) 0 := i0; have c22 : (kSl kDot).V s18 (.slice none 0 0) ([] : (List Dot)) := (lit_nil (d := kDot)); have c23 : kS.V s18 (.string ⟨#[]⟩) ([] : Str) := s_0; have c24 : (kI .i64).V s18 (.int .i64 0) 0 := i0; have c25 : kS.V s18 (.string ⟨#[]⟩) ([] : Str) := s_0; have c26 : (kI .i64).V s18 (.int .i64 0) 0 := i0; have c27 : (kSl kDot).V s18 (.slice none 0 0) ([] : (List Dot)) := (lit_nil (d := kDot)); refine sq_do rfl rfl (op_storen rfl ty_72 rfl h4 B28 h12 rfl (fun s30 e31 he B28n r32 => ?_)); obtain ⟨h7, h8, h9⟩ := vm3 he h7 h8 h9; have B1 := B1.chg he (fun e => (Ne.symm n28_1) e); have c5 := vm he c5
  have E := Chg.chg E he (fun b e h => (fun e => absurd h (by cases e; exact Nat.not_lt.2 l28)) e); have EJ := Chg.chg EJ he (fun b e h => (fun e => absurd h (by cases e; exact Nat.not_lt.2 lJ28)) e); obtain ⟨u33, u34, u35, u36, u37, u38, u39, u40, rfl, c41, c42, c43, c44, c45, c46, c47, c48⟩ := kOp_open r32; have B28 : Bx s30 b28 72 [u33, u34, u35, u36, u37, u38, u39, u40] := B28n; refine wp_sr ?_; refine sq_blk (its := [⟨14, _, []⟩, ⟨15, _, [0]⟩, ⟨13, _, [1]⟩, ⟨16, _, [2]⟩, ⟨17, _, [2]⟩, ⟨5, _, [3]⟩, ⟨6, _, [4]⟩]) [5] hz rfl ⟨(fun a s he hf hz => ld rfl rfl ty_72 rfl ((hf 4 rfl).trans h4) (B28.ext he) rfl (kOp_eta (x := (List.getD x1 (y10).toNat default)) (vm he c41) (vm he c42) (vm he c43) (vm he c44) (vm he c45) (vm he c46) (vm he c47) (vm he c48))), (fun a s he hf hz q0 => opw rfl (op_call rfl rfl (order_Lay.ct q0))), (fun a s he hf hz q1 => opw rfl (op_move rfl (f := Fact.tup _) q1)), (fun a s he hf hz q2 => opw rfl (op_extract (f := Fact.v _ _) rfl q2 rfl)), (fun a s he hf hz q2 => opw rfl (op_extract (f := Fact.v _ _) rfl q2 rfl)), avq rfl rfl, avq rfl rfl, trivial⟩ ?_; intro a49 s50 he hf hz hd1 h5; have hd := hd1.trans hd
  obtain ⟨h7, h8, h9⟩ := va3 he hf h7 h8 h9 rfl; have h0 := (hf 0 rfl).trans h0; have B1 := B1.ext he; have c5 := vm he c5; have E := E.trans (Chg.of_ext he); have EJ := EJ.trans (Chg.of_ext he); refine wp_sr ?_; refine sq_blk (its := [⟨18, _, []⟩, ⟨19, _, []⟩]) [0, 1] hz rfl ⟨mes rfl rfl h0 rfl, mvs rfl rfl h5 rfl, trivial⟩ ?_; intro a51 s52 he hf hz hd1 h18 h19; have hd := hd1.trans hd; obtain ⟨h7, h8, h9⟩ := va3 he hf h7 h8 h9 rfl; have h0 := (hf 0 rfl).trans h0; have B1 := B1.ext he; have c5 := vm he c5; have E := E.trans (Chg.of_ext he); have EJ := EJ.trans (Chg.of_ext he); have jj := hJ _ _ _ jj EJ; obtain ⟨qa53, eq, h⟩ := yield_h h; rw [eq] at jj; refine sq_set hz rfl rfl rfl (op_yield rfl h18 rfl (Yd.mono (hy _ _ _ _ jj h19) (fun v s54 hR => fun a53 hd' hf hz hd1 => ?_))); obtain ⟨hv, he, jj⟩ := hR; have hd := hd1.trans hd; obtain ⟨h7, h8, h9⟩ := va3 he hf h7 h8 h9 rfl; have h0 := (hf 0 rfl).trans h0; have B1 := B1.chg he m1; have c5 := vm he c5; have E := E.trans (he.weak fun _ _ h => Or.inl h); have EJ := Chg.refl (fun k => k = b1) s54; have h20 : kB.V s54 (a53.get 20) true := V_eq (hd'.trans hv) b_t
  refine sq_blk (its := [⟨21, _, []⟩]) [0] hz rfl ⟨(fun a s he hf hz => no_ rfl rfl (V_at h20 he (hf 20 rfl))), trivial⟩ ?_; intro a55 s56 he hf hz hd1 h21; have hd := hd1.trans hd; obtain ⟨h7, h8, h9⟩ := va3 he hf h7 h8 h9 rfl; have h0 := (hf 0 rfl).trans h0; have B1 := B1.ext he; have c5 := vm he c5; have E := E.trans (Chg.of_ext he); have EJ := EJ.trans (Chg.of_ext he); refine wp_condV h21 (fun hb => ?_) (fun hb => ?_)
  ·have h := ite_t hb h; refine wp_ret ?_; have jj := hJ _ _ _ jj EJ; cases h
   exact ⟨hd, _, results_none rfl _ _ _, E, jj⟩
  ·have h := ite_f hb h; refine wp_skip ?_; refine wp_region ?_; refine sq_blk (its := [⟨22, _, []⟩]) [0] hz rfl ⟨(fun a s he hf hz => ad rfl rfl (V_at h9 he (hf 9 rfl)) i1), trivial⟩ ?_; intro a57 s58 he hf hz hd1 h22; have hd := hd1.trans hd; obtain ⟨h7, h8⟩ := va2 he hf h7 h8 rfl; have h0 := (hf 0 rfl).trans h0; have B1 := B1.ext he; have c5 := vm he c5; have E := E.trans (Chg.of_ext he); have EJ := EJ.trans (Chg.of_ext he); refine sq_blk (its := [⟨9, _, []⟩]) [0] hz rfl ⟨mvs rfl rfl h22 rfl, trivial⟩ ?_; intro a59 s60 he hf hz hd1 h9; have hd := hd1.trans hd; obtain ⟨h7, h8⟩ := va2 he hf h7 h8 rfl; have h0 := (hf 0 rfl).trans h0; have B1 := B1.ext he; have c5 := vm he c5; have E := E.trans (Chg.of_ext he); have EJ := EJ.trans (Chg.of_ext he); have jj := hJ _ _ _ jj EJ; exact ⟨_, (by omega : m11 < m11 + 1), _, _, h, by omega, E, hz, hd, jj, h0, h7, h8, h9, B1, c5⟩
 ·have h := ite_f hb h; refine wp_exit ?_; refine then_exit ?_; refine then_exit ?_; refine inBlock_hit ?_; have jj := hJ _ _ _ jj EJ; cases h
  exact ⟨hd, _, results_none rfl _ _ _, E, jj⟩
theorem frame_laid_1.nice (x1 : List Op) (b1 : (kSl kOp).bd x1) : ∃ k, frame_laid_1.f k x1 = some (laidS x1) := by
 have hb : x1.length ≤ maxLen := b1.1
 have hm := maxLen_lt
 have : ∀ y, y ≤ x1.length → ∃ k, frame_laid_1.l0 k x1 (y : Int) = some (laidS (x1.drop y)) := by
  refine rounds x1.length ⟨1, ?_⟩ fun y hy ⟨k, hk⟩ => ?_
  ·simp only [frame_laid_1.l0, List.drop_length, Int.lt_irrefl, decide_false, Bool.false_eq_true, if_false, laidS, List.map_nil]
  ·push_cast at hk
   have hr : (0 : Int) ≤ y ∧ (y : Int) < x1.length := ⟨by omega, by omega⟩
   refine ⟨k + 1, ?_⟩
   rw [drop_at default hy]
   simp only [frame_laid_1.l0, hr, and_self, if_true, decide_true, Bool.not_true, Bool.false_eq_true, if_false]
   rw [Int.toNat_natCast, w64s (by omega), hk]
   rfl
 exact this 0 (Nat.zero_le _)
theorem frame_laid_1.ct {s0 : St} {l : Nat} {M : Nat → Prop} {J : List Str → St → Prop} {b1 : Nat} {x1 : (List Op)} (H1 : Hd s0 b1 22 (kSl kOp) x1) (hM : ∀ k, M k → k < s0.w.heap.size) (hJ : ∀ q t t', J q t → Chg (fun k => k = b1) t t' → J q t') (hy : ∀ x q t u0, J (x :: q) t → kS.V t u0 x → Yd Try.prog l #[u0] t (fun v t' => v = .bool true ∧ Chg M t t' ∧ J q t')) (m1 : ¬ M b1) (J0 : J (laidS x1) s0) : Cl Try.prog 112 #[.func (.yield l) #[] #[], .pointer (some ⟨b1, 0, none⟩)] s0 (fun v t => Chg (fun k => M k ∨ k = b1) s0 t ∧ J [] t) := by
 obtain ⟨k, h⟩ := frame_laid_1.nice x1 (Hd.bd H1)
 exact frame_laid_1.ok H1 hM hJ hy m1 J0 h
mutual
def frame_Lay.l1 : Nat → (List Str) → Frame → (List UInt8) → Option (Str × Int)
 | 0, _, _, _ => none
 | m109 + 1, q, x0, y105 => (lcase q (if y105.length + 20 ≤ 140737488355328 then (some ((sealed (IntKind.wrap .u8 x0.kind) y105), 0)) else none) (fun x q => (if y105.length + x.length + 9 ≤ 140737488355328 then (frame_Lay.l1 m109 q x0 (text y105 x)) else none)))
def frame_Lay.l0 : Nat → Frame → Int → (List UInt8) → Option (Str × Int)
 | 0, _, _, _ => none
 | m44 + 1, x0, y40, y41 => (if decide (y40 < (([x0.src, x0.dst, x0.cart] : List Str).length : Int)) = true then (if (0 ≤ y40 ∧ y40 < (([x0.src, x0.dst, x0.cart] : List Str).length : Int)) then (if y41.length + (List.getD ([x0.src, x0.dst, x0.cart] : List Str) (y40).toNat default).length + 9 ≤ 140737488355328 then (frame_Lay.l0 m44 x0 (IntKind.wrap .i64 (y40 + 1)) (text y41 (List.getD ([x0.src, x0.dst, x0.cart] : List Str) (y40).toNat default))) else none) else none) else (if y41.length + 9 ≤ 140737488355328 then (if (number y41 (IntKind.wrap .u64 x0.session)).length + 9 ≤ 140737488355328 then (if decide (x0.kind = 1) = true then (if (number (number y41 (IntKind.wrap .u64 x0.session)) (IntKind.wrap .u64 x0.index)).length + 4000 ≤ 140737488355328 then (if ((layV (number (number y41 (IntKind.wrap .u64 x0.session)) (IntKind.wrap .u64 x0.index)) x0.known).1).length + 20 ≤ 140737488355328 then (some ((sealed (IntKind.wrap .u8 x0.kind) ((layV (number (number y41 (IntKind.wrap .u64 x0.session)) (IntKind.wrap .u64 x0.index)) x0.known).1)), 0)) else none) else none) else (if decide (x0.kind = 2) = true then (if (number (number y41 (IntKind.wrap .u64 x0.session)) (IntKind.wrap .u64 x0.index)).length + 9 ≤ 140737488355328 then (if (number (number (number y41 (IntKind.wrap .u64 x0.session)) (IntKind.wrap .u64 x0.index)) (IntKind.wrap .u64 x0.many)).length + 9 ≤ 140737488355328 then (frame_Lay.l1 m44 (laidS (frame_laid x0.ops)) x0 (number (number (number (number y41 (IntKind.wrap .u64 x0.session)) (IntKind.wrap .u64 x0.index)) (IntKind.wrap .u64 x0.many)) (IntKind.wrap .u64 (x0.ops.length : Int)))) else none) else none) else (if (number (number y41 (IntKind.wrap .u64 x0.session)) (IntKind.wrap .u64 x0.index)).length + 20 ≤ 140737488355328 then (some ((sealed (IntKind.wrap .u8 x0.kind) (number (number y41 (IntKind.wrap .u64 x0.session)) (IntKind.wrap .u64 x0.index))), 0)) else none))) else none) else none))
end
def frame_Lay.f (k : Nat) (x0 : Frame) : Option (Str × Int) := (if (!(frame_Right x0)) = true then (some (([] : Str), 2)) else (frame_Lay.l0 k x0 0 ([] : (List UInt8))))
theorem frame_Lay.ok {s0 : St} {v0 : Value} {x0 : Frame} {k : Nat} {r : Str × Int} (k0 : kFrame.V s0 v0 x0) (h : frame_Lay.f k x0 = some r) : Cl Try.prog 27 #[v0] s0 (Okf s0 (Fact.tup [Fact.v kS r.1, Fact.v (kI .i64) r.2])) := by
 unfold frame_Lay.f at h
 refine cl_of_wpM Try.func27 rfl en_27 fun a hz hd hp => ?_; have hz : a.tmps.size = 72 := hz; have E := Chg.refl (fun _ => False) s0; have h0 := V_at k0 E (hp 0 v0 rfl); refine wp_sr ?_; refine sq_set hz rfl rfl rfl (op_boxn rfl rfl h0 (fun s2 e4 he BB3 r5 => fun a1 h1 hf hz hd1 => ?_)); obtain ⟨b24, hb24⟩ : ∃ b, b = s0.w.heap.size := ⟨_, rfl⟩; rw [← hb24] at BB3 h1; have B24 := BB3; have l24 : s0.w.heap.size ≤ b24 := by have := E.size; omega
 have ⟨hd, E⟩ := hdE hd1 hd E he; obtain ⟨u6, u7, u8, u9, u10, u11, u12, u13, u14, rfl, c15, c16, c17, c18, c19, c20, c21, c22, c23⟩ := kFrame_open r5; refine sq_blk (its := [⟨2, _, []⟩, ⟨3, _, []⟩]) [] hz rfl ⟨(fun a s he hf hz => av rfl rfl s_0), (fun a s he hf hz => av rfl rfl i0), trivial⟩ ?_; intro a25 s26 he hf hz hd1; have ⟨hd, E⟩ := hdE hd1 hd E he; have h1 := (hf 1 rfl).trans h1; have B24 := B24.ext he; obtain ⟨c15, c16, c17, c18, c19, c20, c21, c22, c23⟩ := vm9 he c15 c16 c17 c18 c19 c20 c21 c22 c23; refine wp_seq ?_; refine wp_sr ?_; refine sq_blk (its := [⟨8, _, []⟩, ⟨9, _, [0]⟩, ⟨10, _, [1]⟩]) [2] hz rfl ⟨(fun a s he hf hz => ld rfl rfl ty_34 rfl ((hf 1 rfl).trans h1) (B24.ext he) rfl (kFrame_eta (x := x0) (vm he c15) (vm he c16) (vm he c17) (vm he c18) (vm he c19) (vm he c20) (vm he c21) (vm he c22) (vm he c23))), (fun a s he hf hz q0 => opw rfl (op_call rfl rfl (frame_Right.ok q0))), (fun a s he hf hz q1 => no_ rfl rfl q1), trivial⟩ ?_; intro a27 s28 he hf hz hd1 h10; have hd := hd1.trans hd; have h1 := (hf 1 rfl).trans h1; have B24 := B24.ext he
 obtain ⟨c15, c16, c17, c18, c19, c20, c21, c22, c23⟩ := vm9 he c15 c16 c17 c18 c19 c20 c21 c22 c23; have E := E.trans he; refine wp_condV h10 (fun hb => ?_) (fun hb => ?_)
 ·have h := ite_t hb h; refine wp_sr ?_; refine sq_blk (its := [⟨2, _, []⟩, ⟨3, _, []⟩]) [0, 1] hz rfl ⟨(fun a s he hf hz => av rfl rfl s_0), (fun a s he hf hz => av rfl rfl (lit_i (k := .i64) (n := 2) (by decide))), trivial⟩ ?_; intro a29 s30 he hf hz hd1 h2 h3; have ⟨hd, E⟩ := hdE hd1 hd E he; refine wp_ret ?_; cases h
  exact Or.inl ⟨hd, _, results_tmp2 rfl _ _ _, E, tup2 h2 h3⟩
 ·have h := ite_f hb h; refine wp_skip ?_; refine wp_sr ?_; refine sq_set hz rfl rfl rfl (op_alloc (cs := [.slice none 0 0]) rfl zv_53 rfl (fun s32 he BB33 => fun a31 h4 hf hz hd1 => ?_)); obtain ⟨b35, hb35⟩ : ∃ b, b = s28.w.heap.size := ⟨_, rfl⟩; rw [← hb35] at BB33 h4; have B35 := BB33; have l35 : s0.w.heap.size ≤ b35 := by have := E.size; omega
  have n35_24 : b35 ≠ b24 := by have := B24.lt; omega
  have ⟨hd, E⟩ := hdE hd1 hd E he; have h1 := (hf 1 rfl).trans h1; have B24 := B24.ext he; obtain ⟨c15, c16, c17, c18, c19, c20, c21, c22, c23⟩ := vm9 he c15 c16 c17 c18 c19 c20 c21 c22 c23; have c34 : (kSl kY).V s32 (.slice none 0 0) ([] : (List UInt8)) := (lit_nil (d := kY)); refine wp_seq ?_; refine wp_sr ?_; refine sq_blk (its := [⟨11, _, []⟩, ⟨12, _, [0]⟩, ⟨13, _, []⟩, ⟨14, _, [2]⟩, ⟨15, _, []⟩, ⟨16, _, [4]⟩, ⟨17, _, [1, 3, 5]⟩, ⟨18, _, [6]⟩, ⟨19, _, []⟩]) [6, 7, 8] hz rfl ⟨(fun a s he hf hz => fb rfl rfl fa_34_1 ((hf 1 rfl).trans h1)), (fun a s he hf hz q0 => lo rfl rfl ty_9 q0 (B24.ext he) rfl (vm he c16)), (fun a s he hf hz => fb rfl rfl fa_34_2 ((hf 1 rfl).trans h1)), (fun a s he hf hz q2 => lo rfl rfl ty_9 q2 (B24.ext he) rfl (vm he c17)), (fun a s he hf hz => fb rfl rfl fa_34_3 ((hf 1 rfl).trans h1)), (fun a s he hf hz q4 => lo rfl rfl ty_9 q4 (B24.ext he) rfl (vm he c18)), (fun a s he hf hz q1 q3 q5 => opw rfl (op_lit_v (d := kS) rfl lt_100 (zc := [.string ⟨#[]⟩, .string ⟨#[]⟩, .string ⟨#[]⟩]) (by kernel_rfl) (ps := [(0, [(a.get 12)]), (1, [(a.get 14)]), (2, [(a.get 16)])]) ⟨rfl, V_cells1 (s := s) rfl q1, rfl, V_cells1 (s := s) rfl q3, rfl, V_cells1 (s := s) rfl q5, trivial⟩ rfl (by decide) (ys := ([x0.src, x0.dst, x0.cart] : List Str)) rfl (by decide) rfl (lit_rows3 (V_one rfl q1) (V_one rfl q3) (V_one rfl q5)))), (fun a s he hf hz q6 => le_ rfl rfl u_100 q6), (fun a s he hf hz => mv rfl rfl i0), trivial⟩ ?_
  intro a36 s37 he hf hz hd1 h17 h18 h19; have ⟨hd, E⟩ := hdE hd1 hd E he; obtain ⟨h1, h4⟩ := ea2 hf h1 h4 rfl; obtain ⟨B24, B35⟩ := bx2 he B24 B35; obtain ⟨c15, c16, c17, c18, c19, c20, c21, c22, c23, c34⟩ := vm10 he c15 c16 c17 c18 c19 c20 c21 c22 c23 c34; refine wp_block ?_
  refine wp_loop (k := k) (fun m44 a s => ∃ (y40 : Int) (y41 : (List UInt8)) (u42 : Value), frame_Lay.l0 m44 x0 y40 y41 = some r ∧ m44 ≤ k ∧ Ext s0 s ∧ a.tmps.size = 72 ∧ a.defers = [] ∧ a.get 1 = .pointer (some ⟨b24, 0, none⟩) ∧ a.get 4 = .pointer (some ⟨b35, 0, none⟩) ∧ (kSl kS).V s (a.get 17) ([x0.src, x0.dst, x0.cart] : List Str) ∧ (kI .i64).V s (a.get 18) (([x0.src, x0.dst, x0.cart] : List Str).length : Int) ∧ (kI .i64).V s (a.get 19) y40 ∧ Bx s b24 34 [u6, u7, u8, u9, u10, u11, u12, u13, u14] ∧ (kI .i64).V s u6 x0.kind ∧ kS.V s u7 x0.src ∧ kS.V s u8 x0.dst ∧ kS.V s u9 x0.cart ∧ (kI .i64).V s u10 x0.session ∧ (kI .i64).V s u11 x0.index ∧ (kI .i64).V s u12 x0.many ∧ (kSl kDot).V s u13 x0.known ∧ (kSl kOp).V s u14 x0.ops ∧ Bx s b35 53 [u42] ∧ (kSl kY).V s u42 y41) ⟨_, _, _, h, Nat.le_refl _, E, hz, hd, h1, h4, h17, h18, h19, B24, c15, c16, c17, c18, c19, c20, c21, c22, c23, B35, c34⟩ ?_; rintro m44 a39 s38 ⟨y40, y41, u42, h, hkm44, E, hz, hd, h1, h4, h17, h18, h19, B24, c15, c16, c17, c18, c19, c20, c21, c22, c23, B35, c43⟩; obtain _ | m44 := m44
  ·cases h
  refine wp_sr ?_; refine sq_blk (its := [⟨20, _, []⟩]) [0] hz rfl ⟨(fun a s he hf hz => ls rfl rfl (V_at h19 he (hf 19 rfl)) (V_at h18 he (hf 18 rfl))), trivial⟩ ?_; intro a45 s46 he hf hz hd1 h20; have ⟨hd, E⟩ := hdE hd1 hd E he; obtain ⟨h17, h18, h19⟩ := va3 he hf h17 h18 h19 rfl; obtain ⟨h1, h4⟩ := ea2 hf h1 h4 rfl; obtain ⟨B24, B35⟩ := bx2 he B24 B35; obtain ⟨c15, c16, c17, c18, c19, c20, c21, c22, c23, c43⟩ := vm10 he c15 c16 c17 c18 c19 c20 c21 c22 c23 c43; refine wp_seq ?_; refine wp_condV h20 (fun hb => ?_) (fun hb => ?_)
  ·have h := ite_t hb h; refine wp_skip ?_; refine wp_seq ?_; refine wp_block ?_; refine wp_sr ?_; obtain ⟨D47, h⟩ := need h; refine sq_blk (its := [⟨21, _, []⟩, ⟨22, _, [0]⟩, ⟨6, _, [1]⟩]) [2] hz rfl ⟨(fun a s he hf hz => ia rfl rfl sl_100 (V_at h17 he (hf 17 rfl)) (V_at h19 he (hf 19 rfl)) D47.1 D47.2), (fun a s he hf hz q0 => lp rfl rfl ty_9 (by decide) q0), avq rfl rfl, trivial⟩ ?_; intro a48 s49 he hf hz hd1 h6; have ⟨hd, E⟩ := hdE hd1 hd E he; obtain ⟨h17, h18, h19⟩ := va3 he hf h17 h18 h19 rfl; obtain ⟨h1, h4⟩ := ea2 hf h1 h4 rfl; obtain ⟨B24, B35⟩ := bx2 he B24 B35; obtain ⟨c15, c16, c17, c18, c19, c20, c21, c22, c23, c43⟩ := vm10 he c15 c16 c17 c18 c19 c20 c21 c22 c23 c43; refine wp_region ?_; obtain ⟨D50, h⟩ := need h; refine sq_blk (its := [⟨23, _, []⟩, ⟨24, _, []⟩, ⟨25, _, [0, 1]⟩]) [2] hz rfl ⟨(fun a s he hf hz => lo rfl rfl ty_53 ((hf 4 rfl).trans h4) (B35.ext he) rfl (vm he c43)), mvs rfl rfl h6 rfl, (fun a s he hf hz q0 q1 => opw rfl (op_call_f rfl rfl (f := Fact.own (kSl kY) 5 1 (fun g => s49.w.heap.size ≤ g) (text y41 (List.getD ([x0.src, x0.dst, x0.cart] : List Str) (y40).toNat default))) (Cl.mono (wire_Text.ct q0 q1 D50) (own_w he)))), trivial⟩ ?_
   intro a51 s52 he hf hz hd1 k25; have hd := hd1.trans hd; have f25' : ∀ g, sb (a51.get 25) = some g → s0.w.heap.size ≤ g ∧ g ≠ b24 ∧ g ≠ b35 := fun g hg => by have h1 := k25.2.2 g hg; have h2 := E.size; have l24 := B24.lt; have l35 := B35.lt; exact ⟨(by omega), (by omega), (by omega)⟩
   obtain ⟨h17, h18, h19⟩ := va3 he hf h17 h18 h19 rfl; obtain ⟨h1, h4⟩ := ea2 hf h1 h4 rfl; obtain ⟨B24, B35⟩ := bx2 he B24 B35; obtain ⟨c15, c16, c17, c18, c19, c20, c21, c22, c23⟩ := vm9 he c15 c16 c17 c18 c19 c20 c21 c22 c23; have E := E.trans he; have h25 := k25.1; have p25 := k25.2.1; have f25 := f25'; refine sq_do rfl rfl (op_store_v rfl ty_53 rfl h4 B35 h25 rfl (fun s55 he B35n c56 => ?_)); have pn := Sp.chg p25 he (fun g hg => (fun e => (f25 g hg).2.2 e)); have fn := f25; obtain ⟨h17, h18, h19⟩ := vm3 he h17 h18 h19; have B24 := B24.chg he (fun e => (Ne.symm n35_24) e); obtain ⟨c15, c16, c17, c18, c19, c20, c21, c22, c23⟩ := vm9 he c15 c16 c17 c18 c19 c20 c21 c22 c23; have E := Chg.chg E he (fun b e h => (fun e => absurd h (by cases e; exact Nat.not_lt.2 l35)) e); obtain ⟨u57, huu57⟩ : ∃ u : Value, u = (a51.get 25) := ⟨_, rfl⟩; have c56 : (kSl kY).V s55 u57 (text y41 (List.getD ([x0.src, x0.dst, x0.cart] : List Str) (y40).toNat default)) := by rw [huu57]; exact c56
   have p35_0 : Sp s55 u57 5 1 := by rw [huu57]; exact pn
   have B35 : Bx s55 b35 53 [u57] := by rw [huu57]; exact B35n
   refine wp_region ?_; refine sq_blk (its := [⟨26, _, []⟩]) [0] hz rfl ⟨(fun a s he hf hz => ad rfl rfl (V_at h19 he (hf 19 rfl)) i1), trivial⟩ ?_; intro a58 s59 he hf hz hd1 h26; have ⟨hd, E⟩ := hdE hd1 hd E he; obtain ⟨h17, h18⟩ := va2 he hf h17 h18 rfl; obtain ⟨h1, h4⟩ := ea2 hf h1 h4 rfl; obtain ⟨B24, B35⟩ := bx2 he B24 B35; obtain ⟨c15, c16, c17, c18, c19, c20, c21, c22, c23, c56⟩ := vm10 he c15 c16 c17 c18 c19 c20 c21 c22 c23 c56; refine sq_blk (its := [⟨19, _, []⟩]) [0] hz rfl ⟨mvs rfl rfl h26 rfl, trivial⟩ ?_; intro a60 s61 he hf hz hd1 h19; have ⟨hd, E⟩ := hdE hd1 hd E he; obtain ⟨h17, h18⟩ := va2 he hf h17 h18 rfl; obtain ⟨h1, h4⟩ := ea2 hf h1 h4 rfl; obtain ⟨B24, B35⟩ := bx2 he B24 B35; obtain ⟨c15, c16, c17, c18, c19, c20, c21, c22, c23, c56⟩ := vm10 he c15 c16 c17 c18 c19 c20 c21 c22 c23 c56; exact ⟨_, (by omega : m44 < m44 + 1), _, _, _, h, by omega, E, hz, hd, h1, h4, h17, h18, h19, B24, c15, c16, c17, c18, c19, c20, c21, c22, c23, B35, c56⟩
  ·have h := ite_f hb h; refine wp_exit ?_; refine then_exit ?_; refine then_exit ?_; refine inBlock_hit ?_; refine wp_seq ?_; obtain ⟨D62, h⟩ := need h; obtain ⟨D63, h⟩ := need h; refine wp_draw (its := [⟨27, _, []⟩, ⟨28, _, []⟩, ⟨29, _, [1]⟩, ⟨30, _, [2]⟩, ⟨31, _, [0, 3]⟩, ⟨32, _, []⟩, ⟨33, _, [5]⟩, ⟨34, _, [6]⟩, ⟨35, _, [4, 7]⟩]) [8] mo hz (by kernel_rfl) ⟨(fun a s he hf hz => lo rfl rfl ty_53 ((hf 4 rfl).trans h4) (B35.ext he) rfl (vm he c43)), (fun a s he hf hz => fb rfl rfl fa_34_4 ((hf 1 rfl).trans h1)), (fun a s he hf hz q1 => lo rfl rfl ty_2 q1 (B24.ext he) rfl (vm he c19)), (fun a s he hf hz q2 => cv rfl rfl u_2 u_89 q2), (fun a s he hf hz q0 q3 => opw rfl (op_call_f rfl rfl (f := Fact.own (kSl kY) 5 1 (fun g => s46.w.heap.size ≤ g) (number y41 (IntKind.wrap .u64 x0.session))) (Cl.mono (wire_Number.ct q0 q3 D62) (own_w he)))), (fun a s he hf hz => fb rfl rfl fa_34_5 ((hf 1 rfl).trans h1)), (fun a s he hf hz q5 => lo rfl rfl ty_2 q5 (B24.ext he) rfl (vm he c20)), (fun a s he hf hz q6 => cv rfl rfl u_2 u_89 q6), (fun a s he hf hz q4 q7 => opw rfl (op_call_f rfl rfl (f := Fact.own (kSl kY) 5 1 (fun g => s46.w.heap.size ≤ g) (number (number y41 (IntKind.wrap .u64 x0.session)) (IntKind.wrap .u64 x0.index))) (Cl.mono (wire_Number.ct q4.1 q7 D63) (own_w he)))), trivial⟩ ?_
   intro a64 s65 he hf hz hd1 k35; have hd := hd1.trans hd; have f35' : ∀ g, sb (a64.get 35) = some g → s0.w.heap.size ≤ g ∧ g ≠ b24 ∧ g ≠ b35 := fun g hg => by have h1 := k35.2.2 g hg; have h2 := E.size; have l24 := B24.lt; have l35 := B35.lt; exact ⟨(by omega), (by omega), (by omega)⟩
   obtain ⟨h1, h4⟩ := ea2 hf h1 h4 rfl; obtain ⟨B24, B35⟩ := bx2 he B24 B35; obtain ⟨c15, c16, c17, c18, c19, c20, c21, c22, c23⟩ := vm9 he c15 c16 c17 c18 c19 c20 c21 c22 c23; have E := E.trans he; have h35 := k35.1; have p35 := k35.2.1; have f35 := f35'; refine sq_do rfl rfl (op_store_v rfl ty_53 rfl h4 B35 h35 rfl (fun s68 he B35n c69 => ?_)); have pn := Sp.chg p35 he (fun g hg => (fun e => (f35 g hg).2.2 e)); have fn := f35; have B24 := B24.chg he (fun e => (Ne.symm n35_24) e); obtain ⟨c15, c16, c17, c18, c19, c20, c21, c22, c23⟩ := vm9 he c15 c16 c17 c18 c19 c20 c21 c22 c23; have E := Chg.chg E he (fun b e h => (fun e => absurd h (by cases e; exact Nat.not_lt.2 l35)) e); obtain ⟨u70, huu70⟩ : ∃ u : Value, u = (a64.get 35) := ⟨_, rfl⟩; have c69 : (kSl kY).V s68 u70 (number (number y41 (IntKind.wrap .u64 x0.session)) (IntKind.wrap .u64 x0.index)) := by rw [huu70]; exact c69
   have p35_0 : Sp s68 u70 5 1 := by rw [huu70]; exact pn
   have B35 : Bx s68 b35 53 [u70] := by rw [huu70]; exact B35n
   refine wp_seq ?_; refine wp_sr ?_; refine sq_blk (its := [⟨36, _, []⟩, ⟨37, _, [0]⟩]) [1] hz rfl ⟨(fun a s he hf hz => fb rfl rfl fa_34_0 ((hf 1 rfl).trans h1)), (fun a s he hf hz q0 => lo rfl rfl ty_3 q0 (B24.ext he) rfl (vm he c15)), trivial⟩ ?_; intro a71 s72 he hf hz hd1 h37; have ⟨hd, E⟩ := hdE hd1 hd E he; obtain ⟨h1, h4⟩ := ea2 hf h1 h4 rfl; have p35_0 := px he p35_0; obtain ⟨B24, B35⟩ := bx2 he B24 B35; obtain ⟨c15, c16, c17, c18, c19, c20, c21, c22, c23, c69⟩ := vm10 he c15 c16 c17 c18 c19 c20 c21 c22 c23 c69; refine wp_block ?_; refine wp_sr ?_; refine sq_blk (its := [⟨39, _, []⟩, ⟨38, _, [0]⟩]) [1] hz rfl ⟨(fun a s he hf hz => eq_ rfl rfl (V_at h37 he (hf 37 rfl)) i1), avq rfl rfl, trivial⟩ ?_; intro a73 s74 he hf hz hd1 h38; have ⟨hd, E⟩ := hdE hd1 hd E he; have h37 := V_at h37 he (hf 37 rfl); obtain ⟨h1, h4⟩ := ea2 hf h1 h4 rfl; have p35_0 := px he p35_0; obtain ⟨B24, B35⟩ := bx2 he B24 B35; obtain ⟨c15, c16, c17, c18, c19, c20, c21, c22, c23, c69⟩ := vm10 he c15 c16 c17 c18 c19 c20 c21 c22 c23 c69; refine wp_condV h38 (fun hb => ?_) (fun hb => ?_)
   ·have h := ite_t hb h; refine wp_region ?_; obtain ⟨D75, h⟩ := need h; refine sq_blk (its := [⟨41, _, []⟩, ⟨42, _, []⟩, ⟨43, _, [1]⟩, ⟨44, _, [0, 2]⟩, ⟨40, _, [3]⟩, ⟨45, _, [4]⟩, ⟨46, _, [4]⟩]) [5] hz rfl ⟨(fun a s he hf hz => opw rfl (op_load_1 (f := Fact.eq (u70)) rfl ty_53 ((hf 4 rfl).trans h4) (B35.ext he) rfl rfl)), (fun a s he hf hz => fb rfl rfl fa_34_7 ((hf 1 rfl).trans h1)), (fun a s he hf hz q1 => lo rfl rfl ty_32 q1 (B24.ext he) rfl (vm he c22)), (fun a s he hf hz q0 q2 => opw rfl (op_call rfl rfl (vector_Lay.ct (V_at c69 he q0) q2 D75))), (fun a s he hf hz q3 => opw rfl (op_move rfl (f := Fact.tup _) q3)), (fun a s he hf hz q4 => opw rfl (op_extract (f := Fact.v _ _) rfl q4 rfl)), (fun a s he hf hz q4 => opw rfl (op_extract (f := Fact.v _ _) rfl q4 rfl)), trivial⟩ ?_; intro a76 s77 he hf hz hd1 h45; have ⟨hd, E⟩ := hdE hd1 hd E he; obtain ⟨h1, h4⟩ := ea2 hf h1 h4 rfl; obtain ⟨B24, B35⟩ := bx2 he B24 B35; have c15 := vm he c15; refine sq_do rfl rfl (op_store_v rfl ty_53 rfl h4 B35 h45 rfl (fun s79 he B35n c80 => ?_)); have B24 := B24.chg he (fun e => (Ne.symm n35_24) e); have c15 := vm he c15
    have E := Chg.chg E he (fun b e h => (fun e => absurd h (by cases e; exact Nat.not_lt.2 l35)) e); obtain ⟨u81, huu81⟩ : ∃ u : Value, u = (a76.get 45) := ⟨_, rfl⟩; have c80 : (kSl kY).V s79 u81 ((layV (number (number y41 (IntKind.wrap .u64 x0.session)) (IntKind.wrap .u64 x0.index)) x0.known).1) := by rw [huu81]; exact c80
    have B35 : Bx s79 b35 53 [u81] := by rw [huu81]; exact B35n
    refine wp_sr ?_; obtain ⟨D82, h⟩ := need h; refine sq_blk (its := [⟨66, _, []⟩, ⟨67, _, [0]⟩, ⟨68, _, [1]⟩, ⟨69, _, []⟩, ⟨70, _, [3]⟩, ⟨71, _, [2, 4]⟩, ⟨2, _, [5]⟩, ⟨3, _, []⟩]) [6, 7] hz rfl ⟨(fun a s he hf hz => fb rfl rfl fa_34_0 ((hf 1 rfl).trans h1)), (fun a s he hf hz q0 => lo rfl rfl ty_3 q0 (B24.ext he) rfl (vm he c15)), (fun a s he hf hz q1 => cv rfl rfl u_3 u_5 q1), (fun a s he hf hz => lo rfl rfl ty_53 ((hf 4 rfl).trans h4) (B35.ext he) rfl (vm he c80)), (fun a s he hf hz q3 => opw rfl (op_tostr rfl u_53 u_5 u_9 q3)), (fun a s he hf hz q2 q4 => opw rfl (op_call rfl rfl (wire_Seal.ct q2 q4 D82))), avq rfl rfl, (fun a s he hf hz => av rfl rfl i0), trivial⟩ ?_; intro a83 s84 he hf hz hd1 h2 h3; have ⟨hd, E⟩ := hdE hd1 hd E he; refine wp_ret ?_; cases h
    exact Or.inl ⟨hd, _, results_tmp2 rfl _ _ _, E, tup2 h2 h3⟩
   ·have h := ite_f hb h; refine wp_sr ?_; refine sq_blk (its := [⟨48, _, []⟩, ⟨47, _, [0]⟩]) [1] hz rfl ⟨(fun a s he hf hz => eq_ rfl rfl (V_at h37 he (hf 37 rfl)) (lit_i (k := .i64) (n := 2) (by decide))), avq rfl rfl, trivial⟩ ?_; intro a85 s86 he hf hz hd1 h47; have ⟨hd, E⟩ := hdE hd1 hd E he; obtain ⟨h1, h4⟩ := ea2 hf h1 h4 rfl; have p35_0 := px he p35_0; obtain ⟨B24, B35⟩ := bx2 he B24 B35; obtain ⟨c15, c16, c17, c18, c19, c20, c21, c22, c23, c69⟩ := vm10 he c15 c16 c17 c18 c19 c20 c21 c22 c23 c69; refine wp_condV h47 (fun hb => ?_) (fun hb => ?_)
    ·have h := ite_t hb h; refine wp_seq ?_; obtain ⟨D87, h⟩ := need h; obtain ⟨D88, h⟩ := need h; refine wp_draw (its := [⟨49, _, []⟩, ⟨50, _, []⟩, ⟨51, _, [1]⟩, ⟨52, _, [2]⟩, ⟨53, _, [0, 3]⟩, ⟨54, _, []⟩, ⟨55, _, [5]⟩, ⟨56, _, [6]⟩, ⟨57, _, [7]⟩, ⟨58, _, [4, 8]⟩]) [9] mo hz (by kernel_rfl) ⟨(fun a s he hf hz => opw rfl (op_load_1 (f := Fact.eq (u70)) rfl ty_53 ((hf 4 rfl).trans h4) (B35.ext he) rfl rfl)), (fun a s he hf hz => fb rfl rfl fa_34_6 ((hf 1 rfl).trans h1)), (fun a s he hf hz q1 => lo rfl rfl ty_2 q1 (B24.ext he) rfl (vm he c21)), (fun a s he hf hz q2 => cv rfl rfl u_2 u_89 q2), (fun a s he hf hz q0 q3 => opw rfl (op_call_f rfl rfl (f := Fact.own (kSl kY) 5 1 (fun g => s86.w.heap.size ≤ g) (number (number (number y41 (IntKind.wrap .u64 x0.session)) (IntKind.wrap .u64 x0.index)) (IntKind.wrap .u64 x0.many))) (Cl.mono (wire_Number.ct (V_at c69 he q0) q3 D87) (own_w he)))), (fun a s he hf hz => fb rfl rfl fa_34_8 ((hf 1 rfl).trans h1)), (fun a s he hf hz q5 => lo rfl rfl ty_22 q5 (B24.ext he) rfl (vm he c23)), (fun a s he hf hz q6 => le_ rfl rfl u_22 q6), (fun a s he hf hz q7 => cv rfl rfl u_3 u_89 q7), (fun a s he hf hz q4 q8 => opw rfl (op_call_f rfl rfl (f := Fact.own (kSl kY) 5 1 (fun g => s86.w.heap.size ≤ g) (number (number (number (number y41 (IntKind.wrap .u64 x0.session)) (IntKind.wrap .u64 x0.index)) (IntKind.wrap .u64 x0.many)) (IntKind.wrap .u64 (x0.ops.length : Int)))) (Cl.mono (wire_Number.ct q4.1 q8 D88) (own_w he)))), trivial⟩ ?_
     intro a89 s90 he hf hz hd1 k58; have hd := hd1.trans hd; have f58' : ∀ g, sb (a89.get 58) = some g → s0.w.heap.size ≤ g ∧ g ≠ b24 ∧ g ≠ b35 := fun g hg => by have h1 := k58.2.2 g hg; have h2 := E.size; have l24 := B24.lt; have l35 := B35.lt; exact ⟨(by omega), (by omega), (by omega)⟩
     obtain ⟨h1, h4⟩ := ea2 hf h1 h4 rfl; have p35_0 := px he p35_0; obtain ⟨B24, B35⟩ := bx2 he B24 B35; obtain ⟨c15, c16, c17, c18, c19, c20, c21, c22, c23⟩ := vm9 he c15 c16 c17 c18 c19 c20 c21 c22 c23; have E := E.trans he; have h58 := k58.1; have p58 := k58.2.1; have f58 := f58'; refine sq_do rfl rfl (op_store_v rfl ty_53 rfl h4 B35 h58 rfl (fun s93 he B35n c94 => ?_)); have pn := Sp.chg p58 he (fun g hg => (fun e => (f58 g hg).2.2 e)); have fn := f58; have B24 := B24.chg he (fun e => (Ne.symm n35_24) e); obtain ⟨c15, c16, c17, c18, c19, c20, c21, c22, c23⟩ := vm9 he c15 c16 c17 c18 c19 c20 c21 c22 c23; have E := Chg.chg E he (fun b e h => (fun e => absurd h (by cases e; exact Nat.not_lt.2 l35)) e); obtain ⟨u95, huu95⟩ : ∃ u : Value, u = (a89.get 58) := ⟨_, rfl⟩; have c94 : (kSl kY).V s93 u95 (number (number (number (number y41 (IntKind.wrap .u64 x0.session)) (IntKind.wrap .u64 x0.index)) (IntKind.wrap .u64 x0.many)) (IntKind.wrap .u64 (x0.ops.length : Int))) := by rw [huu95]; exact c94
     have p35_0 : Sp s93 u95 5 1 := by rw [huu95]; exact pn
     have B35 : Bx s93 b35 53 [u95] := by rw [huu95]; exact B35n
     refine wp_sr ?_; refine sq_blk (its := [⟨59, _, []⟩, ⟨60, _, [0]⟩]) [1] hz rfl ⟨(fun a s he hf hz => fb rfl rfl fa_34_8 ((hf 1 rfl).trans h1)), (fun a s he hf hz q0 => lo rfl rfl ty_22 q0 (B24.ext he) rfl (vm he c23)), trivial⟩ ?_; intro a96 s97 he hf hz hd1 h60; have ⟨hd, E⟩ := hdE hd1 hd E he; obtain ⟨h1, h4⟩ := ea2 hf h1 h4 rfl; have p35_0 := px he p35_0; obtain ⟨B24, B35⟩ := bx2 he B24 B35; obtain ⟨c15, c16, c17, c18, c19, c20, c21, c22, c23, c94⟩ := vm10 he c15 c16 c17 c18 c19 c20 c21 c22 c23 c94; refine sq_set hz rfl rfl rfl (op_call rfl rfl (Cl.mono (frame_laid.ok h60) (fun v s99 hR => fun a98 hd' hf hz hd1 => ?_))); obtain ⟨he, b100, hv, g1, hH⟩ := hR; have hd := hd1.trans hd; have l100 : s0.w.heap.size ≤ b100 := by have := E.size; omega
     have n100_24 : b100 ≠ b24 := by have := B24.lt; omega
     have n100_35 : b100 ≠ b35 := by have := B35.lt; omega
     obtain ⟨h1, h4⟩ := ea2 hf h1 h4 rfl; have p35_0 := px he p35_0; obtain ⟨B24, B35⟩ := bx2 he B24 B35; obtain ⟨c15, c16, c17, c18, c19, c20, c21, c22, c23, c94⟩ := vm10 he c15 c16 c17 c18 c19 c20 c21 c22 c23 c94; have E := E.trans he; obtain ⟨e101, B100, r102⟩ := hH; obtain ⟨u103, rfl, c104⟩ := one_of rfl rfl r102; have h61 := hd'.trans hv; refine wp_block ?_; have lt24 := B24.lt; have lt35 := B35.lt; have Ebase := E; have hbase : s0.w.heap.size ≤ s99.w.heap.size := E.size; obtain ⟨J, hJd⟩ : ∃ J : List Str → St → Prop, J = (fun q s => ∃ (m109 : Nat) (y105 : (List UInt8)) (u106 : Value), frame_Lay.l1 m109 q x0 y105 = some r ∧ m109 ≤ m44 ∧ Ext s0 s ∧ a98.get 1 = .pointer (some ⟨b24, 0, none⟩) ∧ a98.get 4 = .pointer (some ⟨b35, 0, none⟩) ∧ Bx s b24 34 [u6, u7, u8, u9, u10, u11, u12, u13, u14] ∧ (kI .i64).V s u6 x0.kind ∧ kS.V s u7 x0.src ∧ kS.V s u8 x0.dst ∧ kS.V s u9 x0.cart ∧ (kI .i64).V s u10 x0.session ∧ (kI .i64).V s u11 x0.index ∧ (kI .i64).V s u12 x0.many ∧ (kSl kDot).V s u13 x0.known ∧ (kSl kOp).V s u14 x0.ops ∧ Bx s b35 53 [u106] ∧ (kSl kY).V s u106 y105) := ⟨_, rfl⟩
     refine wp_rangeF (a := a98) (s := s99) (B := fun k => k = b100) (M := fun k => k = b35) (J := J) (V := fun t x us => ∃ u, us = [u] ∧ kS.V t u x) (r0 := (laidS (frame_laid x0.ops))) h61 (fun k hk => by cases hk; exact B100.lt) (fun k hk => by cases hk; exact B35.lt) ?_ ?_ ?_ en_112 (fun l t hl hlt he J' hJ' hJ0 hy => ?_) (fun t x us h => by obtain ⟨u, e, _⟩ := h; rw [e]; rfl) ?_ ?_
     ·intro q t t' hj he; rw [hJd] at hj ⊢; obtain ⟨m109, y105, u106, h, hkm109, E, h1, h4, B24, c15, c16, c17, c18, c19, c20, c21, c22, c23, B35, c107⟩ := hj; have B24 := B24.chg he (fun e => (Ne.symm n100_24) e); have B35 := B35.chg he (fun e => (Ne.symm n100_35) e); obtain ⟨c15, c16, c17, c18, c19, c20, c21, c22, c23, c107⟩ := vm10 he c15 c16 c17 c18 c19 c20 c21 c22 c23 c107; have E := Chg.chg E he (fun b e h => absurd h (by cases e; exact Nat.not_lt.2 l100)); exact ⟨_, _, _, h, hkm109, E, h1, h4, B24, c15, c16, c17, c18, c19, c20, c21, c22, c23, B35, c107⟩
     ·intro l q t t' hl hj he; rw [hJd] at hj ⊢; obtain ⟨m109, y105, u106, h, hkm109, E, h1, h4, B24, c15, c16, c17, c18, c19, c20, c21, c22, c23, B35, c107⟩ := hj; have B24 := B24.chg he (fun e => by omega); have B35 := B35.chg he (fun e => by omega); obtain ⟨c15, c16, c17, c18, c19, c20, c21, c22, c23, c107⟩ := vm10 he c15 c16 c17 c18 c19 c20 c21 c22 c23 c107; have E := Chg.chg E he (fun b e h => absurd h (by omega)); exact ⟨_, _, _, h, hkm109, E, h1, h4, B24, c15, c16, c17, c18, c19, c20, c21, c22, c23, B35, c107⟩
     ·rw [hJd]; exact ⟨_, _, _, h, Nat.le_refl _, E, h1, h4, B24, c15, c16, c17, c18, c19, c20, c21, c22, c23, B35, c94⟩
     ·have hH : Hd t b100 22 (kSl kOp) (frame_laid x0.ops) := Hd.ext (show Hd s99 b100 22 (kSl kOp) (frame_laid x0.ops) from ⟨_, B100, V_one rfl c104⟩) he; refine Cl.mono (frame_laid_1.ct (M := fun k => (k = b35) ∨ k = l) hH (fun k hk => ?_) hJ' (fun x q t u hj hv => hy x q t [u] hj ⟨u, rfl, hv⟩) (fun hk => ?_) hJ0) (fun v t' h => h)
      ·have := he.size; rcases hk with hk | hk
       ·cases hk; have := B35.lt; omega
       ·omega
      ·have := B100.lt; rcases hk with hk | hk
       ·exact n100_35 hk
       ·omega
     ·intro l x q t us hl hj ⟨u110, eus, hu⟩; subst eus; rw [hJd] at hj; obtain ⟨m109, y105, u106, h, hkm109, E, h1, h4, B24, c15, c16, c17, c18, c19, c20, c21, c22, c23, B35, c107⟩ := hj; obtain _ | m109 := m109
      ·cases h
      have h := lcase_cons h; have hlR : s99.w.heap.size ≤ l := hl; have h1_ := h1; have h4_ := h4; have nl24 : b24 ≠ l := by omega
      have nl35 : b35 ≠ l := by omega
      refine round_wp hz (by decide) (fun a112 hz hd hf hp => ?_); have he : Ext t t := Chg.refl _ _; have ER := Chg.refl (fun k => k = b35) t; obtain ⟨h1, h4⟩ := ea2 hf h1 h4 rfl; obtain ⟨B24, B35⟩ := bx2 he B24 B35; obtain ⟨c15, c16, c17, c18, c19, c20, c21, c22, c23, c107⟩ := vm10 he c15 c16 c17 c18 c19 c20 c21 c22 c23 c107; have E := E.trans he; have ER := ER.trans (Chg.of_ext he); have h62 := V_eq hp hu; refine wp_region ?_; refine sq_blk (its := [⟨7, _, []⟩]) [0] hz rfl ⟨avs rfl rfl h62 rfl, trivial⟩ ?_; intro a113 s114 he hf hz hd1 h7; obtain ⟨h1, h4⟩ := ea2 hf h1 h4 rfl; obtain ⟨B24, B35⟩ := bx2 he B24 B35; obtain ⟨c15, c16, c17, c18, c19, c20, c21, c22, c23, c107⟩ := vm10 he c15 c16 c17 c18 c19 c20 c21 c22 c23 c107; have E := E.trans he; have ER := ER.trans (Chg.of_ext he); have ER0 := ER; refine ⟨ER, fun s115 he => ?_⟩; have h7 := vm he h7; have B24 := B24.chg he (fun e => nl24 e); have B35 := B35.chg he (fun e => nl35 e); obtain ⟨c15, c16, c17, c18, c19, c20, c21, c22, c23, c107⟩ := vm10 he c15 c16 c17 c18 c19 c20 c21 c22 c23 c107; have E := Chg.chg E he (fun b e h => absurd h (by omega)); have hle := Le.trans ER0.le he.le
      have ER := Chg.refl (fun k => k = b35) s115; refine wp_block ?_; refine wp_region ?_; obtain ⟨D116, h⟩ := need h; refine sq_blk (its := [⟨63, _, []⟩, ⟨64, _, []⟩, ⟨65, _, [0, 1]⟩]) [2] hz rfl ⟨(fun a s he hf hz => lo rfl rfl ty_53 ((hf 4 rfl).trans h4) (B35.ext he) rfl (vm he c107)), mvs rfl rfl h7 rfl, (fun a s he hf hz q0 q1 => opw rfl (op_call_f rfl rfl (f := Fact.own (kSl kY) 5 1 (fun g => s115.w.heap.size ≤ g) (text y105 x)) (Cl.mono (wire_Text.ct q0 q1 D116) (own_w he)))), trivial⟩ ?_; intro a117 s118 he hf hz hd1 k65; have f65' : ∀ g, sb (a117.get 65) = some g → s0.w.heap.size ≤ g ∧ g ≠ b24 ∧ g ≠ b35 := fun g hg => by have h1 := k65.2.2 g hg; have h2 := E.size; have l24 := B24.lt; have l35 := B35.lt; exact ⟨(by omega), (by omega), (by omega)⟩
      have h4 := (hf 4 rfl).trans h4; obtain ⟨B24, B35⟩ := bx2 he B24 B35; obtain ⟨c15, c16, c17, c18, c19, c20, c21, c22, c23⟩ := vm9 he c15 c16 c17 c18 c19 c20 c21 c22 c23; have E := E.trans he; have ER := ER.trans (Chg.of_ext he); have h65 := k65.1; have p65 := k65.2.1; have f65 := f65'; refine sq_do rfl rfl (op_store_v rfl ty_53 rfl h4 B35 h65 rfl (fun s121 he B35n c122 => ?_)); have pn := Sp.chg p65 he (fun g hg => (fun e => (f65 g hg).2.2 e)); have fn := f65; have B24 := B24.chg he (fun e => (Ne.symm n35_24) e); obtain ⟨c15, c16, c17, c18, c19, c20, c21, c22, c23⟩ := vm9 he c15 c16 c17 c18 c19 c20 c21 c22 c23; have E := Chg.chg E he (fun b e h => (fun e => absurd h (by cases e; exact Nat.not_lt.2 l35)) e); have ER := Chg.chg ER he (fun b e h => (fun e => by cases e; exact rfl) e); obtain ⟨u123, huu123⟩ : ∃ u : Value, u = (a117.get 65) := ⟨_, rfl⟩; have c122 : (kSl kY).V s121 u123 (text y105 x) := by rw [huu123]; exact c122
      have p35_0 : Sp s121 u123 5 1 := by rw [huu123]; exact pn
      have B35 : Bx s121 b35 53 [u123] := by rw [huu123]; exact B35n
      exact ⟨ER, by rw [hJd]; exact ⟨_, _, _, h, by omega, E, h1_, h4_, B24, c15, c16, c17, c18, c19, c20, c21, c22, c23, B35, c122⟩⟩
     ·intro D t hD he hj OD; rw [hJd] at hj; obtain ⟨m109, y105, u106, h, hkm109, E, h1, h4, B24, c15, c16, c17, c18, c19, c20, c21, c22, c23, B35, c107⟩ := hj; obtain _ | m109 := m109
      ·cases h
      have h := lcase_nil h; have nD24 : b24 ≠ D := by omega
      have nD35 : b35 ≠ D := by omega
      have lD : s0.w.heap.size ≤ D := by omega
      refine done_wp hd (fun a124 hz1 hd hf => ?_); have hz := hz1.trans hz; have he : Ext t t := Chg.refl _ _; obtain ⟨h1, h4⟩ := ea2 hf h1 h4 rfl; obtain ⟨B24, B35⟩ := bx2 he B24 B35; obtain ⟨c15, c107⟩ := vm2 he c15 c107; have E := E.trans he; refine wp_sr ?_; obtain ⟨D125, h⟩ := need h; refine sq_blk (its := [⟨66, _, []⟩, ⟨67, _, [0]⟩, ⟨68, _, [1]⟩, ⟨69, _, []⟩, ⟨70, _, [3]⟩, ⟨71, _, [2, 4]⟩, ⟨2, _, [5]⟩, ⟨3, _, []⟩]) [6, 7] hz rfl ⟨(fun a s he hf hz => fb rfl rfl fa_34_0 ((hf 1 rfl).trans h1)), (fun a s he hf hz q0 => lo rfl rfl ty_3 q0 (B24.ext he) rfl (vm he c15)), (fun a s he hf hz q1 => cv rfl rfl u_3 u_5 q1), (fun a s he hf hz => lo rfl rfl ty_53 ((hf 4 rfl).trans h4) (B35.ext he) rfl (vm he c107)), (fun a s he hf hz q3 => opw rfl (op_tostr rfl u_53 u_5 u_9 q3)), (fun a s he hf hz q2 q4 => opw rfl (op_call rfl rfl (wire_Seal.ct q2 q4 D125))), avq rfl rfl, (fun a s he hf hz => av rfl rfl i0), trivial⟩ ?_; intro a126 s127 he hf hz hd1 h2 h3; have ⟨hd, E⟩ := hdE hd1 hd E he; have OD := OD.ext he; refine wp_ret ?_; refine Or.inr ⟨D, hd, OD, fun t' he => ?_⟩; obtain ⟨h2, h3⟩ := vm2 he h2 h3
      have E := Chg.chg E he (fun b e h => absurd h (by cases e; exact Nat.not_lt.2 lD)); cases h
      exact ⟨_, results_tmp2 rfl _ _ _, E, tup2 h2 h3⟩
    ·have h := ite_f hb h; refine wp_skip ?_; refine wp_sr ?_; obtain ⟨D128, h⟩ := need h; refine sq_blk (its := [⟨66, _, []⟩, ⟨67, _, [0]⟩, ⟨68, _, [1]⟩, ⟨69, _, []⟩, ⟨70, _, [3]⟩, ⟨71, _, [2, 4]⟩, ⟨2, _, [5]⟩, ⟨3, _, []⟩]) [6, 7] hz rfl ⟨(fun a s he hf hz => fb rfl rfl fa_34_0 ((hf 1 rfl).trans h1)), (fun a s he hf hz q0 => lo rfl rfl ty_3 q0 (B24.ext he) rfl (vm he c15)), (fun a s he hf hz q1 => cv rfl rfl u_3 u_5 q1), (fun a s he hf hz => opw rfl (op_load_1 (f := Fact.eq (u70)) rfl ty_53 ((hf 4 rfl).trans h4) (B35.ext he) rfl rfl)), (fun a s he hf hz q3 => opw rfl (op_tostr rfl u_53 u_5 u_9 (V_at c69 he q3))), (fun a s he hf hz q2 q4 => opw rfl (op_call rfl rfl (wire_Seal.ct q2 q4 D128))), avq rfl rfl, (fun a s he hf hz => av rfl rfl i0), trivial⟩ ?_; intro a129 s130 he hf hz hd1 h2 h3; have ⟨hd, E⟩ := hdE hd1 hd E he; refine wp_ret ?_; cases h
     exact Or.inl ⟨hd, _, results_tmp2 rfl _ _ _, E, tup2 h2 h3⟩
theorem frame_Lay.nice (x0 : Frame) (b0 : kFrame.bd x0) : ∃ k, frame_Lay.f k x0 = some (layF x0) := by
 unfold frame_Lay.f layF
 rw [frame_Right_eq]
 cases hr : rightF x0
 ·exact ⟨0, rfl⟩
 ·obtain ⟨h1, h2, h3, h4, h5, h6⟩ := rightF_parts hr
  obtain ⟨t1, t2, t3, t4⟩ := text3_le hr
  have hH := frmH_le hr
  have hops := rightF_ops hr
  have e8 : IntKind.wrap .u8 x0.kind = x0.kind := by rcases h6 with h | h | h <;> rw [h.1] <;> decide
  have lp : ∀ l : List Op, (∀ o ∈ l, rightO o = true) → ∀ acc : Str, acc.length + 8400 * l.length + 60 ≤ 140737488355328 → ∃ k, frame_Lay.l1 k (laidS l) x0 acc = some (sealed x0.kind (acc ++ opsB l), 0) := by
   intro l
   induction l with
   | nil =>
    intro _ acc ha
    refine ⟨1, ?_⟩
    simp only [frame_Lay.l1, laidS, List.map_nil, lcase]
    rw [if_pos (by simp at ha; omega), e8]
    simp [opsB]
   | cons o l ih =>
    intro ho acc ha
    have hro : rightO o = true := ho o (by simp)
    have hlen := textB_le (opB_len hro)
    have hlo := opB_len hro
    simp only [List.length_cons] at ha
    obtain ⟨k, hk⟩ := ih (fun p hp => ho p (by simp [hp])) (acc ++ textB (opB o)) (by rw [List.length_append]; omega)
    refine ⟨k + 1, ?_⟩
    have hk : frame_Lay.l1 k (List.map (fun o => (layO o).1) l) x0 (acc ++ textB (opB o)) = _ := hk
    simp only [frame_Lay.l1, laidS, List.map_cons, lcase]
    rw [layO_right hro, if_pos (by omega), text_eq, hk]
    simp [opsB]
  have s0 : ∀ k acc, acc.length + x0.src.length + 9 ≤ 140737488355328 → frame_Lay.l0 (k + 1) x0 0 acc = frame_Lay.l0 k x0 1 (text acc x0.src) := fun k acc h => by
   rw [frame_Lay.l0, if_pos (by simp), if_pos (by simp)]; exact if_pos h
  have s1 : ∀ k acc, acc.length + x0.dst.length + 9 ≤ 140737488355328 → frame_Lay.l0 (k + 1) x0 1 acc = frame_Lay.l0 k x0 2 (text acc x0.dst) := fun k acc h => by
   rw [frame_Lay.l0, if_pos (by simp), if_pos (by simp)]; exact if_pos h
  have s2 : ∀ k acc, acc.length + x0.cart.length + 9 ≤ 140737488355328 → frame_Lay.l0 (k + 1) x0 2 acc = frame_Lay.l0 k x0 3 (text acc x0.cart) := fun k acc h => by
   rw [frame_Lay.l0, if_pos (by simp), if_pos (by simp)]; exact if_pos h
  have go : ∀ k, (∀ j, k ≠ j + 1 + 1 + 1 → True) → frame_Lay.l0 (k + 1 + 1 + 1) x0 0 ([] : Str) = frame_Lay.l0 k x0 3 (text (text (text ([] : Str) x0.src) x0.dst) x0.cart) := fun k _ => by
   rw [s0 _ _ (by simp; omega), s1 _ _ (by omega), s2 _ _ (by omega)]
  have hh := frm_head x0 hr
  rcases h6 with ⟨k1, k2, k3, k4⟩ | ⟨k1, k2, k3, k4, k5⟩ | ⟨k1, k2, k3, k4⟩
  ·have hv := vecB_le k4
   have c1 : ((layV (frmH x0) x0.known).1).length ≤ 2900 := by rw [layV_right k4, List.length_append]; omega
   refine ⟨0 + 1 + 1 + 1 + 1, ?_⟩
   rw [if_neg (by simp), if_pos rfl, go (0 + 1) (fun _ _ => trivial)]
   rw [frame_Lay.l0, if_neg (by simp), hh, if_pos (by omega), if_pos (by omega), if_pos (by rw [k1]; decide), if_pos (by omega), if_pos (by omega), e8, layV_right k4, frmB1 k1]
  ·have e3 : IntKind.wrap .u64 (x0.ops.length : Int) = (x0.ops.length : Int) := wrap_u64i (by omega) (by omega)
   have e4 : IntKind.wrap .u64 x0.many = x0.many := wrap_u64i (by omega) (by omega)
   have n1 := numB_le x0.many.toNat
   have n2 := numB_le x0.ops.length
   obtain ⟨k, hk⟩ := lp x0.ops hops (number (number (frmH x0) x0.many) (x0.ops.length : Int)) (by simp only [number, List.length_append, Int.toNat_natCast]; omega)
   refine ⟨k + 1 + 1 + 1 + 1, ?_⟩
   rw [if_neg (by simp), if_pos rfl, go (k + 1) (fun _ _ => trivial)]
   rw [frame_Lay.l0, if_neg (by simp), hh, if_pos (by omega), if_pos (by omega), if_neg (by rw [k1]; decide), if_pos (by rw [k1]; decide), if_pos (by omega), e4, if_pos (by simp only [number, List.length_append]; omega), e3, frmB2 k1]
   refine hk.trans ?_
   simp only [number, Int.toNat_natCast, List.append_assoc]
  ·refine ⟨0 + 1 + 1 + 1 + 1, ?_⟩
   rw [if_neg (by simp), if_pos rfl, go (0 + 1) (fun _ _ => trivial)]
   rw [frame_Lay.l0, if_neg (by simp), hh, if_pos (by omega), if_pos (by omega), if_neg (by rw [k1]; decide), if_neg (by rw [k1]; decide), if_pos (by omega), e8, frmB3 k1]
theorem frame_Lay.ct {s0 : St} {v0 : Value} {x0 : Frame} (k0 : kFrame.V s0 v0 x0) : Cl Try.prog 27 #[v0] s0 (Okf s0 (Fact.tup [Fact.v kS ((layF x0).1), Fact.v (kI .i64) ((layF x0).2)])) := by
 obtain ⟨k, h⟩ := frame_Lay.nice x0 (Kn.V_bd k0)
 exact frame_Lay.ok k0 h
end
section
attribute [local irreducible] Kn.V PtrV
def frame_Read_1 (x0 : Int) (x1 : (List UInt8)) (x2 : Int) (x3 : Bool) : Int × Bool × Str := ((takeT x1 x2 x0).2.1, (x3 || (!decide (((takeT x1 x2 x0).2.2) = 0))), (takeT x1 x2 x0).1)
theorem frame_Read_1.ok {s0 : St} {v0 : Value} {x0 : Int} {b1 : Nat} {x1 : (List UInt8)} {b2 : Nat} {x2 : Int} {b3 : Nat} {x3 : Bool} (k0 : (kI .i64).V s0 v0 x0) (H1 : Hd s0 b1 53 (kSl kY) x1) (H2 : Hd s0 b2 3 (kI .i64) x2) (H3 : Hd s0 b3 4 kB x3) (n2_1 : b2 ≠ b1) (n3_1 : b3 ≠ b1) (n3_2 : b3 ≠ b2) : Cl Try.prog 58 #[v0, .pointer (some ⟨b1, 0, none⟩), .pointer (some ⟨b2, 0, none⟩), .pointer (some ⟨b3, 0, none⟩)] s0 (Okt (fun b => b = b2 ∨ b = b3) s0 (fun t v => Hd t b2 3 (kI .i64) ((frame_Read_1 x0 x1 x2 x3).1) ∧ Hd t b3 4 kB ((frame_Read_1 x0 x1 x2 x3).2.1) ∧ (Fact.v kS ((frame_Read_1 x0 x1 x2 x3).2.2)).φ t v)) := by
 obtain ⟨r, h⟩ : ∃ r, some (frame_Read_1 x0 x1 x2 x3) = some r := ⟨_, rfl⟩
 rw [Option.some.inj h]
 have h : (some ((takeT x1 x2 x0).2.1, (x3 || (!decide (((takeT x1 x2 x0).2.2) = 0))), (takeT x1 x2 x0).1)) = some r := by rw [← h]; unfold frame_Read_1; first | rfl | simp only [apply_ite some] | (repeat' (first | rfl | split))
 refine cl_of_wp Try.func58 rfl en_58 fun a hz hd hp => ?_; have hz : a.tmps.size = 24 := hz; have E := Chg.refl (fun b => b = b2 ∨ b = b3) s0; obtain ⟨e4, B1, r5⟩ := H1; obtain ⟨u6, rfl, c7⟩ := one_of rfl rfl r5; obtain ⟨e8, B2, r9⟩ := H2; obtain ⟨u10, rfl, c11⟩ := one_of rfl rfl r9; obtain ⟨e12, B3, r13⟩ := H3; obtain ⟨u14, rfl, c15⟩ := one_of rfl rfl r13; have h0 := V_at k0 E (hp 0 v0 rfl); have h1 : a.get 1 = .pointer (some ⟨b1, 0, none⟩) := hp 1 _ rfl; have h2 : a.get 2 = .pointer (some ⟨b2, 0, none⟩) := hp 2 _ rfl; have h3 : a.get 3 = .pointer (some ⟨b3, 0, none⟩) := hp 3 _ rfl; refine wp_sr ?_; refine sq_blk (its := [⟨5, _, []⟩]) [] hz rfl ⟨(fun a s he hf hz => av rfl rfl s_0), trivial⟩ ?_; intro a16 s17 he hf hz hd1; have hd := hd1.trans hd; have h0 := V_at h0 he (hf 0 rfl); obtain ⟨h1, h2, h3⟩ := ea3 hf h1 h2 h3 rfl; obtain ⟨B1, B2, B3⟩ := bx3 he B1 B2 B3; obtain ⟨c7, c11, c15⟩ := vm3 he c7 c11 c15; have E := E.trans (Chg.of_ext he); refine wp_sr ?_
 refine sq_blk (its := [⟨10, _, []⟩, ⟨11, _, []⟩, ⟨12, _, []⟩, ⟨13, _, [0, 1, 2]⟩, ⟨9, _, [3]⟩, ⟨14, _, [4]⟩, ⟨15, _, [4]⟩, ⟨16, _, [4]⟩, ⟨6, _, [5]⟩, ⟨7, _, [6]⟩, ⟨8, _, [7]⟩]) [8, 9, 10] hz rfl ⟨(fun a s he hf hz => lo rfl rfl ty_53 ((hf 1 rfl).trans h1) (B1.ext he) rfl (vm he c7)), (fun a s he hf hz => lo rfl rfl ty_3 ((hf 2 rfl).trans h2) (B2.ext he) rfl (vm he c11)), mvs rfl rfl h0 rfl, (fun a s he hf hz q0 q1 q2 => opw rfl (op_call rfl rfl (wire_TakeText.ct q0 q1 q2))), (fun a s he hf hz q3 => opw rfl (op_move rfl (f := Fact.tup _) q3)), (fun a s he hf hz q4 => opw rfl (op_extract (f := Fact.v _ _) rfl q4 rfl)), (fun a s he hf hz q4 => opw rfl (op_extract (f := Fact.v _ _) rfl q4 rfl)), (fun a s he hf hz q4 => opw rfl (op_extract (f := Fact.v _ _) rfl q4 rfl)), avq rfl rfl, avq rfl rfl, avq rfl rfl, trivial⟩ ?_; intro a18 s19 he hf hz hd1 h6 h7 h8; have hd := hd1.trans hd; obtain ⟨h2, h3⟩ := ea2 hf h2 h3 rfl; obtain ⟨B2, B3⟩ := bx2 he B2 B3; have c15 := vm he c15; have E := E.trans (Chg.of_ext he); refine wp_sr ?_; have hz0 := hz; refine sq_blk (its := [⟨17, _, []⟩, ⟨18, _, [0]⟩, ⟨19, _, [1]⟩, ⟨20, _, [1, 2]⟩, ⟨21, _, [1, 3]⟩]) [4] hz rfl ⟨(fun a s he hf hz => lo rfl rfl ty_4 ((hf 3 rfl).trans h3) (B3.ext he) rfl (vm he c15)), mvq rfl rfl, (fun a s he hf hz q1 => og rfl rfl rfl hz hz0 rfl q1 (fun g => op_move_v rfl (V_at h8 he (hf 8 rfl)))), (fun a s he hf hz q1 q2 => og rfl rfl rfl hz hz0 rfl q1 (fun g => op_neq rfl (q2.1 g) i0)), (fun a s he hf hz q1 q3 => oe rfl rfl q1 (q3.1)), trivial⟩ ?_
 intro a20 s21 he hf hz hd1 h21; have hd := hd1.trans hd; obtain ⟨h6, h7⟩ := va2 he hf h6 h7 rfl; obtain ⟨h2, h3⟩ := ea2 hf h2 h3 rfl; obtain ⟨B2, B3⟩ := bx2 he B2 B3; have E := E.trans (Chg.of_ext he); refine sq_do rfl rfl (op_store_v rfl ty_4 rfl h3 B3 h21 rfl (fun s23 he B3n c24 => ?_)); obtain ⟨h6, h7⟩ := vm2 he h6 h7; have B2 := B2.chg he (fun e => (Ne.symm n3_2) e); have E := Chg.chg E he (fun b e h => (fun e => by cases e; exact (Or.inr rfl)) e); obtain ⟨u25, huu25⟩ : ∃ u : Value, u = (a20.get 21) := ⟨_, rfl⟩; have c24 : kB.V s23 u25 (x3 || (!decide (((takeT x1 x2 x0).2.2) = 0))) := by rw [huu25]; exact c24
 have B3 : Bx s23 b3 4 [u25] := by rw [huu25]; exact B3n
 refine wp_sr ?_; refine sq_blk (its := [⟨22, _, []⟩]) [0] hz rfl ⟨mvs rfl rfl h7 rfl, trivial⟩ ?_; intro a26 s27 he hf hz hd1 h22; have hd := hd1.trans hd; have h6 := V_at h6 he (hf 6 rfl); have h2 := (hf 2 rfl).trans h2; obtain ⟨B2, B3⟩ := bx2 he B2 B3; have c24 := vm he c24; have E := E.trans (Chg.of_ext he); refine sq_do rfl rfl (op_store_v rfl ty_3 rfl h2 B2 h22 rfl (fun s29 he B2n c30 => ?_)); have h6 := vm he h6; have B3 := B3.chg he (fun e => n3_2 e); have c24 := vm he c24; have E := Chg.chg E he (fun b e h => (fun e => by cases e; exact (Or.inl rfl)) e); obtain ⟨u31, huu31⟩ : ∃ u : Value, u = (a26.get 22) := ⟨_, rfl⟩; have c30 : (kI .i64).V s29 u31 ((takeT x1 x2 x0).2.1) := by rw [huu31]; exact c30
 have B2 : Bx s29 b2 3 [u31] := by rw [huu31]; exact B2n
 refine wp_sr ?_; refine sq_blk (its := [⟨23, _, []⟩, ⟨5, _, [0]⟩]) [1] hz rfl ⟨mvs rfl rfl h6 rfl, avq rfl rfl, trivial⟩ ?_; intro a32 s33 he hf hz hd1 h5; have hd := hd1.trans hd; obtain ⟨B2, B3⟩ := bx2 he B2 B3; obtain ⟨c30, c24⟩ := vm2 he c30 c24; have E := E.trans (Chg.of_ext he); refine wp_ret ?_; cases h
 exact ⟨hd, _, results_tmp rfl _ _ _, E, ⟨_, B2, V_one rfl c30⟩, ⟨_, B3, V_one rfl c24⟩, h5⟩
def frame_Read_2 (x0 : (List UInt8)) (x1 : Int) (x2 : Bool) : Int × Bool × Int := ((takeN x0 x1).2.1, ((x2 || (!decide (((takeN x0 x1).2.2) = 0))) || (decide (1152921504606846976 < ((takeN x0 x1).1)))), IntKind.wrap .i64 (mn ((takeN x0 x1).1) 1152921504606846976))
theorem frame_Read_2.ok {s0 : St} {b1 : Nat} {x0 : (List UInt8)} {b2 : Nat} {x1 : Int} {b3 : Nat} {x2 : Bool} (H0 : Hd s0 b1 53 (kSl kY) x0) (H1 : Hd s0 b2 3 (kI .i64) x1) (H2 : Hd s0 b3 4 kB x2) (n2_1 : b2 ≠ b1) (n3_1 : b3 ≠ b1) (n3_2 : b3 ≠ b2) : Cl Try.prog 60 #[.pointer (some ⟨b1, 0, none⟩), .pointer (some ⟨b2, 0, none⟩), .pointer (some ⟨b3, 0, none⟩)] s0 (Okt (fun b => b = b2 ∨ b = b3) s0 (fun t v => Hd t b2 3 (kI .i64) ((frame_Read_2 x0 x1 x2).1) ∧ Hd t b3 4 kB ((frame_Read_2 x0 x1 x2).2.1) ∧ (Fact.v (kI .i64) ((frame_Read_2 x0 x1 x2).2.2)).φ t v)) := by
 obtain ⟨r, h⟩ : ∃ r, some (frame_Read_2 x0 x1 x2) = some r := ⟨_, rfl⟩
 rw [Option.some.inj h]
 have h : (some ((takeN x0 x1).2.1, ((x2 || (!decide (((takeN x0 x1).2.2) = 0))) || (decide (1152921504606846976 < ((takeN x0 x1).1)))), IntKind.wrap .i64 (mn ((takeN x0 x1).1) 1152921504606846976))) = some r := by rw [← h]; unfold frame_Read_2; first | rfl | simp only [apply_ite some] | (repeat' (first | rfl | split))
 refine cl_of_wp Try.func60 rfl en_60 fun a hz hd hp => ?_; have hz : a.tmps.size = 27 := hz; have E := Chg.refl (fun b => b = b2 ∨ b = b3) s0; obtain ⟨e4, B1, r5⟩ := H0; obtain ⟨u6, rfl, c7⟩ := one_of rfl rfl r5; obtain ⟨e8, B2, r9⟩ := H1; obtain ⟨u10, rfl, c11⟩ := one_of rfl rfl r9; obtain ⟨e12, B3, r13⟩ := H2; obtain ⟨u14, rfl, c15⟩ := one_of rfl rfl r13; have h0 : a.get 0 = .pointer (some ⟨b1, 0, none⟩) := hp 0 _ rfl; have h1 : a.get 1 = .pointer (some ⟨b2, 0, none⟩) := hp 1 _ rfl; have h2 : a.get 2 = .pointer (some ⟨b3, 0, none⟩) := hp 2 _ rfl; refine wp_sr ?_; refine sq_blk (its := [⟨3, _, []⟩]) [] hz rfl ⟨(fun a s he hf hz => av rfl rfl i0), trivial⟩ ?_; intro a16 s17 he hf hz hd1; have hd := hd1.trans hd; obtain ⟨h0, h1, h2⟩ := ea3 hf h0 h1 h2 rfl; obtain ⟨B1, B2, B3⟩ := bx3 he B1 B2 B3; obtain ⟨c7, c11, c15⟩ := vm3 he c7 c11 c15; have E := E.trans (Chg.of_ext he); refine wp_sr ?_; refine sq_blk (its := [⟨8, _, []⟩, ⟨9, _, []⟩, ⟨10, _, [0, 1]⟩, ⟨7, _, [2]⟩, ⟨11, _, [3]⟩, ⟨12, _, [3]⟩, ⟨13, _, [3]⟩, ⟨4, _, [4]⟩, ⟨5, _, [5]⟩, ⟨6, _, [6]⟩]) [7, 8, 9] hz rfl ⟨(fun a s he hf hz => lo rfl rfl ty_53 ((hf 0 rfl).trans h0) (B1.ext he) rfl (vm he c7)), (fun a s he hf hz => lo rfl rfl ty_3 ((hf 1 rfl).trans h1) (B2.ext he) rfl (vm he c11)), (fun a s he hf hz q0 q1 => opw rfl (op_call rfl rfl (wire_TakeNumber.ct q0 q1))), (fun a s he hf hz q2 => opw rfl (op_move rfl (f := Fact.tup _) q2)), (fun a s he hf hz q3 => opw rfl (op_extract (f := Fact.v _ _) rfl q3 rfl)), (fun a s he hf hz q3 => opw rfl (op_extract (f := Fact.v _ _) rfl q3 rfl)), (fun a s he hf hz q3 => opw rfl (op_extract (f := Fact.v _ _) rfl q3 rfl)), avq rfl rfl, avq rfl rfl, avq rfl rfl, trivial⟩ ?_
 intro a18 s19 he hf hz hd1 h4 h5 h6; have hd := hd1.trans hd; obtain ⟨h1, h2⟩ := ea2 hf h1 h2 rfl; obtain ⟨B2, B3⟩ := bx2 he B2 B3; have c15 := vm he c15; have E := E.trans (Chg.of_ext he); refine wp_sr ?_; have hz0 := hz; refine sq_blk (its := [⟨14, _, []⟩, ⟨15, _, [0]⟩, ⟨16, _, [1]⟩, ⟨17, _, [1, 2]⟩, ⟨18, _, [1, 3]⟩, ⟨19, _, [4]⟩, ⟨20, _, [5]⟩, ⟨21, _, [5, 6]⟩, ⟨22, _, [5, 7]⟩]) [8] hz rfl ⟨(fun a s he hf hz => lo rfl rfl ty_4 ((hf 2 rfl).trans h2) (B3.ext he) rfl (vm he c15)), mvq rfl rfl, (fun a s he hf hz q1 => og rfl rfl rfl hz hz0 rfl q1 (fun g => op_move_v rfl (V_at h6 he (hf 6 rfl)))), (fun a s he hf hz q1 q2 => og rfl rfl rfl hz hz0 rfl q1 (fun g => op_neq rfl (q2.1 g) i0)), (fun a s he hf hz q1 q3 => oe rfl rfl q1 (q3.1)), mvq rfl rfl, (fun a s he hf hz q5 => og rfl rfl rfl hz hz0 rfl q5 (fun g => op_move_v rfl (V_at h4 he (hf 4 rfl)))), (fun a s he hf hz q5 q6 => og rfl rfl rfl hz hz0 rfl q5 (fun g => op_gtr rfl (q6.1 g) (lit_i (k := .u64) (n := 1152921504606846976) (by decide)))), (fun a s he hf hz q5 q7 => oe rfl rfl q5 (q7.1)), trivial⟩ ?_; intro a20 s21 he hf hz hd1 h22; have hd := hd1.trans hd
 obtain ⟨h4, h5⟩ := va2 he hf h4 h5 rfl; obtain ⟨h1, h2⟩ := ea2 hf h1 h2 rfl; obtain ⟨B2, B3⟩ := bx2 he B2 B3; have E := E.trans (Chg.of_ext he); refine sq_do rfl rfl (op_store_v rfl ty_4 rfl h2 B3 h22 rfl (fun s23 he B3n c24 => ?_)); obtain ⟨h4, h5⟩ := vm2 he h4 h5; have B2 := B2.chg he (fun e => (Ne.symm n3_2) e); have E := Chg.chg E he (fun b e h => (fun e => by cases e; exact (Or.inr rfl)) e); obtain ⟨u25, huu25⟩ : ∃ u : Value, u = (a20.get 22) := ⟨_, rfl⟩; have c24 : kB.V s23 u25 ((x2 || (!decide (((takeN x0 x1).2.2) = 0))) || (decide (1152921504606846976 < ((takeN x0 x1).1)))) := by rw [huu25]; exact c24
 have B3 : Bx s23 b3 4 [u25] := by rw [huu25]; exact B3n
 refine wp_sr ?_; refine sq_blk (its := [⟨23, _, []⟩]) [0] hz rfl ⟨mvs rfl rfl h5 rfl, trivial⟩ ?_; intro a26 s27 he hf hz hd1 h23; have hd := hd1.trans hd; have h4 := V_at h4 he (hf 4 rfl); have h1 := (hf 1 rfl).trans h1; obtain ⟨B2, B3⟩ := bx2 he B2 B3; have c24 := vm he c24; have E := E.trans (Chg.of_ext he); refine sq_do rfl rfl (op_store_v rfl ty_3 rfl h1 B2 h23 rfl (fun s29 he B2n c30 => ?_)); have h4 := vm he h4; have B3 := B3.chg he (fun e => n3_2 e); have c24 := vm he c24; have E := Chg.chg E he (fun b e h => (fun e => by cases e; exact (Or.inl rfl)) e); obtain ⟨u31, huu31⟩ : ∃ u : Value, u = (a26.get 23) := ⟨_, rfl⟩; have c30 : (kI .i64).V s29 u31 ((takeN x0 x1).2.1) := by rw [huu31]; exact c30
 have B2 : Bx s29 b2 3 [u31] := by rw [huu31]; exact B2n
 refine wp_sr ?_; refine sq_blk (its := [⟨24, _, []⟩, ⟨25, _, [0]⟩, ⟨26, _, [1]⟩, ⟨3, _, [2]⟩]) [3] hz rfl ⟨mvs rfl rfl h4 rfl, (fun a s he hf hz q0 => opw rfl (op_min rfl q0 (lit_i (k := .u64) (n := 1152921504606846976) (by decide)))), (fun a s he hf hz q1 => cv rfl rfl u_89 u_2 q1), avq rfl rfl, trivial⟩ ?_; intro a32 s33 he hf hz hd1 h3; have hd := hd1.trans hd; obtain ⟨B2, B3⟩ := bx2 he B2 B3; obtain ⟨c30, c24⟩ := vm2 he c30 c24; have E := E.trans (Chg.of_ext he); refine wp_ret ?_; cases h
 exact ⟨hd, _, results_tmp rfl _ _ _, E, ⟨_, B2, V_one rfl c30⟩, ⟨_, B3, V_one rfl c24⟩, h3⟩
end
end Go.Proofs.Ytfaenhhiogcacaa.Px
