/-
  WHAT IS PROVED HERE: what an out tells, and takes: the law returns true, and its arguments read as they did. CONDITIONS: none: every input of its types.
-/
import Derived.Test.YtfaenhhiogcacaaZSessTells5
import Derived.Test.YtfaenhhiogcacaaZSessTells6
import Derived.Test.YtfaenhhiogcacaaRows
import Derived.WalkKit
import Derived.KernelRfl
namespace Go.Proofs.Ytfaenhhiogcacaa
open Go Go.RowKit Go.ChangeShapes Go.WideShapes Go.ChangeAt Go.Proofs.Ytfaenhhiogcacaa.Px
set_option linter.unusedVariables false
theorem sessTells_rd9 : Rd Try.prog kS 9 := rd_s Try.underlying9
theorem sessTells_rd2 : Rd Try.prog (kI .i64) 2 := rd_i Try.underlying2
theorem sessTells_rd70 : Rd Try.prog kDot 70 := rd_st (fun y => (⟨y.1, y.2⟩ : Px.Dot)) (fun y => rfl) Try.underlying70 (rdl_cons sessTells_rd9 rfl (by kernel_rfl) (rdl_last sessTells_rd2 rfl (by kernel_rfl) (by kernel_rfl)))
theorem sessTells_rd32 : Rd Try.prog (kSl kDot) 32 := rd_sl Try.underlying32 (by kernel_rfl) sessTells_rd70
theorem sessTells_rd3 : Rd Try.prog (kI .i64) 3 := rd_i Try.underlying3
theorem sessTells_rd72 : Rd Try.prog kOp 72 := rd_st (fun y => (⟨y.1, y.2.1, y.2.2.1, y.2.2.2.1, y.2.2.2.2.1, y.2.2.2.2.2.1, y.2.2.2.2.2.2⟩ : Px.Op)) (fun y => rfl) Try.underlying72 (rdl_cons sessTells_rd70 rfl (by kernel_rfl) (rdl_cons sessTells_rd32 rfl (by kernel_rfl) (rdl_cons sessTells_rd9 rfl (by kernel_rfl) (rdl_cons sessTells_rd3 rfl (by kernel_rfl) (rdl_cons sessTells_rd9 rfl (by kernel_rfl) (rdl_cons sessTells_rd2 rfl (by kernel_rfl) (rdl_last sessTells_rd32 rfl (by kernel_rfl) (by kernel_rfl))))))))
theorem sessTells_rd22 : Rd Try.prog (kSl kOp) 22 := rd_sl Try.underlying22 (by kernel_rfl) sessTells_rd72
theorem sessTells_rd34 : Rd Try.prog kFrame 34 := rd_st (fun y => (⟨y.1, y.2.1, y.2.2.1, y.2.2.2.1, y.2.2.2.2.1, y.2.2.2.2.2.1, y.2.2.2.2.2.2.1, y.2.2.2.2.2.2.2.1, y.2.2.2.2.2.2.2.2⟩ : Px.Frame)) (fun y => rfl) Try.underlying34 (rdl_cons sessTells_rd3 rfl (by kernel_rfl) (rdl_cons sessTells_rd9 rfl (by kernel_rfl) (rdl_cons sessTells_rd9 rfl (by kernel_rfl) (rdl_cons sessTells_rd9 rfl (by kernel_rfl) (rdl_cons sessTells_rd2 rfl (by kernel_rfl) (rdl_cons sessTells_rd2 rfl (by kernel_rfl) (rdl_cons sessTells_rd2 rfl (by kernel_rfl) (rdl_cons sessTells_rd32 rfl (by kernel_rfl) (rdl_last sessTells_rd22 rfl (by kernel_rfl) (by kernel_rfl))))))))))
theorem sessTells_rd23 : Rd Try.prog (kSl kFrame) 23 := rd_sl Try.underlying23 (by kernel_rfl) sessTells_rd34
theorem sessTells_own : ownKnob Try.prog.godebug = none := by kernel_rfl
theorem sessTells_laid : laidOutB Try.prog = true := by kernel_rfl
set_option maxRecDepth 100000 in
theorem sessTells_lifted (os : Os) (started : os.Started) (H : Type) (enc : TypeId × Value → H) :
  ReturnsInHanded {} Try.checked os 3 .any (Rows.sessTellsSpec.pre6 enc Try.prog Try.f3 Rows.sessTellsRow.domain false) (Rows.sessTellsSpec.post enc Try.prog Try.f3 false true false false) := by
 refine returnsInHanded_of_change (C := Try.checked) sessTells_own started (by kernel_rfl) Try.func3
  (ChangeSpec.witness6 (enc := enc) (C := Try.checked) false ⟨#[], #[(.string ⟨#[]⟩), (.string ⟨#[]⟩), (.string ⟨#[]⟩), (.int .i64 0), (.slice none 0 0), (.slice none 0 0)], []⟩ 8 (by kernel_rfl) (by kernel_rfl) (by kernel_rfl) (by kernel_rfl)) ?_
 intro W base args ds gs before hval0 hW hcnd _
 have hval : ∀ (j : Nat) t v, Try.f3.params[j]? = some t → args[j]? = some v → Value.okWide Try.prog W .any base t v := hval0
 have hW' := hW
 obtain ⟨p, q, hA0, hV, rfl, hfz, hnd⟩ := hW
 have hA : DataW.TrodAll enc Try.prog W 0 (fun _ => true) true Try.f3.params.toList args.toList ds p := hA0
 rw [Try.params3] at hA hval
 obtain ⟨v0, vs0, d0, ds0, p0, q0, hargs, rfl, rfl, h0, r0⟩ := trodAll_cons hA
 obtain ⟨v1, vs1, d1, ds1, p1, q1, rfl, rfl, rfl, h1, r1⟩ := trodAll_cons r0
 obtain ⟨v2, vs2, d2, ds2, p2, q2, rfl, rfl, rfl, h2, r2⟩ := trodAll_cons r1
 obtain ⟨v3, vs3, d3, ds3, p3, q3, rfl, rfl, rfl, h3, r3⟩ := trodAll_cons r2
 obtain ⟨v4, vs4, d4, ds4, p4, q4, rfl, rfl, rfl, h4, r4⟩ := trodAll_cons r3
 obtain ⟨v5, vs5, d5, ds5, p5, q5, rfl, rfl, rfl, h5, r5⟩ := trodAll_cons r4
 obtain ⟨rfl, rfl, rfl⟩ := trodAll_nil r5
 obtain rfl : args = #[v0, v1, v2, v3, v4, v5] := by cases args; simp_all
 obtain ⟨rfl, rfl⟩ := trodVars_none hV
 obtain ⟨s0, rfl⟩ := okWide_string Try.underlying9 (hval 0 9 v0 rfl rfl)
 obtain ⟨x0, k0⟩ := rd_arg rfl rfl sessTells_rd9 rfl h0
 obtain ⟨s1, rfl⟩ := okWide_string Try.underlying9 (hval 1 9 v1 rfl rfl)
 obtain ⟨x1, k1⟩ := rd_arg rfl rfl sessTells_rd9 rfl h1
 obtain ⟨s2, rfl⟩ := okWide_string Try.underlying9 (hval 2 9 v2 rfl rfl)
 obtain ⟨x2, k2⟩ := rd_arg rfl rfl sessTells_rd9 rfl h2
 obtain ⟨s3, rfl⟩ := okWide_int Try.underlying2 (hval 3 2 v3 rfl rfl)
 obtain ⟨x3, k3⟩ := rd_arg rfl rfl sessTells_rd2 rfl h3
 obtain ⟨s4, l4, c4, rfl⟩ := okWide_slice Try.underlying22 (hval 4 22 v4 rfl rfl)
 obtain ⟨x4, k4⟩ := rd_arg rfl rfl sessTells_rd22 rfl h4
 obtain ⟨s5, l5, c5, rfl⟩ := okWide_slice Try.underlying23 (hval 5 23 v5 rfl rfl)
 obtain ⟨x5, k5⟩ := rd_arg rfl rfl sessTells_rd23 rfl h5
 clear hA0 hval0
 simp only [List.append_nil] at hW'
 refine (calls_of_cl (sessTells_cl k0 k1 k2 k3 k4 k5)).mono fun e W' ⟨v, t, he, hw, hE, hv⟩ => ?_
 subst he hw
 have hb : Below W.heap.size W t.w := Chg.below hE
 have hv : v = .bool true := List.cons.inj hv |>.1
 subst hv
 have hlt := fun p hp => hW'.lt p hp
 exact ⟨_, rfl, post_of_below (pa := (p0 ++ (p1 ++ (p2 ++ (p3 ++ (p4 ++ (p5 ++ []))))))) (pv := []) hW' (fun _ _ _ => trodAll_cons_mk (shut_bool Try.underlying4 _) trodAll_mk0) (fun sp hsp => (trodAll_cons_mk (stays sessTells_laid (by kernel_rfl) (of_decide_eq_true (by kernel_rfl)) h0 hb (fun p hp => hlt p (by simp [hp])) (fun p hp => hsp p (by simp [hp]))) (trodAll_cons_mk (stays sessTells_laid (by kernel_rfl) (of_decide_eq_true (by kernel_rfl)) h1 hb (fun p hp => hlt p (by simp [hp])) (fun p hp => hsp p (by simp [hp]))) (trodAll_cons_mk (stays sessTells_laid (by kernel_rfl) (of_decide_eq_true (by kernel_rfl)) h2 hb (fun p hp => hlt p (by simp [hp])) (fun p hp => hsp p (by simp [hp]))) (trodAll_cons_mk (stays sessTells_laid (by kernel_rfl) (of_decide_eq_true (by kernel_rfl)) h3 hb (fun p hp => hlt p (by simp [hp])) (fun p hp => hsp p (by simp [hp]))) (trodAll_cons_mk (stays sessTells_laid (by kernel_rfl) (of_decide_eq_true (by kernel_rfl)) h4 hb (fun p hp => hlt p (by simp [hp])) (fun p hp => hsp p (by simp [hp]))) (trodAll_cons_mk (stays sessTells_laid (by kernel_rfl) (of_decide_eq_true (by kernel_rfl)) h5 hb (fun p hp => hlt p (by simp [hp])) (fun p hp => hsp p (by simp [hp]))) trodAll_mk0))))))) (fun _ _ => rfl) (by simp) hb (ok_one (by kernel_rfl) rfl (okWide_bool_mk Try.underlying4 _))⟩
theorem sessTells_proved : Rows.SessTellsSaid :=
 OpenClaim.holds_of_wide 3 Try.f3 rfl rfl rfl rfl rfl rfl rfl ⟨rfl, rfl, rfl, rfl, rfl⟩ rfl rfl rfl rfl rfl (by kernel_rfl) Try.func3 (by kernel_rfl)
  (of_decide_eq_true (by kernel_rfl)) (by unfold Func.isWrapper; first | (rw [if_pos (by decide +kernel)]; kernel_rfl) | (rw [if_neg (by decide +kernel)]; exact ⟨rfl, rfl⟩))
  (fun os started H enc _ => sessTells_lifted os started H enc)
end Go.Proofs.Ytfaenhhiogcacaa

