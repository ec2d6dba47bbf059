/-
  WHAT IS PROVED HERE: frame.Right, Same and Lay answer any two frames as the document does: the law returns true, and its arguments read as they did. CONDITIONS: none: every input of its types.
-/
import Derived.Test.YtfaenhhiogcacaaZFrameWords6
import Derived.Test.YtfaenhhiogcacaaZFrameWords7
import Derived.Test.YtfaenhhiogcacaaRows
import Derived.WalkKit
import Derived.KernelRfl
namespace Go.Proofs.Ytfaenhhiogcacaa
open Go Go.RowKit Go.ChangeShapes Go.WideShapes Go.ChangeAt Go.Proofs.Ytfaenhhiogcacaa.Px
set_option linter.unusedVariables false
theorem frameWords_rd3 : Rd Try.prog (kI .i64) 3 := rd_i Try.underlying3
theorem frameWords_rd9 : Rd Try.prog kS 9 := rd_s Try.underlying9
theorem frameWords_rd2 : Rd Try.prog (kI .i64) 2 := rd_i Try.underlying2
theorem frameWords_rd70 : Rd Try.prog kDot 70 := rd_st (fun y => (⟨y.1, y.2⟩ : Px.Dot)) (fun y => rfl) Try.underlying70 (rdl_cons frameWords_rd9 rfl (by kernel_rfl) (rdl_last frameWords_rd2 rfl (by kernel_rfl) (by kernel_rfl)))
theorem frameWords_rd32 : Rd Try.prog (kSl kDot) 32 := rd_sl Try.underlying32 (by kernel_rfl) frameWords_rd70
theorem frameWords_rd72 : Rd Try.prog kOp 72 := rd_st (fun y => (⟨y.1, y.2.1, y.2.2.1, y.2.2.2.1, y.2.2.2.2.1, y.2.2.2.2.2.1, y.2.2.2.2.2.2⟩ : Px.Op)) (fun y => rfl) Try.underlying72 (rdl_cons frameWords_rd70 rfl (by kernel_rfl) (rdl_cons frameWords_rd32 rfl (by kernel_rfl) (rdl_cons frameWords_rd9 rfl (by kernel_rfl) (rdl_cons frameWords_rd3 rfl (by kernel_rfl) (rdl_cons frameWords_rd9 rfl (by kernel_rfl) (rdl_cons frameWords_rd2 rfl (by kernel_rfl) (rdl_last frameWords_rd32 rfl (by kernel_rfl) (by kernel_rfl))))))))
theorem frameWords_rd22 : Rd Try.prog (kSl kOp) 22 := rd_sl Try.underlying22 (by kernel_rfl) frameWords_rd72
theorem frameWords_rd34 : Rd Try.prog kFrame 34 := rd_st (fun y => (⟨y.1, y.2.1, y.2.2.1, y.2.2.2.1, y.2.2.2.2.1, y.2.2.2.2.2.1, y.2.2.2.2.2.2.1, y.2.2.2.2.2.2.2.1, y.2.2.2.2.2.2.2.2⟩ : Px.Frame)) (fun y => rfl) Try.underlying34 (rdl_cons frameWords_rd3 rfl (by kernel_rfl) (rdl_cons frameWords_rd9 rfl (by kernel_rfl) (rdl_cons frameWords_rd9 rfl (by kernel_rfl) (rdl_cons frameWords_rd9 rfl (by kernel_rfl) (rdl_cons frameWords_rd2 rfl (by kernel_rfl) (rdl_cons frameWords_rd2 rfl (by kernel_rfl) (rdl_cons frameWords_rd2 rfl (by kernel_rfl) (rdl_cons frameWords_rd32 rfl (by kernel_rfl) (rdl_last frameWords_rd22 rfl (by kernel_rfl) (by kernel_rfl))))))))))
theorem frameWords_own : ownKnob Try.prog.godebug = none := by kernel_rfl
theorem frameWords_laid : laidOutB Try.prog = true := by kernel_rfl
set_option maxRecDepth 100000 in
theorem frameWords_lifted (os : Os) (started : os.Started) (H : Type) (enc : TypeId × Value → H) :
  ReturnsInHanded {} Try.checked os 6 .any (Rows.frameWordsSpec.pre6 enc Try.prog Try.f6 Rows.frameWordsRow.domain false) (Rows.frameWordsSpec.post enc Try.prog Try.f6 false true false false) := by
 refine returnsInHanded_of_change (C := Try.checked) frameWords_own started (by kernel_rfl) Try.func6
  (ChangeSpec.witness6 (enc := enc) (C := Try.checked) false ⟨#[], #[(.agg #[.int .i64 0, .string ⟨#[]⟩, .string ⟨#[]⟩, .string ⟨#[]⟩, .int .i64 0, .int .i64 0, .int .i64 0, .slice none 0 0, .slice none 0 0]), (.agg #[.int .i64 0, .string ⟨#[]⟩, .string ⟨#[]⟩, .string ⟨#[]⟩, .int .i64 0, .int .i64 0, .int .i64 0, .slice none 0 0, .slice none 0 0])], []⟩ 8 (by kernel_rfl) (by kernel_rfl) (by kernel_rfl) (by kernel_rfl)) ?_
 intro W base args ds gs before hval0 hW hcnd _
 have hval : ∀ (j : Nat) t v, Try.f6.params[j]? = some t → args[j]? = some v → Value.okWide Try.prog W .any base t v := hval0
 have hW' := hW
 obtain ⟨p, q, hA0, hV, rfl, hfz, hnd⟩ := hW
 have hA : DataW.TrodAll enc Try.prog W 0 (fun _ => true) true Try.f6.params.toList args.toList ds p := hA0
 rw [Try.params6] at hA hval
 obtain ⟨v0, vs0, d0, ds0, p0, q0, hargs, rfl, rfl, h0, r0⟩ := trodAll_cons hA
 obtain ⟨v1, vs1, d1, ds1, p1, q1, rfl, rfl, rfl, h1, r1⟩ := trodAll_cons r0
 obtain ⟨rfl, rfl, rfl⟩ := trodAll_nil r1
 obtain rfl : args = #[v0, v1] := by cases args; simp_all
 obtain ⟨rfl, rfl⟩ := trodVars_none hV
 obtain ⟨s0, rfl, _⟩ := okWide_struct Try.underlying34 (hval 0 34 v0 rfl rfl)
 obtain ⟨x0, k0⟩ := rd_argn rfl frameWords_rd34 h0
 obtain ⟨s1, rfl, _⟩ := okWide_struct Try.underlying34 (hval 1 34 v1 rfl rfl)
 obtain ⟨x1, k1⟩ := rd_argn rfl frameWords_rd34 h1
 clear hA0 hval0
 simp only [List.append_nil] at hW'
 refine (calls_of_cl (frameWords_cl k0 k1)).mono fun e W' ⟨v, t, he, hw, hE, hv⟩ => ?_
 subst he hw
 have hb : Below W.heap.size W t.w := Chg.below hE
 have hv : v = .bool true := List.cons.inj hv |>.1
 subst hv
 have hlt := fun p hp => hW'.lt p hp
 exact ⟨_, rfl, post_of_below (pa := (p0 ++ (p1 ++ []))) (pv := []) hW' (fun _ _ _ => trodAll_cons_mk (shut_bool Try.underlying4 _) trodAll_mk0) (fun sp hsp => (trodAll_cons_mk (stays frameWords_laid (by kernel_rfl) (of_decide_eq_true (by kernel_rfl)) h0 hb (fun p hp => hlt p (by simp [hp])) (fun p hp => hsp p (by simp [hp]))) (trodAll_cons_mk (stays frameWords_laid (by kernel_rfl) (of_decide_eq_true (by kernel_rfl)) h1 hb (fun p hp => hlt p (by simp [hp])) (fun p hp => hsp p (by simp [hp]))) trodAll_mk0))) (fun _ _ => rfl) (by simp) hb (ok_one (by kernel_rfl) rfl (okWide_bool_mk Try.underlying4 _))⟩
theorem frameWords_proved : Rows.FrameWordsSaid :=
 OpenClaim.holds_of_wide 6 Try.f6 rfl rfl rfl rfl rfl rfl rfl ⟨rfl, rfl, rfl, rfl, rfl⟩ rfl rfl rfl rfl rfl (by kernel_rfl) Try.func6 (by kernel_rfl)
  (of_decide_eq_true (by kernel_rfl)) (by unfold Func.isWrapper; first | (rw [if_pos (by decide +kernel)]; kernel_rfl) | (rw [if_neg (by decide +kernel)]; exact ⟨rfl, rfl⟩))
  (fun os started H enc _ => frameWords_lifted os started H enc)
end Go.Proofs.Ytfaenhhiogcacaa

