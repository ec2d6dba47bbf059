/-
  WHAT IS PROVED HERE: of nil sides there is nothing: the law returns true, and its argument reads as it did. CONDITIONS: none: every input of its types.
-/
import Derived.Test.YtfaenhhiogcacaaZSessNone4
import Derived.Test.YtfaenhhiogcacaaZSessNone5
import Derived.Test.YtfaenhhiogcacaaRows
import Derived.WalkKit
import Derived.KernelRfl
namespace Go.Proofs.Ytfaenhhiogcacaa
open Go Go.RowKit Go.ChangeShapes Go.WideShapes Go.ChangeAt Go.Proofs.Ytfaenhhiogcacaa.Px
set_option linter.unusedVariables false
theorem sessNone_rd3 : Rd Try.prog (kI .i64) 3 := rd_i Try.underlying3
theorem sessNone_rd9 : Rd Try.prog kS 9 := rd_s Try.underlying9
theorem sessNone_rd2 : Rd Try.prog (kI .i64) 2 := rd_i Try.underlying2
theorem sessNone_rd70 : Rd Try.prog kDot 70 := rd_st (fun y => (⟨y.1, y.2⟩ : Px.Dot)) (fun y => rfl) Try.underlying70 (rdl_cons sessNone_rd9 rfl (by kernel_rfl) (rdl_last sessNone_rd2 rfl (by kernel_rfl) (by kernel_rfl)))
theorem sessNone_rd32 : Rd Try.prog (kSl kDot) 32 := rd_sl Try.underlying32 (by kernel_rfl) sessNone_rd70
theorem sessNone_rd72 : Rd Try.prog kOp 72 := rd_st (fun y => (⟨y.1, y.2.1, y.2.2.1, y.2.2.2.1, y.2.2.2.2.1, y.2.2.2.2.2.1, y.2.2.2.2.2.2⟩ : Px.Op)) (fun y => rfl) Try.underlying72 (rdl_cons sessNone_rd70 rfl (by kernel_rfl) (rdl_cons sessNone_rd32 rfl (by kernel_rfl) (rdl_cons sessNone_rd9 rfl (by kernel_rfl) (rdl_cons sessNone_rd3 rfl (by kernel_rfl) (rdl_cons sessNone_rd9 rfl (by kernel_rfl) (rdl_cons sessNone_rd2 rfl (by kernel_rfl) (rdl_last sessNone_rd32 rfl (by kernel_rfl) (by kernel_rfl))))))))
theorem sessNone_rd22 : Rd Try.prog (kSl kOp) 22 := rd_sl Try.underlying22 (by kernel_rfl) sessNone_rd72
theorem sessNone_rd34 : Rd Try.prog kFrame 34 := rd_st (fun y => (⟨y.1, y.2.1, y.2.2.1, y.2.2.2.1, y.2.2.2.2.1, y.2.2.2.2.2.1, y.2.2.2.2.2.2.1, y.2.2.2.2.2.2.2.1, y.2.2.2.2.2.2.2.2⟩ : Px.Frame)) (fun y => rfl) Try.underlying34 (rdl_cons sessNone_rd3 rfl (by kernel_rfl) (rdl_cons sessNone_rd9 rfl (by kernel_rfl) (rdl_cons sessNone_rd9 rfl (by kernel_rfl) (rdl_cons sessNone_rd9 rfl (by kernel_rfl) (rdl_cons sessNone_rd2 rfl (by kernel_rfl) (rdl_cons sessNone_rd2 rfl (by kernel_rfl) (rdl_cons sessNone_rd2 rfl (by kernel_rfl) (rdl_cons sessNone_rd32 rfl (by kernel_rfl) (rdl_last sessNone_rd22 rfl (by kernel_rfl) (by kernel_rfl))))))))))
theorem sessNone_own : ownKnob Try.prog.godebug = none := by kernel_rfl
theorem sessNone_laid : laidOutB Try.prog = true := by kernel_rfl
set_option maxRecDepth 100000 in
theorem sessNone_lifted (os : Os) (started : os.Started) (H : Type) (enc : TypeId × Value → H) :
  ReturnsInHanded {} Try.checked os 10 .any (Rows.sessNoneSpec.pre6 enc Try.prog Try.f10 Rows.sessNoneRow.domain false) (Rows.sessNoneSpec.post enc Try.prog Try.f10 false true false false) := by
 refine returnsInHanded_of_change (C := Try.checked) sessNone_own started (by kernel_rfl) Try.func10
  (ChangeSpec.witness6 (enc := enc) (C := Try.checked) false ⟨#[], #[(.agg #[.int .i64 0, .string ⟨#[]⟩, .string ⟨#[]⟩, .string ⟨#[]⟩, .int .i64 0, .int .i64 0, .int .i64 0, .slice none 0 0, .slice none 0 0])], []⟩ 8 (by kernel_rfl) (by kernel_rfl) (by kernel_rfl) (by kernel_rfl)) ?_
 intro W base args ds gs before hval0 hW hcnd _
 have hval : ∀ (j : Nat) t v, Try.f10.params[j]? = some t → args[j]? = some v → Value.okWide Try.prog W .any base t v := hval0
 have hW' := hW
 obtain ⟨p, q, hA0, hV, rfl, hfz, hnd⟩ := hW
 have hA : DataW.TrodAll enc Try.prog W 0 (fun _ => true) true Try.f10.params.toList args.toList ds p := hA0
 rw [Try.params10] at hA hval
 obtain ⟨v0, vs0, d0, ds0, p0, q0, hargs, rfl, rfl, h0, r0⟩ := trodAll_cons hA
 obtain ⟨rfl, rfl, rfl⟩ := trodAll_nil r0
 obtain rfl : args = #[v0] := by cases args; simp_all
 obtain ⟨rfl, rfl⟩ := trodVars_none hV
 obtain ⟨s0, rfl, _⟩ := okWide_struct Try.underlying34 (hval 0 34 v0 rfl rfl)
 obtain ⟨x0, k0⟩ := rd_argn rfl sessNone_rd34 h0
 clear hA0 hval0
 simp only [List.append_nil] at hW'
 refine (calls_of_cl (sessNone_cl k0)).mono fun e W' ⟨v, t, he, hw, hE, hv⟩ => ?_
 subst he hw
 have hb : Below W.heap.size W t.w := Chg.below hE
 have hv : v = .bool true := List.cons.inj hv |>.1
 subst hv
 have hlt := fun p hp => hW'.lt p hp
 exact ⟨_, rfl, post_of_below (pa := (p0 ++ [])) (pv := []) hW' (fun _ _ _ => trodAll_cons_mk (shut_bool Try.underlying4 _) trodAll_mk0) (fun sp hsp => (trodAll_cons_mk (stays sessNone_laid (by kernel_rfl) (of_decide_eq_true (by kernel_rfl)) h0 hb (fun p hp => hlt p (by simp [hp])) (fun p hp => hsp p (by simp [hp]))) trodAll_mk0)) (fun _ _ => rfl) (by simp) hb (ok_one (by kernel_rfl) rfl (okWide_bool_mk Try.underlying4 _))⟩
theorem sessNone_proved : Rows.SessNoneSaid :=
 OpenClaim.holds_of_wide 10 Try.f10 rfl rfl rfl rfl rfl rfl rfl ⟨rfl, rfl, rfl, rfl, rfl⟩ rfl rfl rfl rfl rfl (by kernel_rfl) Try.func10 (by kernel_rfl)
  (of_decide_eq_true (by kernel_rfl)) (by unfold Func.isWrapper; first | (rw [if_pos (by decide +kernel)]; kernel_rfl) | (rw [if_neg (by decide +kernel)]; exact ⟨rfl, rfl⟩))
  (fun os started H enc _ => sessNone_lifted os started H enc)
end Go.Proofs.Ytfaenhhiogcacaa

