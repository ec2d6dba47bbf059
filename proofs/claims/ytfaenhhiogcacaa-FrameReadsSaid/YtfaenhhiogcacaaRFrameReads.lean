/-
  WHAT IS PROVED HERE: frame.Read and the document's answer read every text alike: the law returns true, and its argument reads as it did. CONDITIONS: none: every input of its types.
-/
import Derived.Test.YtfaenhhiogcacaaZFrameReads7
import Derived.Test.YtfaenhhiogcacaaZFrameReads8
import Derived.Test.YtfaenhhiogcacaaRows
import Derived.WalkKit
import Derived.KernelRfl
namespace Go.Proofs.Ytfaenhhiogcacaa
open Go Go.RowKit Go.ChangeShapes Go.WideShapes Go.ChangeAt Go.Proofs.Ytfaenhhiogcacaa.Px
set_option linter.unusedVariables false
theorem frameReads_rd9 : Rd Try.prog kS 9 := rd_s Try.underlying9
theorem frameReads_own : ownKnob Try.prog.godebug = none := by kernel_rfl
theorem frameReads_laid : laidOutB Try.prog = true := by kernel_rfl
set_option maxRecDepth 100000 in
theorem frameReads_lifted (os : Os) (started : os.Started) (H : Type) (enc : TypeId × Value → H) :
  ReturnsInHanded {} Try.checked os 5 .any (Rows.frameReadsSpec.pre6 enc Try.prog Try.f5 Rows.frameReadsRow.domain false) (Rows.frameReadsSpec.post enc Try.prog Try.f5 false true false false) := by
 refine returnsInHanded_of_change (C := Try.checked) frameReads_own started (by kernel_rfl) Try.func5
  (ChangeSpec.witness6 (enc := enc) (C := Try.checked) false ⟨#[], #[(.string ⟨#[]⟩)], []⟩ 8 (by kernel_rfl) (by kernel_rfl) (by kernel_rfl) (by kernel_rfl)) ?_
 intro W base args ds gs before hval0 hW hcnd _
 have hval : ∀ (j : Nat) t v, Try.f5.params[j]? = some t → args[j]? = some v → Value.okWide Try.prog W .any base t v := hval0
 have hW' := hW
 obtain ⟨p, q, hA0, hV, rfl, hfz, hnd⟩ := hW
 have hA : DataW.TrodAll enc Try.prog W 0 (fun _ => true) true Try.f5.params.toList args.toList ds p := hA0
 rw [Try.params5] at hA hval
 obtain ⟨v0, vs0, d0, ds0, p0, q0, hargs, rfl, rfl, h0, r0⟩ := trodAll_cons hA
 obtain ⟨rfl, rfl, rfl⟩ := trodAll_nil r0
 obtain rfl : args = #[v0] := by cases args; simp_all
 obtain ⟨rfl, rfl⟩ := trodVars_none hV
 obtain ⟨s0, rfl⟩ := okWide_string Try.underlying9 (hval 0 9 v0 rfl rfl)
 obtain ⟨x0, k0⟩ := rd_arg rfl rfl frameReads_rd9 rfl h0
 clear hA0 hval0
 simp only [List.append_nil] at hW'
 refine (calls_of_cl (frameReads_cl k0)).mono fun e W' ⟨v, t, he, hw, hE, hv⟩ => ?_
 subst he hw
 have hb : Below W.heap.size W t.w := Chg.below hE
 have hv : v = .bool true := List.cons.inj hv |>.1
 subst hv
 have hlt := fun p hp => hW'.lt p hp
 exact ⟨_, rfl, post_of_below (pa := (p0 ++ [])) (pv := []) hW' (fun _ _ _ => trodAll_cons_mk (shut_bool Try.underlying4 _) trodAll_mk0) (fun sp hsp => (trodAll_cons_mk (stays frameReads_laid (by kernel_rfl) (of_decide_eq_true (by kernel_rfl)) h0 hb (fun p hp => hlt p (by simp [hp])) (fun p hp => hsp p (by simp [hp]))) trodAll_mk0)) (fun _ _ => rfl) (by simp) hb (ok_one (by kernel_rfl) rfl (okWide_bool_mk Try.underlying4 _))⟩
theorem frameReads_proved : Rows.FrameReadsSaid :=
 OpenClaim.holds_of_wide 5 Try.f5 rfl rfl rfl rfl rfl rfl rfl ⟨rfl, rfl, rfl, rfl, rfl⟩ rfl rfl rfl rfl rfl (by kernel_rfl) Try.func5 (by kernel_rfl)
  (of_decide_eq_true (by kernel_rfl)) (by unfold Func.isWrapper; first | (rw [if_pos (by decide +kernel)]; kernel_rfl) | (rw [if_neg (by decide +kernel)]; exact ⟨rfl, rfl⟩))
  (fun os started H enc _ => frameReads_lifted os started H enc)
end Go.Proofs.Ytfaenhhiogcacaa

