/-
  WHAT IS PROVED HERE: pieces, one behind the other, are the list: the law returns true, and its argument reads as it did. CONDITIONS: none: every input of its types.
-/
import Derived.Test.YtfaenhhiogcacaaZSessPieces4
import Derived.Test.YtfaenhhiogcacaaZSessPieces5
import Derived.Test.YtfaenhhiogcacaaRows
import Derived.WalkKit
import Derived.KernelRfl
namespace Go.Proofs.Ytfaenhhiogcacaa
open Go Go.RowKit Go.ChangeShapes Go.WideShapes Go.ChangeAt Go.Proofs.Ytfaenhhiogcacaa.Px
set_option linter.unusedVariables false
theorem sessPieces_rd3 : Rd Try.prog (kI .i64) 3 := rd_i Try.underlying3
theorem sessPieces_own : ownKnob Try.prog.godebug = none := by kernel_rfl
theorem sessPieces_laid : laidOutB Try.prog = true := by kernel_rfl
set_option maxRecDepth 100000 in
theorem sessPieces_lifted (os : Os) (started : os.Started) (H : Type) (enc : TypeId × Value → H) :
  ReturnsInHanded {} Try.checked os 4 .any (Rows.sessPiecesSpec.pre6 enc Try.prog Try.f4 Rows.sessPiecesRow.domain false) (Rows.sessPiecesSpec.post enc Try.prog Try.f4 false true false false) := by
 refine returnsInHanded_of_change (C := Try.checked) sessPieces_own started (by kernel_rfl) Try.func4
  (ChangeSpec.witness6 (enc := enc) (C := Try.checked) false ⟨#[], #[(.int .i64 0)], []⟩ 8 (by kernel_rfl) (by kernel_rfl) (by kernel_rfl) (by kernel_rfl)) ?_
 intro W base args ds gs before hval0 hW hcnd _
 have hval : ∀ (j : Nat) t v, Try.f4.params[j]? = some t → args[j]? = some v → Value.okWide Try.prog W .any base t v := hval0
 have hW' := hW
 obtain ⟨p, q, hA0, hV, rfl, hfz, hnd⟩ := hW
 have hA : DataW.TrodAll enc Try.prog W 0 (fun _ => true) true Try.f4.params.toList args.toList ds p := hA0
 rw [Try.params4] at hA hval
 obtain ⟨v0, vs0, d0, ds0, p0, q0, hargs, rfl, rfl, h0, r0⟩ := trodAll_cons hA
 obtain ⟨rfl, rfl, rfl⟩ := trodAll_nil r0
 obtain rfl : args = #[v0] := by cases args; simp_all
 obtain ⟨rfl, rfl⟩ := trodVars_none hV
 obtain ⟨s0, rfl⟩ := okWide_int Try.underlying3 (hval 0 3 v0 rfl rfl)
 obtain ⟨x0, k0⟩ := rd_arg rfl rfl sessPieces_rd3 rfl h0
 clear hA0 hval0
 simp only [List.append_nil] at hW'
 refine (calls_of_cl (sessPieces_cl k0)).mono fun e W' ⟨v, t, he, hw, hE, hv⟩ => ?_
 subst he hw
 have hb : Below W.heap.size W t.w := Chg.below hE
 have hv : v = .bool true := List.cons.inj hv |>.1
 subst hv
 have hlt := fun p hp => hW'.lt p hp
 exact ⟨_, rfl, post_of_below (pa := (p0 ++ [])) (pv := []) hW' (fun _ _ _ => trodAll_cons_mk (shut_bool Try.underlying4 _) trodAll_mk0) (fun sp hsp => (trodAll_cons_mk (stays sessPieces_laid (by kernel_rfl) (of_decide_eq_true (by kernel_rfl)) h0 hb (fun p hp => hlt p (by simp [hp])) (fun p hp => hsp p (by simp [hp]))) trodAll_mk0)) (fun _ _ => rfl) (by simp) hb (ok_one (by kernel_rfl) rfl (okWide_bool_mk Try.underlying4 _))⟩
theorem sessPieces_proved : Rows.SessPiecesSaid :=
 OpenClaim.holds_of_wide 4 Try.f4 rfl rfl rfl rfl rfl rfl rfl ⟨rfl, rfl, rfl, rfl, rfl⟩ rfl rfl rfl rfl rfl (by kernel_rfl) Try.func4 (by kernel_rfl)
  (of_decide_eq_true (by kernel_rfl)) (by unfold Func.isWrapper; first | (rw [if_pos (by decide +kernel)]; kernel_rfl) | (rw [if_neg (by decide +kernel)]; exact ⟨rfl, rfl⟩))
  (fun os started H enc _ => sessPieces_lifted os started H enc)
end Go.Proofs.Ytfaenhhiogcacaa

