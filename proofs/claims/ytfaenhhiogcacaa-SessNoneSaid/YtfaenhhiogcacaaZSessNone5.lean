/-
  PARTS OF ONE PROOF: PxL. CONDITIONS: none of their own; each line names its own.
-/
import Derived.Test.YtfaenhhiogcacaaZSessNone1
import Derived.Test.YtfaenhhiogcacaaRows
import Derived.ProofKit
import Derived.OpenShut
import Derived.WideKeyArgs
import Derived.ChangeArms
import Derived.Below
import Derived.ChangeSame
set_option linter.unusedSimpArgs false
set_option linter.unusedVariables false
set_option maxRecDepth 4000
set_option maxHeartbeats 1000000
namespace Go.Proofs.Ytfaenhhiogcacaa.Px
open Go Go.RowKit
section
open Go.ChangeShapes Go.WideShapes Go.ChangeAt
/-- A world, every cell of which is settled. -/
def St.all (W : World) : St := { w := W, σ := fun a => W.cell? a, good := fun _ _ h => h }
def Rd (P : Program) {α : Type} (d : Kn α) (t : TypeId) : Prop :=
  ∀ {H : Type} {enc : TypeId × Value → H} {W : World} {sp : Nat → Bool} {fuel : Nat} {cs : List Value} {x : DataW H × List MemPlace}, DataW.trod enc P W 0 sp true fuel t cs = some x → ∃ y, d.R (St.all W) cs y
section
variable {P : Program} {t : TypeId}
theorem rd_i {k : IntKind} (ht : P.underlying t = some (.int k)) : Rd P (kI k) t := fun h => by
  obtain ⟨n, h1, _, h2⟩ := DataW.trod_int ht h
  refine ⟨n, h1, ?_⟩
  simpa [Lit.wf, inK] using h2
theorem rd_s (ht : P.underlying t = some .string) : Rd P kS t := fun h => by
  obtain ⟨s, h1, _, h2⟩ := DataW.trod_string ht h
  refine ⟨s.data.toList, ?_, ?_⟩
  · rw [h1]; show [Value.string s] = [Value.string ⟨s.data.toList.toArray⟩]; rw [Array.toArray_toList]
  · have e : s.size = s.data.toList.length := by rw [Array.length_toList]; rfl
    rw [← e]; exact h2
theorem rd_list {α : Type} {p : Nat → α → Prop} : ∀ (n : Nat), (∀ i, i < n → ∃ x, p i x) → ∃ xs : List α, xs.length = n ∧ ∀ i x, xs[i]? = some x → p i x := by
  intro n
  induction n with
  | zero => exact fun _ => ⟨[], rfl, fun i x h => by simp at h⟩
  | succ n ih =>
    intro h
    obtain ⟨xs, hl, hp⟩ := ih fun i hi => h i (by omega)
    obtain ⟨x, hx⟩ := h n (by omega)
    refine ⟨xs ++ [x], by simp [hl], fun i y hy => ?_⟩
    rcases Nat.lt_or_ge i n with hlt | hge
    · rw [List.getElem?_append_left (by omega)] at hy; exact hp i y hy
    · rw [List.getElem?_append_right (by omega)] at hy
      have : i = n := by
        have := (List.getElem?_eq_some_iff.1 hy).1
        simp at this; omega
      subst this
      rw [hl, Nat.sub_self] at hy
      simp at hy; subst hy; exact hx
theorem rd_sl {α : Type} {d : Kn α} {e : TypeId} (ht : P.underlying t = some (.slice e)) (hs : P.cellsOf e = d.sz) (he : Rd P d e) : Rd P (kSl d) t := fun {H enc W sp fuel cs x} h => by
  rcases DataW.trod_slice ht h with ⟨h1, _⟩ | ⟨a, len, cap, elems, rest, n, _, h1, _, _, hlc, hcm, hel, hE, _⟩
  · exact ⟨[], none, 0, h1, Nat.le_refl _, Nat.zero_le _, fun hp => by simp at hp⟩
  · obtain ⟨xs, hl, hp⟩ := rd_list (p := fun i y => ∃ es, d.R (St.all W) es y ∧ ∀ j u, es[j]? = some u → (St.all W).σ (a.add (i * d.sz + j)) = some u) len fun i hi => by
      have := hE i hi
      rw [List.getElem?_eq_getElem (by omega)] at this
      rw [Option.bind_eq_some_iff] at this
      obtain ⟨es, h3, h4⟩ := this
      obtain ⟨y, hy⟩ := he h4
      obtain ⟨_, hn, hc⟩ := World.cells?_some h3
      refine ⟨y, es, hy, fun j u hu => ?_⟩
      have hj := (List.getElem?_eq_some_iff.1 hu).1
      have := hc j (by omega)
      rw [hu, add_add, hs] at this
      exact this
    refine ⟨xs, some a, cap, by rw [hl]; exact h1, by omega, hcm, fun _ => ⟨a, rfl, fun i x hi => hp i x hi⟩⟩
/-- Fields, from a place on. -/
def RdL (P : Program) {α : Type} (d : Kn α) (fs : List Field) (off total : Nat) : Prop :=
  ∀ {H : Type} {enc : TypeId × Value → H} {W : World} {sp : Nat → Bool} {cs : List Value}, cs.length = total → (∀ f ∈ fs, ∃ n x, DataW.trod enc P W 0 sp true n f.type ((cs.drop f.offset).take (P.cellsOf f.type)) = some x) → ∃ y, d.R (St.all W) (cs.drop off) y
theorem rdl_last {α : Type} {d : Kn α} {f : Field} {off total : Nat} (he : Rd P d f.type) (ho : f.offset = off) (hs : P.cellsOf f.type = d.sz) (ht : off + d.sz = total) : RdL P d [f] off total := fun {H enc W sp cs} hl h => by
  obtain ⟨n, x, hx⟩ := h f (by simp)
  obtain ⟨y, hy⟩ := he hx
  rw [ho, hs, List.take_of_length_le (by rw [List.length_drop]; omega)] at hy
  exact ⟨y, hy⟩
theorem rdl_cons {α β : Type} {d : Kn α} {e : Kn β} {f : Field} {fs : List Field} {off total : Nat} (he : Rd P d f.type) (ho : f.offset = off) (hs : P.cellsOf f.type = d.sz) (hr : RdL P e fs (off + d.sz) total) : RdL P (kP d e) (f :: fs) off total := fun {H enc W sp cs} hl h => by
  obtain ⟨n, x, hx⟩ := h f (by simp)
  obtain ⟨y, hy⟩ := he hx
  rw [ho, hs] at hy
  obtain ⟨z, hz⟩ := hr hl fun g hg => h g (by simp [hg])
  refine ⟨(y, z), (cs.drop off).take d.sz, cs.drop (off + d.sz), ?_, hy, hz⟩
  rw [← List.drop_drop, List.take_append_drop]
theorem rd_st {α β : Type} {d : Kn β} {g : α → β} {fs : Array Field} (i : β → α) (hi : ∀ y, g (i y) = y) (ht : P.underlying t = some (.struct fs)) (hr : RdL P d fs.toList 0 (P.cellsOf t)) : Rd P (kM d g) t := fun {H enc W sp fuel cs x} h => by
  obtain ⟨xs, n, _, _, hl, hxl, hx⟩ := DataW.trod_struct ht h
  obtain ⟨y, hy⟩ := hr hl fun f hf => by
    obtain ⟨j, hj⟩ := List.getElem?_of_mem hf
    have hj' : fs[j]? = some f := by simpa using hj
    have := hx j f hj'
    have hlt := (Array.getElem?_eq_some_iff.1 hj').1
    rw [List.getElem?_eq_getElem (by omega)] at this
    exact ⟨n, _, this⟩
  rw [List.drop_zero] at hy
  exact ⟨i y, by show d.R _ cs (g (i y)); rw [hi]; exact hy⟩
theorem rd_argn {α : Type} {d : Kn α} (hd : d.agg = true) (hr : Rd P d t) {H : Type} {enc : TypeId × Value → H} {W : World} {sp : Nat → Bool} {cs : Array Value} {x : DataW H} {ps : List MemPlace} (h : DataW.Trod enc P W 0 sp true t (.agg cs) x ps) : ∃ y, d.V (St.all W) (.agg cs) y := by
  obtain ⟨n, hn⟩ := h
  obtain ⟨y, hy⟩ := hr (cs := cs.toList) hn
  refine ⟨y, ?_⟩
  unfold Kn.V; rw [hd]; exact ⟨cs.toList, rfl, hy⟩
/-- A call that turns nothing leaves a world that has grown. -/
theorem calls_of_cl {f : FuncId} {args : Array Value} {W : World} {R : Value → St → Prop} (h : Cl P f args (St.all W) R) : Calls P f args W fun e W' => ∃ v t, e = .returned v ∧ t.w = W' ∧ R v t := by
  have : CallsIn Fence.wide 0 P f args W fun e w => ∃ v t, e = .returned v ∧ t.w = w ∧ R v t := h.2
  exact callsIn_wide.1 this
theorem stays {H : Type} {enc : TypeId × Value → H} (hl : laidOutB P = true) (hr : P.readableRec t = true) (hrow : t < P.types.size) {W W' : World} {sp' : Nat → Bool} {v : Value} {d : DataW H} {ps : List MemPlace}
    (h : DataW.Trod enc P W 0 (fun _ => true) true t v d ps) (hb : Below W.heap.size W W') (hlt : ∀ p ∈ ps, p.block < W.heap.size) (hs : ∀ p ∈ ps, sp' p.block = true) : DataW.Trod enc P W' 0 sp' true t v d ps :=
  WideElems.Trod_stays hl hr hrow h (fun p hp => by
    have hp' := hlt p hp
    cases p with
    | cell b o => exact World.cell?_of_block (w := W) (hb.block b hp')
    | map b => exact hb.block b hp') hs
end
section
variable {H : Type} {enc : TypeId × Value → H} {P : Program}
theorem post_of_below {f : Func} {s : ChangeSpec} {apart fresh handsOn again : Bool} {W W' : World} {args : Array Value} {v : Value} {ds gs : List (DataW H)} {before pa pv : List MemPlace}
    (hW : DataW.Whole enc P f.params.toList s.vars apart W args.toList ds gs before)
    (hres : ∀ (b : Nat) (sp : Nat → Bool) (hd : Bool), DataW.TrodAll enc P W' b sp hd f.resultTypes.toList (v.resultList f.resultTypes.size) (s.fn H (ds ++ gs)).results [])
    (hargs : ∀ sp : Nat → Bool, (∀ p ∈ before, sp p.block = true) → DataW.TrodAll enc P W' 0 sp true f.params.toList args.toList (s.fn H (ds ++ gs)).args pa)
    (hvars : ∀ sp : Nat → Bool, (∀ p ∈ before, sp p.block = true) → DataW.TrodVars enc P W' sp s.vars (s.fn H (ds ++ gs)).vars pv)
    (hps : before = pa ++ pv) (hb : Below W.heap.size W W')
    (hok : ∀ (j : Nat) (t : TypeId) (r : Value), f.resultTypes[j]? = some t → (v.resultList f.resultTypes.size)[j]? = some r → Value.okWide P W' .any 0 t r) :
    s.post enc P f apart fresh handsOn again W args v W' := by
  have hlt : ∀ p ∈ before, p.block < W.heap.size := fun p hp => hW.lt p hp
  have hold : ∀ p ∈ before, (fun b => decide (b < W.heap.size)) p.block = true := fun p hp => by simpa using hlt p hp
  refine ⟨ds, gs, before, [], pa, pv, hW, hres _ _ _, hargs _ hold, hvars _ hold, World.keptBut_mono (fun p hp => ⟨hp, ?_⟩) (hb.frame (· ∈ before)), fun _ => ?_⟩
  · rw [hps, List.mem_append] at hp
    exact Or.inr hp
  · obtain ⟨_, _, _, _, _, hz, hn⟩ := hW
    refine ⟨hok, _, _, ([] ++ pa) ++ pv, ⟨[] ++ pa, pv, trodAll_append (hargs _ (fun _ _ => rfl)) (hres _ _ _), hvars _ (fun _ _ => rfl), rfl, ?_, ?_⟩, ?_⟩
    · intro b off hp
      have hin : MemPlace.cell b off ∈ before := by rw [hps]; simpa using hp
      rw [hb.frozen (hlt _ hin)]
      exact hz b off hin
    · intro ha
      have := hn ha
      rw [hps] at this
      simpa using this
    · intro p hp _
      rw [hps]
      simpa using hp
end
end
end Go.Proofs.Ytfaenhhiogcacaa.Px
