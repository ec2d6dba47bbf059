/-
  PARTS OF ONE PROOF: PxA PxB PxC PxD PxE PxF PxG PxH PxT PxU PxV PxN PxM PxK PxR PxJ PxQ PxX PxZ W0. CONDITIONS: none of their own; each line names its own.
-/
import Derived.WalkKit
import Derived.RangeFuncNested
import Derived.OrdersIn
import Derived.Lib.ConvBytes
import Derived.Laws.BytesArg
import Derived.Laws.CopyRow
import Derived.Laws.AppendOwn
import Derived.Laws.MakeOwn
import Derived.Deep.AppendSrc
import Derived.Lib.Strings
import Derived.Scope
import Derived.Laws.StructEq
import Derived.Lib.AppendZerosOnto
import Derived.Laws.RangeAny
import Derived.Lib.Bytealg
import Derived.RangeFuncLeaves
import Derived.RangeFuncRecord
import Derived.RangeFuncSeq
import Derived.Test.YtfaenhhiogcacaaProg
import Derived.KernelRfl
set_option linter.unusedSimpArgs false
set_option linter.unusedVariables false
set_option maxRecDepth 4000
set_option maxHeartbeats 1000000
namespace Go.Proofs.Ytfaenhhiogcacaa.Px
open Go Go.RowKit
section
/-- The fence of a walk: every function, any depth; in a round of loop l, or in none. -/
abbrev FN (ro : Option Nat) : Fence := { Fence.wide with round := ro }
/-- A world and its settled cells: what they hold is never turned again. -/
structure St where
  w : World
  σ : Addr → Option Value
  good : ∀ a v, σ a = some v → w.cell? a = some v
theorem cell_lt {w : World} {a : Addr} {v : Value} (h : w.cell? a = some v) : a.block < w.heap.size := World.block_lt_of_cell? w a h
theorem St.lt (s : St) {a : Addr} {v : Value} (h : s.σ a = some v) : a.block < s.w.heap.size := cell_lt (s.good a v h)
theorem St.none_of_ge (s : St) {a : Addr} (h : s.w.heap.size ≤ a.block) : s.σ a = none := by
  cases e : s.σ a with
  | none => rfl
  | some v => have := s.lt e; omega
/-- How a world with its ghost may have changed: blocks outside M lie as they lay; what was settled stays. -/
structure Chg (M : Nat → Prop) (s t : St) : Prop where
  os : t.w.os = s.w.os
  tape : t.w.tape = s.w.tape
  output : t.w.output = s.w.output
  size : s.w.heap.size ≤ t.w.heap.size
  block : ∀ k, k < s.w.heap.size → ¬ M k → t.w.heap[k]? = s.w.heap[k]?
  same : ∀ a : Addr, a.block < s.w.heap.size → ¬ M a.block → t.σ a = s.σ a
  mono : ∀ a v, s.σ a = some v → t.σ a = some v
/-- Nothing that lay has turned. -/
abbrev Ext := Chg (fun _ => False)
theorem Chg.refl (M : Nat → Prop) (s : St) : Chg M s s := ⟨rfl, rfl, rfl, Nat.le_refl _, fun _ _ _ => rfl, fun _ _ _ => rfl, fun _ _ h => h⟩
theorem Chg.trans {M : Nat → Prop} {s t u : St} (h : Chg M s t) (k : Chg M t u) : Chg M s u :=
  ⟨k.os.trans h.os, k.tape.trans h.tape, k.output.trans h.output, Nat.le_trans h.size k.size,
    fun i hi hm => (k.block i (Nat.lt_of_lt_of_le hi h.size) hm).trans (h.block i hi hm),
    fun a ha hm => (k.same a (Nat.lt_of_lt_of_le ha h.size) hm).trans (h.same a ha hm), fun a v hv => k.mono a v (h.mono a v hv)⟩
/-- What is turned may be told by another set, of old blocks. -/
theorem Chg.weak {M M' : Nat → Prop} {s t : St} (h : Chg M s t) (hm : ∀ k, k < s.w.heap.size → M k → M' k) : Chg M' s t :=
  ⟨h.os, h.tape, h.output, h.size, fun i hi hn => h.block i hi fun hM => hn (hm i hi hM), fun a ha hn => h.same a ha fun hM => hn (hm _ ha hM), h.mono⟩
theorem Chg.of_ext {M : Nat → Prop} {s t : St} (h : Ext s t) : Chg M s t := h.weak fun _ _ hf => hf.elim
/-- Then a change of what came since. -/
theorem Ext.chg {M : Nat → Prop} {s t u : St} (h : Ext s t) (k : Chg M t u) (hm : ∀ b, M b → s.w.heap.size ≤ b) : Ext s u :=
  ⟨k.os.trans h.os, k.tape.trans h.tape, k.output.trans h.output, Nat.le_trans h.size k.size,
    fun i hi _ => (k.block i (Nat.lt_of_lt_of_le hi h.size) (fun hM => by have := hm i hM; omega)).trans (h.block i hi (fun hf => hf)),
    fun a ha _ => (k.same a (Nat.lt_of_lt_of_le ha h.size) (fun hM => by have := hm _ hM; omega)).trans (h.same a ha (fun hf => hf)), fun a v hv => k.mono a v (h.mono a v hv)⟩
/-- Then a change of M, some of it old. -/
theorem Chg.chg {M M' : Nat → Prop} {s t u : St} (h : Chg M s t) (k : Chg M' t u) (hm : ∀ b, M' b → b < s.w.heap.size → M b) : Chg M s u :=
  ⟨k.os.trans h.os, k.tape.trans h.tape, k.output.trans h.output, Nat.le_trans h.size k.size,
    fun i hi hn => (k.block i (Nat.lt_of_lt_of_le hi h.size) (fun hM => hn (hm i hM hi))).trans (h.block i hi hn),
    fun a ha hn => (k.same a (Nat.lt_of_lt_of_le ha h.size) (fun hM => hn (hm _ hM ha))).trans (h.same a ha hn), fun a v hv => k.mono a v (h.mono a v hv)⟩
theorem Chg.below {s t : St} (h : Ext s t) : Below s.w.heap.size s.w t.w := ⟨h.os, h.tape, h.output, h.size, fun k hk => h.block k hk (fun hf => hf)⟩
/-- Facts on settled cells: they hold on. -/
def Le (s t : St) : Prop := ∀ a v, s.σ a = some v → t.σ a = some v
theorem Chg.le {M : Nat → Prop} {s t : St} (h : Chg M s t) : Le s t := h.mono
theorem Le.refl (s : St) : Le s s := fun _ _ h => h
theorem Le.trans {s t u : St} (h : Le s t) (k : Le t u) : Le s u := fun a v hv => k a v (h a v hv)
/-- A draw. -/
def St.drew (s : St) (n : Nat) : St := { w := { s.w with drawn := n }, σ := s.σ, good := s.good }
theorem St.drew_ext (s : St) (n : Nat) : Ext s (s.drew n) := ⟨rfl, rfl, rfl, Nat.le_refl _, fun _ _ _ => rfl, fun _ _ _ => rfl, fun _ _ h => h⟩
/-- A new object: nothing of it is settled. -/
def St.alloc (s : St) (o : Obj) : St :=
  { w := s.w.alloc o, σ := s.σ, good := fun a v h => (World.cell?_alloc_lt s.w o a (s.lt h)).trans (s.good a v h) }
theorem St.alloc_ext (s : St) (o : Obj) : Ext s (s.alloc o) :=
  ⟨rfl, rfl, rfl, by simp [St.alloc], fun k hk _ => Below.heap_alloc s.w o k hk, fun _ _ _ => rfl, fun _ _ h => h⟩
/-- A new row: all of it is settled. -/
def St.push (s : St) (cs : Array Value) (T : TypeId) : St :=
  { w := s.w.alloc (.cells cs T)
    σ := fun a => if a.block = s.w.heap.size then (if a.spot.isSome then none else cs[a.off]?) else s.σ a
    good := fun a v h => by
      by_cases e : a.block = s.w.heap.size
      · simp only [e, if_true] at h
        have hh : (s.w.alloc (.cells cs T)).heap[a.block]? = some (.cells cs T) := by rw [e]; exact heap_alloc_new s.w _
        simp only [World.cell?, hh]
        exact h
      · simp only [e, if_false] at h
        exact (World.cell?_alloc_lt s.w _ a (s.lt h)).trans (s.good a v h) }
theorem St.push_ext (s : St) (cs : Array Value) (T : TypeId) : Ext s (s.push cs T) :=
  ⟨rfl, rfl, rfl, by simp [St.push], fun k hk _ => Below.heap_alloc s.w _ k hk,
    fun a ha _ => by simp [St.push, Nat.ne_of_lt ha], fun a v h => by have := s.lt h; simp [St.push, Nat.ne_of_lt this, h]⟩
theorem St.push_cell (s : St) (cs : Array Value) (T : TypeId) (i : Nat) : (s.push cs T).σ ⟨s.w.heap.size, i, none⟩ = cs[i]? := by simp [St.push]
/-- A block is turned of which nothing is settled. -/
def St.put (s : St) (b : Nat) (o : Obj) (h : ∀ a : Addr, a.block = b → s.σ a = none) : St :=
  { w := { s.w with heap := s.w.heap.setIfInBounds b o }, σ := s.σ
    good := fun a v hv => by
      have hb : a.block ≠ b := fun e => by rw [h a e] at hv; cases hv
      have := s.good a v hv
      simp only [World.cell?] at this ⊢
      rw [Array.getElem?_setIfInBounds_ne (Ne.symm hb)]
      exact this }
theorem St.put_chg (s : St) (b : Nat) (o : Obj) (h : ∀ a : Addr, a.block = b → s.σ a = none) : Chg (· = b) s (s.put b o h) :=
  ⟨rfl, rfl, rfl, by simp [St.put], fun k _ hk => by simp only [St.put]; exact Array.getElem?_setIfInBounds_ne (Ne.symm hk), fun _ _ _ => rfl, fun _ _ h => h⟩
/-- Block b is just these cells; none is settled. -/
structure Bx (s : St) (b : Nat) (T : TypeId) (cs : List Value) : Prop where
  heap : s.w.heap[b]? = some (.cells cs.toArray T (0, 0))
  free : ∀ a : Addr, a.block = b → s.σ a = none
theorem Bx.lt {s : St} {b : Nat} {T : TypeId} {cs : List Value} (h : Bx s b T cs) : b < s.w.heap.size := (Array.getElem?_eq_some_iff.1 h.heap).1
theorem Bx.cell {s : St} {b : Nat} {T : TypeId} {cs : List Value} (h : Bx s b T cs) (i : Nat) : s.w.cell? ⟨b, i, none⟩ = cs[i]? := by simp [World.cell?, h.heap]
theorem Bx.frozen {s : St} {b : Nat} {T : TypeId} {cs : List Value} (h : Bx s b T cs) (i : Nat) : s.w.frozen? ⟨b, i, none⟩ = false := by simp [World.frozen?, h.heap]
theorem Bx.chg {M : Nat → Prop} {s t : St} {b : Nat} {T : TypeId} {cs : List Value} (h : Bx s b T cs) (hc : Chg M s t) (hm : ¬ M b) : Bx t b T cs :=
  ⟨(hc.block b h.lt hm).trans h.heap, fun a ha => (hc.same a (by rw [ha]; exact h.lt) (by rw [ha]; exact hm)).trans (h.free a ha)⟩
theorem Bx.ext {s t : St} {b : Nat} {T : TypeId} {cs : List Value} (h : Bx s b T cs) (hc : Ext s t) : Bx t b T cs := h.chg hc (fun hf => hf)
theorem Bx.new (s : St) (T : TypeId) (cs : List Value) : Bx (s.alloc (.cells cs.toArray T)) s.w.heap.size T cs :=
  ⟨heap_alloc_new s.w _, fun _ ha => s.none_of_ge (by rw [ha]; exact Nat.le_refl _)⟩
theorem Bx.put {s : St} {b : Nat} {T : TypeId} {cs : List Value} (h : Bx s b T cs) (ds : List Value) : Bx (s.put b (.cells ds.toArray T (0, 0)) h.free) b T ds :=
  ⟨by simp [St.put, h.lt], h.free⟩
/-- Block b is an object that is no row (a map, a string's walk). -/
structure Ob (s : St) (b : Nat) (o : Obj) : Prop where
  heap : s.w.heap[b]? = some o
  free : ∀ a : Addr, a.block = b → s.σ a = none
theorem Ob.lt {s : St} {b : Nat} {o : Obj} (h : Ob s b o) : b < s.w.heap.size := (Array.getElem?_eq_some_iff.1 h.heap).1
theorem Ob.chg {M : Nat → Prop} {s t : St} {b : Nat} {o : Obj} (h : Ob s b o) (hc : Chg M s t) (hm : ¬ M b) : Ob t b o :=
  ⟨(hc.block b h.lt hm).trans h.heap, fun a ha => (hc.same a (by rw [ha]; exact h.lt) (by rw [ha]; exact hm)).trans (h.free a ha)⟩
theorem Ob.ext {s t : St} {b : Nat} {o : Obj} (h : Ob s b o) (hc : Ext s t) : Ob t b o := h.chg hc (fun hf => hf)
theorem Ob.new (s : St) (o : Obj) : Ob (s.alloc o) s.w.heap.size o := ⟨heap_alloc_new s.w _, fun _ ha => s.none_of_ge (by rw [ha]; exact Nat.le_refl _)⟩
theorem Ob.put {s : St} {b : Nat} {o : Obj} (h : Ob s b o) (o' : Obj) : Ob (s.put b o' h.free) b o' := ⟨by simp [St.put, h.lt], h.free⟩
def _root_.Go.Act.get (a : Act) (i : Nat) : Value := a.tmps.getD i undef
theorem get_put_eq (a : Act) (d : Nat) (v : Value) (h : d < a.tmps.size) : (a.put (some d) v).get d = v := by
  simp [Act.get, Act.put, Array.getD_eq_getD_getElem?, h]
theorem get_put_ne (a : Act) (d i : Nat) (v : Value) (h : i ≠ d) : (a.put (some d) v).get i = a.get i := by
  simp [Act.get, Act.put, Array.getD_eq_getD_getElem?, Array.getElem?_setIfInBounds_ne (Ne.symm h)]
theorem size_put (a : Act) (d : Option Nat) (v : Value) : (a.put d v).tmps.size = a.tmps.size := by cases d <;> simp [Act.put]
theorem defers_put (a : Act) (d : Option Nat) (v : Value) : (a.put d v).defers = a.defers := by cases d <;> rfl
def Enters (P : Program) (f : FuncId) : Prop := ∀ args w, (callFunc f args).run P w = .ok (.enter f args) w
theorem enters_of {P : Program} {f : FuncId} {fn : Func} {c : Code} (hf : P.funcs[f]? = some fn) (hname : (fn.name == "runtime.NumGoroutine") = false) (hb : fn.body = some c) : Enters P f := fun args w => by
  simp only [callFunc, Sem.run_bind, run_program, Result.andThen_ok, hf, hname, hb]
  rfl
/-- The call returns, and R. -/
def Cl (P : Program) (f : FuncId) (args : Array Value) (s : St) (R : Value → St → Prop) : Prop :=
  Enters P f ∧ CallsIn (FN none) 0 P f args s.w fun e w => ∃ v t, e = .returned v ∧ t.w = w ∧ R v t
theorem Cl.mono {P : Program} {f : FuncId} {args : Array Value} {s : St} {R R' : Value → St → Prop} (h : Cl P f args s R) (hr : ∀ v t, R v t → R' v t) : Cl P f args s R' :=
  ⟨h.1, h.2.mono fun _ _ ⟨v, t, he, hw, hR⟩ => ⟨v, t, he, hw, hr v t hR⟩⟩
/-- Of numbers that meet p there is a least one. -/
theorem least {p : Nat → Prop} (h : ∃ k, p k) : ∃ k, p k ∧ ∀ j, p j → k ≤ j := by
  obtain ⟨k, hk⟩ := h
  induction k using Nat.strongRecOn with
  | _ k ih =>
    by_cases hx : ∃ j, j < k ∧ p j
    · obtain ⟨j, hj, hp⟩ := hx
      exact ih j hj hp
    · exact ⟨k, hk, fun j hp => Nat.le_of_not_lt fun hj => hx ⟨j, hj, hp⟩⟩
def Wp (P : Program) (ro : Option Nat) (c : Code) (a : Act) (s : St) (Q : Exit → Act → St → Prop) : Prop :=
  c.wpIn (FN ro) 0 P (fun e a w => ∃ t, t.w = w ∧ Q e a t) a s.w
def Then (K : Act → St → Prop) (Q : Exit → Act → St → Prop) : Exit → Act → St → Prop
  | .normal, a, s => K a s
  | .exit id, a, s => Q (.exit id) a s
  | .goto l, a, s => Q (.goto l) a s
  | .ret, a, s => Q .ret a s
  | .panic c, a, s => Q (.panic c) a s
  | .outgrown, a, s => Q .outgrown a s
def InBlock (id : Nat) (Q : Exit → Act → St → Prop) : Exit → Act → St → Prop
  | .exit id', a, s => if id' = id then Q .normal a s else Q (.exit id') a s
  | .normal, a, s => Q .normal a s
  | .goto l, a, s => Q (.goto l) a s
  | .ret, a, s => Q .ret a s
  | .panic c, a, s => Q (.panic c) a s
  | .outgrown, a, s => Q .outgrown a s
section
variable {P : Program} {ro : Option Nat} {Q : Exit → Act → St → Prop} {a : Act} {s : St}
theorem Wp.mono {c : Code} {Q' : Exit → Act → St → Prop} (h : Wp P ro c a s Q) (hq : ∀ e a t, Q e a t → Q' e a t) : Wp P ro c a s Q' :=
  wpIn_mono h fun _ _ _ ⟨t, hw, hQ⟩ => ⟨t, hw, hq _ _ _ hQ⟩
theorem wp_skip (h : Q .normal a s) : Wp P ro .skip a s Q := wpIn_skip ⟨s, rfl, h⟩
theorem wp_label {l : Nat} (h : Q .normal a s) : Wp P ro (.label l) a s Q := wpIn_label ⟨s, rfl, h⟩
theorem wp_exit {id : Nat} (h : Q (.exit id) a s) : Wp P ro (.exit id) a s Q := wpIn_exit ⟨s, rfl, h⟩
theorem wp_ret (h : Q .ret a s) : Wp P ro .ret a s Q := wpIn_ret ⟨s, rfl, h⟩
theorem wp_seq {x y : Code} (h : Wp P ro x a s (Then (fun a t => Wp P ro y a t Q) Q)) : Wp P ro (.seq x y) a s Q :=
  wpIn_seq (wpIn_mono h fun e a w ⟨t, hw, hQ⟩ => by
    cases e with
    | normal => subst hw; exact hQ
    | _ => exact ⟨t, hw, hQ⟩)
theorem wp_cond {c : Operand} {x y : Code} {b : Bool} (hc : a.eval c = .bool b) (ht : b = true → Wp P ro x a s Q) (hf : b = false → Wp P ro y a s Q) : Wp P ro (.cond c x y) a s Q :=
  wpIn_cond_split hc ht hf
theorem wp_block {id : Nat} {c : Code} (h : Wp P ro c a s (InBlock id Q)) : Wp P ro (.block id c) a s Q :=
  wpIn_block (wpIn_mono h fun e a w ⟨t, hw, hQ⟩ => by
    cases e with
    | exit id' =>
      show if id' = id then _ else _
      by_cases hid : id' = id
      · simp only [InBlock, hid, if_true] at hQ ⊢; exact ⟨t, hw, hQ⟩
      · simp only [InBlock, hid, if_false] at hQ ⊢; exact ⟨t, hw, hQ⟩
    | _ => exact ⟨t, hw, hQ⟩)
/-- A loop, by rounds that are left: from the relation at k the body comes to the relation at fewer. -/
theorem wp_loop {c : Code} (I : Nat → Act → St → Prop) {k : Nat} (h0 : I k a s)
    (round : ∀ k a s, I k a s → Wp P ro c a s (Then (fun a t => ∃ j, j < k ∧ I j a t) Q)) : Wp P ro (.loop c) a s Q := by
  classical
  let J : Act → World → Prop := fun a w => ∃ k s, s.w = w ∧ I k a s
  let μ : Act → World → Nat := fun a w => if h : ∃ k, ∃ s : St, s.w = w ∧ I k a s then Classical.choose (least h) else 0
  have hle : ∀ k a (s : St), I k a s → μ a s.w ≤ k := fun k a s h => by
    have hx : ∃ k, ∃ t : St, t.w = s.w ∧ I k a t := ⟨k, s, rfl, h⟩
    simp only [μ, dif_pos hx]
    exact (Classical.choose_spec (least hx)).2 k ⟨s, rfl, h⟩
  refine wpIn_loop J μ ⟨k, s, rfl, h0⟩ ?_
  rintro a w ⟨k0, s0, hw0, hI0⟩
  have hx : ∃ k, ∃ t : St, t.w = w ∧ I k a t := ⟨k0, s0, hw0, hI0⟩
  obtain ⟨s1, hw1, hI1⟩ := (Classical.choose_spec (least hx)).1
  have hm : μ a w = Classical.choose (least hx) := by simp only [μ, dif_pos hx]
  have := round _ a s1 hI1
  rw [← hw1]
  refine wpIn_mono this fun e a' w' ⟨t, hw, hQ⟩ => ?_
  cases e with
  | normal =>
    obtain ⟨j, hj, hI⟩ := hQ
    refine ⟨⟨j, t, hw, hI⟩, ?_⟩
    rw [← hw, hw1, hm]
    exact Nat.lt_of_le_of_lt (hle j a' t hI) hj
  | _ => exact ⟨t, hw, hQ⟩
end
/-- The operation is carried out, hands v on, and K. -/
def OpR (P : Program) (ro : Option Nat) (o : Oper) (a : Act) (s : St) (K : Value → St → Prop) : Prop :=
  ∀ (next : Act → World → Prop) (Q : Exit → Act → World → Prop), (∀ v t, K v t → next (a.put o.dst v) t.w) → o.wpIn (FN ro) 0 P a s.w next Q
section
variable {P : Program} {ro : Option Nat} {a : Act} {s : St} {o : Oper}
theorem OpR.mono {K K' : Value → St → Prop} (h : OpR P ro o a s K) (hk : ∀ v t, K v t → K' v t) : OpR P ro o a s K' :=
  fun next Q hn => h next Q fun v t hv => hn v t (hk v t hv)
/-- An operation that hands a value on at once. -/
theorem opr_val {K : Value → St → Prop} {v : Value} {t : St} (hd : ∀ c, o.op ≠ .defer c) (hr : (execOp a.eval o).run P s.w = .ok (.value v) t.w) (h : K v t) : OpR P ro o a s K := by
  intro next Q hn
  refine ⟨fun _ _ => trivial, ?_⟩
  rw [Oper.semAt_eq _ _ _ hd, hr]
  exact hn v t h
theorem opr_skip {K : Value → St → Prop} {t : St} (hd : ∀ c, o.op ≠ .defer c) (hr : (execOp a.eval o).run P s.w = .ok .skip t.w) (h : K undef t) : OpR P ro o a s K := by
  intro next Q hn
  refine ⟨fun _ _ => trivial, ?_⟩
  rw [Oper.semAt_eq _ _ _ hd, hr]
  exact hn undef t h
/-- A call. -/
theorem opr_enter {K : Value → St → Prop} {f : FuncId} {args : Array Value} (hd : ∀ c, o.op ≠ .defer c) (hr : (execOp a.eval o).run P s.w = .ok (.enter f args) s.w) (h : Cl P f args s K) : OpR P ro o a s K := by
  intro next Q hn
  refine ⟨fun _ _ => trivial, ?_⟩
  rw [Oper.semAt_eq _ _ _ hd, hr]
  refine ⟨fun hx => by simp [Fence.wide] at hx, ?_⟩
  have h2 : CallsIn (FN ro) 0 P f args s.w fun e w => ∃ v t, e = .returned v ∧ t.w = w ∧ K v t := h.2
  refine h2.mono ?_
  rintro e w ⟨v, t, rfl, rfl, hK⟩
  exact hn v t hK
end
/-- Operations in the text's order. -/
def Sq (P : Program) (ro : Option Nat) (ops : Array Oper) : List Oper → Act → St → (Act → St → Prop) → Prop
  | [], a, s, K => K a s
  | o :: l, a, s, K => if Region.wanted o (yielded ops a.tmps) = true then OpR P ro o a s (fun v t => Sq P ro ops l (a.put o.dst v) t K) else Sq P ro ops l (a.put o.dst undef) s K
section
variable {P : Program} {ro : Option Nat} {ops : Array Oper}
theorem wpOps_of_sq {Q : Exit → Act → World → Prop} (l : List Oper) : ∀ (k : Nat), (∀ j, l[j]? = ops[k + j]?) → ∀ {a : Act} {s : St} {K : Act → St → Prop}, Sq P ro ops l a s K → (∀ a t, K a t → Q .normal a t.w) →
    wpOpsIn (FN ro) 0 P ops Q (List.range' k l.length) a s.w := by
  induction l with
  | nil => intro k _ a s K h hk; exact hk _ _ h
  | cons o l ih =>
    intro k hl a s K h hk
    have h0 : ops[k]? = some o := by simpa using (hl 0).symm
    have ih' := @ih (k + 1) (fun j => by have := hl (j + 1); simpa [Nat.add_assoc, Nat.add_comm 1 j] using this)
    simp only [List.length_cons, List.range'_succ, wpOpsIn, h0]
    simp only [Sq] at h
    split at h
    · rename_i hw
      rw [if_pos hw]
      exact h _ _ fun v t hv => ih' hv hk
    · rename_i hw
      rw [if_neg hw]
      exact ⟨fun _ _ => trivial, ih' h hk⟩
theorem wp_region {id : Nat} {a : Act} {s : St} {Q : Exit → Act → St → Prop} (h : Sq P ro ops ops.toList a s (fun a t => Q .normal a t)) : Wp P ro (.region id ops false) a s Q := by
  refine wpIn_region ?_
  rw [List.range_eq_range', ← Array.length_toList]
  exact wpOps_of_sq ops.toList 0 (by simp) h fun a t hq => ⟨t, rfl, hq⟩
end
/-- What is asked where a body is left: its results. -/
def Ret (P : Program) (fn : Func) (R : Value → St → Prop) : Exit → Act → St → Prop
  | .normal, a, t => a.defers = [] ∧ ∃ v, (results fn a.tmps).run P t.w = .ok v t.w ∧ R v t
  | .ret, a, t => a.defers = [] ∧ ∃ v, (results fn a.tmps).run P t.w = .ok v t.w ∧ R v t
  | _, _, _ => False
theorem cl_of_wp {P : Program} {f : FuncId} {fn : Func} {c : Code} {args : Array Value} {s : St} {R : Value → St → Prop} (hf : P.funcs[f]? = some fn) (hb : fn.body = some c) (he : Enters P f)
    (h : ∀ a : Act, a.tmps.size = max args.size fn.ntmps → a.defers = [] → (∀ i v, args[i]? = some v → a.get i = v) → Wp P none c a s (Ret P fn R)) : Cl P f args s R := by
  refine ⟨he, callsIn_of_wp hf hb trivial ?_⟩
  refine wpIn_mono (h { tmps := args ++ Array.replicate (fn.ntmps - args.size) undef, defers := [] } (by simp; omega) rfl ?_) ?_
  · intro i v hv
    have hi := (Array.getElem?_eq_some_iff.1 hv).1
    simp [Act.get, Array.getD_eq_getD_getElem?, Array.getElem?_append_left hi, hv]
  · rintro e a w ⟨t, rfl, hR⟩
    cases e with
    | normal => obtain ⟨hd, v, hr, hv⟩ := hR; exact ⟨hd, v, hr, v, t, rfl, rfl, hv⟩
    | ret => obtain ⟨hd, v, hr, hv⟩ := hR; exact ⟨hd, v, hr, v, t, rfl, rfl, hv⟩
    | _ => exact hR.elim
end
section
/-- What is known of a value: it holds on while nothing is turned. -/
structure Fact where
  φ : St → Value → Prop
  mono : ∀ {s t : St} {v : Value}, Ext s t → φ s v → φ t v
def Fact.eq (v : Value) : Fact := ⟨fun _ u => u = v, fun _ h => h⟩
def Fact.guard (G : Prop) (f : Fact) : Fact := ⟨fun s v => (G → f.φ s v) ∧ (¬ G → v = undef), fun he h => ⟨fun g => f.mono he (h.1 g), h.2⟩⟩
/-- An operation of a stretch: the slot that it writes, what is known then, which ones' facts it needs. -/
structure It where
  d : Nat
  f : Fact
  need : List Nat
/-- The facts of these, one behind the other, as premises. -/
def Nd (its : List It) (a : Act) (s : St) (X : Prop) : List Nat → Prop
  | [] => X
  | j :: l => (match its[j]? with | some it => it.f.φ s (a.get it.d) | none => True) → Nd its a s X l
def isIn (x : Nat) : List Nat → Bool
  | [] => false
  | y :: l => Nat.beq x y || isIn x l
def dsts (its : List It) : List Nat := its.map (·.d)
/-- One operation, as its guard has it. -/
def OpW (P : Program) (ro : Option Nat) (ops : Array Oper) (o : Oper) (a : Act) (s : St) (f : Fact) : Prop :=
  if Region.wanted o (yielded ops a.tmps) = true then OpR P ro o a s (fun v t => Ext s t ∧ f.φ t v) else f.φ s undef
def Ob1 (P : Program) (ro : Option Nat) (ops : Array Oper) (its : List It) (a0 : Act) (s0 : St) (o : Oper) (it : It) : Prop :=
  ∀ (a : Act) (s : St), Ext s0 s → (∀ x, isIn x (dsts its) = false → a.get x = a0.get x) → a.tmps.size = a0.tmps.size → Nd its a s (OpW P ro ops o a s it.f) it.need
def AllOb (P : Program) (ro : Option Nat) (ops : Array Oper) (its : List It) (a0 : Act) (s0 : St) : List Oper → List It → Prop
  | _, [] => True
  | [], _ :: _ => False
  | o :: l, it :: k => Ob1 P ro ops its a0 s0 o it ∧ AllOb P ro ops its a0 s0 l k
/-- Slots, needs (of the text's order). -/
def chk (N : Nat) : List Oper → List It → List Nat → Nat → Bool
  | _, [], _, _ => true
  | [], _ :: _, _, _ => false
  | o :: l, it :: k, seen, i => (match o.dst with | some d => Nat.beq d it.d | none => false) && Nat.ble (it.d + 1) N && !isIn it.d seen && it.need.all (fun j => Nat.ble (j + 1) i) && chk N l k (it.d :: seen) (i + 1)
theorem isIn_iff {x : Nat} {l : List Nat} : isIn x l = true ↔ x ∈ l := by
  induction l with
  | nil => simp [isIn]
  | cons y l ih => simp only [isIn, Bool.or_eq_true, ih, List.mem_cons, Nat.beq_eq]
theorem nd_intro {its : List It} {a : Act} {s : St} {X : Prop} {l : List Nat} (h : Nd its a s X l) (hf : ∀ j ∈ l, ∀ it, its[j]? = some it → it.f.φ s (a.get it.d)) : X := by
  induction l with
  | nil => exact h
  | cons j l ih =>
    refine ih (h ?_) fun i hi => hf i (List.mem_cons_of_mem _ hi)
    cases e : its[j]? with
    | none => trivial
    | some it => exact hf j (List.mem_cons_self ..) it e
section
variable {P : Program} {ro : Option Nat} {ops : Array Oper}
/-- One operation of a stretch has been carried out. -/
theorem opw_step {o : Oper} {a : Act} {s : St} {f : Fact} {K : Act → St → Prop} (h : OpW P ro ops o a s f) (hk : ∀ v t, Ext s t → f.φ t v → K (a.put o.dst v) t) :
    if Region.wanted o (yielded ops a.tmps) = true then OpR P ro o a s (fun v t => K (a.put o.dst v) t) else K (a.put o.dst undef) s := by
  unfold OpW at h
  split at h
  · rename_i hw; rw [if_pos hw]; exact h.mono fun v t ⟨he, hf⟩ => hk v t he hf
  · rename_i hw; rw [if_neg hw]; exact hk _ _ (Chg.refl _ _) h
theorem sq_go {its : List It} {a0 : Act} {s0 : St} {K : Act → St → Prop} (l : List Oper) :
    ∀ (k : List It) (seen : List Nat) (i : Nat) (a : Act) (s : St), its.drop i = k → chk a0.tmps.size l k seen i = true → AllOb P ro ops its a0 s0 l k → Ext s0 s → (∀ x, isIn x (dsts its) = false → a.get x = a0.get x) →
      a.tmps.size = a0.tmps.size → a.defers = a0.defers → (∀ (j : Nat) (it : It), j < i → its[j]? = some it → it.f.φ s (a.get it.d) ∧ isIn it.d seen = true) →
      (∀ a s, Ext s0 s → (∀ x, isIn x (dsts its) = false → a.get x = a0.get x) → a.tmps.size = a0.tmps.size → a.defers = a0.defers → (∀ (j : Nat) (it : It), its[j]? = some it → it.f.φ s (a.get it.d)) → Sq P ro ops (l.drop k.length) a s K) →
      Sq P ro ops l a s K := by
  induction l with
  | nil =>
    intro k seen i a s hk hc ho he hf hz hd hfs hK
    cases k with
    | nil => exact hK a s he hf hz hd fun j it hj => (hfs j it (by
        rcases Nat.lt_or_ge j i with h | h
        · exact h
        · have : (its.drop i)[j - i]? = some it := by rw [List.getElem?_drop]; rw [show i + (j - i) = j from by omega]; exact hj
          rw [hk] at this; cases this) hj).1
    | cons it k => simp [chk] at hc
  | cons o l ih =>
    intro k seen i a s hk hc ho he hf hz hd hfs hK
    cases k with
    | nil => exact hK a s he hf hz hd fun j it hj => (hfs j it (by
        rcases Nat.lt_or_ge j i with h | h
        · exact h
        · have : (its.drop i)[j - i]? = some it := by rw [List.getElem?_drop]; rw [show i + (j - i) = j from by omega]; exact hj
          rw [hk] at this; cases this) hj).1
    | cons it k =>
      simp only [chk, Bool.and_eq_true, Bool.not_eq_true', List.all_eq_true] at hc
      obtain ⟨⟨⟨⟨hdst, hlt⟩, hns⟩, hnd⟩, hc⟩ := hc
      have hod : o.dst = some it.d := by
        cases e : o.dst with
        | none => simp [e] at hdst
        | some d => simp only [e] at hdst; rw [Nat.eq_of_beq_eq_true hdst]
      have hlt : it.d < a0.tmps.size := by have := Nat.le_of_ble_eq_true hlt; omega
      have hit : its[i]? = some it := by
        have : (its.drop i)[0]? = some it := by rw [hk]; rfl
        rwa [List.getElem?_drop] at this
      have hmem : isIn it.d (dsts its) = true := isIn_iff.2 (List.mem_map.2 ⟨it, List.mem_of_getElem? hit, rfl⟩)
      have hw := nd_intro (ho.1 a s he hf hz) fun j hj it' hit' => (hfs j it' (by have := Nat.le_of_ble_eq_true (hnd j hj); omega) hit').1
      show if _ then _ else _
      refine opw_step (K := fun a t => Sq P ro ops l a t K) hw ?_
      intro v t het hv
      rw [hod]
      refine ih k (it.d :: seen) (i + 1) _ t ?_ hc ho.2 (he.trans het) ?_ ?_ ?_ ?_ ?_
      · rw [← List.drop_drop, hk]; rfl
      · intro x hx
        have hne : x ≠ it.d := fun e => by rw [e, hmem] at hx; cases hx
        rw [get_put_ne _ _ _ _ hne]; exact hf x hx
      · rw [size_put]; exact hz
      · rw [defers_put]; exact hd
      · intro j it' hj hit'
        rcases Nat.lt_or_ge j i with h | h
        · obtain ⟨h1, h2⟩ := hfs j it' h hit'
          have hne : it'.d ≠ it.d := fun e => by rw [e, hns] at h2; cases h2
          refine ⟨?_, by simp [isIn, h2]⟩
          rw [get_put_ne _ _ _ _ hne]
          exact it'.f.mono het h1
        · have : j = i := by omega
          subst this
          rw [hit] at hit'; cases hit'
          refine ⟨?_, by simp [isIn]⟩
          rw [get_put_eq _ _ _ (by rw [hz]; exact hlt)]
          exact hv
      · intro a' s' h1 h2 h3 h4 h5
        exact hK a' s' h1 h2 h3 h4 h5
/-- A stretch in the text's order; 'outs': whose facts are wanted behind it. -/
theorem sq_blk {l : List Oper} {a0 : Act} {s0 : St} {K : Act → St → Prop} (its : List It) (outs : List Nat) {N : Nat} (hN : a0.tmps.size = N) (hc : chk N l its [] 0 = true)
    (ho : AllOb P ro ops its a0 s0 l its)
    (hK : ∀ a s, Ext s0 s → (∀ x, isIn x (dsts its) = false → a.get x = a0.get x) → a.tmps.size = N → a.defers = a0.defers → Nd its a s (Sq P ro ops (l.drop its.length) a s K) outs) : Sq P ro ops l a0 s0 K :=
  sq_go l its [] 0 a0 s0 rfl (by rw [hN]; exact hc) ho (Chg.refl _ _) (fun _ _ => rfl) rfl rfl (fun j it hj => by omega)
    fun a s he hf hz hd hfs => nd_intro (hK a s he hf (hz.trans hN) hd) fun j _ it hit => hfs j it hit
/-- One operation alone, whatever it turns. -/
theorem sq_one {o : Oper} {l : List Oper} {a : Act} {s : St} {K : Act → St → Prop} (hg : o.guard = none) (h : OpR P ro o a s (fun v t => Sq P ro ops l (a.put o.dst v) t K)) : Sq P ro ops (o :: l) a s K := by
  show if _ then _ else _
  rw [if_pos (by simp [Region.wanted, hg])]
  exact h
/-- .. its slot told. -/
theorem sq_set {o : Oper} {l : List Oper} {a : Act} {s : St} {K : Act → St → Prop} {N d : Nat} (hN : a.tmps.size = N) (hg : o.guard = none) (hd : o.dst = some d) (hl : Nat.ble (d + 1) N = true)
    (h : OpR P ro o a s (fun v t => ∀ a', a'.get d = v → (∀ x, isIn x [d] = false → a'.get x = a.get x) → a'.tmps.size = N → a'.defers = a.defers → Sq P ro ops l a' t K)) : Sq P ro ops (o :: l) a s K :=
  sq_one hg (h.mono fun v t hv => by
    rw [hd]
    refine hv _ (get_put_eq _ _ _ (by have := Nat.le_of_ble_eq_true hl; omega)) (fun x hx => get_put_ne _ _ _ _ (fun e => by rw [e] at hx; simp [isIn] at hx)) (by rw [size_put]; exact hN) (defers_put ..))
/-- .. without a slot. -/
theorem sq_do {o : Oper} {l : List Oper} {a : Act} {s : St} {K : Act → St → Prop} (hg : o.guard = none) (hd : o.dst = none)
    (h : OpR P ro o a s (fun _ t => Sq P ro ops l a t K)) : Sq P ro ops (o :: l) a s K :=
  sq_one hg (h.mono fun v t hv => by rw [hd]; exact hv)
end
section
variable {P : Program} {ro : Option Nat}
/-- What an operation hangs on, whatever the order: a bit for each. -/
def deps (ops : List Oper) : List Nat → List Oper → List Nat
  | acc, [] => acc.reverse
  | acc, o :: l => deps ops ((o.after.toList.foldl (fun b e => if Region.binds .any e then b ||| 2 ^ e.on ||| (acc.reverse.getD e.on 0) else b) 0) :: acc) l
def onBelow : Nat → List Oper → Bool
  | _, [] => true
  | i, o :: l => o.after.toList.all (fun e => !Region.binds .any e || Nat.ble (e.on + 1) i) && onBelow (i + 1) l
/-- Bits of d: closed under the edges of the operation's own. -/
def depOk (ds : List Nat) : Nat → List Oper → Bool
  | _, [] => true
  | i, o :: l => Nat.ble ((ds.getD i 0) + 1) (2 ^ i) && (List.range i).all (fun j => !(ds.getD i 0).testBit j || o.after.toList.any (fun e => Region.binds .any e && (Nat.beq e.on j || (ds.getD e.on 0).testBit j))) && depOk ds (i + 1) l
def needOk (N : Nat) (ds : List Nat) : List Oper → List It → List Nat → Nat → Bool
  | _, [], _, _ => true
  | [], _ :: _, _, _ => false
  | o :: l, it :: k, seen, i => (match o.dst with | some d => Nat.beq d it.d | none => false) && Nat.ble (it.d + 1) N && !isIn it.d seen && it.need.all (fun j => Nat.ble (j + 1) i && (ds.getD i 0).testBit j) && needOk N ds l k (it.d :: seen) (i + 1)
def restOk (ds : List Nat) (m n : Nat) : Bool := (List.range (n - m)).all fun r => (List.range (m + r)).all fun j => (ds.getD (m + r) 0).testBit j
def chkDraw (N : Nat) (ops : List Oper) (its : List It) : Bool :=
  let ds := deps ops [] ops
  onBelow 0 ops && depOk ds 0 ops && needOk N ds ops its [] 0 && restOk ds its.length ops.length && Nat.ble its.length ops.length
def Lst (l : Array Bool) (i : Nat) : Prop := l[i]? = some true
def unl (l : Array Bool) : Nat → Nat
  | 0 => 0
  | k + 1 => unl l k + (if l[k]? = some true then 0 else 1)
theorem unl_set_le (l : Array Bool) (i : Nat) : ∀ k, unl (l.setIfInBounds i true) k ≤ unl l k := by
  intro k
  induction k with
  | zero => exact Nat.le_refl _
  | succ k ih =>
    simp only [unl]
    by_cases e : i = k
    · subst e
      rw [Array.getElem?_setIfInBounds_self]
      split <;> split <;> simp_all <;> omega
    · rw [Array.getElem?_setIfInBounds_ne e]; omega
theorem unl_set_lt (l : Array Bool) (i : Nat) (hi : i < l.size) (hl : ¬ Lst l i) : ∀ k, i < k → unl (l.setIfInBounds i true) k < unl l k := by
  intro k
  induction k with
  | zero => intro h; omega
  | succ k ih =>
    intro h
    simp only [unl]
    by_cases e : i = k
    · subst e
      have := unl_set_le l i i
      have hl' : ¬ l[i]? = some true := hl
      rw [Array.getElem?_setIfInBounds_self_of_lt hi, if_pos rfl, if_neg hl']
      omega
    · rw [Array.getElem?_setIfInBounds_ne e]
      have := ih (by omega)
      omega
theorem unl_zero {l : Array Bool} : ∀ {k}, unl l k = 0 → ∀ i, i < k → Lst l i := by
  intro k
  induction k with
  | zero => intro _ i h; omega
  | succ k ih =>
    intro h i hi
    simp only [unl] at h
    rcases Nat.lt_or_ge i k with h' | h'
    · exact ih (by omega) i h'
    · have : i = k := by omega
      subst this
      by_cases e : l[i]? = some true
      · exact e
      · rw [if_neg e] at h; omega
theorem lst_set {l : Array Bool} {i : Nat} (hi : i < l.size) (j : Nat) : Lst (l.setIfInBounds i true) j ↔ j = i ∨ Lst l j := by
  unfold Lst
  by_cases e : j = i
  · subst e; simp [Array.getElem?_setIfInBounds_self_of_lt hi]
  · rw [Array.getElem?_setIfInBounds_ne (Ne.symm e)]; simp [e]
theorem mem_ready {ops : Array Oper} {l : Array Bool} {i : Nat} : i ∈ Region.ready .any ops l ↔ i < ops.size ∧ l.getD i true = false ∧ ∃ o, ops[i]? = some o ∧ ∀ e ∈ o.after.toList, Region.binds .any e = true → l.getD e.on false = true := by
  simp only [Region.ready, List.mem_filter, List.mem_range, Bool.and_eq_true, Bool.not_eq_true']
  constructor
  · rintro ⟨h1, h2, h3⟩
    refine ⟨h1, h2, ops[i], Array.getElem?_eq_getElem h1, ?_⟩
    rw [Array.getElem?_eq_getElem h1] at h3
    simp only [Option.map_some, Option.getD_some, Array.all_eq_true_iff_forall_mem, Bool.or_eq_true, Bool.not_eq_true'] at h3
    intro e he hb
    rcases h3 e (by simpa using he) with h | h
    · rw [h] at hb; cases hb
    · exact h
  · rintro ⟨h1, h2, o, ho, h3⟩
    refine ⟨h1, h2, ?_⟩
    rw [ho]
    simp only [Option.map_some, Option.getD_some, Array.all_eq_true_iff_forall_mem, Bool.or_eq_true, Bool.not_eq_true']
    intro e he
    by_cases hb : Region.binds .any e = true
    · exact .inr (h3 e (by simpa using he) hb)
    · exact .inl (by simpa using hb)
theorem onBelow_at {l : List Oper} : ∀ {i j : Nat} {o : Oper}, onBelow i l = true → l[j]? = some o → ∀ e ∈ o.after.toList, Region.binds .any e = true → e.on < i + j := by
  induction l with
  | nil => intro i j o _ h; cases h
  | cons x l ih =>
    intro i j o hb ho e he hbd
    simp only [onBelow, Bool.and_eq_true, List.all_eq_true, Bool.or_eq_true, Bool.not_eq_true'] at hb
    cases j with
    | zero =>
      simp at ho; subst ho
      rcases hb.1 e he with h | h
      · rw [h] at hbd; cases hbd
      · have := Nat.le_of_ble_eq_true h; omega
    | succ j => have := ih hb.2 (by simpa using ho) e he hbd; omega
theorem depOk_at {ds : List Nat} {l : List Oper} : ∀ {i k : Nat} {o : Oper}, depOk ds i l = true → l[k]? = some o → ds.getD (i + k) 0 < 2 ^ (i + k) ∧ ∀ j, j < i + k → (ds.getD (i + k) 0).testBit j = true →
    ∃ e ∈ o.after.toList, Region.binds .any e = true ∧ (e.on = j ∨ (ds.getD e.on 0).testBit j = true) := by
  induction l with
  | nil => intro i k o _ h; cases h
  | cons x l ih =>
    intro i k o hb ho
    simp only [depOk, Bool.and_eq_true, List.all_eq_true, List.mem_range] at hb
    cases k with
    | zero =>
      simp at ho; subst ho
      refine ⟨Nat.lt_of_succ_le (Nat.le_of_ble_eq_true hb.1.1), fun j hj ht => ?_⟩
      have := hb.1.2 j (by omega)
      rw [show i + 0 = i from rfl] at ht
      simp only [ht, Bool.not_true, Bool.false_or, List.any_eq_true, Bool.and_eq_true, Bool.or_eq_true] at this
      obtain ⟨e, he, h1, h2⟩ := this
      exact ⟨e, he, h1, h2.imp Nat.eq_of_beq_eq_true id⟩
    | succ k =>
      have := ih hb.2 (by simpa using ho)
      rw [show i + 1 + k = i + (k + 1) from by omega] at this
      exact this
/-- In a closed set whatever an operation of it hangs on lies, too. -/
theorem dep_in {ops : List Oper} {ds : List Nat} (h1 : onBelow 0 ops = true) (h2 : depOk ds 0 ops = true) {L : Nat → Prop} (hc : ∀ i o, L i → ops[i]? = some o → ∀ e ∈ o.after.toList, Region.binds .any e = true → L e.on) :
    ∀ i o, ops[i]? = some o → (∀ e ∈ o.after.toList, Region.binds .any e = true → L e.on) → ∀ j, j < i → (ds.getD i 0).testBit j = true → L j := by
  intro i
  induction i using Nat.strongRecOn with
  | _ i ih =>
    intro o ho hL j hj ht
    have hx := depOk_at (i := 0) (k := i) h2 ho
    rw [Nat.zero_add] at hx
    obtain ⟨e, he, hb, hor⟩ := hx.2 j hj ht
    have hon := onBelow_at (i := 0) h1 ho e he hb
    rcases hor with h | h
    · rw [← h]; exact hL e he hb
    · have hle := hL e he hb
      have hlt : e.on < ops.length := by have := (List.getElem?_eq_some_iff.1 ho).1; omega
      have hoe : ops[e.on]? = some ops[e.on] := List.getElem?_eq_getElem hlt
      have hy := depOk_at (i := 0) (k := e.on) h2 hoe
      rw [Nat.zero_add] at hy
      have hj' : j < e.on := by
        rcases Nat.lt_or_ge j e.on with hx | hx
        · exact hx
        · have hz := Nat.testBit_lt_two_pow (Nat.lt_of_lt_of_le hy.1 (Nat.pow_le_pow_right (by omega) hx))
          rw [hz] at h; cases h
      exact ih e.on (by omega) _ hoe (fun e' he' hb' => hc e.on _ hle hoe e' he' hb') j hj' h
/-- The rest of a region, which no order moves. -/
theorem any_rest {ops : List Oper} {Q : Exit → Act → World → Prop} {K : Act → St → Prop} (hb : onBelow 0 ops = true) (hd : depOk (deps ops [] ops) 0 ops = true) {m : Nat} (hr : restOk (deps ops [] ops) m ops.length = true) (hQ : ∀ a t, K a t → Q .normal a t.w) :
    ∀ (fuel i : Nat) (l : Array Bool) (a : Act) (s : St), l.size = ops.length → m ≤ i → i ≤ ops.length → ops.length - i ≤ fuel → (∀ j, j < ops.length → (Lst l j ↔ j < i)) → Sq P ro ops.toArray (ops.drop i) a s K →
      wpAnyIn (FN ro) 0 P .any ops.toArray Q fuel l a s.w := by
  intro fuel
  induction fuel with
  | zero =>
    intro i l a s hz hm hi hf hL hs
    have : i = ops.length := by omega
    subst this
    rw [List.drop_length] at hs
    refine ⟨List.eq_nil_iff_forall_not_mem.2 fun j hj => ?_, hQ _ _ hs⟩
    obtain ⟨h1, h2, _⟩ := mem_ready.1 hj
    have h1 : j < ops.length := by simpa using h1
    have := (hL j h1).2 h1
    unfold Lst at this
    simp [Array.getD_eq_getD_getElem?, this] at h2
  | succ fuel ih =>
    intro i l a s hz hm hi hf hL hs
    have key : ∀ j ∈ Region.ready .any ops.toArray l, j = i := by
      intro j hj
      obtain ⟨h1, h2, o, ho, h3⟩ := mem_ready.1 hj
      have h1 : j < ops.length := by simpa using h1
      have ho : ops[j]? = some o := by simpa using ho
      have hnl : ¬ Lst l j := fun h => by unfold Lst at h; simp [Array.getD_eq_getD_getElem?, h] at h2
      have hge : i ≤ j := Nat.le_of_not_lt fun h => hnl ((hL j h1).2 h)
      rcases Nat.lt_or_ge i j with hlt | hge'
      · exfalso
        have hbit : ((deps ops [] ops).getD j 0).testBit i = true := by
          have hr' := hr
          simp only [restOk, List.all_eq_true, List.mem_range] at hr'
          have := hr' (j - m) (by omega) i (by omega)
          rwa [show m + (j - m) = j from by omega] at this
        have hin := dep_in hb hd (L := Lst l) (fun x ox hx hox e he hbd => by
          have hxl : x < ops.length := (List.getElem?_eq_some_iff.1 hox).1
          have hxi := (hL x hxl).1 hx
          have hon := onBelow_at (i := 0) hb hox e he hbd
          exact (hL e.on (by omega)).2 (by omega)) j o ho (fun e he hbd => by
            have := h3 e he hbd
            unfold Lst
            have hon := onBelow_at (i := 0) hb ho e he hbd
            rw [Array.getD_eq_getD_getElem?] at this
            rw [Array.getElem?_eq_getElem (by omega)] at this ⊢
            simpa using this) i hlt hbit
        have := (hL i (by omega)).1 hin
        omega
      · omega
    refine ⟨fun hnil => ?_, fun j hj => ?_⟩
    · rcases Nat.lt_or_ge i ops.length with hlt | hge
      · exfalso
        have : i ∈ Region.ready .any ops.toArray l := by
          refine mem_ready.2 ⟨by simpa using hlt, ?_, ops[i], by simp [hlt], ?_⟩
          · have hn : ¬ Lst l i := fun h => by have := (hL i hlt).1 h; omega
            unfold Lst at hn
            rw [Array.getD_eq_getD_getElem?, Array.getElem?_eq_getElem (by omega)]
            rw [Array.getElem?_eq_getElem (by omega)] at hn
            simpa using hn
          · intro e he hbd
            have hon := onBelow_at (i := 0) hb (List.getElem?_eq_getElem hlt) e he hbd
            have := (hL e.on (by omega)).2 (by omega)
            unfold Lst at this
            simp [Array.getD_eq_getD_getElem?, this]
        rw [hnil] at this; cases this
      · have : i = ops.length := by omega
        subst this
        rw [List.drop_length] at hs
        exact hQ _ _ hs
    · have := key j hj
      subst this
      obtain ⟨h1, _, o, ho, _⟩ := mem_ready.1 hj
      have h1 : j < ops.length := by simpa using h1
      have ho' : ops[j]? = some o := by simpa using ho
      have hdrop : ops.drop j = o :: ops.drop (j + 1) := by
        rw [List.drop_eq_getElem_cons h1]; rw [List.getElem?_eq_getElem h1] at ho'; cases ho'; rfl
      rw [hdrop] at hs
      have hL' : ∀ x, x < ops.length → (Lst (l.setIfInBounds j true) x ↔ x < j + 1) := fun x hx => by
        rw [lst_set (by omega), hL x hx]; omega
      simp only [wpOpIn, ho]
      simp only [Sq] at hs
      split at hs
      · rename_i hw
        rw [if_pos hw]
        exact hs _ _ fun v t hv => ih (j + 1) _ _ t (by simpa using hz) (by omega) (by omega) (by omega) hL' hv
      · rename_i hw
        rw [if_neg hw]
        exact ⟨fun _ _ => trivial, ih (j + 1) _ _ s (by simpa using hz) (by omega) (by omega) (by omega) hL' hs⟩
theorem needOk_at {N : Nat} {ds : List Nat} {l : List Oper} : ∀ {k : List It} {seen : List Nat} {i j : Nat} {o : Oper} {it : It}, needOk N ds l k seen i = true → l[j]? = some o → k[j]? = some it →
    o.dst = some it.d ∧ it.d < N ∧ isIn it.d seen = false ∧ ∀ x ∈ it.need, x < i + j ∧ (ds.getD (i + j) 0).testBit x = true := by
  induction l with
  | nil => intro k seen i j o it _ h; cases h
  | cons x l ih =>
    intro k seen i j o it hc ho hk
    cases k with
    | nil => cases hk
    | cons y k =>
      simp only [needOk, Bool.and_eq_true, Bool.not_eq_true', List.all_eq_true] at hc
      obtain ⟨⟨⟨⟨hdst, hlt⟩, hns⟩, hnd⟩, hc⟩ := hc
      cases j with
      | zero =>
        simp at ho hk; subst ho hk
        refine ⟨?_, by have := Nat.le_of_ble_eq_true hlt; omega, hns, fun z hz => ⟨by have := Nat.le_of_ble_eq_true (hnd z hz).1; omega, (hnd z hz).2⟩⟩
        cases e : x.dst with
        | none => simp [e] at hdst
        | some d => simp only [e] at hdst; rw [Nat.eq_of_beq_eq_true hdst]
      | succ j =>
        obtain ⟨h1, h2, h3, h4⟩ := ih hc (by simpa using ho) (by simpa using hk)
        refine ⟨h1, h2, ?_, fun z hz => by have := h4 z hz; rw [show i + (j + 1) = i + 1 + j from by omega]; exact this⟩
        simp only [isIn, Bool.or_eq_false_iff] at h3
        exact h3.2
theorem needOk_ne {N : Nat} {ds : List Nat} {l : List Oper} : ∀ {k : List It} {seen : List Nat} {i j j' : Nat} {it it' : It}, needOk N ds l k seen i = true → k[j]? = some it → k[j']? = some it' → j < j' → it.d ≠ it'.d := by
  induction l with
  | nil => intro k seen i j j' it it' hc hk; cases k with
    | nil => cases hk
    | cons y k => simp [needOk] at hc
  | cons x l ih =>
    intro k seen i j j' it it' hc hk hk' hjj
    cases k with
    | nil => cases hk
    | cons y k =>
      have hc' := hc
      simp only [needOk, Bool.and_eq_true, Bool.not_eq_true', List.all_eq_true] at hc
      obtain ⟨⟨⟨⟨hdst, hlt⟩, hns⟩, hnd⟩, hc⟩ := hc
      cases j' with
      | zero => omega
      | succ j' =>
        cases j with
        | zero =>
          simp at hk; subst hk
          intro e
          have hj : j' < l.length := by
            rcases Nat.lt_or_ge j' l.length with h | h
            · exact h
            · exfalso
              have : ∀ (l : List Oper) (k : List It) (seen : List Nat) (i : Nat), needOk N ds l k seen i = true → k.length ≤ l.length := by
                intro l
                induction l with
                | nil => intro k _ _ h; cases k with
                  | nil => simp
                  | cons _ _ => simp [needOk] at h
                | cons _ l ih => intro k _ _ h; cases k with
                  | nil => simp
                  | cons _ k => simp only [needOk, Bool.and_eq_true] at h; have := ih _ _ _ h.2; simp; omega
              have h1 := this _ _ _ _ hc
              have h2 := (List.getElem?_eq_some_iff.1 (show k[j']? = some it' by simpa using hk')).1
              omega
          have := (needOk_at hc (List.getElem?_eq_getElem hj) (show k[j']? = some it' by simpa using hk')).2.2.1
          rw [← e] at this
          simp [isIn] at this
        | succ j => exact ih hc (by simpa using hk) (by simpa using hk') (by omega)
theorem allOb_at {ops : Array Oper} {its : List It} {a0 : Act} {s0 : St} {l : List Oper} : ∀ {k : List It} {j : Nat} {o : Oper} {it : It}, AllOb P ro ops its a0 s0 l k → l[j]? = some o → k[j]? = some it → Ob1 P ro ops its a0 s0 o it := by
  induction l with
  | nil => intro k j o it _ h; cases h
  | cons x l ih =>
    intro k j o it h ho hk
    cases k with
    | nil => cases hk
    | cons y k =>
      cases j with
      | zero => simp at ho hk; subst ho hk; exact h.1
      | succ j => exact ih h.2 (by simpa using ho) (by simpa using hk)
/-- The operations that may come in one order or another. -/
theorem any_pre {ops : List Oper} {its : List It} {a0 : Act} {s0 : St} {Q : Exit → Act → World → Prop} {K : Act → St → Prop} (hc : chkDraw a0.tmps.size ops its = true) (hQ : ∀ a t, K a t → Q .normal a t.w)
    (ho : AllOb P ro ops.toArray its a0 s0 ops its)
    (hK : ∀ a s, Ext s0 s → (∀ x, isIn x (dsts its) = false → a.get x = a0.get x) → a.tmps.size = a0.tmps.size → a.defers = a0.defers → (∀ (j : Nat) (it : It), its[j]? = some it → it.f.φ s (a.get it.d)) → Sq P ro ops.toArray (ops.drop its.length) a s K) :
    ∀ (fuel : Nat) (l : Array Bool) (a : Act) (s : St), l.size = ops.length → unl l ops.length ≤ fuel → (∀ j, Lst l j → j < its.length) →
      (∀ i o, Lst l i → ops[i]? = some o → ∀ e ∈ o.after.toList, Region.binds .any e = true → Lst l e.on) → Ext s0 s → (∀ x, isIn x (dsts its) = false → a.get x = a0.get x) → a.tmps.size = a0.tmps.size → a.defers = a0.defers →
      (∀ (j : Nat) (it : It), Lst l j → its[j]? = some it → it.f.φ s (a.get it.d)) → wpAnyIn (FN ro) 0 P .any ops.toArray Q fuel l a s.w := by
  simp only [chkDraw, Bool.and_eq_true] at hc
  obtain ⟨⟨⟨⟨hb, hd⟩, hn⟩, hr⟩, hle⟩ := hc
  have hle := Nat.le_of_ble_eq_true hle
  intro fuel
  induction fuel with
  | zero =>
    intro l a s hz hu hp hcl he hf hsz hdf hfs
    have hall := unl_zero (Nat.le_zero.1 hu)
    refine any_rest hb hd hr hQ 0 its.length l a s hz (Nat.le_refl _) hle ?_ (fun j hj => ⟨hp j, fun _ => hall j hj⟩) (hK a s he hf hsz hdf fun j it hit => hfs j it (hall j (by have := (List.getElem?_eq_some_iff.1 hit).1; omega)) hit)
    rcases Nat.lt_or_ge its.length ops.length with h | h
    · have := hp _ (hall its.length h); omega
    · omega
  | succ fuel ih =>
    intro l a s hz hu hp hcl he hf hsz hdf hfs
    by_cases hall : ∀ j, j < its.length → Lst l j
    · refine any_rest hb hd hr hQ (fuel + 1) its.length l a s hz (Nat.le_refl _) hle ?_ (fun j hj => ⟨hp j, fun h => hall j h⟩) (hK a s he hf hsz hdf fun j it hit => hfs j it (hall j (List.getElem?_eq_some_iff.1 hit).1) hit)
      have : ∀ k, k ≤ ops.length → k - its.length ≤ unl l k := by
        intro k
        induction k with
        | zero => intro _; simp
        | succ k ihk =>
          intro hk
          have := ihk (by omega)
          simp only [unl]
          rcases Nat.lt_or_ge k its.length with h | h
          · omega
          · rw [if_neg (fun hx => by have := hp k hx; omega)]; omega
      have := this ops.length (Nat.le_refl _)
      omega
    · have hex : ∃ j, j < its.length ∧ ¬ Lst l j := by
        refine Classical.byContradiction fun hn => hall fun j hj => Classical.byContradiction fun hx => hn ⟨j, hj, hx⟩
      refine ⟨fun hnil => ?_, fun j hj => ?_⟩
      · exfalso
        obtain ⟨k, ⟨hk, hkl⟩, hmin⟩ := least hex
        have hk' : k < ops.length := by omega
        have : k ∈ Region.ready .any ops.toArray l := by
          refine mem_ready.2 ⟨by simpa using hk', ?_, ops[k], by simp [hk'], ?_⟩
          · unfold Lst at hkl
            rw [Array.getD_eq_getD_getElem?, Array.getElem?_eq_getElem (by omega)]
            rw [Array.getElem?_eq_getElem (by omega)] at hkl
            simpa using hkl
          · intro e hee hbd
            have hon := onBelow_at (i := 0) hb (List.getElem?_eq_getElem hk') e hee hbd
            have : Lst l e.on := Classical.byContradiction fun hx => by have := hmin e.on ⟨by omega, hx⟩; omega
            unfold Lst at this
            simp [Array.getD_eq_getD_getElem?, this]
        rw [hnil] at this; cases this
      · obtain ⟨h1, h2, o, hoo, h3⟩ := mem_ready.1 hj
        have h1 : j < ops.length := by simpa using h1
        have ho' : ops[j]? = some o := by simpa using hoo
        have hnl : ¬ Lst l j := fun h => by unfold Lst at h; simp [Array.getD_eq_getD_getElem?, h] at h2
        have hL3 : ∀ e ∈ o.after.toList, Region.binds .any e = true → Lst l e.on := fun e hee hbd => by
          have := h3 e hee hbd
          have hon := onBelow_at (i := 0) hb ho' e hee hbd
          unfold Lst
          rw [Array.getD_eq_getD_getElem?, Array.getElem?_eq_getElem (by omega)] at this
          rw [Array.getElem?_eq_getElem (by omega)]
          simpa using this
        have hin := dep_in hb hd hcl j o ho' hL3
        have hjm : j < its.length := by
          rcases Nat.lt_or_ge j its.length with h | h
          · exact h
          · exfalso
            obtain ⟨k, hk, hkl⟩ := hex
            refine hkl (hin k (by omega) ?_)
            simp only [restOk, List.all_eq_true, List.mem_range] at hr
            have := hr (j - its.length) (by omega) k (by omega)
            rwa [show its.length + (j - its.length) = j from by omega] at this
        have hit : its[j]? = some its[j] := List.getElem?_eq_getElem hjm
        obtain ⟨hdst, hlt, _, hneed⟩ := needOk_at (i := 0) hn ho' hit
        rw [Nat.zero_add] at hneed
        have hw := nd_intro (allOb_at ho ho' hit a s he hf hsz) fun x hx it hxi => hfs x it (hin x (hneed x hx).1 (hneed x hx).2) hxi
        have hmem : isIn its[j].d (dsts its) = true := isIn_iff.2 (List.mem_map.2 ⟨_, List.mem_of_getElem? hit, rfl⟩)
        have next : ∀ v t, Ext s t → its[j].f.φ t v → wpAnyIn (FN ro) 0 P .any ops.toArray Q fuel (l.setIfInBounds j true) (a.put o.dst v) t.w := by
          intro v t het hv
          rw [hdst]
          refine ih _ _ t (by simpa using hz) (by have := unl_set_lt l j (by omega) hnl ops.length h1; omega) ?_ ?_ (he.trans het) ?_ (by rw [size_put]; exact hsz) (by rw [defers_put]; exact hdf) ?_
          · intro x hx
            rcases (lst_set (by omega) x).1 hx with h | h
            · omega
            · exact hp x h
          · intro x ox hx hox e hee hbd
            rw [lst_set (by omega)]
            rcases (lst_set (by omega) x).1 hx with h | h
            · subst h
              rw [ho'] at hox; cases hox
              exact .inr (hL3 e hee hbd)
            · exact .inr (hcl x ox h hox e hee hbd)
          · intro x hx
            have hne : x ≠ its[j].d := fun e => by rw [e, hmem] at hx; cases hx
            rw [get_put_ne _ _ _ _ hne]; exact hf x hx
          · intro x it' hx hxi
            by_cases hxj : x = j
            · subst hxj
              rw [hit] at hxi; cases hxi
              rw [get_put_eq _ _ _ (by rw [hsz]; exact hlt)]
              exact hv
            · have hLx : Lst l x := by
                rcases (lst_set (by omega) x).1 hx with h | h
                · exact absurd h hxj
                · exact h
              have hne : it'.d ≠ its[j].d := by
                rcases Nat.lt_or_gt_of_ne hxj with h | h
                · exact needOk_ne hn hxi hit h
                · exact (needOk_ne hn hit hxi h).symm
              rw [get_put_ne _ _ _ _ hne]
              exact it'.f.mono het (hfs x it' hLx hxi)
        simp only [wpOpIn, hoo]
        unfold OpW at hw
        split at hw
        · rename_i hww
          rw [if_pos hww]
          exact hw _ _ fun v t ⟨h1, h2⟩ => next v t h1 h2
        · rename_i hww
          rw [if_neg hww]
          exact ⟨fun _ _ => trivial, next _ s (Chg.refl _ _) hw⟩
/-- A region that draws its order: the stretch in whatever order, then the rest, which no order moves. -/
theorem wp_draw {ops : List Oper} {id : Nat} {a0 : Act} {s0 : St} {Q : Exit → Act → St → Prop} (its : List It) (outs : List Nat) {N : Nat} (hm : P.follows .mixedOrders = true) (hN : a0.tmps.size = N) (hc : chkDraw N ops its = true)
    (ho : AllOb P ro ops.toArray its a0 s0 ops its)
    (hK : ∀ a s, Ext s0 s → (∀ x, isIn x (dsts its) = false → a.get x = a0.get x) → a.tmps.size = N → a.defers = a0.defers → Nd its a s (Sq P ro ops.toArray (ops.drop its.length) a s (fun a t => Q .normal a t)) outs) : Wp P ro (.region id ops.toArray true) a0 s0 Q := by
  subst hN
  refine wpIn_region_draw fun t => ?_
  simp only [Region.schedule, hm, Bool.true_or, if_true]
  refine wpAnyIn_sound _ t _ _ _ ?_
  have hu : ∀ k, unl (Array.replicate ops.length false) k ≤ k := by
    intro k
    induction k with
    | zero => exact Nat.le_refl _
    | succ k ih => simp only [unl]; split <;> omega
  have hnone : ∀ j, ¬ Lst (Array.replicate ops.length false) j := fun j h => by
    unfold Lst at h
    rw [Array.getElem?_replicate] at h
    split at h <;> cases h
  have he : Ext s0 (s0.drew (s0.w.drawn + 1)) := s0.drew_ext _
  have := any_pre (P := P) (ro := ro) (its := its) (a0 := a0) (s0 := s0) (Q := fun e a w => ∃ t, t.w = w ∧ Q e a t) (K := fun a t => Q .normal a t) hc (fun a t h => ⟨t, rfl, h⟩) ho
    (fun a s h1 h2 h3 h4 h5 => nd_intro (hK a s h1 h2 h3 h4) fun j _ it hit => h5 j it hit) ops.toArray.size (Array.replicate ops.toArray.size false) a0 (s0.drew (s0.w.drawn + 1)) (by simp) (by simpa using hu ops.length)
    (fun j h => absurd (by simpa using h) (hnone j)) (fun i o h => absurd (by simpa using h) (hnone i)) he (fun _ _ => rfl) rfl rfl (fun j it h => absurd (by simpa using h) (hnone j))
  exact this
end
end
section
abbrev Str := List UInt8
def inK (k : IntKind) (n : Int) : Prop := k.min ≤ n ∧ n ≤ k.max
instance (k : IntKind) (n : Int) : Decidable (inK k n) := inferInstanceAs (Decidable (_ ∧ _))
def strV (x : Str) : Value := .string ⟨x.toArray⟩
theorem add_zero (a : Addr) : a.add 0 = a := rfl
theorem add_add (a : Addr) (i j : Nat) : (a.add i).add j = a.add (i + j) := by
  unfold Addr.add
  by_cases hi : i = 0 <;> by_cases hj : j = 0 <;> simp [hi, hj, Nat.add_assoc]
theorem add_plain (b off j : Nat) : (⟨b, off, none⟩ : Addr).add j = ⟨b, off + j, none⟩ := by unfold Addr.add; split <;> simp_all
/-- What cells say of plain data. -/
structure Kn (α : Type) where
  sz : Nat
  agg : Bool
  R : St → List Value → α → Prop
  len : ∀ {s cs x}, R s cs x → cs.length = sz
  one : ∀ {s cs x}, R s cs x → ∀ u ∈ cs, u.oneCell' = true
  mono : ∀ {s t cs x}, Le s t → R s cs x → R t cs x
  bd : α → Prop
  bdp : ∀ {s cs x}, R s cs x → bd x
/-- What a slot's value says. -/
def Kn.V {α : Type} (d : Kn α) (s : St) (v : Value) (x : α) : Prop :=
  match d.agg with
  | true => ∃ cs, v = .agg cs.toArray ∧ d.R s cs x
  | false => d.R s [v] x
theorem Kn.V_mono {α : Type} {d : Kn α} {s t : St} {v : Value} {x : α} (h : Le s t) (hv : d.V s v x) : d.V t v x := by
  unfold Kn.V at *
  split at hv
  · obtain ⟨cs, e, hr⟩ := hv; exact ⟨cs, e, d.mono h hr⟩
  · exact d.mono h hv
/-- The value's cells. -/
theorem Kn.V_cells {α : Type} {d : Kn α} {s : St} {v : Value} {x : α} (hv : d.V s v x) : ∃ cs, v.cells = cs.toArray ∧ d.R s cs x ∧ v = (if d.agg then .agg cs.toArray else cs.headD undef) := by
  unfold Kn.V at hv
  split at hv
  · rename_i h
    obtain ⟨cs, rfl, hr⟩ := hv
    exact ⟨cs, rfl, hr, by rw [h]; rfl⟩
  · rename_i h
    have h1 := d.one hv v (by simp)
    refine ⟨[v], ?_, hv, by rw [h]; rfl⟩
    cases v <;> first | rfl | (simp [Value.oneCell'] at h1)
theorem Kn.V_bd {α : Type} {d : Kn α} {s : St} {v : Value} {x : α} (hv : d.V s v x) : d.bd x := by
  obtain ⟨cs, _, h, _⟩ := Kn.V_cells hv
  exact d.bdp h
def kI (k : IntKind) : Kn Int where
  sz := 1
  agg := false
  R := fun _ cs n => cs = [.int k n] ∧ inK k n
  len := fun h => by rw [h.1]; rfl
  one := fun h u hu => by rw [h.1] at hu; simp at hu; subst hu; rfl
  mono := fun _ h => h
  bd := fun n => inK k n
  bdp := fun h => h.2
def kB : Kn Bool where
  sz := 1
  agg := false
  R := fun _ cs b => cs = [.bool b]
  len := fun h => by rw [h]; rfl
  one := fun h u hu => by rw [h] at hu; simp at hu; subst hu; rfl
  mono := fun _ h => h
  bd := fun _ => True
  bdp := fun _ => trivial
def kS : Kn Str where
  sz := 1
  agg := false
  R := fun _ cs x => cs = [strV x] ∧ x.length ≤ maxLen
  len := fun h => by rw [h.1]; rfl
  one := fun h u hu => by rw [h.1] at hu; simp at hu; subst hu; rfl
  mono := fun _ h => h
  bd := fun x => x.length ≤ maxLen
  bdp := fun h => h.2
/-- A byte as an element. -/
def kY : Kn UInt8 where
  sz := 1
  agg := false
  R := fun _ cs x => cs = [.int .u8 (x.toNat : Int)]
  len := fun h => by rw [h]; rfl
  one := fun h u hu => by rw [h] at hu; simp at hu; subst hu; rfl
  mono := fun _ h => h
  bd := fun _ => True
  bdp := fun _ => trivial
/-- Cells that hold these elements, from an address on. -/
def Row {α : Type} (d : Kn α) (s : St) (a : Addr) (xs : List α) : Prop :=
  ∀ i x, xs[i]? = some x → ∃ es, d.R s es x ∧ ∀ j u, es[j]? = some u → s.σ (a.add (i * d.sz + j)) = some u
theorem Row.mono {α : Type} {d : Kn α} {s t : St} {a : Addr} {xs : List α} (h : Le s t) (hr : Row d s a xs) : Row d t a xs := fun i x hi => by
  obtain ⟨es, h1, h2⟩ := hr i x hi
  exact ⟨es, d.mono h h1, fun j u hu => h _ _ (h2 j u hu)⟩
def kSl {α : Type} (d : Kn α) : Kn (List α) where
  sz := 1
  agg := false
  R := fun s cs xs => ∃ A c, cs = [.slice A xs.length c] ∧ xs.length ≤ c ∧ c ≤ maxLen ∧ (0 < xs.length → ∃ a, A = some a ∧ Row d s a xs)
  len := fun ⟨_, _, h, _⟩ => by rw [h]; rfl
  one := fun ⟨_, _, h, _⟩ u hu => by rw [h] at hu; simp at hu; subst hu; rfl
  mono := fun h ⟨A, c, h1, h2, h3, h4⟩ => ⟨A, c, h1, h2, h3, fun hp => by obtain ⟨a, e, hr⟩ := h4 hp; exact ⟨a, e, hr.mono h⟩⟩
  bd := fun xs => xs.length ≤ maxLen ∧ ∀ x ∈ xs, d.bd x
  bdp := fun ⟨A, c, h1, h2, h3, h4⟩ => ⟨Nat.le_trans h2 h3, fun x hx => by
    obtain ⟨a, _, hr⟩ := h4 (List.length_pos_of_mem hx)
    obtain ⟨i, hi⟩ := List.getElem?_of_mem hx
    obtain ⟨es, he, _⟩ := hr i x hi
    exact d.bdp he⟩
def kP {α β : Type} (d : Kn α) (e : Kn β) : Kn (α × β) where
  sz := d.sz + e.sz
  agg := true
  R := fun s cs x => ∃ c1 c2, cs = c1 ++ c2 ∧ d.R s c1 x.1 ∧ e.R s c2 x.2
  len := fun ⟨c1, c2, h, h1, h2⟩ => by rw [h, List.length_append, d.len h1, e.len h2]
  one := fun ⟨c1, c2, h, h1, h2⟩ u hu => by
    rw [h, List.mem_append] at hu
    rcases hu with hu | hu
    · exact d.one h1 u hu
    · exact e.one h2 u hu
  mono := fun h ⟨c1, c2, h0, h1, h2⟩ => ⟨c1, c2, h0, d.mono h h1, e.mono h h2⟩
  bd := fun x => d.bd x.1 ∧ e.bd x.2
  bdp := fun ⟨_, _, _, h1, h2⟩ => ⟨d.bdp h1, e.bdp h2⟩
def kM {α β : Type} (d : Kn β) (f : α → β) : Kn α where
  sz := d.sz
  agg := true
  R := fun s cs x => d.R s cs (f x)
  len := fun h => d.len h
  one := fun h => d.one h
  mono := fun h hr => d.mono h hr
  bd := fun x => d.bd (f x)
  bdp := fun h => d.bdp h
/-- A struct of one field. -/
def k1 {α : Type} (d : Kn α) : Kn α where
  sz := d.sz
  agg := true
  R := d.R
  len := d.len
  one := d.one
  mono := d.mono
  bd := d.bd
  bdp := d.bdp
def Fact.v {α : Type} (d : Kn α) (x : α) : Fact := ⟨fun s v => d.V s v x, fun he h => d.V_mono he.le h⟩
/-- A pointer to cells that are settled. -/
def PtrV {α : Type} (d : Kn α) (s : St) (v : Value) (x : α) : Prop := ∃ a es, v = .pointer (some a) ∧ d.R s es x ∧ ∀ j u, es[j]? = some u → s.σ (a.add j) = some u
def Fact.ptr {α : Type} (d : Kn α) (x : α) : Fact := ⟨fun s v => PtrV d s v x, fun he ⟨a, es, h1, h2, h3⟩ => ⟨a, es, h1, d.mono he.le h2, fun j u hu => he.mono _ _ (h3 j u hu)⟩⟩
def All2 : List Fact → St → List Value → Prop
  | [], _, [] => True
  | f :: fs, s, v :: vs => f.φ s v ∧ All2 fs s vs
  | _, _, _ => False
theorem All2.mono : ∀ {fs : List Fact} {s t : St} {vs : List Value}, Ext s t → All2 fs s vs → All2 fs t vs
  | [], _, _, [], _, _ => trivial
  | f :: _, _, _, _ :: _, he, h => ⟨f.mono he h.1, All2.mono he h.2⟩
  | [], _, _, _ :: _, _, h => h
  | _ :: _, _, _, [], _, h => h
def Fact.tup (fs : List Fact) : Fact := ⟨fun s v => ∃ vs : List Value, v = .tuple vs.toArray ∧ All2 fs s vs, fun he ⟨vs, h1, h2⟩ => ⟨vs, h1, h2.mono he⟩⟩
theorem All2.at_ : ∀ {fs : List Fact} {s : St} {vs : List Value} {i : Nat} {f : Fact}, All2 fs s vs → fs[i]? = some f → ∃ v, vs[i]? = some v ∧ f.φ s v
  | [], _, _, _, _, _, h => by simp at h
  | g :: fs, _, v :: vs, 0, f, h, hf => by simp at hf; subst hf; exact ⟨v, rfl, h.1⟩
  | g :: fs, _, v :: vs, i + 1, f, h, hf => by
    obtain ⟨u, h1, h2⟩ := All2.at_ h.2 (i := i) (by simpa using hf)
    exact ⟨u, by simpa using h1, h2⟩
  | _ :: _, _, [], _, _, h, _ => h.elim
structure Ty (P : Program) (T : TypeId) (agg : Bool) (sz : Nat) : Prop where
  isAgg : ∀ w, (isAgg T).run P w = .ok agg w
  size : ∀ w, (sizeOf T).run P w = .ok sz w
def FieldAt (P : Program) (T : TypeId) (f off : Nat) : Prop := ∀ a w, (Instr.fieldAt T (.pointer (some a)) f).run P w = .ok (.pointer (some (a.add off))) w
structure SlTy (P : Program) (T E : TypeId) (sz : Nat) : Prop where
  und : P.underlying T = some (.slice E)
  size : ∀ w, (sizeOf E).run P w = .ok sz w
abbrev Okf (s : St) (f : Fact) : Value → St → Prop := fun v t => Ext s t ∧ f.φ t v
section
variable {P : Program} {ro : Option Nat} {ops : Array Oper} {o : Oper} {a : Act} {s : St} {f : Fact}
theorem opw (hg : o.guard = none) (h : OpR P ro o a s (Okf s f)) : OpW P ro ops o a s f := by
  unfold OpW
  rw [if_pos (by simp [Region.wanted, hg])]
  exact h
/-- Guarded by an operation that is always carried out. -/
theorem opw_g {j : Nat} {b x : Bool} {oj : Oper} {d : Nat} (hg : o.guard = some (j, b)) (hj : ops[j]? = some oj) (hd : oj.dst = some d) (hz : d < a.tmps.size) (hv : kB.V s (a.get d) x) (h : x = b → OpR P ro o a s (Okf s f)) : OpW P ro ops o a s (Fact.guard (x = b) f) := by
  have hv : a.get d = .bool x := List.cons.inj hv |>.1
  have hy : yielded ops a.tmps j = some x := by
    have : a.tmps[d]? = some (.bool x) := by
      rw [Array.getElem?_eq_getElem hz]
      simpa [Act.get, Array.getD_eq_getD_getElem?, hz] using hv
    simp [yielded, hj, hd, this]
  unfold OpW
  by_cases e : x = b
  · rw [if_pos (by simp [Region.wanted, hg, hy, e])]
    exact (h e).mono fun v t ⟨he, hf⟩ => ⟨he, fun _ => hf, fun hn => absurd e hn⟩
  · rw [if_neg (by simp [Region.wanted, hg, hy, e])]
    exact ⟨fun he => absurd he e, fun _ => rfl⟩
/-- .. by one that is guarded itself. -/
theorem opw_gg {G : Prop} {j : Nat} {b x : Bool} {oj : Oper} {d : Nat} (hg : o.guard = some (j, b)) (hj : ops[j]? = some oj) (hd : oj.dst = some d) (hz : d < a.tmps.size) (hv : (Fact.guard G (Fact.v kB x)).φ s (a.get d)) (h : G ∧ x = b → OpR P ro o a s (Okf s f)) : OpW P ro ops o a s (Fact.guard (G ∧ x = b) f) := by
  by_cases hG : G
  · have h1 : kB.V s (a.get d) x := hv.1 hG
    have := opw_g (f := f) hg hj hd hz h1 (fun e => h ⟨hG, e⟩)
    unfold OpW at this ⊢
    split at this
    · rename_i hw; rw [if_pos hw]; exact this.mono fun v t ⟨he, h1, h2⟩ => ⟨he, fun hx => h1 hx.2, fun hx => h2 fun e => hx ⟨hG, e⟩⟩
    · rename_i hw; rw [if_neg hw]; exact ⟨fun hx => this.1 hx.2, fun hx => this.2 fun e => hx ⟨hG, e⟩⟩
  · have hv : a.get d = undef := hv.2 hG
    have hy : yielded ops a.tmps j = none := by
      have : a.tmps[d]? = some undef := by
        rw [Array.getElem?_eq_getElem hz]
        simpa [Act.get, Array.getD_eq_getD_getElem?, hz] using hv
      simp [yielded, hj, hd, this, undef]
    unfold OpW
    rw [if_neg (by simp [Region.wanted, hg, hy])]
    exact ⟨fun hx => absurd hx.1 hG, fun _ => rfl⟩
theorem opr_pure {v : Value} (hd : ∀ c, o.op ≠ .defer c) (hr : (execOp a.eval o).run P s.w = .ok (.value v) s.w) (h : f.φ s v) : OpR P ro o a s (Okf s f) :=
  opr_val (t := s) hd hr ⟨Chg.refl _ _, h⟩
theorem op_move {x : Operand} (ho : o.op = .move x) (h : f.φ s (a.eval x)) : OpR P ro o a s (Okf s f) := opr_pure (by simp [ho]) (by simp [execOp, ho]) h
theorem op_assign {x : Operand} (ho : o.op = .assign x) (h : f.φ s (a.eval x)) : OpR P ro o a s (Okf s f) := opr_pure (by simp [ho]) (by simp [execOp, ho]) h
theorem op_move_v {α : Type} {d : Kn α} {x : Operand} {y : α} (ho : o.op = .move x) (h : d.V s (a.eval x) y) : OpR P ro o a s (Okf s (Fact.v d y)) := op_move ho h
theorem op_assign_v {α : Type} {d : Kn α} {x : Operand} {y : α} (ho : o.op = .assign x) (h : d.V s (a.eval x) y) : OpR P ro o a s (Okf s (Fact.v d y)) := op_assign ho h
theorem op_move_e {x : Operand} {u : Value} (ho : o.op = .move x) (h : a.eval x = u) : OpR P ro o a s (Okf s (Fact.eq u)) := op_move ho h
theorem op_assign_e {x : Operand} {u : Value} (ho : o.op = .assign x) (h : a.eval x = u) : OpR P ro o a s (Okf s (Fact.eq u)) := op_assign ho h
/-- What lay in a slot before, told now. -/
theorem V_at {α : Type} {M : Nat → Prop} {d : Kn α} {s s0 : St} {u v : Value} {y : α} (hv : d.V s0 v y) (he : Chg M s0 s) (e : u = v) : d.V s u y := e ▸ Kn.V_mono he.le hv
theorem lit_i {k : IntKind} {n : Int} (h : inK k n) : (kI k).V s (.int k n) n := ⟨rfl, h⟩
theorem lit_b {b : Bool} : kB.V s (.bool b) b := rfl
theorem lit_s {x : Str} (h : x.length ≤ maxLen) : kS.V s (strV x) x := ⟨rfl, h⟩
theorem lit_nil {α : Type} {d : Kn α} : (kSl d).V s (.slice none 0 0) [] := ⟨none, 0, rfl, Nat.le_refl _, Nat.zero_le _, fun h => absurd h (by simp)⟩
theorem wrap_in (k : IntKind) (n : Int) : inK k (k.wrap n) := by
  unfold inK
  cases k <;> simp [IntKind.wrap, IntKind.min, IntKind.max, IntKind.signed, IntKind.bits] <;> (try split) <;> omega
theorem eqGuard_int (P : Program) (w : World) (op : BinOp) (t : TypeId) (x y : Operand) (k k' : IntKind) (m n : Int) : (eqGuard op t x y (.int k m) (.int k' n)).run P w = .ok () w := by cases op <;> simp [eqGuard]
theorem eqGuard_str (P : Program) (w : World) (op : BinOp) (t : TypeId) (x y : Operand) (m n : ByteArray) : (eqGuard op t x y (.string m) (.string n)).run P w = .ok () w := by cases op <;> simp [eqGuard]
theorem op_add {k : IntKind} {t t' : TypeId} {x y : Operand} {m n : Int} (ho : o.op = .binOp .add t x y t') (hx : (kI k).V s (a.eval x) m) (hy : (kI k).V s (a.eval y) n) : OpR P ro o a s (Okf s (Fact.v (kI k) (k.wrap (m + n)))) := by
  have ex : a.eval x = .int k m := List.cons.inj hx.1 |>.1
  have ey : a.eval y = .int k n := List.cons.inj hy.1 |>.1
  exact opr_pure (by simp [ho]) (by simp [execOp, ho, ex, ey, eqGuard_int, binOp, Op.intArith]) ⟨rfl, wrap_in _ _⟩
theorem op_sub {k : IntKind} {t t' : TypeId} {x y : Operand} {m n : Int} (ho : o.op = .binOp .sub t x y t') (hx : (kI k).V s (a.eval x) m) (hy : (kI k).V s (a.eval y) n) : OpR P ro o a s (Okf s (Fact.v (kI k) (k.wrap (m - n)))) := by
  have ex : a.eval x = .int k m := List.cons.inj hx.1 |>.1
  have ey : a.eval y = .int k n := List.cons.inj hy.1 |>.1
  exact opr_pure (by simp [ho]) (by simp [execOp, ho, ex, ey, eqGuard_int, binOp, Op.intArith]) ⟨rfl, wrap_in _ _⟩
theorem op_mul {k : IntKind} {t t' : TypeId} {x y : Operand} {m n : Int} (ho : o.op = .binOp .mul t x y t') (hx : (kI k).V s (a.eval x) m) (hy : (kI k).V s (a.eval y) n) : OpR P ro o a s (Okf s (Fact.v (kI k) (k.wrap (m * n)))) := by
  have ex : a.eval x = .int k m := List.cons.inj hx.1 |>.1
  have ey : a.eval y = .int k n := List.cons.inj hy.1 |>.1
  exact opr_pure (by simp [ho]) (by simp [execOp, ho, ex, ey, eqGuard_int, binOp, Op.intArith]) ⟨rfl, wrap_in _ _⟩
theorem op_eql {k : IntKind} {t t' : TypeId} {x y : Operand} {m n : Int} (ho : o.op = .binOp .eql t x y t') (hx : (kI k).V s (a.eval x) m) (hy : (kI k).V s (a.eval y) n) : OpR P ro o a s (Okf s (Fact.v kB (decide (m = n)))) := by
  have ex : a.eval x = .int k m := List.cons.inj hx.1 |>.1
  have ey : a.eval y = .int k n := List.cons.inj hy.1 |>.1
  exact opr_pure (by simp [ho]) (by simp [execOp, ho, ex, ey, eqGuard_int, binOp, Op.intCmp]; rfl) (by show [_] = [_]; congr 2)
theorem op_neq {k : IntKind} {t t' : TypeId} {x y : Operand} {m n : Int} (ho : o.op = .binOp .neq t x y t') (hx : (kI k).V s (a.eval x) m) (hy : (kI k).V s (a.eval y) n) : OpR P ro o a s (Okf s (Fact.v kB (!decide (m = n)))) := by
  have ex : a.eval x = .int k m := List.cons.inj hx.1 |>.1
  have ey : a.eval y = .int k n := List.cons.inj hy.1 |>.1
  exact opr_pure (by simp [ho]) (by simp [execOp, ho, ex, ey, eqGuard_int, binOp, Op.intCmp]; rfl) (by show [_] = [_]; congr 2)
theorem op_lss {k : IntKind} {t t' : TypeId} {x y : Operand} {m n : Int} (ho : o.op = .binOp .lss t x y t') (hx : (kI k).V s (a.eval x) m) (hy : (kI k).V s (a.eval y) n) : OpR P ro o a s (Okf s (Fact.v kB (decide (m < n)))) := by
  have ex : a.eval x = .int k m := List.cons.inj hx.1 |>.1
  have ey : a.eval y = .int k n := List.cons.inj hy.1 |>.1
  exact opr_pure (by simp [ho]) (by simp [execOp, ho, ex, ey, eqGuard_int, binOp, Op.intCmp]) rfl
theorem op_leq {k : IntKind} {t t' : TypeId} {x y : Operand} {m n : Int} (ho : o.op = .binOp .leq t x y t') (hx : (kI k).V s (a.eval x) m) (hy : (kI k).V s (a.eval y) n) : OpR P ro o a s (Okf s (Fact.v kB (decide (m ≤ n)))) := by
  have ex : a.eval x = .int k m := List.cons.inj hx.1 |>.1
  have ey : a.eval y = .int k n := List.cons.inj hy.1 |>.1
  exact opr_pure (by simp [ho]) (by simp [execOp, ho, ex, ey, eqGuard_int, binOp, Op.intCmp]) rfl
theorem op_gtr {k : IntKind} {t t' : TypeId} {x y : Operand} {m n : Int} (ho : o.op = .binOp .gtr t x y t') (hx : (kI k).V s (a.eval x) m) (hy : (kI k).V s (a.eval y) n) : OpR P ro o a s (Okf s (Fact.v kB (decide (n < m)))) := by
  have ex : a.eval x = .int k m := List.cons.inj hx.1 |>.1
  have ey : a.eval y = .int k n := List.cons.inj hy.1 |>.1
  exact opr_pure (by simp [ho]) (by simp [execOp, ho, ex, ey, eqGuard_int, binOp, Op.intCmp]) rfl
theorem op_geq {k : IntKind} {t t' : TypeId} {x y : Operand} {m n : Int} (ho : o.op = .binOp .geq t x y t') (hx : (kI k).V s (a.eval x) m) (hy : (kI k).V s (a.eval y) n) : OpR P ro o a s (Okf s (Fact.v kB (decide (n ≤ m)))) := by
  have ex : a.eval x = .int k m := List.cons.inj hx.1 |>.1
  have ey : a.eval y = .int k n := List.cons.inj hy.1 |>.1
  exact opr_pure (by simp [ho]) (by simp [execOp, ho, ex, ey, eqGuard_int, binOp, Op.intCmp]) rfl
end
end
section
section
variable {P : Program} {ro : Option Nat} {ops : Array Oper} {o : Oper} {a : Act} {s : St} {f : Fact}
def bAnd (k : IntKind) (m n : Int) : Int := k.wrap ((BitVec.ofInt k.bits m &&& BitVec.ofInt k.bits n).toNat : Int)
def bOr (k : IntKind) (m n : Int) : Int := k.wrap ((BitVec.ofInt k.bits m ||| BitVec.ofInt k.bits n).toNat : Int)
def bXor (k : IntKind) (m n : Int) : Int := k.wrap ((BitVec.ofInt k.bits m ^^^ BitVec.ofInt k.bits n).toNat : Int)
theorem op_and {k : IntKind} {t t' : TypeId} {x y : Operand} {m n : Int} (ho : o.op = .binOp .and t x y t') (hx : (kI k).V s (a.eval x) m) (hy : (kI k).V s (a.eval y) n) : OpR P ro o a s (Okf s (Fact.v (kI k) (bAnd k m n))) := by
  have ex : a.eval x = .int k m := List.cons.inj hx.1 |>.1
  have ey : a.eval y = .int k n := List.cons.inj hy.1 |>.1
  exact opr_pure (by simp [ho]) (by simp [execOp, ho, ex, ey, eqGuard_int, binOp, Op.intBits]; rfl) ⟨rfl, wrap_in _ _⟩
theorem op_or {k : IntKind} {t t' : TypeId} {x y : Operand} {m n : Int} (ho : o.op = .binOp .or t x y t') (hx : (kI k).V s (a.eval x) m) (hy : (kI k).V s (a.eval y) n) : OpR P ro o a s (Okf s (Fact.v (kI k) (bOr k m n))) := by
  have ex : a.eval x = .int k m := List.cons.inj hx.1 |>.1
  have ey : a.eval y = .int k n := List.cons.inj hy.1 |>.1
  exact opr_pure (by simp [ho]) (by simp [execOp, ho, ex, ey, eqGuard_int, binOp, Op.intBits]; rfl) ⟨rfl, wrap_in _ _⟩
theorem op_xor {k : IntKind} {t t' : TypeId} {x y : Operand} {m n : Int} (ho : o.op = .binOp .xor t x y t') (hx : (kI k).V s (a.eval x) m) (hy : (kI k).V s (a.eval y) n) : OpR P ro o a s (Okf s (Fact.v (kI k) (bXor k m n))) := by
  have ex : a.eval x = .int k m := List.cons.inj hx.1 |>.1
  have ey : a.eval y = .int k n := List.cons.inj hy.1 |>.1
  exact opr_pure (by simp [ho]) (by simp [execOp, ho, ex, ey, eqGuard_int, binOp, Op.intBits]; rfl) ⟨rfl, wrap_in _ _⟩
/-- ^x -/
def bInv (k : IntKind) (m : Int) : Int := bXor k (if k.signed then -1 else k.max) m
theorem op_inv {k : IntKind} {t : TypeId} {x : Operand} {m : Int} (ho : o.op = .unOp .xor t x) (hx : (kI k).V s (a.eval x) m) : OpR P ro o a s (Okf s (Fact.v (kI k) (bInv k m))) := by
  have ex : a.eval x = .int k m := List.cons.inj hx.1 |>.1
  exact opr_pure (by simp [ho]) (by simp [execOp, ho, ex, Op.unary, Op.intBits]; rfl) ⟨rfl, wrap_in _ _⟩
def sShl (k : IntKind) (m n : Int) : Int := k.wrap (m * 2 ^ (min n.toNat k.bits))
def sShr (k : IntKind) (m n : Int) : Int := m.fdiv (2 ^ (min n.toNat k.bits))
theorem op_shl {k k' : IntKind} {t t' : TypeId} {x y : Operand} {m n : Int} (ho : o.op = .binOp .shl t x y t') (hx : (kI k).V s (a.eval x) m) (hy : (kI k').V s (a.eval y) n) (h0 : 0 ≤ n) : OpR P ro o a s (Okf s (Fact.v (kI k) (sShl k m n))) := by
  have ex : a.eval x = .int k m := List.cons.inj hx.1 |>.1
  have ey : a.eval y = .int k' n := List.cons.inj hy.1 |>.1
  have h1 : ¬ n < 0 := by omega
  exact opr_pure (by simp [ho]) (by simp [execOp, ho, ex, ey, eqGuard_int, binOp, Op.shift, h1]; rfl) ⟨rfl, wrap_in _ _⟩
theorem fdiv_in {k : IntKind} {m : Int} (n : Nat) (h : inK k m) : inK k (m.fdiv (2 ^ n)) := by
  have hp : (0 : Int) < 2 ^ n := Int.pow_pos (by omega)
  have h0 : k.min ≤ 0 := by cases k <;> simp [IntKind.min, IntKind.signed, IntKind.bits]
  have h1 : 0 ≤ k.max := by cases k <;> simp [IntKind.max, IntKind.signed, IntKind.bits]
  rw [Int.fdiv_eq_ediv_of_nonneg _ (by omega)]
  obtain ⟨ha, hb⟩ := h
  rcases Int.le_total 0 m with hm | hm
  · exact ⟨by have := Int.ediv_nonneg hm (Int.le_of_lt hp); omega, by have := Int.ediv_le_self (2 ^ n) hm; omega⟩
  · refine ⟨Int.le_trans ha ?_, ?_⟩
    · refine Int.le_ediv_of_mul_le hp ?_
      have : m * 2 ^ n ≤ m * 1 := Int.mul_le_mul_of_nonpos_left hm (by omega)
      omega
    · have h2 : m / 2 ^ n ≤ 0 := Int.ediv_le_of_le_mul hp (by omega)
      omega
theorem op_shr {k k' : IntKind} {t t' : TypeId} {x y : Operand} {m n : Int} (ho : o.op = .binOp .shr t x y t') (hx : (kI k).V s (a.eval x) m) (hy : (kI k').V s (a.eval y) n) (h0 : 0 ≤ n) : OpR P ro o a s (Okf s (Fact.v (kI k) (sShr k m n))) := by
  have ex : a.eval x = .int k m := List.cons.inj hx.1 |>.1
  have ey : a.eval y = .int k' n := List.cons.inj hy.1 |>.1
  have h1 : ¬ n < 0 := by omega
  exact opr_pure (by simp [ho]) (by simp [execOp, ho, ex, ey, eqGuard_int, binOp, Op.shift, h1]; rfl) ⟨rfl, fdiv_in _ hx.2⟩
theorem op_quo {k : IntKind} {t t' : TypeId} {x y : Operand} {m n : Int} (ho : o.op = .binOp .quo t x y t') (hx : (kI k).V s (a.eval x) m) (hy : (kI k).V s (a.eval y) n) (h0 : n ≠ 0) : OpR P ro o a s (Okf s (Fact.v (kI k) (k.wrap (m.tdiv n)))) := by
  have ex : a.eval x = .int k m := List.cons.inj hx.1 |>.1
  have ey : a.eval y = .int k n := List.cons.inj hy.1 |>.1
  exact opr_pure (by simp [ho]) (by simp [execOp, ho, ex, ey, eqGuard_int, binOp, Op.intDiv, h0]) ⟨rfl, wrap_in _ _⟩
theorem op_conv {k k' : IntKind} {t t' : TypeId} {x : Operand} {m : Int} (ho : o.op = .convert t t' x) (h1 : P.underlying t = some (.int k)) (h2 : P.underlying t' = some (.int k')) (hx : (kI k).V s (a.eval x) m) : OpR P ro o a s (Okf s (Fact.v (kI k') (k'.wrap m))) := by
  have ex : a.eval x = .int k m := List.cons.inj hx.1 |>.1
  exact opr_pure (by simp [ho]) (by simp [execOp, ho, ex, convert, run_underlying h1, run_underlying h2, Conv.intToInt]) ⟨rfl, wrap_in _ _⟩
theorem op_not {t : TypeId} {x : Operand} {m : Bool} (ho : o.op = .unOp .not t x) (hx : kB.V s (a.eval x) m) : OpR P ro o a s (Okf s (Fact.v kB (!m))) := by
  have ex : a.eval x = .bool m := List.cons.inj hx |>.1
  exact opr_pure (by simp [ho]) (by simp [execOp, ho, ex, Op.unary]) rfl
theorem op_or_else {c y : Operand} {m n : Bool} (ho : o.op = .pick c (.const (.bool true)) y) (hx : kB.V s (a.eval c) m) (hy : m = false → kB.V s (a.eval y) n) : OpR P ro o a s (Okf s (Fact.v kB (m || n))) := by
  have ex : a.eval c = .bool m := List.cons.inj hx |>.1
  cases m with
  | true => exact opr_pure (v := .bool true) (by simp [ho]) (by simp [execOp, ho, ex, asBool]; rfl) rfl
  | false =>
    have ey : a.eval y = .bool n := List.cons.inj (hy rfl) |>.1
    exact opr_pure (v := .bool n) (by simp [ho]) (by simp [execOp, ho, ex, ey, asBool]) rfl
theorem op_and_then {c y : Operand} {m n : Bool} (ho : o.op = .pick c y (.const (.bool false))) (hx : kB.V s (a.eval c) m) (hy : m = true → kB.V s (a.eval y) n) : OpR P ro o a s (Okf s (Fact.v kB (m && n))) := by
  have ex : a.eval c = .bool m := List.cons.inj hx |>.1
  cases m with
  | false => exact opr_pure (v := .bool false) (by simp [ho]) (by simp [execOp, ho, ex, asBool]; rfl) rfl
  | true =>
    have ey : a.eval y = .bool n := List.cons.inj (hy rfl) |>.1
    exact opr_pure (v := .bool n) (by simp [ho]) (by simp [execOp, ho, ex, ey, asBool]) rfl
theorem toList_mk (x : Str) : (⟨x.toArray⟩ : ByteArray).toList = x := by
  simp
def sLt (x y : Str) : Bool := Op.bytesLess x y
theorem strOp (P : Program) (w : World) (op : BinOp) (t : TypeId) (x y : Str) (v : Value) (hop : op = .eql ∨ op = .neq ∨ op = .lss ∨ op = .leq ∨ op = .gtr ∨ op = .geq) (h : (Op.stringOp op ⟨x.toArray⟩ ⟨y.toArray⟩).run P w = .ok v w) : (binOp op t (strV x) (strV y)).run P w = .ok v w := by
  rcases hop with rfl | rfl | rfl | rfl | rfl | rfl <;> simpa [binOp, strV] using h
theorem op_s {op : BinOp} {t t' : TypeId} {x y : Operand} {m n : Str} {r : Bool} (hop : op = .eql ∨ op = .neq ∨ op = .lss ∨ op = .leq ∨ op = .gtr ∨ op = .geq) (ho : o.op = .binOp op t x y t') (hx : kS.V s (a.eval x) m) (hy : kS.V s (a.eval y) n)
    (h : (Op.stringOp op ⟨m.toArray⟩ ⟨n.toArray⟩).run P s.w = .ok (.bool r) s.w) : OpR P ro o a s (Okf s (Fact.v kB r)) := by
  have ex : a.eval x = strV m := List.cons.inj hx.1 |>.1
  have ey : a.eval y = strV n := List.cons.inj hy.1 |>.1
  have hg : (eqGuard op t x y (strV m) (strV n)).run P s.w = .ok () s.w := eqGuard_str ..
  exact opr_pure (v := .bool r) (by simp [ho]) (by simp [execOp, ho, ex, ey, hg, strOp P s.w op t m n (.bool r) hop h]) rfl
theorem beq_str (m n : Str) : (m == n) = decide (m = n) := by
  by_cases h : m = n <;> simp [h]
theorem op_seql {t t' : TypeId} {x y : Operand} {m n : Str} (ho : o.op = .binOp .eql t x y t') (hx : kS.V s (a.eval x) m) (hy : kS.V s (a.eval y) n) : OpR P ro o a s (Okf s (Fact.v kB (decide (m = n)))) :=
  op_s (by simp) ho hx hy (by simp [Op.stringOp, toList_mk, beq_str])
theorem op_sneq {t t' : TypeId} {x y : Operand} {m n : Str} (ho : o.op = .binOp .neq t x y t') (hx : kS.V s (a.eval x) m) (hy : kS.V s (a.eval y) n) : OpR P ro o a s (Okf s (Fact.v kB (!decide (m = n)))) :=
  op_s (by simp) ho hx hy (by simp [Op.stringOp, toList_mk, beq_str])
theorem op_slss {t t' : TypeId} {x y : Operand} {m n : Str} (ho : o.op = .binOp .lss t x y t') (hx : kS.V s (a.eval x) m) (hy : kS.V s (a.eval y) n) : OpR P ro o a s (Okf s (Fact.v kB (sLt m n))) :=
  op_s (by simp) ho hx hy (by simp [Op.stringOp, toList_mk, sLt])
theorem op_sleq {t t' : TypeId} {x y : Operand} {m n : Str} (ho : o.op = .binOp .leq t x y t') (hx : kS.V s (a.eval x) m) (hy : kS.V s (a.eval y) n) : OpR P ro o a s (Okf s (Fact.v kB (sLt m n || decide (m = n)))) :=
  op_s (by simp) ho hx hy (by simp [Op.stringOp, toList_mk, sLt, beq_str])
theorem op_sgeq {t t' : TypeId} {x y : Operand} {m n : Str} (ho : o.op = .binOp .geq t x y t') (hx : kS.V s (a.eval x) m) (hy : kS.V s (a.eval y) n) : OpR P ro o a s (Okf s (Fact.v kB (!sLt m n))) :=
  op_s (by simp) ho hx hy (by simp [Op.stringOp, toList_mk, sLt])
theorem len_in {n : Nat} (h : n ≤ maxLen) : inK .i64 (n : Int) := by unfold maxLen at h; unfold inK; simp [IntKind.min, IntKind.max, IntKind.signed, IntKind.bits]; omega
theorem op_len_s {T : TypeId} {x : Operand} {m : Str} (ho : o.op = .call { callee := .builtin .len, args := #[x], argTypes := #[T] }) (hT : P.underlying T = some .string) (hx : kS.V s (a.eval x) m) : OpR P ro o a s (Okf s (Fact.v (kI .i64) (m.length : Int))) := by
  have ex : a.eval x = .string ⟨m.toArray⟩ := List.cons.inj hx.1 |>.1
  exact opr_pure (v := .int .i64 (m.length : Int)) (by simp [ho]) (by simp [execOp, ho, resolve, invoke, builtin, Builtin.len_, ex, run_underlying hT, goInt]; rfl) ⟨rfl, len_in hx.2⟩
theorem op_len {α : Type} {d : Kn α} {T E : TypeId} {x : Operand} {xs : List α} (ho : o.op = .call { callee := .builtin .len, args := #[x], argTypes := #[T] }) (hT : P.underlying T = some (.slice E)) (hx : (kSl d).V s (a.eval x) xs) : OpR P ro o a s (Okf s (Fact.v (kI .i64) (xs.length : Int))) := by
  obtain ⟨A, c, h, h1, h2, _⟩ := hx
  have ex : a.eval x = .slice A xs.length c := List.cons.inj h |>.1
  exact opr_pure (v := .int .i64 (xs.length : Int)) (by simp [ho]) (by simp [execOp, ho, resolve, invoke, builtin, Builtin.len_, ex, run_underlying hT, goInt]) ⟨rfl, len_in (Nat.le_trans h1 h2)⟩
def mn (x y : Int) : Int := if y < x then y else x
def mx (x y : Int) : Int := if y > x then y else x
theorem op_min {k : IntKind} {x y : Operand} {ts : Array TypeId} {m n : Int} (ho : o.op = .call { callee := .builtin .min, args := #[x, y], argTypes := ts }) (hx : (kI k).V s (a.eval x) m) (hy : (kI k).V s (a.eval y) n) : OpR P ro o a s (Okf s (Fact.v (kI k) (mn m n))) := by
  have ex : a.eval x = .int k m := List.cons.inj hx.1 |>.1
  have ey : a.eval y = .int k n := List.cons.inj hy.1 |>.1
  refine opr_pure (v := .int k (mn m n)) (by simp [ho]) (by simp [execOp, ho, resolve, invoke, builtin, Builtin.min_, Builtin.min2, ex, ey]; rfl) ⟨rfl, ?_⟩
  unfold mn; split
  · exact hy.2
  · exact hx.2
theorem op_max {k : IntKind} {x y : Operand} {ts : Array TypeId} {m n : Int} (ho : o.op = .call { callee := .builtin .max, args := #[x, y], argTypes := ts }) (hx : (kI k).V s (a.eval x) m) (hy : (kI k).V s (a.eval y) n) : OpR P ro o a s (Okf s (Fact.v (kI k) (mx m n))) := by
  have ex : a.eval x = .int k m := List.cons.inj hx.1 |>.1
  have ey : a.eval y = .int k n := List.cons.inj hy.1 |>.1
  refine opr_pure (v := .int k (mx m n)) (by simp [ho]) (by simp [execOp, ho, resolve, invoke, builtin, Builtin.max_, Builtin.max2, ex, ey]; rfl) ⟨rfl, ?_⟩
  unfold mx; split
  · exact hy.2
  · exact hx.2
theorem op_faddr {T : TypeId} {f off : Nat} {x : Operand} {p : Addr} (ho : o.op = .fieldAddr T x f) (hf : FieldAt P T f off) (hx : a.eval x = .pointer (some p)) : OpR P ro o a s (Okf s (Fact.eq (.pointer (some (p.add off))))) :=
  opr_pure (by simp [ho]) (by simp [execOp, ho, hx, hf p s.w]) rfl
/-- Field f of kind e lies at off in what d tells. -/
def Sub {α β : Type} (d : Kn α) (e : Kn β) (off : Nat) (g : α → β) : Prop := ∀ {s : St} {cs : List Value} {x : α}, d.R s cs x → ∃ es, e.R s es (g x) ∧ ∀ (j : Nat) (u : Value), es[j]? = some u → cs[off + j]? = some u
theorem op_faddr_p {α β : Type} {d : Kn α} {e : Kn β} {g : α → β} {T : TypeId} {f off : Nat} {x : Operand} {y : α} (ho : o.op = .fieldAddr T x f) (hf : FieldAt P T f off) (hs : Sub d e off g) (hx : PtrV d s (a.eval x) y) : OpR P ro o a s (Okf s (Fact.ptr e (g y))) := by
  obtain ⟨p, es, h1, h2, h3⟩ := hx
  obtain ⟨fs, h4, h5⟩ := hs h2
  exact opr_pure (v := .pointer (some (p.add off))) (by simp [ho]) (by simp [execOp, ho, h1, hf p s.w]) ⟨p.add off, fs, rfl, h4, fun j u hu => by rw [add_add]; exact h3 _ _ (h5 j u hu)⟩
theorem op_iaddr {α : Type} {d : Kn α} {k : IntKind} {T E : TypeId} {x y : Operand} {xs : List α} {i : Int} [Inhabited α] (ho : o.op = .indexAddr T x y) (hT : SlTy P T E d.sz) (hx : (kSl d).V s (a.eval x) xs) (hy : (kI k).V s (a.eval y) i) (h0 : 0 ≤ i) (h1 : i < xs.length) :
    OpR P ro o a s (Okf s (Fact.ptr d (xs.getD i.toNat default))) := by
  obtain ⟨A, c, h, _, _, hr⟩ := hx
  have ex : a.eval x = .slice A xs.length c := List.cons.inj h |>.1
  have ey : a.eval y = .int k i := List.cons.inj hy.1 |>.1
  obtain ⟨p, rfl, hrow⟩ := hr (by omega)
  have hi : xs[i.toNat]? = some (xs.getD i.toNat default) := by rw [List.getD_eq_getElem?_getD, List.getElem?_eq_getElem (by omega)]; rfl
  obtain ⟨es, h2, h3⟩ := hrow _ _ hi
  exact opr_pure (v := .pointer (some (p.add (i.toNat * d.sz)))) (by simp [ho]) (by simp [execOp, ho, ex, ey, Instr.indexAt, asIntOf, run_underlying hT.und, h0, h1, hT.size s.w]) ⟨_, es, rfl, h2, fun j u hu => by rw [add_add]; exact h3 j u hu⟩
theorem loadVar_run {P : Program} {w : World} {T : TypeId} {agg : Bool} {cs : List Value} {p : Addr} (hT : Ty P T agg cs.length) (h1 : agg = false → cs.length = 1) (hc : ∀ (j : Nat) (u : Value), cs[j]? = some u → w.cell? (p.add j) = some u) : (loadVar T p).run P w = .ok (if agg then .agg cs.toArray else cs.headD undef) w := by
  cases agg with
  | true =>
    have := run_loadCells_list (P := P) w p cs hc
    simp [loadVar, hT.isAgg w, hT.size w, this]
  | false =>
    match cs, h1 rfl with
    | [u], _ =>
      have := hc 0 u rfl
      rw [add_zero] at this
      simp [loadVar, hT.isAgg w, this]
theorem V_of_cells {α : Type} {d : Kn α} {s : St} {cs : List Value} {x : α} (h : d.R s cs x) (h1 : d.agg = false → cs.length = 1) : d.V s (if d.agg then .agg cs.toArray else cs.headD undef) x := by
  unfold Kn.V
  cases e : d.agg with
  | true => exact ⟨cs, rfl, h⟩
  | false =>
    match cs, h1 e with
    | [u], _ => exact h
theorem op_load_p {α : Type} {d : Kn α} {T : TypeId} {x : Operand} {y : α} (ho : o.op = .load T x) (hT : Ty P T d.agg d.sz) (h1 : d.agg = false → d.sz = 1) (hx : PtrV d s (a.eval x) y) : OpR P ro o a s (Okf s (Fact.v d y)) := by
  obtain ⟨p, es, h2, h3, h4⟩ := hx
  have hl := d.len h3
  have hrun := loadVar_run (P := P) (w := s.w) (T := T) (agg := d.agg) (cs := es) (p := p) (by rw [hl]; exact hT) (by rw [hl]; exact h1) (fun j u hu => s.good _ _ (h4 j u hu))
  exact opr_pure (by simp [ho]) (by simp [execOp, ho, h2, Instr.loadAt, Instr.sureAddr, hrun]) (V_of_cells h3 (by rw [hl]; exact h1))
/-- A cell of a box; a stretch of one. -/
theorem op_load_1 {T : TypeId} {x : Operand} {b off : Nat} {TB : TypeId} {cs : List Value} {u : Value} (ho : o.op = .load T x) (hT : Ty P T false 1) (hx : a.eval x = .pointer (some ⟨b, off, none⟩)) (hb : Bx s b TB cs) (hc : cs[off]? = some u) (hf : f.φ s u) : OpR P ro o a s (Okf s f) :=
  opr_pure (v := u) (by simp [ho]) (by
    have := loadVar_run (P := P) (w := s.w) (T := T) (agg := false) (cs := [u]) (p := ⟨b, off, none⟩) hT (fun _ => rfl) (fun j v hv => by
      cases j with
      | zero => simp at hv; subst hv; rw [add_zero, hb.cell]; exact hc
      | succ j => simp at hv)
    simp [execOp, ho, hx, Instr.loadAt, Instr.sureAddr, this]) hf
theorem op_load_n {T : TypeId} {x : Operand} {b off n : Nat} {TB : TypeId} {cs es : List Value} (ho : o.op = .load T x) (hT : Ty P T true n) (hx : a.eval x = .pointer (some ⟨b, off, none⟩)) (hb : Bx s b TB cs) (hc : (cs.drop off).take n = es) (hn : es.length = n) (hf : f.φ s (.agg es.toArray)) : OpR P ro o a s (Okf s f) :=
  opr_pure (v := .agg es.toArray) (by simp [ho]) (by
    have := loadVar_run (P := P) (w := s.w) (T := T) (agg := true) (cs := es) (p := ⟨b, off, none⟩) (by rw [hn]; exact hT) (fun h => by cases h) (fun j v hv => by
      rw [add_plain, hb.cell, ← hv, ← hc, List.getElem?_take, if_pos (by have := (List.getElem?_eq_some_iff.1 hv).1; omega), List.getElem?_drop])
    simp [execOp, ho, hx, Instr.loadAt, Instr.sureAddr, this]) hf
theorem op_extract {x : Operand} {i : Nat} {fs : List Fact} (ho : o.op = .extract x i) (hx : (Fact.tup fs).φ s (a.eval x)) (hi : fs[i]? = some f) : OpR P ro o a s (Okf s f) := by
  obtain ⟨vs, h1, h2⟩ := hx
  obtain ⟨v, h3, h4⟩ := h2.at_ hi
  exact opr_pure (v := v) (by simp [ho]) (by simp [execOp, ho, h1, Instr.extract, h3]) h4
theorem op_func {fn : Fn} {first captured : Array Operand} (ho : o.op = .makeFunc fn first captured) (h : f.φ s (.func fn (first.map a.eval) (captured.map a.eval))) : OpR P ro o a s (Okf s f) :=
  opr_pure (by simp [ho]) (by simp [execOp, ho, Instr.makeFunc]) h
theorem op_nilcheck {x : Operand} {p : Addr} (ho : o.op = .nilCheck x) (hx : a.eval x = .pointer (some p)) : OpR P ro o a s (Okf s (Fact.eq (.pointer (some p)))) :=
  opr_pure (v := .pointer (some p)) (by simp [ho]) (by simp [execOp, ho, hx]) rfl
theorem map_eval (a : Act) (args : Array Operand) : args.map a.eval = (args.toList.map a.eval).toArray := by
  apply Array.ext'
  rw [Array.toList_map]
theorem op_call {g : FuncId} {args : Array Operand} {ts : Array TypeId} {vs : List Value} {K : Value → St → Prop} (ho : o.op = .call { callee := .value (.func g), args := args, argTypes := ts }) (hv : args.toList.map a.eval = vs) (h : Cl P g vs.toArray s K) : OpR P ro o a s K :=
  opr_enter (f := g) (args := vs.toArray) (by simp [ho]) (by
    have he : a.eval (.func g) = .func (.func g) #[] #[] := rfl
    have := h.1 vs.toArray s.w
    simp only [execOp, ho, resolve, he, Deferred.ofValue, map_eval, hv, Sem.run_bind, Sem.run_pure, Result.andThen_ok, invoke, Array.append_empty, List.append_nil, Array.empty_append, this]) h
/-- A function value is called. -/
theorem op_callv {g : FuncId} {x : Operand} {args : Array Operand} {ts : Array TypeId} {vs caps : List Value} {K : Value → St → Prop} (ho : o.op = .call { callee := .value x, args := args, argTypes := ts }) (hx : a.eval x = .func (.func g) #[] caps.toArray) (hv : args.toList.map a.eval = vs) (h : Cl P g (vs ++ caps).toArray s K) : OpR P ro o a s K :=
  opr_enter (f := g) (args := (vs ++ caps).toArray) (by simp [ho]) (by
    have := h.1 (vs ++ caps).toArray s.w
    have e : vs.toArray ++ caps.toArray = (vs ++ caps).toArray := by simp
    simp only [execOp, ho, resolve, hx, Deferred.ofValue, map_eval, hv, Sem.run_bind, Sem.run_pure, Result.andThen_ok, invoke, Array.empty_append, e, this]) h
end
end
section
theorem row_cells {α : Type} {d : Kn α} {s : St} : ∀ {ys : List α} {a : Addr}, Row d s a ys → ∃ news : List Value, news.length = ys.length * d.sz ∧ (∀ (j : Nat) (u : Value), news[j]? = some u → s.σ (a.add j) = some u) ∧ (∀ u ∈ news, u.oneCell' = true) ∧
    ∀ (i : Nat) (x : α), ys[i]? = some x → d.R s ((news.drop (i * d.sz)).take d.sz) x
  | [], a, _ => ⟨[], by simp, fun j u h => by simp at h, fun u h => by simp at h, fun i x h => by simp at h⟩
  | y :: ys, a, h => by
    obtain ⟨es, h1, h2⟩ := h 0 y rfl
    have hl := d.len h1
    have h' : Row d s (a.add d.sz) ys := fun i x hi => by
      obtain ⟨fs, h3, h4⟩ := h (i + 1) x (by simpa using hi)
      refine ⟨fs, h3, fun j u hu => ?_⟩
      have := h4 j u hu
      rw [add_add, show d.sz + (i * d.sz + j) = (i + 1) * d.sz + j from by rw [Nat.add_mul]; omega]
      exact this
    obtain ⟨news, n1, n2, n3, n4⟩ := row_cells h'
    refine ⟨es ++ news, by rw [List.length_append, hl, n1, List.length_cons, Nat.add_mul]; omega, ?_, ?_, ?_⟩
    · intro j u hu
      rcases Nat.lt_or_ge j es.length with hj | hj
      · rw [List.getElem?_append_left hj] at hu
        have := h2 j u hu
        rwa [Nat.zero_mul, Nat.zero_add] at this
      · rw [List.getElem?_append_right hj] at hu
        have := n2 _ u hu
        rw [add_add] at this
        rwa [show d.sz + (j - es.length) = j from by omega] at this
    · intro u hu
      rcases List.mem_append.1 hu with hu | hu
      · exact d.one h1 u hu
      · exact n3 u hu
    · intro i x hi
      cases i with
      | zero =>
        simp at hi; subst hi
        rw [Nat.zero_mul, List.drop_zero, List.take_append_of_le_length (by omega), List.take_of_length_le (by omega)]
        exact h1
      | succ i =>
        have := n4 i x (by simpa using hi)
        rw [List.drop_append, List.drop_eq_nil_of_le (by rw [hl, Nat.add_mul]; omega), List.nil_append, hl, show (i + 1) * d.sz - d.sz = i * d.sz from by rw [Nat.add_mul]; omega]
        exact this
theorem row_of {α : Type} {d : Kn α} {s : St} {ys : List α} {a : Addr} {cs : List Value} (hl : cs.length = ys.length * d.sz) (hs : ∀ (j : Nat) (u : Value), cs[j]? = some u → s.σ (a.add j) = some u) (hr : ∀ (i : Nat) (x : α), ys[i]? = some x → d.R s ((cs.drop (i * d.sz)).take d.sz) x) : Row d s a ys := fun i x hi => by
  refine ⟨_, hr i x hi, fun j u hu => ?_⟩
  rw [List.getElem?_take] at hu
  split at hu
  · rw [List.getElem?_drop] at hu; exact hs _ _ hu
  · cases hu
theorem pieces_append {α : Type} {d : Kn α} {s : St} {xs ys : List α} {cs ds : List Value} (hl : cs.length = xs.length * d.sz) (h1 : ∀ (i : Nat) (x : α), xs[i]? = some x → d.R s ((cs.drop (i * d.sz)).take d.sz) x) (h2 : ∀ (i : Nat) (x : α), ys[i]? = some x → d.R s ((ds.drop (i * d.sz)).take d.sz) x) :
    ∀ (i : Nat) (x : α), (xs ++ ys)[i]? = some x → d.R s (((cs ++ ds).drop (i * d.sz)).take d.sz) x := by
  intro i x hi
  rcases Nat.lt_or_ge i xs.length with h | h
  · rw [List.getElem?_append_left h] at hi
    have := h1 i x hi
    have hle : (i + 1) * d.sz ≤ xs.length * d.sz := Nat.mul_le_mul_right _ h
    rw [Nat.add_mul] at hle
    rw [List.drop_append_of_le_length (by omega), List.take_append_of_le_length (by rw [List.length_drop]; omega)]
    exact this
  · rw [List.getElem?_append_right h] at hi
    have := h2 _ x hi
    rw [Nat.sub_mul, ← hl] at this
    have hle : xs.length * d.sz ≤ i * d.sz := Nat.mul_le_mul_right _ h
    rw [List.drop_append, List.drop_eq_nil_of_le (by omega), List.nil_append]
    exact this
section
variable {P : Program} {ro : Option Nat} {ops : Array Oper} {o : Oper} {a : Act} {s : St} {K : Value → St → Prop}
theorem op_box {T : TypeId} {x : Operand} {cs : List Value} (ho : o.op = .box T x) (hc : (a.eval x).cells = cs.toArray) (h : ∀ t, Ext s t → Bx t s.w.heap.size T cs → K (.pointer (some ⟨s.w.heap.size, 0, none⟩)) t) : OpR P ro o a s K :=
  opr_val (t := s.alloc (.cells cs.toArray T)) (v := .pointer (some ⟨s.w.heap.size, 0, none⟩)) (by simp [ho]) (by simp [execOp, ho, Instr.box, newVar, newRow, hc, St.alloc, World.alloc, -World.alloc_eq]) (h _ (s.alloc_ext _) (Bx.new s T cs))
theorem op_alloc {T : TypeId} {z : Value} {cs : List Value} (ho : o.op = .alloc T) (hz : ∀ w, (zeroValue T).run P w = .ok z w) (hc : z.cells = cs.toArray) (h : ∀ t, Ext s t → Bx t s.w.heap.size T cs → K (.pointer (some ⟨s.w.heap.size, 0, none⟩)) t) : OpR P ro o a s K :=
  opr_val (t := s.alloc (.cells cs.toArray T)) (v := .pointer (some ⟨s.w.heap.size, 0, none⟩)) (by simp [ho]) (by simp [execOp, ho, Instr.alloc, newVar, newRow, hz s.w, hc, St.alloc, World.alloc, -World.alloc_eq]) (h _ (s.alloc_ext _) (Bx.new s T cs))
/-- Cells written over. -/
def wr (cs : List Value) (off : Nat) (es : List Value) : List Value := cs.take off ++ es ++ cs.drop (off + es.length)
theorem setRow_put (s : St) {b : Nat} {T : TypeId} {cs ds : List Value} (h : Bx s b T cs) : s.w.setRow b ds.toArray = (s.put b (.cells ds.toArray T (0, 0)) h.free).w := by
  have hlt := h.lt
  have hv : s.w.heap[b] = .cells cs.toArray T (0, 0) := (Array.getElem?_eq_some_iff.1 h.heap).2
  unfold World.setRow St.put
  congr 1
  apply Array.ext
  · simp
  · intro i h1 h2
    by_cases e : i = b
    · subst e; simp [Array.getElem_modify, hv]
    · rw [Array.getElem_modify_of_ne (Ne.symm e), Array.getElem_setIfInBounds_ne _ (Ne.symm e)]
theorem op_store {T : TypeId} {x y : Operand} {b off n : Nat} {TB : TypeId} {cs es : List Value} (ho : o.op = .store T x y) (hT : ∀ w, (sizeOf T).run P w = .ok n w) (hx : a.eval x = .pointer (some ⟨b, off, none⟩)) (hb : Bx s b TB cs)
    (hy : (a.eval y).cells = es.toArray) (hn : es.length = n) (h1 : ∀ u ∈ es, u.oneCell' = true) (hl : off + n ≤ cs.length) (h : ∀ t, Chg (· = b) s t → Bx t b TB (wr cs off es) → K undef t) : OpR P ro o a s K := by
  have hst := run_storeCells_at P b off TB es 0 cs.toArray s.w hb.heap (by simp; omega) h1
  have hw : s.w.setRow b ((cs.toArray.toList.take (off + 0) ++ es ++ cs.toArray.toList.drop (off + 0 + es.length)).toArray) = (s.put b (.cells (wr cs off es).toArray TB (0, 0)) hb.free).w := setRow_put s (ds := wr cs off es) hb
  rw [hw] at hst
  refine opr_skip (t := s.put b (.cells (wr cs off es).toArray TB (0, 0)) hb.free) (by simp [ho]) ?_ (h _ (St.put_chg ..) (hb.put _))
  simp [execOp, ho, Instr.storeAt, Instr.sureAddr, hx, storeVar, hT s.w, hy, hn, hst]
theorem row_drop {α : Type} {d : Kn α} {s : St} {a : Addr} {xs : List α} (h : Row d s a xs) (k n : Nat) : Row d s (a.add (k * d.sz)) ((xs.drop k).take n) := fun i x hi => by
  rw [List.getElem?_take] at hi
  split at hi
  · rw [List.getElem?_drop] at hi
    obtain ⟨es, h1, h2⟩ := h _ _ hi
    refine ⟨es, h1, fun j u hu => ?_⟩
    rw [add_add, show k * d.sz + (i * d.sz + j) = (k + i) * d.sz + j from by rw [Nat.add_mul]; omega]
    exact h2 j u hu
  · cases hi
/-- x[lo:hi], x[lo:hi:max]: hi within the length. -/
theorem cut_run {P : Program} {w : World} {T E : TypeId} {sz : Nat} (hT : SlTy P T E sz) (A : Option Addr) (n c : Nat) (lo hi mx : Option Value) (l h m : Nat) (hb : (Instr.sliceBounds true n c lo hi mx).run P w = .ok (l, h, m) w) :
    (Instr.sliceAt T (.slice A n c) lo hi mx).run P w = .ok (.slice (if m = l then A else A.map (·.add (l * sz))) (h - l) (m - l)) w := by
  simp [Instr.sliceAt, run_underlying hT.und, Instr.slice, hb, hT.size w]
theorem cut_V {α : Type} {d : Kn α} {s : St} {A : Option Addr} {c : Nat} {xs : List α} (l h m : Nat) (hx : (kSl d).V s (.slice A xs.length c) xs) (h1 : l ≤ h) (h2 : h ≤ xs.length) (h3 : h ≤ m) (h4 : m ≤ c) :
    (kSl d).V s (.slice (if m = l then A else A.map (·.add (l * d.sz))) (h - l) (m - l)) ((xs.drop l).take (h - l)) := by
  obtain ⟨A', c', e, hc1, hc2, hr⟩ := hx
  have e := List.cons.inj e |>.1
  injection e with e1 e2 e3
  subst e1; subst e3
  have hlen : ((xs.drop l).take (h - l)).length = h - l := by rw [List.length_take, List.length_drop]; omega
  refine ⟨_, _, by rw [hlen], by rw [hlen]; omega, by omega, fun hp => ?_⟩
  rw [hlen] at hp
  obtain ⟨p, rfl, hrow⟩ := hr (by omega)
  rw [if_neg (by omega)]
  exact ⟨_, rfl, row_drop hrow l _⟩
theorem op_cut {α : Type} {d : Kn α} {T E : TypeId} {x : Operand} {lo hi : Option Operand} {xs : List α} (l h : Nat) (ho : o.op = .slice T x lo hi none) (hT : SlTy P T E d.sz) (hx : (kSl d).V s (a.eval x) xs)
    (hlo : (match lo with | some y => ∃ k : IntKind, (kI k).V s (a.eval y) (l : Int) | none => l = 0)) (hhi : (match hi with | some y => ∃ k : IntKind, (kI k).V s (a.eval y) (h : Int) | none => h = xs.length)) (h1 : l ≤ h) (h2 : h ≤ xs.length) :
    OpR P ro o a s (Okf s (Fact.v (kSl d) ((xs.drop l).take (h - l)))) := by
  obtain ⟨A, c, e, hc1, hc2, hr⟩ := hx
  have ex : a.eval x = .slice A xs.length c := List.cons.inj e |>.1
  have hb : (Instr.sliceBounds true xs.length c (lo.map a.eval) (hi.map a.eval) none).run P s.w = .ok (l, h, c) s.w := by
    cases lo with
    | none =>
      cases hi with
      | none => simp at hlo hhi; subst hlo hhi; simp [Instr.sliceBounds]
      | some y =>
        simp at hlo; subst hlo
        obtain ⟨k, hk⟩ := hhi
        have ek : a.eval y = .int k (h : Int) := List.cons.inj hk.1 |>.1
        have g1 : h ≤ c := by omega
        simp [Instr.sliceBounds, Instr.sliceBound, ek, asIntOf, g1]
    | some z =>
      obtain ⟨k, hk⟩ := hlo
      have ez : a.eval z = .int k (l : Int) := List.cons.inj hk.1 |>.1
      cases hi with
      | none =>
        simp at hhi; subst hhi
        have g1 : l ≤ xs.length := by omega
        simp [Instr.sliceBounds, Instr.sliceBound, ez, asIntOf, g1]
      | some y =>
        obtain ⟨k', hk'⟩ := hhi
        have ek : a.eval y = .int k' (h : Int) := List.cons.inj hk'.1 |>.1
        have g1 : h ≤ c := by omega
        have g2 : l ≤ h := by omega
        simp [Instr.sliceBounds, Instr.sliceBound, ez, ek, asIntOf, g1, g2]
  have hrun := cut_run hT A xs.length c (lo.map a.eval) (hi.map a.eval) none l h c hb
  exact opr_pure (by simp [ho]) (by simp [execOp, ho, ex, hrun]) (cut_V l h c ⟨A, c, rfl, hc1, hc2, hr⟩ h1 h2 (by omega) (Nat.le_refl _))
/-- x[:h:h] -/
theorem op_cut3 {α : Type} {d : Kn α} {T E : TypeId} {x y z : Operand} {xs : List α} {k k' : IntKind} (h : Nat) (ho : o.op = .slice T x none (some y) (some z)) (hT : SlTy P T E d.sz) (hx : (kSl d).V s (a.eval x) xs) (hy : (kI k).V s (a.eval y) (h : Int)) (hz : (kI k').V s (a.eval z) (h : Int)) (h2 : h ≤ xs.length) :
    OpR P ro o a s (Okf s ⟨fun t v => (kSl d).V t v (xs.take h) ∧ ∃ A, v = .slice A h h, fun he hh => ⟨Kn.V_mono he.le hh.1, hh.2⟩⟩) := by
  obtain ⟨A, c, e, hc1, hc2, hr⟩ := hx
  have ex : a.eval x = .slice A xs.length c := List.cons.inj e |>.1
  have ey : a.eval y = .int k (h : Int) := List.cons.inj hy.1 |>.1
  have ez : a.eval z = .int k' (h : Int) := List.cons.inj hz.1 |>.1
  have g1 : h ≤ c := by omega
  have hb : (Instr.sliceBounds true xs.length c (none : Option Value) (some (a.eval y)) (some (a.eval z))).run P s.w = .ok (0, h, h) s.w := by
    simp [Instr.sliceBounds, Instr.sliceBound, ey, ez, asIntOf, g1]
  have hrun := cut_run hT A xs.length c none (some (a.eval y)) (some (a.eval z)) 0 h h hb
  have hV := cut_V (d := d) 0 h h (s := s) ⟨A, c, rfl, hc1, hc2, hr⟩ (by omega) h2 (Nat.le_refl _) (by omega)
  simp only [Nat.sub_zero, List.drop_zero] at hrun hV
  refine opr_pure (by simp [ho]) (by simp [execOp, ho, ex, hrun]) ⟨hV, _, rfl⟩
end
end
section
/-- An element type of a slice type, for append. -/
structure ElTy (P : Program) (T E : TypeId) (sz bytes : Nat) : Prop where
  und : P.underlying T = some (.slice E)
  info : ∃ i z, P.info? E = some i ∧ i.zero = some z ∧ i.size = sz ∧ i.bytes = bytes ∧ z.cells.size = sz
theorem ElTy.mk' {P : Program} {T E : TypeId} {sz bytes : Nat} {z : Value} (h1 : P.underlying T = some (.slice E)) (h2 : (P.info? E).map (fun i => (i.zero, i.size, i.bytes)) = some (some z, sz, bytes)) (h3 : z.cells.size = sz) : ElTy P T E sz bytes := by
  obtain ⟨i, hi, he⟩ := Option.map_eq_some_iff.1 h2
  simp only [Prod.mk.injEq] at he
  exact ⟨h1, i, z, hi, he.1, he.2.1, he.2.2, h3⟩
/-- What lies behind the slice's length is its own, or there is nothing. -/
def Spare (s : St) (v : Value) (E : TypeId) (sz B : Nat) : Prop :=
  ∃ A n c, v = .slice A n c ∧ n ≤ c ∧ c ≤ maxLen ∧ (n = c ∨ ∃ g cur, A = some ⟨g, 0, none⟩ ∧ B ≤ g ∧ s.w.heap[g]? = some (.cells cur E (0, 0)) ∧ cur.size = c * sz ∧ ∀ (p : Addr) (u : Value), p.block = g → s.σ p = some u → p.off < n * sz)
theorem Spare.nil (s : St) (E : TypeId) (sz B : Nat) : Spare s (.slice none 0 0) E sz B := ⟨none, 0, 0, rfl, Nat.le_refl _, Nat.zero_le _, .inl rfl⟩
theorem Spare.full {s : St} {A : Option Addr} {n : Nat} (E : TypeId) (sz B : Nat) (h : n ≤ maxLen) : Spare s (.slice A n n) E sz B := ⟨A, n, n, rfl, Nat.le_refl _, h, .inl rfl⟩
theorem Spare.chg {M : Nat → Prop} {s t : St} {v : Value} {E : TypeId} {sz B : Nat} (h : Spare s v E sz B) (hc : Chg M s t) (hm : ∀ g, v.ownBlock = some g → ¬ M g) : Spare t v E sz B := by
  obtain ⟨A, n, c, rfl, h1, h2, h3⟩ := h
  refine ⟨A, n, c, rfl, h1, h2, ?_⟩
  rcases h3 with h3 | ⟨g, cur, rfl, h4, h5, h6, h7⟩
  · exact .inl h3
  · have hg := hm g rfl
    have hlt := (Array.getElem?_eq_some_iff.1 h5).1
    exact .inr ⟨g, cur, rfl, h4, (hc.block g hlt hg).trans h5, h6, fun p u hp hu => h7 p u hp (by rw [hc.same p (by rw [hp]; exact hlt) (by rw [hp]; exact hg)] at hu; exact hu)⟩
theorem Spare.ext {s t : St} {v : Value} {E : TypeId} {sz B : Nat} (h : Spare s v E sz B) (hc : Ext s t) : Spare t v E sz B := h.chg hc fun _ _ hf => hf
/-- The cells of block g from lo to hi are settled now. -/
def St.row (s : St) (g : Nat) (cs cur : Array Value) (T : TypeId) (lo hi : Nat) (hg : s.w.heap[g]? = some (.cells cur T (0, 0))) (hold : ∀ (p : Addr) (u : Value), p.block = g → s.σ p = some u → p.off < lo) (hsame : ∀ j, j < lo → cs[j]? = cur[j]?) : St :=
  { w := s.w.setRow g cs
    σ := fun p => if p.block = g ∧ p.spot = none ∧ lo ≤ p.off ∧ p.off < hi then cs[p.off]? else s.σ p
    good := fun p v h => by
      have hrow := setRow_heap s.w g cur cs T (0, 0) hg
      by_cases e : p.block = g
      · by_cases e2 : p.spot = none ∧ lo ≤ p.off ∧ p.off < hi
        · simp only [e, e2, and_self, if_true, true_and] at h
          simp only [World.cell?, e, hrow, e2.1, Option.isSome_none]
          exact h
        · simp only [e, e2, and_false, if_false, true_and] at h
          have h0 := s.good p v h
          have hlt := hold p v e h
          simp only [World.cell?, e, hrow, hg] at h0 ⊢
          by_cases hs : p.spot.isSome = true
          · rw [if_pos hs] at h0; cases h0
          · rw [if_neg hs] at h0 ⊢; rw [hsame _ hlt]; exact h0
      · simp only [e, false_and, if_false] at h
        have h0 := s.good p v h
        simp only [World.cell?] at h0 ⊢
        rw [setRow_other s.w g p.block cs e]
        exact h0 }
theorem St.row_chg (s : St) (g : Nat) (cs cur : Array Value) (T : TypeId) (lo hi : Nat) (hg : s.w.heap[g]? = some (.cells cur T (0, 0))) (hold : ∀ (p : Addr) (u : Value), p.block = g → s.σ p = some u → p.off < lo) (hsame : ∀ j, j < lo → cs[j]? = cur[j]?) :
    Chg (· = g) s (s.row g cs cur T lo hi hg hold hsame) :=
  ⟨rfl, rfl, rfl, by simp [St.row], fun k _ hk => setRow_other _ _ _ _ hk, fun p _ hp => by simp [St.row, show ¬ p.block = g from hp], fun p v hv => by
    by_cases e : p.block = g
    · have := hold p v e hv
      simp only [St.row]
      rw [if_neg (by omega)]
      exact hv
    · simp [St.row, e, hv]⟩
section
variable {P : Program}
/-- What append comes to: news behind what v holds. -/
theorem append_run {α : Type} {d : Kn α} {s : St} {T TX E : TypeId} {bytes B : Nat} {v x : Value} {xs : List α} (hT : ElTy P T E d.sz bytes) (ty : TypeId) (hv : (kSl d).V s v xs) (hsp : Spare s v E d.sz B) (ys : List α) (news : List Value) (hx : Src P d.sz TX x ys.length news s.w)
    (w4 : ∀ (i : Nat) (x : α), ys[i]? = some x → d.R s ((news.drop (i * d.sz)).take d.sz) x)
    (hlim : (xs.length + ys.length) * bytes ≤ 140737488355328) (hb0 : 0 < bytes) :
    ∃ (v' : Value) (t : St), (Builtin.append_ #[T, TX] ty #[v, x]).run P s.w = .ok v' t.w ∧ Chg (fun b => v.ownBlock = some b ∧ B ≤ b) s t ∧ (kSl d).V t v' (xs ++ ys) ∧ Spare t v' E d.sz (min B s.w.heap.size) ∧ (v'.ownBlock = v.ownBlock ∨ v'.ownBlock = some s.w.heap.size) := by
  obtain ⟨i, z, hi, hz, hs1, hs2, hs3⟩ := hT.info
  obtain ⟨A, c, ev, hc1, hc2, hr⟩ := hv
  have ev := List.cons.inj ev |>.1
  subst ev
  have hlen : xs.length + ys.length ≤ 140737488355328 := Nat.le_trans (Nat.le_mul_of_pos_right _ hb0) hlim
  obtain ⟨A', n', c', e', hn1, hn2, hsp⟩ := hsp
  injection e' with e1 e2 e3
  subst e1; subst e2; subst e3
  have w1 := hx.newsLen
  have w3 := hx.one
  -- nothing is appended
  rcases Nat.eq_zero_or_pos ys.length with h0 | h0
  · obtain rfl : ys = [] := List.eq_nil_of_length_eq_zero h0
    obtain rfl : news = [] := List.eq_nil_of_length_eq_zero (by rw [w1]; simp)
    refine ⟨.slice A xs.length c, s, ?_, Chg.refl _ _, ?_, ?_, .inl rfl⟩
    · have hle : xs.length ≤ c := hc1
      have hl := hx.len s.w
      have hc := hx.cells
      simp only [List.length_nil] at hl hc
      rcases hx.kind with ⟨e', hk⟩ | hk <;> cases A <;> simp [Builtin.append_, run_underlying hT.und, run_underlying hk, sizeOf, typeInfo, hi, hl, hs1, hc, hle, storeCells]
    · rw [List.append_nil]; exact ⟨A, c, rfl, hc1, hc2, hr⟩
    · refine ⟨A, xs.length, c, rfl, hn1, hn2, ?_⟩
      rcases hsp with h | ⟨g, cur, h1, h2, h3⟩
      · exact .inl h
      · exact .inr ⟨g, cur, h1, by omega, h3⟩
  have hy : (xs ++ ys).length = xs.length + ys.length := List.length_append
  rcases Nat.lt_or_ge c (xs.length + ys.length) with hgrow | hroom
  · -- a new row
    have hfit : Builtin.nextslicecap (xs.length + ys.length) c * i.bytes ≤ 281474976710656 := by rw [hs2]; exact growslice_fits hgrow hlim
    have key : ∃ olds : List Value, olds.length = xs.length * d.sz ∧ (∀ (i : Nat) (y : α), xs[i]? = some y → d.R s ((olds.drop (i * d.sz)).take d.sz) y) ∧ (Builtin.firstCells i.size xs.length (.slice A xs.length c)).run P s.w.drew = .ok olds.toArray s.w.drew := by
      rcases Nat.eq_zero_or_pos xs.length with h | h
      · obtain rfl : xs = [] := List.eq_nil_of_length_eq_zero h
        refine ⟨[], by simp, fun i y h => by simp at h, ?_⟩
        cases A <;> simp [Builtin.firstCells, loadCells, loadCellsFrom]
      · obtain ⟨p, rfl, hrow⟩ := hr h
        obtain ⟨olds, o1, o2, _, o4⟩ := row_cells hrow
        exact ⟨olds, o1, o4, run_firstCells_some (P := P) s.w.drew i.size xs.length p xs.length c olds (by rw [hs1]; exact o1) (fun j u hu => by simpa using s.good _ _ (o2 j u hu))⟩
    obtain ⟨olds, o1, o4, hold⟩ := key
    have hrun := run_append_grow_src (P := P) s.w T TX ty E i z hT.und hi hz A xs.length c olds hold x ys.length news (by rw [hs1]; exact hx) hgrow (by omega) hfit
    generalize hcap : grownCap s.w (xs.length + ys.length) c E = cap at hrun
    have hcap1 : xs.length + ys.length ≤ cap := by rw [← hcap]; simp [grownCap, Question.cut]
    have hcap2 : cap ≤ maxLen := by rw [← hcap]; exact grownCap_le_maxLen _ _ _ _ (by unfold maxLen; omega)
    -- the new row: its first cells are settled
    let all : Array Value := (olds ++ news).toArray ++ Builtin.zeroCells z.cells (cap - (xs.length + ys.length))
    let s1 : St := (s.drew (s.w.drawn + 1)).alloc (.cells all E)
    have hg1 : s1.w.heap[s.w.heap.size]? = some (.cells all E (0, 0)) := heap_alloc_new _ _
    have hn1 : ∀ (p : Addr) (u : Value), p.block = s.w.heap.size → s1.σ p = some u → p.off < 0 := fun p u hp hu => by
      have : s.σ p = some u := hu
      have := s.lt this
      omega
    let t : St := s1.row s.w.heap.size all all E 0 ((xs.length + ys.length) * d.sz) hg1 hn1 (fun j hj => rfl)
    have hself : s1.w.setRow s.w.heap.size all = s1.w := setRow_self s1.w _ _ _ _ hg1
    have hext : Ext s t := by
      have e1 : Ext s s1 := (s.drew_ext _).trans (St.alloc_ext _ _)
      exact e1.chg (s1.row_chg ..) (fun b hb => by subst hb; exact Nat.le_refl _)
    have hcells : ∀ (j : Nat) (u : Value), (olds ++ news)[j]? = some u → t.σ ((⟨s.w.heap.size, 0, none⟩ : Addr).add j) = some u := fun j u hu => by
      have hj := (List.getElem?_eq_some_iff.1 hu).1
      rw [List.length_append, o1, w1, ← Nat.add_mul] at hj
      rw [add_plain, Nat.zero_add]
      show (if _ then all[j]? else _) = some u
      rw [if_pos ⟨rfl, rfl, Nat.zero_le _, hj⟩]
      rw [Array.getElem?_append_left (by simp [o1, w1, ← Nat.add_mul]; exact hj)]
      simpa using hu
    have hpc := pieces_append (s := t) o1 (fun i y h => d.mono hext.le (o4 i y h)) (fun i y h => d.mono hext.le (w4 i y h))
    have hallsz : all.size = cap * d.sz := by
      simp only [all, Array.size_append, List.size_toArray, List.length_append, o1, w1, size_zeroCells, hs3]
      rw [Nat.sub_mul, Nat.add_mul]
      have : (xs.length + ys.length) * d.sz ≤ cap * d.sz := Nat.mul_le_mul_right _ hcap1
      rw [Nat.add_mul] at this
      omega
    refine ⟨_, t, ?_, Chg.of_ext hext, ⟨_, cap, by rw [hy], by omega, hcap2, fun _ => ⟨_, rfl, row_of (by rw [List.length_append, o1, w1, hy, Nat.add_mul]) hcells hpc⟩⟩, ?_, .inr rfl⟩
    · rw [hrun]
      show _ = Result.ok _ (s1.w.setRow s.w.heap.size all)
      rw [hself]
      rfl
    · refine ⟨_, _, cap, rfl, hcap1, hcap2, .inr ⟨s.w.heap.size, all, rfl, by omega, ?_, hallsz, ?_⟩⟩
      · show (s1.w.setRow s.w.heap.size all).heap[s.w.heap.size]? = _
        rw [hself]; exact hg1
      · intro p u hp hu
        by_cases hlt : p.off < (xs.length + ys.length) * d.sz
        · exact hlt
        · exfalso
          have : (if p.block = s.w.heap.size ∧ p.spot = none ∧ 0 ≤ p.off ∧ p.off < (xs.length + ys.length) * d.sz then all[p.off]? else s1.σ p) = some u := hu
          rw [if_neg (by omega)] at this
          exact absurd (hn1 p u hp this) (by omega)
  · -- in place
    rcases hsp with h | ⟨g, cur, rfl, hB, hheap, hcsz, hfree⟩
    · omega
    have hle : (xs.length + ys.length) * d.sz ≤ c * d.sz := Nat.mul_le_mul_right _ hroom
    rw [Nat.add_mul] at hle
    have hst := run_storeCells_at P g (xs.length * d.sz) E news 0 cur s.w hheap (by rw [w1, hcsz]; omega) w3
    simp only [Nat.add_zero] at hst
    have hrun : (Builtin.append_ #[T, TX] ty #[.slice (some ⟨g, 0, none⟩) xs.length c, x]).run P s.w = .ok (.slice (some ⟨g, 0, none⟩) (xs.length + ys.length) c) (s.w.setRow g (cur.toList.take (xs.length * d.sz) ++ news ++ cur.toList.drop (xs.length * d.sz + news.length)).toArray) := by
      rcases hx.kind with ⟨e', hk⟩ | hk <;> simp [Builtin.append_, run_underlying hT.und, run_underlying hk, sizeOf, typeInfo, hi, hx.len, hs1, hroom, hx.cells, Addr.add_lit, hst]
    generalize hcs : (cur.toList.take (xs.length * d.sz) ++ news ++ cur.toList.drop (xs.length * d.sz + news.length)).toArray = cs at hrun
    have hcl : (cur.toList.take (xs.length * d.sz)).length = xs.length * d.sz := by
      have e : cur.toList.length = c * d.sz := by rw [← hcsz]; rfl
      rw [List.length_take, e, Nat.min_eq_left (by omega)]
    have hsame : ∀ j, j < xs.length * d.sz → cs[j]? = cur[j]? := fun j hj => by
      rw [← hcs]
      simp only [List.getElem?_toArray]
      rw [List.append_assoc, List.getElem?_append_left (by omega), List.getElem?_take, if_pos hj]
      simp
    let t : St := s.row g cs cur E (xs.length * d.sz) ((xs.length + ys.length) * d.sz) hheap hfree hsame
    have hchg : Chg (fun b => (Value.slice (some ⟨g, 0, none⟩) xs.length c).ownBlock = some b ∧ B ≤ b) s t := (s.row_chg ..).weak fun k _ hk => by subst hk; exact ⟨rfl, hB⟩
    have hcells : ∀ (j : Nat) (u : Value), news[j]? = some u → t.σ ((⟨g, 0, none⟩ : Addr).add (xs.length * d.sz + j)) = some u := fun j u hu => by
      have hj := (List.getElem?_eq_some_iff.1 hu).1
      rw [w1] at hj
      rw [add_plain, Nat.zero_add]
      show (if _ then cs[xs.length * d.sz + j]? else _) = some u
      rw [if_pos ⟨rfl, rfl, by show _ ≤ xs.length * d.sz + j; omega, by show xs.length * d.sz + j < _; rw [Nat.add_mul]; omega⟩, ← hcs]
      simp only [List.getElem?_toArray]
      rw [List.append_assoc, List.getElem?_append_right (by omega), hcl, Nat.add_sub_cancel_left, List.getElem?_append_left (by omega)]
      exact hu
    refine ⟨_, t, hrun, hchg, ⟨_, c, by rw [hy], by omega, hc2, fun _ => ⟨_, rfl, ?_⟩⟩, ?_, .inl rfl⟩
    · intro k y hk
      rcases Nat.lt_or_ge k xs.length with h | h
      · rw [List.getElem?_append_left h] at hk
        obtain ⟨p', e, hrow⟩ := hr (by omega)
        cases e
        exact Row.mono hchg.le hrow k y hk
      · rw [List.getElem?_append_right h] at hk
        have hk' := (List.getElem?_eq_some_iff.1 hk).1
        refine ⟨_, d.mono hchg.le (w4 _ y hk), fun j u hu => ?_⟩
        rw [List.getElem?_take] at hu
        split at hu
        · rw [List.getElem?_drop] at hu
          have := hcells _ u hu
          rwa [show xs.length * d.sz + ((k - xs.length) * d.sz + j) = k * d.sz + j from by
            rw [Nat.sub_mul]; have := Nat.mul_le_mul_right d.sz h; omega] at this
        · cases hu
    · refine ⟨_, _, c, rfl, hroom, hc2, .inr ⟨g, cs, rfl, by omega, setRow_heap _ _ _ _ _ _ hheap, ?_, ?_⟩⟩
      · rw [← hcs]
        simp [w1, hcsz]
        rw [Nat.min_eq_left (by omega)]
        omega
      · intro p u hp hu
        by_cases hlt : p.off < (xs.length + ys.length) * d.sz
        · exact hlt
        · exfalso
          have : (if p.block = g ∧ p.spot = none ∧ xs.length * d.sz ≤ p.off ∧ p.off < (xs.length + ys.length) * d.sz then cs[p.off]? else s.σ p) = some u := hu
          rw [if_neg (by omega)] at this
          have := hfree p u hp this
          rw [Nat.add_mul] at hlt
          omega
theorem src_slice {α : Type} {d : Kn α} {s : St} {T E : TypeId} {x : Value} {ys : List α} (hT : P.underlying T = some (.slice E)) (hx : (kSl d).V s x ys) : ∃ news, Src P d.sz T x ys.length news s.w ∧ ∀ (i : Nat) (x : α), ys[i]? = some x → d.R s ((news.drop (i * d.sz)).take d.sz) x := by
  obtain ⟨X, m, ex, hm1, hm2, hrx⟩ := hx
  have ex := List.cons.inj ex |>.1
  subst ex
  rcases Nat.eq_zero_or_pos ys.length with h | h
  · obtain rfl : ys = [] := List.eq_nil_of_length_eq_zero h
    refine ⟨[], ?_, fun i x h => by simp at h⟩
    cases X with
    | none => exact Src.ofNil s.w hT m
    | some q => exact Src.ofSlice s.w hT q 0 m [] (by simp) (fun j u h => by simp at h) (fun u h => by simp at h)
  · obtain ⟨q, rfl, hrow⟩ := hrx h
    obtain ⟨news, w1, w2, w3, w4⟩ := row_cells hrow
    exact ⟨news, Src.ofSlice s.w hT q ys.length m news w1 (fun j u hu => s.good _ _ (w2 j u hu)) w3, w4⟩
variable {ro : Option Nat} {o : Oper} {a : Act} {s : St} {K : Value → St → Prop}
theorem op_append {α : Type} {d : Kn α} {T E : TypeId} {bytes B : Nat} {x y : Operand} {xs ys : List α} (ho : o.op = .call { callee := .builtin .append, args := #[x, y], argTypes := #[T, T] }) (hT : ElTy P T E d.sz bytes) (hx : (kSl d).V s (a.eval x) xs) (hsp : Spare s (a.eval x) E d.sz B) (hy : (kSl d).V s (a.eval y) ys)
    (hlim : (xs.length + ys.length) * bytes ≤ 140737488355328) (hb0 : 0 < bytes)
    (h : ∀ v t, Chg (fun b => (a.eval x).ownBlock = some b ∧ B ≤ b) s t → (kSl d).V t v (xs ++ ys) → Spare t v E d.sz (min B s.w.heap.size) → (v.ownBlock = (a.eval x).ownBlock ∨ v.ownBlock = some s.w.heap.size) → K v t) : OpR P ro o a s K := by
  obtain ⟨news, hsrc, w4⟩ := src_slice hT.und hy
  obtain ⟨v, t, hrun, h1, h2, h3, h4⟩ := append_run hT o.type hx hsp ys news hsrc w4 hlim hb0
  exact opr_val (t := t) (v := v) (by simp [ho]) (by simp [execOp, ho, resolve, invoke, builtin, hrun]) (h v t h1 h2 h3 h4)
end
end
section
section
variable {P : Program} {ro : Option Nat} {ops : Array Oper} {o : Oper} {a : Act} {s : St} {f : Fact} {K : Value → St → Prop}
theorem byte_in (b : UInt8) : inK .u8 (b.toNat : Int) := by
  have := b.toNat_lt
  unfold inK; simp [IntKind.min, IntKind.max, IntKind.signed, IntKind.bits]; omega
def sub {α : Type} (xs : List α) (l h : Int) : List α := (xs.drop l.toNat).take (h.toNat - l.toNat)
theorem op_cut_lh {α : Type} {d : Kn α} {T E : TypeId} {x y z : Operand} {xs : List α} {k k' : IntKind} {l h : Int} (ho : o.op = .slice T x (some y) (some z) none) (hT : SlTy P T E d.sz) (hx : (kSl d).V s (a.eval x) xs) (hy : (kI k).V s (a.eval y) l) (hz : (kI k').V s (a.eval z) h)
    (h0 : 0 ≤ l) (h1 : l ≤ h) (h2 : h ≤ xs.length) : OpR P ro o a s (Okf s (Fact.v (kSl d) (sub xs l h))) :=
  op_cut l.toNat h.toNat ho hT hx ⟨k, by rw [Int.toNat_of_nonneg h0]; exact hy⟩ ⟨k', by rw [Int.toNat_of_nonneg (by omega)]; exact hz⟩ (by omega) (by omega)
theorem op_cut_l {α : Type} {d : Kn α} {T E : TypeId} {x y : Operand} {xs : List α} {k : IntKind} {l : Int} (ho : o.op = .slice T x (some y) none none) (hT : SlTy P T E d.sz) (hx : (kSl d).V s (a.eval x) xs) (hy : (kI k).V s (a.eval y) l)
    (h0 : 0 ≤ l) (h1 : l ≤ xs.length) : OpR P ro o a s (Okf s (Fact.v (kSl d) (xs.drop l.toNat))) := by
  have := op_cut (P := P) (ro := ro) l.toNat xs.length ho hT hx ⟨k, by rw [Int.toNat_of_nonneg h0]; exact hy⟩ rfl (by omega) (Nat.le_refl _)
  rwa [List.take_of_length_le (by rw [List.length_drop]; omega)] at this
theorem op_index_s {T : TypeId} {x y : Operand} {k : IntKind} {m : Str} {i : Int} (ho : o.op = .index T x y) (hT : P.underlying T = some .string) (hx : kS.V s (a.eval x) m) (hy : (kI k).V s (a.eval y) i) (h0 : 0 ≤ i) (h1 : i < m.length) :
    OpR P ro o a s (Okf s (Fact.v (kI .u8) ((m.getD i.toNat 0).toNat : Int))) := by
  have ex : a.eval x = .string ⟨m.toArray⟩ := List.cons.inj hx.1 |>.1
  have ey : a.eval y = .int k i := List.cons.inj hy.1 |>.1
  have hi : i.toNat < m.length := by omega
  have hb : (⟨m.toArray⟩ : ByteArray)[i.toNat]? = some (m.getD i.toNat 0) := by
    rw [List.getD_eq_getElem?_getD, List.getElem?_eq_getElem hi]
    show (if h : i.toNat < m.toArray.size then _ else _) = _
    rw [dif_pos (by simpa using hi)]
    rfl
  exact opr_pure (v := .int .u8 ((m.getD i.toNat 0).toNat : Int)) (by simp [ho]) (by simp [execOp, ho, ex, ey, Instr.index, asIntOf, run_underlying hT, h0, hb]) ⟨rfl, byte_in _⟩
theorem ofNat_toNat_byte (l : Str) : (l.map fun b => (b.toNat : Int)).foldl (fun r n => r.push (UInt8.ofNat n.toNat)) ByteArray.empty = ⟨l.toArray⟩ := by
  rw [foldl_push_byteCells]
  have : ByteArray.empty.data = #[] := rfl
  rw [this]
  simp
/-- string(b) -/
theorem op_tostr {T U E : TypeId} {x : Operand} {m : Str} (ho : o.op = .convert T U x) (h1 : P.underlying T = some (.slice E)) (h2 : P.underlying E = some (.int .u8)) (h3 : P.underlying U = some .string) (hx : (kSl kY).V s (a.eval x) m) : OpR P ro o a s (Okf s (Fact.v kS m)) := by
  obtain ⟨A, c, e, hc1, hc2, hr⟩ := hx
  have ex : a.eval x = .slice A m.length c := List.cons.inj e |>.1
  have hrun : (convert T U (.slice A m.length c)).run P s.w = .ok (strV m) s.w := by
    rw [run_convert_bytes_string s.w T U E A m.length c h1 h2 h3]
    rcases Nat.eq_zero_or_pos m.length with h | h
    · obtain rfl : m = [] := List.eq_nil_of_length_eq_zero h
      cases A with
      | none => simp [Conv.bytesToString, strV]; rfl
      | some p =>
        have := run_bytesToString (P := P) (w := s.w) p 0 c [] (by simp [loadCells, loadCellsFrom])
        exact this
    · obtain ⟨p, rfl, hrow⟩ := hr h
      have hl := run_loadCells_list (P := P) s.w p ((m.map fun b => (b.toNat : Int)).map (Value.int .u8)) (fun j v hj => by
        simp only [List.map_map, List.getElem?_map, Option.map_eq_some_iff] at hj
        obtain ⟨b, hb, rfl⟩ := hj
        obtain ⟨es, h4, h5⟩ := hrow j b hb
        have h4 : es = [.int .u8 (b.toNat : Int)] := h4
        have := h5 0 _ (by rw [h4]; rfl)
        simp only [kY, Nat.mul_one, Nat.add_zero] at this
        exact s.good _ _ this)
      have := run_bytesToString (P := P) (w := s.w) p m.length c (m.map fun b => (b.toNat : Int)) (by simpa using hl)
      rw [this, ofNat_toNat_byte]
      rfl
  exact opr_pure (v := strV m) (by simp [ho]) (by simp [execOp, ho, ex, hrun]) ⟨rfl, Nat.le_trans hc1 hc2⟩
theorem op_make0 {α : Type} {d : Kn α} {T E : TypeId} {bytes : Nat} {x y : Operand} {k : IntKind} {n : Int} (ho : o.op = .makeSlice T x y) (hT : ElTy P T E d.sz bytes) (hx : (kI .i64).V s (a.eval x) 0) (hy : (kI k).V s (a.eval y) n) (h0 : 0 ≤ n) (h1 : n * bytes ≤ 281474976710656) (hb : 0 < bytes)
    (h : ∀ v t, Ext s t → (kSl d).V t v [] → Spare t v E d.sz s.w.heap.size → v.ownBlock = some s.w.heap.size → K v t) : OpR P ro o a s K := by
  obtain ⟨i, z, hi, hz, hs1, hs2, hs3⟩ := hT.info
  have ex : a.eval x = .int .i64 0 := List.cons.inj hx.1 |>.1
  have ey : a.eval y = .int k n := List.cons.inj hy.1 |>.1
  have hle : n ≤ n * bytes := by
    have : n * 1 ≤ n * (bytes : Int) := Int.mul_le_mul_of_nonneg_left (by omega) h0
    omega
  have hn : n ≤ 281474976710656 := by omega
  have hrun := run_make (P := P) (w := s.w) T E i z hT.und hi hz .i64 k 0 n (Int.le_refl _) h0 (by rw [hs2, Int.mul_comm]; exact h1) (by omega)
  let t : St := s.alloc (.cells (madeCells z.cells (n.toNat * i.size)) E)
  refine opr_val (t := t) (v := .slice (some ⟨s.w.heap.size, 0, none⟩) 0 n.toNat) (by simp [ho]) (by simp [execOp, ho, ex, ey, hrun]; rfl) (h _ t (s.alloc_ext _) ⟨_, _, rfl, Nat.zero_le _, by unfold maxLen; omega, fun h => absurd h (by simp)⟩ ?_ rfl)
  refine ⟨_, 0, _, rfl, Nat.zero_le _, by unfold maxLen; omega, .inr ⟨s.w.heap.size, _, rfl, Nat.le_refl _, heap_alloc_new s.w _, by simp [madeCells, hs1], fun p u hp hu => ?_⟩⟩
  have : s.σ p = some u := hu
  have := s.lt this
  omega
theorem eql_nil_ptr {P : Program} {T E : TypeId} (w : World) (hT : P.underlying T = some (.pointer E)) (p : Option Addr) : (Op.equal T (.pointer p) (.pointer none)).run P w = .ok p.isNone w := by
  have h : ∀ d : Nat, (Op.equalIn (d + 1) T (.pointer p) (.pointer none)).run P w = .ok p.isNone w := fun d => by
    cases p <;> simp [Op.equalIn, run_underlying hT]
  exact h 9999
theorem eql_nil_slice {P : Program} {T E : TypeId} (w : World) (hT : P.underlying T = some (.slice E)) (A : Option Addr) (n c : Nat) : (Op.equal T (.slice A n c) (.slice none 0 0)).run P w = .ok A.isNone w := by
  have h : ∀ d : Nat, (Op.equalIn (d + 1) T (.slice A n c) (.slice none 0 0)).run P w = .ok A.isNone w := fun d => by
    cases A <;> simp [Op.equalIn, run_underlying hT]
  exact h 9999
def isNil (op : BinOp) (b : Bool) : Bool := if op = .eql then b else !b
theorem op_nil_ptr {op : BinOp} {T T' E : TypeId} {x : Operand} {p : Option Addr} (hop : op = .eql ∨ op = .neq) (ho : o.op = .binOp op T x (.const (.pointer none)) T') (hT : P.underlying T = some (.pointer E)) (hx : a.eval x = .pointer p) : OpR P ro o a s (Okf s (Fact.v kB (isNil op p.isNone))) := by
  have en : a.eval (.const (.pointer none)) = .pointer none := rfl
  have hg : (eqGuard op T x (.const (.pointer none)) (.pointer p) (.pointer none)).run P s.w = .ok () s.w := by rcases hop with rfl | rfl <;> rfl
  refine opr_pure (v := .bool (isNil op p.isNone)) (by simp [ho]) ?_ rfl
  have hr := eql_nil_ptr s.w hT p
  rcases hop with rfl | rfl
  · have hb : (binOp .eql T (.pointer p) (.pointer none)).run P s.w = .ok (.bool p.isNone) s.w := by simp only [binOp, Sem.run_bind, hr, Result.andThen_ok, Sem.run_pure]
    simp only [execOp, ho, hx, en, Sem.run_bind, hg, Result.andThen_ok, hb, Sem.run_pure]; rfl
  · have hb : (binOp .neq T (.pointer p) (.pointer none)).run P s.w = .ok (.bool (!p.isNone)) s.w := by simp only [binOp, Sem.run_bind, hr, Result.andThen_ok, Sem.run_pure]
    simp only [execOp, ho, hx, en, Sem.run_bind, hg, Result.andThen_ok, hb, Sem.run_pure]; rfl
/-- Where a struct's fields lie. -/
structure BuildTy (P : Program) (T : TypeId) (zc : List Value) (pl : List (Nat × Nat)) : Prop where
  zero : ∃ z, (∀ w, (zeroValue T).run P w = .ok z w) ∧ z.cells = zc.toArray
  fields : ∃ fs, P.underlying T = some (.struct fs) ∧ ∀ w, (fs.mapM fun f => do pure (f.offset, ← sizeOf f.type) : Sem (Array (Nat × Nat))).run P w = .ok pl.toArray w
def fillL (pl : Nat → Option (Nat × Nat)) : List Value → List (Nat × List Value) → Option (List Value)
  | cs, [] => some cs
  | cs, (i, vs) :: rest =>
    match pl i with
    | none => none
    | some (off, size) => if vs.length = size ∧ off + size ≤ cs.length then fillL pl (wr cs off vs) rest else none
def PartsOk : List (Nat × Value) → List (Nat × List Value) → Prop
  | [], [] => True
  | (i, v) :: p, (k, vs) :: q => i = k ∧ v.cells = vs.toArray ∧ PartsOk p q
  | _, _ => False
theorem wr_cons (cs : List Value) (o : Nat) (v : Value) (vs : List Value) (h : o + (vs.length + 1) ≤ cs.length) : wr (cs.set o v) (o + 1) vs = wr cs o (v :: vs) := by
  have hlt : o < cs.length := by omega
  have e : cs.set o v = cs.take o ++ v :: cs.drop (o + 1) := by rw [List.set_eq_take_append_cons_drop, if_pos hlt]
  have hl : (cs.take o).length = o := by rw [List.length_take]; omega
  have e1 : (cs.set o v).take (o + 1) = cs.take o ++ [v] := by
    rw [e, List.take_append, List.take_of_length_le (by omega), hl, Nat.add_sub_cancel_left]; rfl
  have e2 : (cs.set o v).drop (o + 1 + vs.length) = cs.drop (o + 1 + vs.length) := by
    rw [e, List.drop_append, List.drop_eq_nil_of_le (by omega), hl, show o + 1 + vs.length - o = vs.length + 1 from by omega, List.drop_succ_cons, List.drop_drop]; rfl
  unfold wr
  rw [e1, e2, List.length_cons, show o + (vs.length + 1) = o + 1 + vs.length from by omega]
  simp
theorem foldl_wr (off : Nat) : ∀ (vs : List Value) (k : Nat) (cs : List Value), off + k + vs.length ≤ cs.length → (vs.zipIdx k).foldl (fun cs x => cs.setIfInBounds (off + x.2) x.1) cs.toArray = (wr cs (off + k) vs).toArray
  | [], k, cs, _ => by simp [wr]
  | v :: vs, k, cs, h => by
    simp only [List.zipIdx_cons, List.foldl_cons]
    simp only [List.length_cons] at h
    have h1 : cs.toArray.setIfInBounds (off + k) v = (cs.set (off + k) v).toArray := by simp
    rw [h1, foldl_wr off vs (k + 1) (cs.set (off + k) v) (by rw [List.length_set]; omega), show off + (k + 1) = off + k + 1 from rfl, wr_cons cs (off + k) v vs (by omega)]
theorem fill_of {pl : Nat → Option (Nat × Nat)} : ∀ {parts : List (Nat × Value)} {ps : List (Nat × List Value)} {cs ds : List Value}, PartsOk parts ps → fillL pl cs ps = some ds → Instr.fill pl cs.toArray parts = some ds.toArray
  | [], [], cs, ds, _, h => by simp [fillL] at h; subst h; rfl
  | (i, v) :: parts, (k, vs) :: ps, cs, ds, hv, h => by
    obtain ⟨rfl, hc, hv⟩ := hv
    simp only [fillL] at h
    split at h
    · cases h
    · rename_i off size hp
      split at h
      · rename_i hs
        simp only [Instr.fill]
        simp only [hp, hc, List.size_toArray]
        have hs1 := hs.1
        have hs2 := hs.2
        rw [if_neg (by simp [hs1]; omega)]
        have hz : vs.toArray.zipIdx.foldl (fun cs x => cs.setIfInBounds (off + x.2) x.1) cs.toArray = (wr cs off vs).toArray := by
          have := foldl_wr off vs 0 cs (by omega)
          simp only [Nat.add_zero] at this
          rw [← this]
          simp
        rw [hz]
        exact fill_of hv h
      · cases h
  | [], _ :: _, _, _, hv, _ => hv.elim
  | _ :: _, [], _, _, hv, _ => hv.elim
theorem map_parts (a : Act) (parts : Array (Nat × Operand)) : (parts.map fun (i, x) => (i, a.eval x)) = (parts.toList.map fun (i, x) => (i, a.eval x)).toArray := by
  apply Array.ext'
  rw [Array.toList_map]
/-- A struct is built. -/
theorem op_build {T : TypeId} {zc : List Value} {pl : List (Nat × Nat)} {parts : Array (Nat × Operand)} {ps : List (Nat × List Value)} {ds : List Value} (ho : o.op = .build T parts) (hT : BuildTy P T zc pl) (hv : PartsOk (parts.toList.map fun (i, x) => (i, a.eval x)) ps) (h : fillL (pl.toArray[·]?) zc ps = some ds) (hf : f.φ s (.agg ds.toArray)) : OpR P ro o a s (Okf s f) := by
  obtain ⟨z, hz, hzc⟩ := hT.zero
  obtain ⟨fs, hu, hfs⟩ := hT.fields
  have hfill := fill_of hv h
  refine opr_pure (v := .agg ds.toArray) (by simp [ho]) ?_ hf
  simp only [execOp, ho, map_parts, Instr.build, Sem.run_bind, hz s.w, Result.andThen_ok, hzc, run_underlying hu, hfs s.w, hfill, Sem.run_pure]
/-- A row of a literal. -/
structure LitTy (P : Program) (T E : TypeId) (sz : Nat) (z : Value) : Prop where
  und : P.underlying T = some (.slice E)
  size : ∀ w, (sizeOf E).run P w = .ok sz w
  zero : ∀ w, (zeroValue E).run P w = .ok z w
theorem op_slice_lit {α : Type} {d : Kn α} {T E : TypeId} {n : Nat} {z : Value} {zc : List Value} {parts : Array (Nat × Operand)} {ps : List (Nat × List Value)} {ds : List Value} {ys : List α} (ho : o.op = .buildSlice T n parts) (hT : LitTy P T E d.sz z)
    (hzc : (if n * d.sz = 0 then #[] else (Array.range (n * d.sz)).map (z.cells[· % z.cells.size]!)) = zc.toArray) (hv : PartsOk (parts.toList.map fun (i, x) => (i, a.eval x)) ps) (h : fillL (fun i => some (i * d.sz, d.sz)) zc ps = some ds) (hlim : n * d.sz ≤ 16777216)
    (hn : ys.length = n) (hm : n ≤ maxLen) (hl : ds.length = ys.length * d.sz) (hd : ∀ (i : Nat) (x : α), ys[i]? = some x → d.R s ((ds.drop (i * d.sz)).take d.sz) x) : OpR P ro o a s (Okf s ⟨fun t v => (kSl d).V t v ys ∧ ∃ A, v = .slice A n n, fun he hh => ⟨Kn.V_mono he.le hh.1, hh.2⟩⟩) := by
  have he : Ext s (s.push ds.toArray E) := s.push_ext _ _
  have hfill := fill_of hv h
  have hz := hT.size s.w
  have hlim' : ¬ (n * d.sz > 2 ^ 24) := by omega
  have hrun : (Instr.buildSlice T n (parts.map fun (i, x) => (i, a.eval x))).run P s.w = .ok (.slice (some ⟨s.w.heap.size, 0, none⟩) n n) (s.w.alloc (.cells ds.toArray E)) := by
    by_cases h0 : n * d.sz = 0
    · rw [if_pos h0] at hzc
      simp only [Instr.buildSlice, map_parts, Sem.run_bind, run_underlying hT.und, Result.andThen_ok, hz, if_neg hlim', if_pos h0, Sem.run_pure, Sem.run_ite]
      rw [show (Array.range (n * d.sz)).map (fun x => (#[] : Array Value)[x % (#[] : Array Value).size]!) = zc.toArray from by rw [h0, ← hzc]; exact Array.eq_empty_of_size_eq_zero (by simp), hfill]
      rfl
    · rw [if_neg h0] at hzc
      simp only [Instr.buildSlice, map_parts, Sem.run_bind, run_underlying hT.und, Result.andThen_ok, hz, if_neg hlim', if_neg h0, hT.zero s.w, Sem.run_pure, Sem.run_ite]
      rw [hzc, hfill]
      rfl
  refine opr_val (t := s.push ds.toArray E) (v := .slice (some ⟨s.w.heap.size, 0, none⟩) n n) (by simp [ho]) (by simp only [execOp, ho, Sem.run_bind, hrun, Result.andThen_ok, Sem.run_pure]; rfl) ⟨he, ⟨some ⟨s.w.heap.size, 0, none⟩, n, by rw [hn], by rw [hn]; exact Nat.le_refl _, hm, fun _ => ⟨_, rfl, ?_⟩⟩, _, rfl⟩
  refine row_of hl (fun j u hu => ?_) fun i x hi => d.mono he.le (hd i x hi)
  rw [add_plain, Nat.zero_add, St.push_cell]
  simpa using hu
end
end
section
section
variable {P : Program} {ro : Option Nat} {ops : Array Oper} {o : Oper} {a : Act} {s : St} {f : Fact} {K : Value → St → Prop} {Q : Exit → Act → St → Prop}
theorem wp_condV {c : Operand} {x y : Code} {b : Bool} (hc : kB.V s (a.eval c) b) (ht : b = true → Wp P ro x a s Q) (hf : b = false → Wp P ro y a s Q) : Wp P ro (.cond c x y) a s Q :=
  wp_cond (List.cons.inj hc |>.1) ht hf
def NoGoto (Q : Exit → Act → St → Prop) : Exit → Act → St → Prop
  | .goto _, _, _ => False
  | .normal, a, s => Q .normal a s
  | .exit id, a, s => Q (.exit id) a s
  | .ret, a, s => Q .ret a s
  | .panic c, a, s => Q (.panic c) a s
  | .outgrown, a, s => Q .outgrown a s
theorem wp_scope {c : Code} (h : Wp P ro c a s (NoGoto Q)) : Wp P ro (.scope c) a s Q := by
  intro b k cs hro hb hr
  have h0 : (lone (b.atR a (.code (.scope c) :: k)) cs s.w).fenced P (FN ro) := fenced_calm hb hr rfl
  have s0 : step P (lone (b.atR a (.code (.scope c) :: k)) cs s.w) = .next (lone (b.atR a (.code c :: .inScope c :: k)) cs s.w) := step_lone_go (by simp [stepG, stepG.exec, Frame.atR])
  obtain ⟨e, a₁, w₁, ⟨t, hw, hq⟩, harr⟩ := h b (.inScope c :: k) cs hro hb hr
  have s1 : step P (lone (b.atR a₁ (.inScope c :: k)) cs w₁) = .next (lone (b.atR a₁ k) cs w₁) := step_lone_go (by simp [stepG, stepG.exec, Frame.atR])
  cases e with
  | normal => exact ⟨.normal, a₁, w₁, ⟨t, hw, hq⟩, .head h0 s0 (StepsIn.trans harr (.one (fenced_calm hb hr rfl) s1))⟩
  | exit id =>
    have hx : exitTo id (.inScope c :: k) = exitTo id k := by simp [exitTo]
    exact ⟨.exit id, a₁, w₁, ⟨t, hw, hq⟩, fun k' hk => .head h0 s0 (harr.1 k' (by rw [hx]; exact hk)), fun hr' hk => let ⟨k₁, h1, h2⟩ := harr.2 hr' (by rw [hx]; exact hk); ⟨k₁, h1, .head h0 s0 h2⟩⟩
  | goto l => exact hq.elim
  | ret => exact ⟨_, a₁, w₁, ⟨t, hw, hq⟩, .of_steps (.one h0 s0) harr⟩
  | panic ch => exact ⟨_, a₁, w₁, ⟨t, hw, hq⟩, .of_steps (.one h0 s0) harr⟩
  | outgrown => exact ⟨_, a₁, w₁, ⟨t, hw, hq⟩, .of_steps (.one h0 s0) harr⟩
theorem inBlock_hit {id : Nat} (h : Q .normal a s) : InBlock id Q (.exit id) a s := by simp only [InBlock, if_true]; exact h
theorem inBlock_pass {id id' : Nat} (hne : Nat.beq id' id = false) (h : Q (.exit id') a s) : InBlock id Q (.exit id') a s := by
  have : ¬ id' = id := fun e => by rw [e, Nat.beq_refl] at hne; cases hne
  simp only [InBlock, if_neg this]; exact h
theorem need {α : Type} {c : Prop} [Decidable c] {x : Option α} {r : α} (h : (if c then x else none) = some r) : c ∧ x = some r := by
  by_cases hc : c
  · rw [if_pos hc] at h; exact ⟨hc, h⟩
  · rw [if_neg hc] at h; cases h
theorem ite_t {α : Type} {b : Bool} {x y : Option α} {r : α} (hb : b = true) (h : (if b = true then x else y) = some r) : x = some r := by rwa [if_pos hb] at h
theorem ite_f {α : Type} {b : Bool} {x y : Option α} {r : α} (hb : b = false) (h : (if b = true then x else y) = some r) : y = some r := by rwa [if_neg (by rw [hb]; decide)] at h
theorem V_one {α : Type} {d : Kn α} {v : Value} {x : α} (hd : d.agg = false) (hv : d.V s v x) : d.R s [v] x := by
  unfold Kn.V at hv
  rw [hd] at hv
  exact hv
theorem V_cells1 {α : Type} {d : Kn α} {v : Value} {x : α} (hd : d.agg = false) (hv : d.V s v x) : v.cells = [v].toArray := by
  have h1 := d.one (V_one hd hv) v (by simp)
  cases v <;> first | rfl | (simp [Value.oneCell'] at h1)
theorem V_mk1 {α : Type} {d : Kn α} {v : Value} {x : α} (hd : d.agg = false) (hv : d.R s [v] x) : d.V s v x := by
  unfold Kn.V
  rw [hd]
  exact hv
theorem V_mk {α : Type} {d : Kn α} {es : List Value} {x : α} (hd : d.agg = true) (hv : d.R s es x) : d.V s (.agg es.toArray) x := by
  unfold Kn.V
  rw [hd]
  exact ⟨es, rfl, hv⟩
theorem V_open {α : Type} {d : Kn α} {v : Value} {x : α} (hd : d.agg = true) (hv : d.V s v x) : ∃ es, v = .agg es.toArray ∧ d.R s es x := by
  unfold Kn.V at hv
  rw [hd] at hv
  exact hv
/-- A whole value put into a box. -/
theorem op_box1 {α : Type} {d : Kn α} {T : TypeId} {x : Operand} {y : α} (ho : o.op = .box T x) (hd : d.agg = false) (hv : d.V s (a.eval x) y) (h : ∀ t u, Ext s t → Bx t s.w.heap.size T [u] → d.V t u y → K (.pointer (some ⟨s.w.heap.size, 0, none⟩)) t) : OpR P ro o a s K :=
  op_box ho (V_cells1 hd hv) fun t he hb => h t _ he hb (Kn.V_mono he.le hv)
theorem op_boxn {α : Type} {d : Kn α} {T : TypeId} {x : Operand} {y : α} (ho : o.op = .box T x) (hd : d.agg = true) (hv : d.V s (a.eval x) y) (h : ∀ t es, Ext s t → Bx t s.w.heap.size T es → d.R t es y → K (.pointer (some ⟨s.w.heap.size, 0, none⟩)) t) : OpR P ro o a s K := by
  obtain ⟨es, e, hr⟩ := V_open hd hv
  exact op_box ho (by rw [e]; rfl) fun t he hb => h t es he hb (d.mono he.le hr)
theorem op_storen {α : Type} {d : Kn α} {T : TypeId} {x y : Operand} {b off : Nat} {TB : TypeId} {cs : List Value} {z : α} (ho : o.op = .store T x y) (hT : Ty P T true d.sz) (hd : d.agg = true) (hx : a.eval x = .pointer (some ⟨b, off, none⟩)) (hb : Bx s b TB cs) (hv : d.V s (a.eval y) z) (hl : Nat.ble (off + d.sz) cs.length = true)
    (h : ∀ t es, Chg (· = b) s t → Bx t b TB (wr cs off es) → d.R t es z → K undef t) : OpR P ro o a s K := by
  obtain ⟨es, e, hr⟩ := V_open hd hv
  exact op_store ho hT.size hx hb (by rw [e]; rfl) (d.len hr) (d.one hr) (Nat.le_of_ble_eq_true hl) fun t hc hb' => h t es hc hb' (d.mono hc.le hr)
/-- What lies in a box is loaded. -/
theorem op_load1 {α : Type} {d : Kn α} {T : TypeId} {x : Operand} {b off : Nat} {TB : TypeId} {cs : List Value} {u : Value} {y : α} (ho : o.op = .load T x) (hT : Ty P T false 1) (hx : a.eval x = .pointer (some ⟨b, off, none⟩)) (hb : Bx s b TB cs) (hc : cs[off]? = some u) (hv : d.V s u y) : OpR P ro o a s (Okf s (Fact.v d y)) :=
  op_load_1 ho hT hx hb hc hv
theorem op_loadn {α : Type} {d : Kn α} {T : TypeId} {x : Operand} {b off : Nat} {TB : TypeId} {cs es : List Value} {y : α} (ho : o.op = .load T x) (hT : Ty P T true d.sz) (hd : d.agg = true) (hx : a.eval x = .pointer (some ⟨b, off, none⟩)) (hb : Bx s b TB cs) (hc : (cs.drop off).take d.sz = es) (hv : d.R s es y) : OpR P ro o a s (Okf s (Fact.v d y)) :=
  op_load_n ho hT hx hb hc (d.len hv) (V_mk hd hv)
/-- A place in a box. -/
theorem op_faddr_b {T : TypeId} {f off : Nat} {x : Operand} {b k : Nat} (ho : o.op = .fieldAddr T x f) (hf : FieldAt P T f off) (hx : a.eval x = .pointer (some ⟨b, k, none⟩)) : OpR P ro o a s (Okf s (Fact.eq (.pointer (some ⟨b, k + off, none⟩)))) := by
  have := op_faddr (ro := ro) (s := s) ho hf hx
  rwa [add_plain] at this
theorem results_tmp3' {fn : Func} {t u v : Tmp} (h : fn.results = #[.tmp t, .tmp u, .tmp v]) (tmps : Array Value) (P : Program) (w : World) :
    (results fn tmps).run P w = .ok (.tuple #[tmps.getD t undef, tmps.getD u undef, tmps.getD v undef]) w := by simp [results, h]
theorem tup1 {f1 : Fact} {u1 : Value} (h1 : f1.φ s u1) : (Fact.tup [f1]).φ s (.tuple #[u1]) := ⟨[u1], rfl, h1, trivial⟩
theorem tup2 {f1 f2 : Fact} {u1 u2 : Value} (h1 : f1.φ s u1) (h2 : f2.φ s u2) : (Fact.tup [f1, f2]).φ s (.tuple #[u1, u2]) := ⟨[u1, u2], rfl, h1, h2, trivial⟩
theorem tup3 {f1 f2 f3 : Fact} {u1 u2 u3 : Value} (h1 : f1.φ s u1) (h2 : f2.φ s u2) (h3 : f3.φ s u3) : (Fact.tup [f1, f2, f3]).φ s (.tuple #[u1, u2, u3]) := ⟨[u1, u2, u3], rfl, h1, h2, h3, trivial⟩
end
end
section
theorem one_of {α : Type} {d : Kn α} {s : St} {cs : List Value} {x : α} (h1 : d.sz = 1) (h2 : d.agg = false) (h : d.R s cs x) : ∃ u, cs = [u] ∧ d.V s u x := by
  have hl := d.len h
  rw [h1] at hl
  match cs, hl with
  | [u], _ => exact ⟨u, rfl, V_mk1 h2 h⟩
theorem Sub.id {α : Type} {d : Kn α} : Sub d d 0 (fun x => x) := fun h => ⟨_, h, fun j u hu => by rw [Nat.zero_add]; exact hu⟩
theorem Sub.fst {α β : Type} {d : Kn α} {e : Kn β} : Sub (kP d e) d 0 Prod.fst := fun ⟨c1, c2, h, h1, _⟩ => ⟨c1, h1, fun j u hu => by
  rw [h, Nat.zero_add, List.getElem?_append_left (List.getElem?_eq_some_iff.1 hu).1]; exact hu⟩
theorem Sub.snd {α β : Type} {d : Kn α} {e : Kn β} : Sub (kP d e) e d.sz Prod.snd := fun ⟨c1, c2, h, h1, h2⟩ => ⟨c2, h2, fun j u hu => by
  rw [h, List.getElem?_append_right (by rw [d.len h1]; omega), d.len h1, Nat.add_sub_cancel_left]; exact hu⟩
theorem Sub.comp {α β γ : Type} {d : Kn α} {e : Kn β} {f : Kn γ} {o1 o2 : Nat} {g1 : α → β} {g2 : β → γ} (h1 : Sub d e o1 g1) (h2 : Sub e f o2 g2) : Sub d f (o1 + o2) (fun x => g2 (g1 x)) := fun h => by
  obtain ⟨es, h3, h4⟩ := h1 h
  obtain ⟨fs, h5, h6⟩ := h2 h3
  exact ⟨fs, h5, fun j u hu => by rw [Nat.add_assoc]; exact h4 _ _ (h6 j u hu)⟩
theorem Sub.map {α β γ : Type} {d : Kn β} {e : Kn γ} {o : Nat} {g : β → γ} (h : Sub d e o g) (f : α → β) : Sub (kM d f) e o (fun x => g (f x)) := fun hr => h hr
theorem V_y2i {s : St} {v : Value} {x : UInt8} (h : kY.V s v x) : (kI .u8).V s v (x.toNat : Int) := ⟨h, byte_in x⟩
theorem V_i2y {s : St} {v : Value} {n : Int} (h : (kI .u8).V s v n) : kY.V s v (UInt8.ofNat n.toNat) := by
  obtain ⟨h1, h2⟩ := h
  unfold inK at h2
  simp [IntKind.min, IntKind.max, IntKind.signed, IntKind.bits] at h2
  have h1 : v = .int .u8 n := List.cons.inj h1 |>.1
  subst h1
  have e : ((UInt8.ofNat n.toNat).toNat : Int) = n := by simp; omega
  show [_] = [_]
  rw [e]
theorem then_exit {K : Act → St → Prop} {Q : Exit → Act → St → Prop} {id : Nat} {a : Act} {s : St} (h : Q (.exit id) a s) : Then K Q (.exit id) a s := h
theorem fact_at {f : Fact} {s s0 : St} {u v : Value} (hv : f.φ s0 v) (he : Ext s0 s) (e : u = v) : f.φ s u := e ▸ f.mono he hv
structure Dot where
  who : Str
  n : Int
  deriving DecidableEq, Inhabited
def kDot : Kn Dot := kM (kP kS (kI .i64)) (fun x => (x.who, x.n))
theorem kDot_open {s : St} {es : List Value} {x : Dot} (h : kDot.R s es x) : ∃ u0 u1, es = [u0, u1] ∧ kS.V s u0 x.who ∧ (kI .i64).V s u1 x.n := by
  obtain ⟨e0, r0, rfl, h0, h1⟩ := h
  obtain ⟨u0, rfl, g0⟩ := one_of rfl rfl h0
  obtain ⟨u1, rfl, g1⟩ := one_of rfl rfl h1
  exact ⟨u0, u1, rfl, g0, g1⟩
theorem kDot_close {s : St} {u0 : Value} {t0 : Str} {u1 : Value} {t1 : Int} (g0 : kS.V s u0 t0) (g1 : (kI .i64).V s u1 t1) : kDot.R s [u0, u1] (⟨t0, t1⟩ : Dot) :=
  ⟨[u0], [u1], rfl, V_one rfl g0, V_one rfl g1⟩
theorem kDot_eta {s : St} {u0 : Value} {u1 : Value} {x : Dot} (g0 : kS.V s u0 x.who) (g1 : (kI .i64).V s u1 x.n) : kDot.R s [u0, u1] x :=
  kDot_close g0 g1
theorem kDot_s0 : Sub kDot kS 0 (fun x => x.who) := Sub.map Sub.fst _
theorem kDot_s1 : Sub kDot (kI .i64) 1 (fun x => x.n) := Sub.map (Sub.comp Sub.snd Sub.id) _
structure Op where
  dot : Dot
  deps : (List Dot)
  cart : Str
  kind : Int
  item : Str
  qty : Int
  seen : (List Dot)
  deriving DecidableEq, Inhabited
def kOp : Kn Op := kM (kP kDot (kP (kSl kDot) (kP kS (kP (kI .i64) (kP kS (kP (kI .i64) (kSl kDot))))))) (fun x => (x.dot, x.deps, x.cart, x.kind, x.item, x.qty, x.seen))
theorem kOp_open {s : St} {es : List Value} {x : Op} (h : kOp.R s es x) : ∃ u0 u1 u2 u3 u4 u5 u6 u7, es = [u0, u1, u2, u3, u4, u5, u6, u7] ∧ kS.V s u0 x.dot.who ∧ (kI .i64).V s u1 x.dot.n ∧ (kSl kDot).V s u2 x.deps ∧ kS.V s u3 x.cart ∧ (kI .i64).V s u4 x.kind ∧ kS.V s u5 x.item ∧ (kI .i64).V s u6 x.qty ∧ (kSl kDot).V s u7 x.seen := by
  obtain ⟨e0, r0, rfl, h0, ⟨e1, r1, rfl, h1, ⟨e2, r2, rfl, h2, ⟨e3, r3, rfl, h3, ⟨e4, r4, rfl, h4, ⟨e5, r5, rfl, h5, h6⟩⟩⟩⟩⟩⟩ := h
  obtain ⟨u0, u1, rfl, g0, g1⟩ := kDot_open h0
  obtain ⟨u2, rfl, g2⟩ := one_of rfl rfl h1
  obtain ⟨u3, rfl, g3⟩ := one_of rfl rfl h2
  obtain ⟨u4, rfl, g4⟩ := one_of rfl rfl h3
  obtain ⟨u5, rfl, g5⟩ := one_of rfl rfl h4
  obtain ⟨u6, rfl, g6⟩ := one_of rfl rfl h5
  obtain ⟨u7, rfl, g7⟩ := one_of rfl rfl h6
  exact ⟨u0, u1, u2, u3, u4, u5, u6, u7, rfl, g0, g1, g2, g3, g4, g5, g6, g7⟩
theorem kOp_close {s : St} {u0 : Value} {t0 : Str} {u1 : Value} {t1 : Int} {u2 : Value} {t2 : (List Dot)} {u3 : Value} {t3 : Str} {u4 : Value} {t4 : Int} {u5 : Value} {t5 : Str} {u6 : Value} {t6 : Int} {u7 : Value} {t7 : (List Dot)} (g0 : kS.V s u0 t0) (g1 : (kI .i64).V s u1 t1) (g2 : (kSl kDot).V s u2 t2) (g3 : kS.V s u3 t3) (g4 : (kI .i64).V s u4 t4) (g5 : kS.V s u5 t5) (g6 : (kI .i64).V s u6 t6) (g7 : (kSl kDot).V s u7 t7) : kOp.R s [u0, u1, u2, u3, u4, u5, u6, u7] (⟨(⟨t0, t1⟩ : Dot), t2, t3, t4, t5, t6, t7⟩ : Op) :=
  ⟨[u0, u1], [u2, u3, u4, u5, u6, u7], rfl, kDot_close g0 g1, ⟨[u2], [u3, u4, u5, u6, u7], rfl, V_one rfl g2, ⟨[u3], [u4, u5, u6, u7], rfl, V_one rfl g3, ⟨[u4], [u5, u6, u7], rfl, V_one rfl g4, ⟨[u5], [u6, u7], rfl, V_one rfl g5, ⟨[u6], [u7], rfl, V_one rfl g6, V_one rfl g7⟩⟩⟩⟩⟩⟩
theorem kOp_eta {s : St} {u0 : Value} {u1 : Value} {u2 : Value} {u3 : Value} {u4 : Value} {u5 : Value} {u6 : Value} {u7 : Value} {x : Op} (g0 : kS.V s u0 x.dot.who) (g1 : (kI .i64).V s u1 x.dot.n) (g2 : (kSl kDot).V s u2 x.deps) (g3 : kS.V s u3 x.cart) (g4 : (kI .i64).V s u4 x.kind) (g5 : kS.V s u5 x.item) (g6 : (kI .i64).V s u6 x.qty) (g7 : (kSl kDot).V s u7 x.seen) : kOp.R s [u0, u1, u2, u3, u4, u5, u6, u7] x :=
  kOp_close g0 g1 g2 g3 g4 g5 g6 g7
structure Frame where
  kind : Int
  src : Str
  dst : Str
  cart : Str
  session : Int
  index : Int
  many : Int
  known : (List Dot)
  ops : (List Op)
  deriving DecidableEq, Inhabited
def kFrame : Kn Frame := kM (kP (kI .i64) (kP kS (kP kS (kP kS (kP (kI .i64) (kP (kI .i64) (kP (kI .i64) (kP (kSl kDot) (kSl kOp))))))))) (fun x => (x.kind, x.src, x.dst, x.cart, x.session, x.index, x.many, x.known, x.ops))
theorem kFrame_open {s : St} {es : List Value} {x : Frame} (h : kFrame.R s es x) : ∃ u0 u1 u2 u3 u4 u5 u6 u7 u8, es = [u0, u1, u2, u3, u4, u5, u6, u7, u8] ∧ (kI .i64).V s u0 x.kind ∧ kS.V s u1 x.src ∧ kS.V s u2 x.dst ∧ kS.V s u3 x.cart ∧ (kI .i64).V s u4 x.session ∧ (kI .i64).V s u5 x.index ∧ (kI .i64).V s u6 x.many ∧ (kSl kDot).V s u7 x.known ∧ (kSl kOp).V s u8 x.ops := by
  obtain ⟨e0, r0, rfl, h0, ⟨e1, r1, rfl, h1, ⟨e2, r2, rfl, h2, ⟨e3, r3, rfl, h3, ⟨e4, r4, rfl, h4, ⟨e5, r5, rfl, h5, ⟨e6, r6, rfl, h6, ⟨e7, r7, rfl, h7, h8⟩⟩⟩⟩⟩⟩⟩⟩ := h
  obtain ⟨u0, rfl, g0⟩ := one_of rfl rfl h0
  obtain ⟨u1, rfl, g1⟩ := one_of rfl rfl h1
  obtain ⟨u2, rfl, g2⟩ := one_of rfl rfl h2
  obtain ⟨u3, rfl, g3⟩ := one_of rfl rfl h3
  obtain ⟨u4, rfl, g4⟩ := one_of rfl rfl h4
  obtain ⟨u5, rfl, g5⟩ := one_of rfl rfl h5
  obtain ⟨u6, rfl, g6⟩ := one_of rfl rfl h6
  obtain ⟨u7, rfl, g7⟩ := one_of rfl rfl h7
  obtain ⟨u8, rfl, g8⟩ := one_of rfl rfl h8
  exact ⟨u0, u1, u2, u3, u4, u5, u6, u7, u8, rfl, g0, g1, g2, g3, g4, g5, g6, g7, g8⟩
theorem kFrame_close {s : St} {u0 : Value} {t0 : Int} {u1 : Value} {t1 : Str} {u2 : Value} {t2 : Str} {u3 : Value} {t3 : Str} {u4 : Value} {t4 : Int} {u5 : Value} {t5 : Int} {u6 : Value} {t6 : Int} {u7 : Value} {t7 : (List Dot)} {u8 : Value} {t8 : (List Op)} (g0 : (kI .i64).V s u0 t0) (g1 : kS.V s u1 t1) (g2 : kS.V s u2 t2) (g3 : kS.V s u3 t3) (g4 : (kI .i64).V s u4 t4) (g5 : (kI .i64).V s u5 t5) (g6 : (kI .i64).V s u6 t6) (g7 : (kSl kDot).V s u7 t7) (g8 : (kSl kOp).V s u8 t8) : kFrame.R s [u0, u1, u2, u3, u4, u5, u6, u7, u8] (⟨t0, t1, t2, t3, t4, t5, t6, t7, t8⟩ : Frame) :=
  ⟨[u0], [u1, u2, u3, u4, u5, u6, u7, u8], rfl, V_one rfl g0, ⟨[u1], [u2, u3, u4, u5, u6, u7, u8], rfl, V_one rfl g1, ⟨[u2], [u3, u4, u5, u6, u7, u8], rfl, V_one rfl g2, ⟨[u3], [u4, u5, u6, u7, u8], rfl, V_one rfl g3, ⟨[u4], [u5, u6, u7, u8], rfl, V_one rfl g4, ⟨[u5], [u6, u7, u8], rfl, V_one rfl g5, ⟨[u6], [u7, u8], rfl, V_one rfl g6, ⟨[u7], [u8], rfl, V_one rfl g7, V_one rfl g8⟩⟩⟩⟩⟩⟩⟩⟩
theorem kFrame_eta {s : St} {u0 : Value} {u1 : Value} {u2 : Value} {u3 : Value} {u4 : Value} {u5 : Value} {u6 : Value} {u7 : Value} {u8 : Value} {x : Frame} (g0 : (kI .i64).V s u0 x.kind) (g1 : kS.V s u1 x.src) (g2 : kS.V s u2 x.dst) (g3 : kS.V s u3 x.cart) (g4 : (kI .i64).V s u4 x.session) (g5 : (kI .i64).V s u5 x.index) (g6 : (kI .i64).V s u6 x.many) (g7 : (kSl kDot).V s u7 x.known) (g8 : (kSl kOp).V s u8 x.ops) : kFrame.R s [u0, u1, u2, u3, u4, u5, u6, u7, u8] x :=
  kFrame_close g0 g1 g2 g3 g4 g5 g6 g7 g8
structure Reader where
  b : (List UInt8)
  at_ : Int
  bad : Bool
  deriving DecidableEq, Inhabited
structure Taker8 where
  b : (List UInt8)
  at_ : Int
  ok : Bool
  deriving DecidableEq, Inhabited
structure Taker14 where
  b : (List UInt8)
  at_ : Int
  ok : Bool
  deriving DecidableEq, Inhabited
end
section
/-- The block of the room behind a slice. -/
def sb : Value → Option Nat
  | .slice (some ⟨g, 0, none⟩) n c => if n < c then some g else none
  | _ => none
abbrev Sp (s : St) (v : Value) (E : TypeId) (sz : Nat) : Prop := Spare s v E sz 0
theorem Sp.split {s : St} {v : Value} {E : TypeId} {sz B : Nat} (h : Spare s v E sz B) : (∃ A n, v = .slice A n n ∧ n ≤ maxLen) ∨ ∃ g n c, v = .slice (some ⟨g, 0, none⟩) n c ∧ n < c ∧ B ≤ g ∧ g < s.w.heap.size ∧ sb v = some g := by
  obtain ⟨A, n, c, rfl, h1, h2, h3⟩ := h
  by_cases e : n = c
  · subst e; exact .inl ⟨A, n, rfl, h2⟩
  · rcases h3 with h3 | ⟨g, cur, rfl, h4, h5, h6, h7⟩
    · exact absurd h3 e
    · refine .inr ⟨g, n, c, rfl, by omega, h4, (Array.getElem?_eq_some_iff.1 h5).1, ?_⟩
      simp only [sb]
      rw [if_pos (by omega)]
theorem sb_full (A : Option Addr) (n : Nat) : sb (.slice A n n) = none := by
  unfold sb
  split
  · rename_i h; cases h; rw [if_neg (Nat.lt_irrefl _)]
  · rfl
theorem Spare.low {s : St} {v : Value} {E : TypeId} {sz B g : Nat} (h : Spare s v E sz B) (hg : sb v = some g) : B ≤ g := by
  rcases Sp.split h with ⟨A, n, rfl, _⟩ | ⟨g', n, c, rfl, _, h2, _, h4⟩
  · rw [sb_full] at hg; cases hg
  · rw [h4] at hg; cases hg; exact h2
theorem Spare.lt {s : St} {v : Value} {E : TypeId} {sz B g : Nat} (h : Spare s v E sz B) (hg : sb v = some g) : g < s.w.heap.size := by
  rcases Sp.split h with ⟨A, n, rfl, _⟩ | ⟨g', n, c, rfl, _, _, h3, h4⟩
  · rw [sb_full] at hg; cases hg
  · rw [h4] at hg; cases hg; exact h3
theorem Spare.sp {s : St} {v : Value} {E : TypeId} {sz B : Nat} (h : Spare s v E sz B) : Sp s v E sz := by
  obtain ⟨A, n, c, e, h1, h2, h3⟩ := h
  refine ⟨A, n, c, e, h1, h2, h3.imp id ?_⟩
  rintro ⟨g, cur, h4, h5, h6⟩
  exact ⟨g, cur, h4, Nat.zero_le _, h6⟩
theorem Sp.chg {M : Nat → Prop} {s t : St} {v : Value} {E : TypeId} {sz : Nat} (h : Sp s v E sz) (hc : Chg M s t) (hm : ∀ g, sb v = some g → ¬ M g) : Sp t v E sz := by
  rcases Sp.split h with ⟨A, n, rfl, h1⟩ | ⟨g', n, c, rfl, _, _, _, h4⟩
  · exact Spare.full E sz 0 h1
  · exact Spare.chg h hc fun g hg => hm g (by rw [h4]; exact hg)
theorem Sp.ext {s t : St} {v : Value} {E : TypeId} {sz : Nat} (h : Sp s v E sz) (hc : Ext s t) : Sp t v E sz := Sp.chg h hc fun _ _ hf => hf
theorem Sp_at {M : Nat → Prop} {s t : St} {u v : Value} {E : TypeId} {sz : Nat} (h : Sp s v E sz) (hc : Chg M s t) (hm : ∀ g, sb v = some g → ¬ M g) (e : u = v) : Sp t u E sz := by subst e; exact Sp.chg h hc hm
theorem sb_at {u v : Value} {Q : Nat → Prop} (h : ∀ g, sb v = some g → Q g) (e : u = v) : ∀ g, sb u = some g → Q g := by subst e; exact h
theorem V_eq {α : Type} {d : Kn α} {s : St} {u v : Value} {x : α} (e : u = v) (h : d.V s v x) : d.V s u x := by subst e; exact h
/-- A slice with room of its own. -/
def Fact.own {α : Type} (d : Kn (List α)) (E : TypeId) (sz : Nat) (Q : Nat → Prop) (x : List α) : Fact :=
  ⟨fun s v => d.V s v x ∧ Sp s v E sz ∧ ∀ g, sb v = some g → Q g, fun he h => ⟨Kn.V_mono he.le h.1, Sp.ext h.2.1 he, h.2.2⟩⟩
theorem own_weak {α : Type} {d : Kn (List α)} {E : TypeId} {sz : Nat} {Q Q' : Nat → Prop} {x : List α} {s : St} {v : Value} (h : (Fact.own d E sz Q x).φ s v) (hq : ∀ g, Q g → Q' g) : (Fact.own d E sz Q' x).φ s v := ⟨h.1, h.2.1, fun g hg => hq g (h.2.2 g hg)⟩
theorem own_nil {α : Type} {d : Kn α} {E : TypeId} {sz : Nat} {Q : Nat → Prop} {s : St} : (Fact.own (kSl d) E sz Q ([] : List α)).φ s (.slice none 0 0) :=
  ⟨lit_nil, Spare.nil s E sz 0, fun g hg => by simp [sb] at hg⟩
theorem own_at {α : Type} {d : Kn (List α)} {E : TypeId} {sz : Nat} {Q : Nat → Prop} {x : List α} {s t : St} {u v : Value} (h1 : d.V s v x) (h2 : Sp s v E sz) (h3 : ∀ g, sb v = some g → Q g) (he : Ext s t) (e : u = v) : (Fact.own d E sz Q x).φ t u := by
  subst e; exact ⟨Kn.V_mono he.le h1, Sp.ext h2 he, h3⟩
/-- Places of an aggregate where a slice lies that is nobody's. -/
def NilAt (v : Value) : List Nat → Prop
  | [] => True
  | j :: js => v.cells.toList[j]? = some (.slice none 0 0) ∧ NilAt v js
def Fact.nils {α : Type} (d : Kn α) (x : α) (js : List Nat) : Fact := ⟨fun s v => d.V s v x ∧ NilAt v js, fun he h => ⟨Kn.V_mono he.le h.1, h.2⟩⟩
theorem nilAt_at {u v : Value} {js : List Nat} (h : NilAt v js) (e : u = v) : NilAt u js := by subst e; exact h
theorem nil_sp {s : St} {u : Value} {E : TypeId} {sz : Nat} (h : some u = some (.slice none 0 0)) : Sp s u E sz := by cases h; exact Spare.nil _ _ _ 0
theorem nil_sb {u : Value} (h : some u = some (.slice none 0 0)) : sb u = none := by cases h; rfl
section
variable {P : Program} {ro : Option Nat} {o : Oper} {a : Act} {s : St} {K : Value → St → Prop}
theorem op_boxn' {α : Type} {d : Kn α} {T : TypeId} {x : Operand} {y : α} (ho : o.op = .box T x) (hd : d.agg = true) (hv : d.V s (a.eval x) y) (h : ∀ t es, Ext s t → Bx t s.w.heap.size T es → d.R t es y → a.eval x = .agg es.toArray → K (.pointer (some ⟨s.w.heap.size, 0, none⟩)) t) : OpR P ro o a s K := by
  obtain ⟨es, e, hr⟩ := V_open hd hv
  exact op_box ho (by rw [e]; rfl) fun t he hb => h t es he hb (d.mono he.le hr) e
theorem op_append2 {α : Type} {d : Kn α} {T E : TypeId} {bytes : Nat} {x y : Operand} {xs ys : List α} (ho : o.op = .call { callee := .builtin .append, args := #[x, y], argTypes := #[T, T] }) (hT : ElTy P T E d.sz bytes) (hx : (kSl d).V s (a.eval x) xs) (hsp : Sp s (a.eval x) E d.sz) (hy : (kSl d).V s (a.eval y) ys)
    (hlim : (xs.length + ys.length) * bytes ≤ 140737488355328) (hb0 : Nat.ble 1 bytes = true)
    (h : ∀ v t, Chg (fun b => sb (a.eval x) = some b) s t → (kSl d).V t v (xs ++ ys) → Sp t v E d.sz → (∀ g, sb v = some g → sb (a.eval x) = some g ∨ s.w.heap.size ≤ g) → K v t) : OpR P ro o a s K := by
  have hb0 : 0 < bytes := Nat.le_of_ble_eq_true hb0
  rcases Sp.split hsp with ⟨A, n, e, hn⟩ | ⟨g, n, c, e, hlt, _, hg, hs⟩
  · refine op_append (B := s.w.heap.size) ho hT hx (by rw [e]; exact Spare.full E d.sz _ hn) hy hlim hb0 fun v t hc hv hp _ => ?_
    exact h v t (hc.weak fun k hk hm => absurd hk (Nat.not_lt.2 hm.2)) hv hp.sp fun g hg => .inr (by have := hp.low hg; omega)
  · refine op_append (B := 0) ho hT hx hsp hy hlim hb0 fun v t hc hv hp hor => ?_
    have hob : (a.eval x).ownBlock = some g := by rw [e]; rfl
    refine h v t (hc.weak fun k hk hm => by rw [hs]; rw [hob] at hm; exact hm.1) hv hp.sp fun g' hg' => ?_
    rcases Sp.split hp with ⟨A', n', e', _⟩ | ⟨g2, n', c', e', _, _, _, h4⟩
    · rw [e', sb_full] at hg'; cases hg'
    · rw [h4] at hg'; cases hg'
      have hob' : v.ownBlock = some g' := by rw [e']; rfl
      rw [hob', hob] at hor
      rcases hor with h | h
      · cases h; exact .inl hs
      · cases h; exact .inr (Nat.le_refl _)
end
section
variable {P : Program} {ro : Option Nat} {o : Oper} {a : Act} {s : St} {K : Value → St → Prop}
theorem op_lit_v {α : Type} {d : Kn α} {T E : TypeId} {n : Nat} {z : Value} {zc : List Value} {parts : Array (Nat × Operand)} {ps : List (Nat × List Value)} {ds : List Value} {ys : List α} (ho : o.op = .buildSlice T n parts) (hT : LitTy P T E d.sz z)
    (hzc : (if n * d.sz = 0 then #[] else (Array.range (n * d.sz)).map (z.cells[· % z.cells.size]!)) = zc.toArray) (hv : PartsOk (parts.toList.map fun (i, x) => (i, a.eval x)) ps) (h : fillL (fun i => some (i * d.sz, d.sz)) zc ps = some ds) (hlim : n * d.sz ≤ 16777216)
    (hn : ys.length = n) (hm : n ≤ maxLen) (hl : ds.length = ys.length * d.sz) (hd : ∀ (i : Nat) (x : α), ys[i]? = some x → d.R s ((ds.drop (i * d.sz)).take d.sz) x) : OpR P ro o a s (Okf s (Fact.v (kSl d) ys)) :=
  (op_slice_lit ho hT hzc hv h hlim hn hm hl hd).mono fun v t h => ⟨h.1, h.2.1⟩
theorem op_lit_o {α : Type} {d : Kn α} {T E : TypeId} {n : Nat} {z : Value} {zc : List Value} {parts : Array (Nat × Operand)} {ps : List (Nat × List Value)} {ds : List Value} {ys : List α} {Q : Nat → Prop} (ho : o.op = .buildSlice T n parts) (hT : LitTy P T E d.sz z)
    (hzc : (if n * d.sz = 0 then #[] else (Array.range (n * d.sz)).map (z.cells[· % z.cells.size]!)) = zc.toArray) (hv : PartsOk (parts.toList.map fun (i, x) => (i, a.eval x)) ps) (h : fillL (fun i => some (i * d.sz, d.sz)) zc ps = some ds) (hlim : n * d.sz ≤ 16777216)
    (hn : ys.length = n) (hm : n ≤ maxLen) (hl : ds.length = ys.length * d.sz) (hd : ∀ (i : Nat) (x : α), ys[i]? = some x → d.R s ((ds.drop (i * d.sz)).take d.sz) x) : OpR P ro o a s (Okf s (Fact.own (kSl d) E d.sz Q ys)) :=
  (op_slice_lit ho hT hzc hv h hlim hn hm hl hd).mono fun v t h => by
    obtain ⟨he, hv, A, rfl⟩ := h
    exact ⟨he, hv, Spare.full E d.sz 0 hm, fun g hg => by rw [sb_full] at hg; cases hg⟩
theorem lit_rows0 {α : Type} {d : Kn α} {ds : List Value} : ∀ (i : Nat) (x : α), ([] : List α)[i]? = some x → d.R s ((ds.drop (i * d.sz)).take d.sz) x := fun i x h => by simp at h
theorem lit_rows1 {α : Type} {d : Kn α} {ds : List Value} {y0 : α} (h0 : d.R s ((ds.drop (0 * d.sz)).take d.sz) y0) : ∀ (i : Nat) (x : α), [y0][i]? = some x → d.R s ((ds.drop (i * d.sz)).take d.sz) x
  | 0, _, h => by cases h; exact h0
  | n + 1, _, h => by simp at h
theorem lit_rows2 {α : Type} {d : Kn α} {ds : List Value} {y0 y1 : α} (h0 : d.R s ((ds.drop (0 * d.sz)).take d.sz) y0) (h1 : d.R s ((ds.drop (1 * d.sz)).take d.sz) y1) : ∀ (i : Nat) (x : α), [y0, y1][i]? = some x → d.R s ((ds.drop (i * d.sz)).take d.sz) x
  | 0, _, h => by cases h; exact h0
  | 1, _, h => by cases h; exact h1
  | n + 2, _, h => by simp at h
theorem caps1 {fn : Fn} {x : Operand} {u : Value} (h : a.eval x = u) : Value.func fn ((#[] : Array Operand).map a.eval) (#[x].map a.eval) = .func fn #[] #[u] := by simp [h]
theorem caps2 {fn : Fn} {x y : Operand} {u v : Value} (h : a.eval x = u) (h2 : a.eval y = v) : Value.func fn ((#[] : Array Operand).map a.eval) (#[x, y].map a.eval) = .func fn #[] #[u, v] := by simp [h, h2]
theorem op_nil_e {op : BinOp} {T T' E : TypeId} {x : Operand} {A : Option Addr} {n c : Nat} (hop : op = .eql ∨ op = .neq) (ho : o.op = .binOp op T x (.const (.slice none 0 0)) T') (hT : P.underlying T = some (.slice E)) (ex : a.eval x = .slice A n c) : OpR P ro o a s (Okf s (Fact.v kB (isNil op A.isNone))) := by
  have en : a.eval (.const (.slice none 0 0)) = .slice none 0 0 := rfl
  have hg : (eqGuard op T x (.const (.slice none 0 0)) (.slice A n c) (.slice none 0 0)).run P s.w = .ok () s.w := by rcases hop with rfl | rfl <;> rfl
  refine opr_pure (v := .bool (isNil op A.isNone)) (by simp [ho]) ?_ rfl
  have hr := eql_nil_slice s.w hT A n c
  rcases hop with rfl | rfl
  · have hb : (binOp .eql T (.slice A n c) (.slice none 0 0)).run P s.w = .ok (.bool A.isNone) s.w := by simp only [binOp, Sem.run_bind, hr, Result.andThen_ok, Sem.run_pure]
    simp only [execOp, ho, ex, en, Sem.run_bind, hg, Result.andThen_ok, hb, Sem.run_pure]; rfl
  · have hb : (binOp .neq T (.slice A n c) (.slice none 0 0)).run P s.w = .ok (.bool (!A.isNone)) s.w := by simp only [binOp, Sem.run_bind, hr, Result.andThen_ok, Sem.run_pure]
    simp only [execOp, ho, ex, en, Sem.run_bind, hg, Result.andThen_ok, hb, Sem.run_pure]; rfl
theorem op_store_v {α : Type} {d : Kn α} {T : TypeId} {x y : Operand} {b off : Nat} {TB : TypeId} {cs : List Value} {z : α} (ho : o.op = .store T x y) (hT : Ty P T false 1) (hd : d.agg = false) (hx : a.eval x = .pointer (some ⟨b, off, none⟩)) (hb : Bx s b TB cs) (hv : d.V s (a.eval y) z) (hl : Nat.ble (off + 1) cs.length = true)
    (h : ∀ t, Chg (· = b) s t → Bx t b TB (wr cs off [a.eval y]) → d.V t (a.eval y) z → K undef t) : OpR P ro o a s K :=
  op_store ho hT.size hx hb (V_cells1 hd hv) rfl (fun u hu => by simp at hu; subst hu; exact d.one (V_one hd hv) _ (by simp)) (Nat.le_of_ble_eq_true hl) fun t hc hb' => h t hc hb' (Kn.V_mono hc.le hv)
theorem op_store_e {T : TypeId} {x y : Operand} {b off : Nat} {TB : TypeId} {cs : List Value} {u : Value} (ho : o.op = .store T x y) (hT : Ty P T false 1) (hx : a.eval x = .pointer (some ⟨b, off, none⟩)) (hb : Bx s b TB cs) (hv : a.eval y = u) (hc : u.cells = [u].toArray) (h1 : u.oneCell' = true) (hl : Nat.ble (off + 1) cs.length = true)
    (h : ∀ t, Chg (· = b) s t → Bx t b TB (wr cs off [u]) → K undef t) : OpR P ro o a s K :=
  op_store ho hT.size hx hb (by rw [hv]; exact hc) rfl (fun u' hu => by simp at hu; subst hu; exact h1) (Nat.le_of_ble_eq_true hl) h
theorem op_cut3v {α : Type} {d : Kn α} {T E : TypeId} {x y z : Operand} {xs : List α} {k k' : IntKind} {h : Int} (ho : o.op = .slice T x none (some y) (some z)) (hT : SlTy P T E d.sz) (hx : (kSl d).V s (a.eval x) xs) (hy : (kI k).V s (a.eval y) h) (hz : (kI k').V s (a.eval z) h) (h0 : 0 ≤ h) (h2 : h ≤ xs.length) :
    OpR P ro o a s (Okf s (Fact.v (kSl d) (xs.take h.toNat))) := by
  obtain ⟨n, rfl⟩ := Int.eq_ofNat_of_zero_le h0
  exact (op_cut3 n ho hT hx hy hz (by omega)).mono fun v t h => ⟨h.1, h.2.1⟩
theorem op_call_f {g : FuncId} {args : Array Operand} {ts : Array TypeId} {vs : List Value} {f : Fact} (ho : o.op = .call { callee := .value (.func g), args := args, argTypes := ts }) (hv : args.toList.map a.eval = vs) (h : Cl P g vs.toArray s (Okf s f)) : OpR P ro o a s (Okf s f) := op_call ho hv h
end
/-- Two roads that meet again. -/
theorem wp_condJ {P : Program} {ro : Option Nat} {a : Act} {s : St} {Q : Exit → Act → St → Prop} {I : Act → St → Prop} {c : Operand} {x y : Code} {b : Bool} (hc : kB.V s (a.eval c) b) (ht : (∀ a s, I a s → Q .normal a s) → b = true → Wp P ro x a s Q) (hf : (∀ a s, I a s → Q .normal a s) → b = false → Wp P ro y a s Q)
    (J : ∀ a s, I a s → Q .normal a s) : Wp P ro (.cond c x y) a s Q := wp_condV hc (ht J) (hf J)
theorem argc {u v : Value} {l m : List Value} (h : u = v) (k : l = m) : u :: l = v :: m := by rw [h, k]
/-- What a call hands on that may have turned M. -/
def Okt (M : Nat → Prop) (s : St) (p : St → Value → Prop) : Value → St → Prop := fun v t => Chg M s t ∧ p t v
/-- Box b holds x, by this kind. -/
def Hd {α : Type} (s : St) (b : Nat) (T : TypeId) (d : Kn α) (x : α) : Prop := ∃ es, Bx s b T es ∧ d.R s es x
theorem Hd.chg {α : Type} {M : Nat → Prop} {s t : St} {b : Nat} {T : TypeId} {d : Kn α} {x : α} (h : Hd s b T d x) (hc : Chg M s t) (hm : ¬ M b) : Hd t b T d x := by
  obtain ⟨es, h1, h2⟩ := h
  exact ⟨es, h1.chg hc hm, d.mono hc.le h2⟩
theorem Hd.bd {α : Type} {s : St} {b : Nat} {T : TypeId} {d : Kn α} {x : α} (h : Hd s b T d x) : d.bd x := by
  obtain ⟨es, _, h2⟩ := h
  exact d.bdp h2
theorem Hd.ext {α : Type} {s t : St} {b : Nat} {T : TypeId} {d : Kn α} {x : α} (h : Hd s b T d x) (hc : Ext s t) : Hd t b T d x := h.chg hc fun hf => hf
section
variable {P : Program} {fn : Func} {tmps : Array Value} {s : St} {b : Nat} {T TB : TypeId} {es : List Value}
theorem results_cell {agg : Bool} {c : Tmp} (h : fn.results = #[.cell c T]) (hT : Ty P T agg es.length) (h1 : agg = false → es.length = 1) (hp : tmps.getD c undef = .pointer (some ⟨b, 0, none⟩)) (hb : Bx s b TB es) : (results fn tmps).run P s.w = .ok (if agg then .agg es.toArray else es.headD undef) s.w := by
  have hr := loadVar_run (P := P) (w := s.w) (p := ⟨b, 0, none⟩) hT h1 fun j u hu => by rw [add_plain, hb.cell, Nat.zero_add]; exact hu
  have hp' : tmps[c]?.getD undef = .pointer (some ⟨b, 0, none⟩) := by rw [← hp]; simp [Array.getD_eq_getD_getElem?]
  simp [results, h, hp', hr, asAddr]
  try (rw [List.headD_eq_head?_getD])
theorem results_cell_tmp {agg : Bool} {c u : Tmp} (h : fn.results = #[.cell c T, .tmp u]) (hT : Ty P T agg es.length) (h1 : agg = false → es.length = 1) (hp : tmps.getD c undef = .pointer (some ⟨b, 0, none⟩)) (hb : Bx s b TB es) : (results fn tmps).run P s.w = .ok (.tuple #[if agg then .agg es.toArray else es.headD undef, tmps.getD u undef]) s.w := by
  have hr := loadVar_run (P := P) (w := s.w) (p := ⟨b, 0, none⟩) hT h1 fun j u hu => by rw [add_plain, hb.cell, Nat.zero_add]; exact hu
  have hp' : tmps[c]?.getD undef = .pointer (some ⟨b, 0, none⟩) := by rw [← hp]; simp [Array.getD_eq_getD_getElem?]
  simp [results, h, hp', hr, asAddr]
  try (rw [List.headD_eq_head?_getD])
end
theorem sz {a b : Act} {d N : Nat} (h : a.tmps.size = b.tmps.size) (h0 : b.tmps.size = N) (hd : Nat.ble (d + 1) N = true) : d < a.tmps.size := by rw [h, h0]; exact Nat.le_of_ble_eq_true hd
theorem ol {a b : Bool} (e : (a || b) = false) : a = false := (Bool.or_eq_false_iff.1 e).1
theorem or_ {a b : Bool} (e : (a || b) = false) : b = false := (Bool.or_eq_false_iff.1 e).2
theorem vm {α : Type} {d : Kn α} {M : Nat → Prop} {s t : St} {v : Value} {x : α} (he : Chg M s t) (h : d.V s v x) : d.V t v x := Kn.V_mono he.le h
theorem vm2 {α0 α1 : Type} {d0 : Kn α0} {x0 : α0} {d1 : Kn α1} {x1 : α1} {M : Nat → Prop} {s t : St} {v0 v1 : Value} (he : Chg M s t) (h0 : d0.V s v0 x0) (h1 : d1.V s v1 x1) : d0.V t v0 x0 ∧ d1.V t v1 x1 := ⟨vm he h0, vm he h1⟩
theorem va2 {α0 α1 : Type} {d0 : Kn α0} {x0 : α0} {d1 : Kn α1} {x1 : α1} {M : Nat → Prop} {s t : St} {a a0 : Act} {ds : List Nat} {i0 i1 : Nat} (he : Chg M s t) (hf : ∀ x, isIn x ds = false → a.get x = a0.get x) (h0 : d0.V s (a0.get i0) x0) (h1 : d1.V s (a0.get i1) x1) (e : (isIn i0 ds || isIn i1 ds) = false) : d0.V t (a.get i0) x0 ∧ d1.V t (a.get i1) x1 := ⟨V_eq (hf _ (ol e)) (vm he h0), V_eq (hf _ (or_ e)) (vm he h1)⟩
theorem ea2 {a a0 : Act} {ds : List Nat} {i0 i1 : Nat} {v0 v1 : Value} (hf : ∀ x, isIn x ds = false → a.get x = a0.get x) (h0 : a0.get i0 = v0) (h1 : a0.get i1 = v1) (e : (isIn i0 ds || isIn i1 ds) = false) : a.get i0 = v0 ∧ a.get i1 = v1 := ⟨(hf _ (ol e)).trans h0, (hf _ (or_ e)).trans h1⟩
theorem bx2 {s t : St} {b0 : Nat} {T0 : TypeId} {c0 : List Value} {b1 : Nat} {T1 : TypeId} {c1 : List Value} (he : Ext s t) (h0 : Bx s b0 T0 c0) (h1 : Bx s b1 T1 c1) : Bx t b0 T0 c0 ∧ Bx t b1 T1 c1 := ⟨h0.ext he, h1.ext he⟩
theorem vm3 {α0 α1 α2 : Type} {d0 : Kn α0} {x0 : α0} {d1 : Kn α1} {x1 : α1} {d2 : Kn α2} {x2 : α2} {M : Nat → Prop} {s t : St} {v0 v1 v2 : Value} (he : Chg M s t) (h0 : d0.V s v0 x0) (h1 : d1.V s v1 x1) (h2 : d2.V s v2 x2) : d0.V t v0 x0 ∧ d1.V t v1 x1 ∧ d2.V t v2 x2 := ⟨vm he h0, vm he h1, vm he h2⟩
theorem va3 {α0 α1 α2 : Type} {d0 : Kn α0} {x0 : α0} {d1 : Kn α1} {x1 : α1} {d2 : Kn α2} {x2 : α2} {M : Nat → Prop} {s t : St} {a a0 : Act} {ds : List Nat} {i0 i1 i2 : Nat} (he : Chg M s t) (hf : ∀ x, isIn x ds = false → a.get x = a0.get x) (h0 : d0.V s (a0.get i0) x0) (h1 : d1.V s (a0.get i1) x1) (h2 : d2.V s (a0.get i2) x2) (e : (isIn i0 ds || isIn i1 ds || isIn i2 ds) = false) : d0.V t (a.get i0) x0 ∧ d1.V t (a.get i1) x1 ∧ d2.V t (a.get i2) x2 := ⟨V_eq (hf _ (ol (ol e))) (vm he h0), V_eq (hf _ (or_ (ol e))) (vm he h1), V_eq (hf _ (or_ e)) (vm he h2)⟩
theorem ea3 {a a0 : Act} {ds : List Nat} {i0 i1 i2 : Nat} {v0 v1 v2 : Value} (hf : ∀ x, isIn x ds = false → a.get x = a0.get x) (h0 : a0.get i0 = v0) (h1 : a0.get i1 = v1) (h2 : a0.get i2 = v2) (e : (isIn i0 ds || isIn i1 ds || isIn i2 ds) = false) : a.get i0 = v0 ∧ a.get i1 = v1 ∧ a.get i2 = v2 := ⟨(hf _ (ol (ol e))).trans h0, (hf _ (or_ (ol e))).trans h1, (hf _ (or_ e)).trans h2⟩
theorem bx3 {s t : St} {b0 : Nat} {T0 : TypeId} {c0 : List Value} {b1 : Nat} {T1 : TypeId} {c1 : List Value} {b2 : Nat} {T2 : TypeId} {c2 : List Value} (he : Ext s t) (h0 : Bx s b0 T0 c0) (h1 : Bx s b1 T1 c1) (h2 : Bx s b2 T2 c2) : Bx t b0 T0 c0 ∧ Bx t b1 T1 c1 ∧ Bx t b2 T2 c2 := ⟨h0.ext he, h1.ext he, h2.ext he⟩
theorem vm4 {α0 α1 α2 α3 : Type} {d0 : Kn α0} {x0 : α0} {d1 : Kn α1} {x1 : α1} {d2 : Kn α2} {x2 : α2} {d3 : Kn α3} {x3 : α3} {M : Nat → Prop} {s t : St} {v0 v1 v2 v3 : Value} (he : Chg M s t) (h0 : d0.V s v0 x0) (h1 : d1.V s v1 x1) (h2 : d2.V s v2 x2) (h3 : d3.V s v3 x3) : d0.V t v0 x0 ∧ d1.V t v1 x1 ∧ d2.V t v2 x2 ∧ d3.V t v3 x3 := ⟨vm he h0, vm he h1, vm he h2, vm he h3⟩
theorem va4 {α0 α1 α2 α3 : Type} {d0 : Kn α0} {x0 : α0} {d1 : Kn α1} {x1 : α1} {d2 : Kn α2} {x2 : α2} {d3 : Kn α3} {x3 : α3} {M : Nat → Prop} {s t : St} {a a0 : Act} {ds : List Nat} {i0 i1 i2 i3 : Nat} (he : Chg M s t) (hf : ∀ x, isIn x ds = false → a.get x = a0.get x) (h0 : d0.V s (a0.get i0) x0) (h1 : d1.V s (a0.get i1) x1) (h2 : d2.V s (a0.get i2) x2) (h3 : d3.V s (a0.get i3) x3) (e : (isIn i0 ds || isIn i1 ds || isIn i2 ds || isIn i3 ds) = false) : d0.V t (a.get i0) x0 ∧ d1.V t (a.get i1) x1 ∧ d2.V t (a.get i2) x2 ∧ d3.V t (a.get i3) x3 := ⟨V_eq (hf _ (ol (ol (ol e)))) (vm he h0), V_eq (hf _ (or_ (ol (ol e)))) (vm he h1), V_eq (hf _ (or_ (ol e))) (vm he h2), V_eq (hf _ (or_ e)) (vm he h3)⟩
theorem ea4 {a a0 : Act} {ds : List Nat} {i0 i1 i2 i3 : Nat} {v0 v1 v2 v3 : Value} (hf : ∀ x, isIn x ds = false → a.get x = a0.get x) (h0 : a0.get i0 = v0) (h1 : a0.get i1 = v1) (h2 : a0.get i2 = v2) (h3 : a0.get i3 = v3) (e : (isIn i0 ds || isIn i1 ds || isIn i2 ds || isIn i3 ds) = false) : a.get i0 = v0 ∧ a.get i1 = v1 ∧ a.get i2 = v2 ∧ a.get i3 = v3 := ⟨(hf _ (ol (ol (ol e)))).trans h0, (hf _ (or_ (ol (ol e)))).trans h1, (hf _ (or_ (ol e))).trans h2, (hf _ (or_ e)).trans h3⟩
theorem bx4 {s t : St} {b0 : Nat} {T0 : TypeId} {c0 : List Value} {b1 : Nat} {T1 : TypeId} {c1 : List Value} {b2 : Nat} {T2 : TypeId} {c2 : List Value} {b3 : Nat} {T3 : TypeId} {c3 : List Value} (he : Ext s t) (h0 : Bx s b0 T0 c0) (h1 : Bx s b1 T1 c1) (h2 : Bx s b2 T2 c2) (h3 : Bx s b3 T3 c3) : Bx t b0 T0 c0 ∧ Bx t b1 T1 c1 ∧ Bx t b2 T2 c2 ∧ Bx t b3 T3 c3 := ⟨h0.ext he, h1.ext he, h2.ext he, h3.ext he⟩
theorem vm5 {α0 α1 α2 α3 α4 : Type} {d0 : Kn α0} {x0 : α0} {d1 : Kn α1} {x1 : α1} {d2 : Kn α2} {x2 : α2} {d3 : Kn α3} {x3 : α3} {d4 : Kn α4} {x4 : α4} {M : Nat → Prop} {s t : St} {v0 v1 v2 v3 v4 : Value} (he : Chg M s t) (h0 : d0.V s v0 x0) (h1 : d1.V s v1 x1) (h2 : d2.V s v2 x2) (h3 : d3.V s v3 x3) (h4 : d4.V s v4 x4) : d0.V t v0 x0 ∧ d1.V t v1 x1 ∧ d2.V t v2 x2 ∧ d3.V t v3 x3 ∧ d4.V t v4 x4 := ⟨vm he h0, vm he h1, vm he h2, vm he h3, vm he h4⟩
theorem va5 {α0 α1 α2 α3 α4 : Type} {d0 : Kn α0} {x0 : α0} {d1 : Kn α1} {x1 : α1} {d2 : Kn α2} {x2 : α2} {d3 : Kn α3} {x3 : α3} {d4 : Kn α4} {x4 : α4} {M : Nat → Prop} {s t : St} {a a0 : Act} {ds : List Nat} {i0 i1 i2 i3 i4 : Nat} (he : Chg M s t) (hf : ∀ x, isIn x ds = false → a.get x = a0.get x) (h0 : d0.V s (a0.get i0) x0) (h1 : d1.V s (a0.get i1) x1) (h2 : d2.V s (a0.get i2) x2) (h3 : d3.V s (a0.get i3) x3) (h4 : d4.V s (a0.get i4) x4) (e : (isIn i0 ds || isIn i1 ds || isIn i2 ds || isIn i3 ds || isIn i4 ds) = false) : d0.V t (a.get i0) x0 ∧ d1.V t (a.get i1) x1 ∧ d2.V t (a.get i2) x2 ∧ d3.V t (a.get i3) x3 ∧ d4.V t (a.get i4) x4 := ⟨V_eq (hf _ (ol (ol (ol (ol e))))) (vm he h0), V_eq (hf _ (or_ (ol (ol (ol e))))) (vm he h1), V_eq (hf _ (or_ (ol (ol e)))) (vm he h2), V_eq (hf _ (or_ (ol e))) (vm he h3), V_eq (hf _ (or_ e)) (vm he h4)⟩
theorem ea5 {a a0 : Act} {ds : List Nat} {i0 i1 i2 i3 i4 : Nat} {v0 v1 v2 v3 v4 : Value} (hf : ∀ x, isIn x ds = false → a.get x = a0.get x) (h0 : a0.get i0 = v0) (h1 : a0.get i1 = v1) (h2 : a0.get i2 = v2) (h3 : a0.get i3 = v3) (h4 : a0.get i4 = v4) (e : (isIn i0 ds || isIn i1 ds || isIn i2 ds || isIn i3 ds || isIn i4 ds) = false) : a.get i0 = v0 ∧ a.get i1 = v1 ∧ a.get i2 = v2 ∧ a.get i3 = v3 ∧ a.get i4 = v4 := ⟨(hf _ (ol (ol (ol (ol e))))).trans h0, (hf _ (or_ (ol (ol (ol e))))).trans h1, (hf _ (or_ (ol (ol e)))).trans h2, (hf _ (or_ (ol e))).trans h3, (hf _ (or_ e)).trans h4⟩
theorem bx5 {s t : St} {b0 : Nat} {T0 : TypeId} {c0 : List Value} {b1 : Nat} {T1 : TypeId} {c1 : List Value} {b2 : Nat} {T2 : TypeId} {c2 : List Value} {b3 : Nat} {T3 : TypeId} {c3 : List Value} {b4 : Nat} {T4 : TypeId} {c4 : List Value} (he : Ext s t) (h0 : Bx s b0 T0 c0) (h1 : Bx s b1 T1 c1) (h2 : Bx s b2 T2 c2) (h3 : Bx s b3 T3 c3) (h4 : Bx s b4 T4 c4) : Bx t b0 T0 c0 ∧ Bx t b1 T1 c1 ∧ Bx t b2 T2 c2 ∧ Bx t b3 T3 c3 ∧ Bx t b4 T4 c4 := ⟨h0.ext he, h1.ext he, h2.ext he, h3.ext he, h4.ext he⟩
theorem vm6 {α0 α1 α2 α3 α4 α5 : Type} {d0 : Kn α0} {x0 : α0} {d1 : Kn α1} {x1 : α1} {d2 : Kn α2} {x2 : α2} {d3 : Kn α3} {x3 : α3} {d4 : Kn α4} {x4 : α4} {d5 : Kn α5} {x5 : α5} {M : Nat → Prop} {s t : St} {v0 v1 v2 v3 v4 v5 : Value} (he : Chg M s t) (h0 : d0.V s v0 x0) (h1 : d1.V s v1 x1) (h2 : d2.V s v2 x2) (h3 : d3.V s v3 x3) (h4 : d4.V s v4 x4) (h5 : d5.V s v5 x5) : d0.V t v0 x0 ∧ d1.V t v1 x1 ∧ d2.V t v2 x2 ∧ d3.V t v3 x3 ∧ d4.V t v4 x4 ∧ d5.V t v5 x5 := ⟨vm he h0, vm he h1, vm he h2, vm he h3, vm he h4, vm he h5⟩
theorem va6 {α0 α1 α2 α3 α4 α5 : Type} {d0 : Kn α0} {x0 : α0} {d1 : Kn α1} {x1 : α1} {d2 : Kn α2} {x2 : α2} {d3 : Kn α3} {x3 : α3} {d4 : Kn α4} {x4 : α4} {d5 : Kn α5} {x5 : α5} {M : Nat → Prop} {s t : St} {a a0 : Act} {ds : List Nat} {i0 i1 i2 i3 i4 i5 : Nat} (he : Chg M s t) (hf : ∀ x, isIn x ds = false → a.get x = a0.get x) (h0 : d0.V s (a0.get i0) x0) (h1 : d1.V s (a0.get i1) x1) (h2 : d2.V s (a0.get i2) x2) (h3 : d3.V s (a0.get i3) x3) (h4 : d4.V s (a0.get i4) x4) (h5 : d5.V s (a0.get i5) x5) (e : (isIn i0 ds || isIn i1 ds || isIn i2 ds || isIn i3 ds || isIn i4 ds || isIn i5 ds) = false) : d0.V t (a.get i0) x0 ∧ d1.V t (a.get i1) x1 ∧ d2.V t (a.get i2) x2 ∧ d3.V t (a.get i3) x3 ∧ d4.V t (a.get i4) x4 ∧ d5.V t (a.get i5) x5 := ⟨V_eq (hf _ (ol (ol (ol (ol (ol e)))))) (vm he h0), V_eq (hf _ (or_ (ol (ol (ol (ol e)))))) (vm he h1), V_eq (hf _ (or_ (ol (ol (ol e))))) (vm he h2), V_eq (hf _ (or_ (ol (ol e)))) (vm he h3), V_eq (hf _ (or_ (ol e))) (vm he h4), V_eq (hf _ (or_ e)) (vm he h5)⟩
theorem vm7 {α0 α1 α2 α3 α4 α5 α6 : Type} {d0 : Kn α0} {x0 : α0} {d1 : Kn α1} {x1 : α1} {d2 : Kn α2} {x2 : α2} {d3 : Kn α3} {x3 : α3} {d4 : Kn α4} {x4 : α4} {d5 : Kn α5} {x5 : α5} {d6 : Kn α6} {x6 : α6} {M : Nat → Prop} {s t : St} {v0 v1 v2 v3 v4 v5 v6 : Value} (he : Chg M s t) (h0 : d0.V s v0 x0) (h1 : d1.V s v1 x1) (h2 : d2.V s v2 x2) (h3 : d3.V s v3 x3) (h4 : d4.V s v4 x4) (h5 : d5.V s v5 x5) (h6 : d6.V s v6 x6) : d0.V t v0 x0 ∧ d1.V t v1 x1 ∧ d2.V t v2 x2 ∧ d3.V t v3 x3 ∧ d4.V t v4 x4 ∧ d5.V t v5 x5 ∧ d6.V t v6 x6 := ⟨vm he h0, vm he h1, vm he h2, vm he h3, vm he h4, vm he h5, vm he h6⟩
theorem va7 {α0 α1 α2 α3 α4 α5 α6 : Type} {d0 : Kn α0} {x0 : α0} {d1 : Kn α1} {x1 : α1} {d2 : Kn α2} {x2 : α2} {d3 : Kn α3} {x3 : α3} {d4 : Kn α4} {x4 : α4} {d5 : Kn α5} {x5 : α5} {d6 : Kn α6} {x6 : α6} {M : Nat → Prop} {s t : St} {a a0 : Act} {ds : List Nat} {i0 i1 i2 i3 i4 i5 i6 : Nat} (he : Chg M s t) (hf : ∀ x, isIn x ds = false → a.get x = a0.get x) (h0 : d0.V s (a0.get i0) x0) (h1 : d1.V s (a0.get i1) x1) (h2 : d2.V s (a0.get i2) x2) (h3 : d3.V s (a0.get i3) x3) (h4 : d4.V s (a0.get i4) x4) (h5 : d5.V s (a0.get i5) x5) (h6 : d6.V s (a0.get i6) x6) (e : (isIn i0 ds || isIn i1 ds || isIn i2 ds || isIn i3 ds || isIn i4 ds || isIn i5 ds || isIn i6 ds) = false) : d0.V t (a.get i0) x0 ∧ d1.V t (a.get i1) x1 ∧ d2.V t (a.get i2) x2 ∧ d3.V t (a.get i3) x3 ∧ d4.V t (a.get i4) x4 ∧ d5.V t (a.get i5) x5 ∧ d6.V t (a.get i6) x6 := ⟨V_eq (hf _ (ol (ol (ol (ol (ol (ol e))))))) (vm he h0), V_eq (hf _ (or_ (ol (ol (ol (ol (ol e))))))) (vm he h1), V_eq (hf _ (or_ (ol (ol (ol (ol e)))))) (vm he h2), V_eq (hf _ (or_ (ol (ol (ol e))))) (vm he h3), V_eq (hf _ (or_ (ol (ol e)))) (vm he h4), V_eq (hf _ (or_ (ol e))) (vm he h5), V_eq (hf _ (or_ e)) (vm he h6)⟩
theorem vm8 {α0 α1 α2 α3 α4 α5 α6 α7 : Type} {d0 : Kn α0} {x0 : α0} {d1 : Kn α1} {x1 : α1} {d2 : Kn α2} {x2 : α2} {d3 : Kn α3} {x3 : α3} {d4 : Kn α4} {x4 : α4} {d5 : Kn α5} {x5 : α5} {d6 : Kn α6} {x6 : α6} {d7 : Kn α7} {x7 : α7} {M : Nat → Prop} {s t : St} {v0 v1 v2 v3 v4 v5 v6 v7 : Value} (he : Chg M s t) (h0 : d0.V s v0 x0) (h1 : d1.V s v1 x1) (h2 : d2.V s v2 x2) (h3 : d3.V s v3 x3) (h4 : d4.V s v4 x4) (h5 : d5.V s v5 x5) (h6 : d6.V s v6 x6) (h7 : d7.V s v7 x7) : d0.V t v0 x0 ∧ d1.V t v1 x1 ∧ d2.V t v2 x2 ∧ d3.V t v3 x3 ∧ d4.V t v4 x4 ∧ d5.V t v5 x5 ∧ d6.V t v6 x6 ∧ d7.V t v7 x7 := ⟨vm he h0, vm he h1, vm he h2, vm he h3, vm he h4, vm he h5, vm he h6, vm he h7⟩
theorem va8 {α0 α1 α2 α3 α4 α5 α6 α7 : Type} {d0 : Kn α0} {x0 : α0} {d1 : Kn α1} {x1 : α1} {d2 : Kn α2} {x2 : α2} {d3 : Kn α3} {x3 : α3} {d4 : Kn α4} {x4 : α4} {d5 : Kn α5} {x5 : α5} {d6 : Kn α6} {x6 : α6} {d7 : Kn α7} {x7 : α7} {M : Nat → Prop} {s t : St} {a a0 : Act} {ds : List Nat} {i0 i1 i2 i3 i4 i5 i6 i7 : Nat} (he : Chg M s t) (hf : ∀ x, isIn x ds = false → a.get x = a0.get x) (h0 : d0.V s (a0.get i0) x0) (h1 : d1.V s (a0.get i1) x1) (h2 : d2.V s (a0.get i2) x2) (h3 : d3.V s (a0.get i3) x3) (h4 : d4.V s (a0.get i4) x4) (h5 : d5.V s (a0.get i5) x5) (h6 : d6.V s (a0.get i6) x6) (h7 : d7.V s (a0.get i7) x7) (e : (isIn i0 ds || isIn i1 ds || isIn i2 ds || isIn i3 ds || isIn i4 ds || isIn i5 ds || isIn i6 ds || isIn i7 ds) = false) : d0.V t (a.get i0) x0 ∧ d1.V t (a.get i1) x1 ∧ d2.V t (a.get i2) x2 ∧ d3.V t (a.get i3) x3 ∧ d4.V t (a.get i4) x4 ∧ d5.V t (a.get i5) x5 ∧ d6.V t (a.get i6) x6 ∧ d7.V t (a.get i7) x7 := ⟨V_eq (hf _ (ol (ol (ol (ol (ol (ol (ol e)))))))) (vm he h0), V_eq (hf _ (or_ (ol (ol (ol (ol (ol (ol e)))))))) (vm he h1), V_eq (hf _ (or_ (ol (ol (ol (ol (ol e))))))) (vm he h2), V_eq (hf _ (or_ (ol (ol (ol (ol e)))))) (vm he h3), V_eq (hf _ (or_ (ol (ol (ol e))))) (vm he h4), V_eq (hf _ (or_ (ol (ol e)))) (vm he h5), V_eq (hf _ (or_ (ol e))) (vm he h6), V_eq (hf _ (or_ e)) (vm he h7)⟩
theorem vm9 {α0 α1 α2 α3 α4 α5 α6 α7 α8 : Type} {d0 : Kn α0} {x0 : α0} {d1 : Kn α1} {x1 : α1} {d2 : Kn α2} {x2 : α2} {d3 : Kn α3} {x3 : α3} {d4 : Kn α4} {x4 : α4} {d5 : Kn α5} {x5 : α5} {d6 : Kn α6} {x6 : α6} {d7 : Kn α7} {x7 : α7} {d8 : Kn α8} {x8 : α8} {M : Nat → Prop} {s t : St} {v0 v1 v2 v3 v4 v5 v6 v7 v8 : Value} (he : Chg M s t) (h0 : d0.V s v0 x0) (h1 : d1.V s v1 x1) (h2 : d2.V s v2 x2) (h3 : d3.V s v3 x3) (h4 : d4.V s v4 x4) (h5 : d5.V s v5 x5) (h6 : d6.V s v6 x6) (h7 : d7.V s v7 x7) (h8 : d8.V s v8 x8) : d0.V t v0 x0 ∧ d1.V t v1 x1 ∧ d2.V t v2 x2 ∧ d3.V t v3 x3 ∧ d4.V t v4 x4 ∧ d5.V t v5 x5 ∧ d6.V t v6 x6 ∧ d7.V t v7 x7 ∧ d8.V t v8 x8 := ⟨vm he h0, vm he h1, vm he h2, vm he h3, vm he h4, vm he h5, vm he h6, vm he h7, vm he h8⟩
theorem vm10 {α0 α1 α2 α3 α4 α5 α6 α7 α8 α9 : Type} {d0 : Kn α0} {x0 : α0} {d1 : Kn α1} {x1 : α1} {d2 : Kn α2} {x2 : α2} {d3 : Kn α3} {x3 : α3} {d4 : Kn α4} {x4 : α4} {d5 : Kn α5} {x5 : α5} {d6 : Kn α6} {x6 : α6} {d7 : Kn α7} {x7 : α7} {d8 : Kn α8} {x8 : α8} {d9 : Kn α9} {x9 : α9} {M : Nat → Prop} {s t : St} {v0 v1 v2 v3 v4 v5 v6 v7 v8 v9 : Value} (he : Chg M s t) (h0 : d0.V s v0 x0) (h1 : d1.V s v1 x1) (h2 : d2.V s v2 x2) (h3 : d3.V s v3 x3) (h4 : d4.V s v4 x4) (h5 : d5.V s v5 x5) (h6 : d6.V s v6 x6) (h7 : d7.V s v7 x7) (h8 : d8.V s v8 x8) (h9 : d9.V s v9 x9) : d0.V t v0 x0 ∧ d1.V t v1 x1 ∧ d2.V t v2 x2 ∧ d3.V t v3 x3 ∧ d4.V t v4 x4 ∧ d5.V t v5 x5 ∧ d6.V t v6 x6 ∧ d7.V t v7 x7 ∧ d8.V t v8 x8 ∧ d9.V t v9 x9 := ⟨vm he h0, vm he h1, vm he h2, vm he h3, vm he h4, vm he h5, vm he h6, vm he h7, vm he h8, vm he h9⟩
theorem vm11 {α0 α1 α2 α3 α4 α5 α6 α7 α8 α9 α10 : Type} {d0 : Kn α0} {x0 : α0} {d1 : Kn α1} {x1 : α1} {d2 : Kn α2} {x2 : α2} {d3 : Kn α3} {x3 : α3} {d4 : Kn α4} {x4 : α4} {d5 : Kn α5} {x5 : α5} {d6 : Kn α6} {x6 : α6} {d7 : Kn α7} {x7 : α7} {d8 : Kn α8} {x8 : α8} {d9 : Kn α9} {x9 : α9} {d10 : Kn α10} {x10 : α10} {M : Nat → Prop} {s t : St} {v0 v1 v2 v3 v4 v5 v6 v7 v8 v9 v10 : Value} (he : Chg M s t) (h0 : d0.V s v0 x0) (h1 : d1.V s v1 x1) (h2 : d2.V s v2 x2) (h3 : d3.V s v3 x3) (h4 : d4.V s v4 x4) (h5 : d5.V s v5 x5) (h6 : d6.V s v6 x6) (h7 : d7.V s v7 x7) (h8 : d8.V s v8 x8) (h9 : d9.V s v9 x9) (h10 : d10.V s v10 x10) : d0.V t v0 x0 ∧ d1.V t v1 x1 ∧ d2.V t v2 x2 ∧ d3.V t v3 x3 ∧ d4.V t v4 x4 ∧ d5.V t v5 x5 ∧ d6.V t v6 x6 ∧ d7.V t v7 x7 ∧ d8.V t v8 x8 ∧ d9.V t v9 x9 ∧ d10.V t v10 x10 := ⟨vm he h0, vm he h1, vm he h2, vm he h3, vm he h4, vm he h5, vm he h6, vm he h7, vm he h8, vm he h9, vm he h10⟩
theorem vm12 {α0 α1 α2 α3 α4 α5 α6 α7 α8 α9 α10 α11 : Type} {d0 : Kn α0} {x0 : α0} {d1 : Kn α1} {x1 : α1} {d2 : Kn α2} {x2 : α2} {d3 : Kn α3} {x3 : α3} {d4 : Kn α4} {x4 : α4} {d5 : Kn α5} {x5 : α5} {d6 : Kn α6} {x6 : α6} {d7 : Kn α7} {x7 : α7} {d8 : Kn α8} {x8 : α8} {d9 : Kn α9} {x9 : α9} {d10 : Kn α10} {x10 : α10} {d11 : Kn α11} {x11 : α11} {M : Nat → Prop} {s t : St} {v0 v1 v2 v3 v4 v5 v6 v7 v8 v9 v10 v11 : Value} (he : Chg M s t) (h0 : d0.V s v0 x0) (h1 : d1.V s v1 x1) (h2 : d2.V s v2 x2) (h3 : d3.V s v3 x3) (h4 : d4.V s v4 x4) (h5 : d5.V s v5 x5) (h6 : d6.V s v6 x6) (h7 : d7.V s v7 x7) (h8 : d8.V s v8 x8) (h9 : d9.V s v9 x9) (h10 : d10.V s v10 x10) (h11 : d11.V s v11 x11) : d0.V t v0 x0 ∧ d1.V t v1 x1 ∧ d2.V t v2 x2 ∧ d3.V t v3 x3 ∧ d4.V t v4 x4 ∧ d5.V t v5 x5 ∧ d6.V t v6 x6 ∧ d7.V t v7 x7 ∧ d8.V t v8 x8 ∧ d9.V t v9 x9 ∧ d10.V t v10 x10 ∧ d11.V t v11 x11 := ⟨vm he h0, vm he h1, vm he h2, vm he h3, vm he h4, vm he h5, vm he h6, vm he h7, vm he h8, vm he h9, vm he h10, vm he h11⟩
section
variable {P : Program} {ro : Option Nat} {o : Oper} {a : Act} {s : St} {ops : Array Oper} {f : Fact}
theorem mv {α : Type} {d : Kn α} {x : Operand} {y : α} (hg : o.guard = none) (ho : o.op = .move x) (h : d.V s (a.eval x) y) : OpW P ro ops o a s (Fact.v d y) := opw hg (op_move_v ho h)
theorem av {α : Type} {d : Kn α} {x : Operand} {y : α} (hg : o.guard = none) (ho : o.op = .assign x) (h : d.V s (a.eval x) y) : OpW P ro ops o a s (Fact.v d y) := opw hg (op_assign_v ho h)
theorem me {x : Operand} {u : Value} (hg : o.guard = none) (ho : o.op = .move x) (h : a.eval x = u) : OpW P ro ops o a s (Fact.eq u) := opw hg (op_move_e ho h)
theorem ae {x : Operand} {u : Value} (hg : o.guard = none) (ho : o.op = .assign x) (h : a.eval x = u) : OpW P ro ops o a s (Fact.eq u) := opw hg (op_assign_e ho h)
theorem fb {T : TypeId} {f off : Nat} {x : Operand} {b k : Nat} (hg : o.guard = none) (ho : o.op = .fieldAddr T x f) (hf : FieldAt P T f off) (hx : a.eval x = .pointer (some ⟨b, k, none⟩)) : OpW P ro ops o a s (Fact.eq (.pointer (some ⟨b, k + off, none⟩))) := opw hg (op_faddr_b ho hf hx)
theorem lo {α : Type} {d : Kn α} {T : TypeId} {x : Operand} {b off : Nat} {TB : TypeId} {cs : List Value} {u : Value} {y : α} (hg : o.guard = none) (ho : o.op = .load T x) (hT : Ty P T false 1) (hx : a.eval x = .pointer (some ⟨b, off, none⟩)) (hb : Bx s b TB cs) (hc : cs[off]? = some u) (hv : d.V s u y) : OpW P ro ops o a s (Fact.v d y) := opw hg (op_load1 ho hT hx hb hc hv)
theorem nk {x : Operand} {p : Addr} (hg : o.guard = none) (ho : o.op = .nilCheck x) (hx : a.eval x = .pointer (some p)) : OpW P ro ops o a s (Fact.eq (.pointer (some p))) := opw hg (op_nilcheck ho hx)
theorem ad {k : IntKind} {t t' : TypeId} {x y : Operand} {m n : Int} (hg : o.guard = none) (ho : o.op = .binOp .add t x y t') (hx : (kI k).V s (a.eval x) m) (hy : (kI k).V s (a.eval y) n) : OpW P ro ops o a s (Fact.v (kI k) (k.wrap (m + n))) := opw hg (op_add ho hx hy)
theorem cv {k k' : IntKind} {t t' : TypeId} {x : Operand} {m : Int} (hg : o.guard = none) (ho : o.op = .convert t t' x) (h1 : P.underlying t = some (.int k)) (h2 : P.underlying t' = some (.int k')) (hx : (kI k).V s (a.eval x) m) : OpW P ro ops o a s (Fact.v (kI k') (k'.wrap m)) := opw hg (op_conv ho h1 h2 hx)
theorem le_ {α : Type} {d : Kn α} {T E : TypeId} {x : Operand} {xs : List α} (hg : o.guard = none) (ho : o.op = .call { callee := .builtin .len, args := #[x], argTypes := #[T] }) (hT : P.underlying T = some (.slice E)) (hx : (kSl d).V s (a.eval x) xs) : OpW P ro ops o a s (Fact.v (kI .i64) (xs.length : Int)) := opw hg (op_len ho hT hx)
theorem mvs {α : Type} {d : Kn α} {y : α} {M : Nat → Prop} {a0 : Act} {s0 : St} {ds : List Nat} {i : Nat} (hg : o.guard = none) (ho : o.op = .move (.tmp i)) (h : d.V s0 (a0.get i) y) (e : isIn i ds = false) (a : Act) (s : St) (he : Chg M s0 s) (hf : ∀ x, isIn x ds = false → a.get x = a0.get x) (hz : a.tmps.size = a0.tmps.size) : OpW P ro ops o a s (Fact.v d y) := mv hg ho (V_eq (hf i e) (vm he h))
theorem avs {α : Type} {d : Kn α} {y : α} {M : Nat → Prop} {a0 : Act} {s0 : St} {ds : List Nat} {i : Nat} (hg : o.guard = none) (ho : o.op = .assign (.tmp i)) (h : d.V s0 (a0.get i) y) (e : isIn i ds = false) (a : Act) (s : St) (he : Chg M s0 s) (hf : ∀ x, isIn x ds = false → a.get x = a0.get x) (hz : a.tmps.size = a0.tmps.size) : OpW P ro ops o a s (Fact.v d y) := av hg ho (V_eq (hf i e) (vm he h))
theorem mes {u : Value} {M : Nat → Prop} {a0 : Act} {s0 : St} {ds : List Nat} {i : Nat} (hg : o.guard = none) (ho : o.op = .move (.tmp i)) (h : a0.get i = u) (e : isIn i ds = false) (a : Act) (s : St) (he : Chg M s0 s) (hf : ∀ x, isIn x ds = false → a.get x = a0.get x) (hz : a.tmps.size = a0.tmps.size) : OpW P ro ops o a s (Fact.eq u) := me hg ho ((hf i e).trans h)
theorem aes {u : Value} {M : Nat → Prop} {a0 : Act} {s0 : St} {ds : List Nat} {i : Nat} (hg : o.guard = none) (ho : o.op = .assign (.tmp i)) (h : a0.get i = u) (e : isIn i ds = false) (a : Act) (s : St) (he : Chg M s0 s) (hf : ∀ x, isIn x ds = false → a.get x = a0.get x) (hz : a.tmps.size = a0.tmps.size) : OpW P ro ops o a s (Fact.eq u) := ae hg ho ((hf i e).trans h)
theorem mvq {α : Type} {d : Kn α} {y : α} {M : Nat → Prop} {a0 : Act} {s0 : St} {ds : List Nat} {i : Nat} (hg : o.guard = none) (ho : o.op = .move (.tmp i)) (a : Act) (s : St) (he : Chg M s0 s) (hf : ∀ x, isIn x ds = false → a.get x = a0.get x) (hz : a.tmps.size = a0.tmps.size) (h : d.V s (a.get i) y) : OpW P ro ops o a s (Fact.v d y) := mv hg ho h
theorem avq {α : Type} {d : Kn α} {y : α} {M : Nat → Prop} {a0 : Act} {s0 : St} {ds : List Nat} {i : Nat} (hg : o.guard = none) (ho : o.op = .assign (.tmp i)) (a : Act) (s : St) (he : Chg M s0 s) (hf : ∀ x, isIn x ds = false → a.get x = a0.get x) (hz : a.tmps.size = a0.tmps.size) (h : d.V s (a.get i) y) : OpW P ro ops o a s (Fact.v d y) := av hg ho h
theorem i0 : (kI .i64).V s (.int .i64 0) 0 := lit_i (by decide)
theorem i1 : (kI .i64).V s (.int .i64 1) 1 := lit_i (by decide)
theorem s_0 : kS.V s (strV []) [] := lit_s (by decide)
theorem b_f : kB.V s (.bool false) false := lit_b
theorem b_t : kB.V s (.bool true) true := lit_b
theorem hdE {x y z : List Deferred} {M : Nat → Prop} {s t u : St} (h1 : x = y) (h : y = z) (E : Chg M s t) (he : Chg M t u) : x = z ∧ Chg M s u := ⟨h1.trans h, E.trans he⟩
theorem wp_sr {id : Nat} {ops : Array Oper} {y : Code} {Q : Exit → Act → St → Prop} (h : Sq P ro ops ops.toList a s (fun a t => Then (fun a t => Wp P ro y a t Q) Q .normal a t)) : Wp P ro (.seq (.region id ops false) y) a s Q := wp_seq (wp_region h)
theorem own_w {α : Type} {d : Kn (List α)} {E : TypeId} {sz : Nat} {x : List α} {s0 s : St} {M M' : Nat → Prop} (he : Chg M s0 s) (v : Value) (t : St) (h : Chg M' s t ∧ (Fact.own d E sz (fun g => s.w.heap.size ≤ g) x).φ t v) : Chg M' s t ∧ (Fact.own d E sz (fun g => s0.w.heap.size ≤ g) x).φ t v := ⟨h.1, own_weak h.2 (fun g hg => Nat.le_trans he.size hg)⟩
theorem an {c y : Operand} {m n : Bool} (hg : o.guard = none) (ho : o.op = .pick c y (.const (.bool false))) (hx : kB.V s (a.eval c) m) (hy : m = true → kB.V s (a.eval y) n) : OpW P ro ops o a s (Fact.v kB (m && n)) := opw hg (op_and_then ho hx hy)
theorem oe {c y : Operand} {m n : Bool} (hg : o.guard = none) (ho : o.op = .pick c (.const (.bool true)) y) (hx : kB.V s (a.eval c) m) (hy : m = false → kB.V s (a.eval y) n) : OpW P ro ops o a s (Fact.v kB (m || n)) := opw hg (op_or_else ho hx hy)
theorem ls {k : IntKind} {t t' : TypeId} {x y : Operand} {m n : Int} (hg : o.guard = none) (ho : o.op = .binOp .lss t x y t') (hx : (kI k).V s (a.eval x) m) (hy : (kI k).V s (a.eval y) n) : OpW P ro ops o a s (Fact.v kB (decide (m < n))) := opw hg (op_lss ho hx hy)
theorem ia {α : Type} {d : Kn α} {k : IntKind} {T E : TypeId} {x y : Operand} {xs : List α} {i : Int} [Inhabited α] (hg : o.guard = none) (ho : o.op = .indexAddr T x y) (hT : SlTy P T E d.sz) (hx : (kSl d).V s (a.eval x) xs) (hy : (kI k).V s (a.eval y) i) (h0 : 0 ≤ i) (h1 : i < xs.length) : OpW P ro ops o a s (Fact.ptr d (xs.getD i.toNat default)) := opw hg (op_iaddr ho hT hx hy h0 h1)
theorem lp {α : Type} {d : Kn α} {T : TypeId} {x : Operand} {y : α} (hg : o.guard = none) (ho : o.op = .load T x) (hT : Ty P T d.agg d.sz) (h1 : d.agg = false → d.sz = 1) (hx : PtrV d s (a.eval x) y) : OpW P ro ops o a s (Fact.v d y) := opw hg (op_load_p ho hT h1 hx)
theorem ld {α : Type} {d : Kn α} {T : TypeId} {x : Operand} {b off : Nat} {TB : TypeId} {cs es : List Value} {y : α} (hg : o.guard = none) (ho : o.op = .load T x) (hT : Ty P T true d.sz) (hd : d.agg = true) (hx : a.eval x = .pointer (some ⟨b, off, none⟩)) (hb : Bx s b TB cs) (hc : (cs.drop off).take d.sz = es) (hv : d.R s es y) : OpW P ro ops o a s (Fact.v d y) := opw hg (op_loadn ho hT hd hx hb hc hv)
theorem eq_ {k : IntKind} {t t' : TypeId} {x y : Operand} {m n : Int} (hg : o.guard = none) (ho : o.op = .binOp .eql t x y t') (hx : (kI k).V s (a.eval x) m) (hy : (kI k).V s (a.eval y) n) : OpW P ro ops o a s (Fact.v kB (decide (m = n))) := opw hg (op_eql ho hx hy)
theorem no_ {t : TypeId} {x : Operand} {m : Bool} (hg : o.guard = none) (ho : o.op = .unOp .not t x) (hx : kB.V s (a.eval x) m) : OpW P ro ops o a s (Fact.v kB (!m)) := opw hg (op_not ho hx)
theorem ne_ {k : IntKind} {t t' : TypeId} {x y : Operand} {m n : Int} (hg : o.guard = none) (ho : o.op = .binOp .neq t x y t') (hx : (kI k).V s (a.eval x) m) (hy : (kI k).V s (a.eval y) n) : OpW P ro ops o a s (Fact.v kB (!decide (m = n))) := opw hg (op_neq ho hx hy)
theorem gt_ {k : IntKind} {t t' : TypeId} {x y : Operand} {m n : Int} (hg : o.guard = none) (ho : o.op = .binOp .gtr t x y t') (hx : (kI k).V s (a.eval x) m) (hy : (kI k).V s (a.eval y) n) : OpW P ro ops o a s (Fact.v kB (decide (n < m))) := opw hg (op_gtr ho hx hy)
theorem lq_ {k : IntKind} {t t' : TypeId} {x y : Operand} {m n : Int} (hg : o.guard = none) (ho : o.op = .binOp .leq t x y t') (hx : (kI k).V s (a.eval x) m) (hy : (kI k).V s (a.eval y) n) : OpW P ro ops o a s (Fact.v kB (decide (m ≤ n))) := opw hg (op_leq ho hx hy)
theorem lns {T : TypeId} {x : Operand} {m : Str} (hg : o.guard = none) (ho : o.op = .call { callee := .builtin .len, args := #[x], argTypes := #[T] }) (hT : P.underlying T = some .string) (hx : kS.V s (a.eval x) m) : OpW P ro ops o a s (Fact.v (kI .i64) (m.length : Int)) := opw hg (op_len_s ho hT hx)
theorem og {j : Nat} {b x : Bool} {oj : Oper} {d : Nat} {a0 : Act} {N : Nat} (hg : o.guard = some (j, b)) (hj : ops[j]? = some oj) (hd : oj.dst = some d) (hz : a.tmps.size = a0.tmps.size) (hz0 : a0.tmps.size = N) (hn : Nat.ble (d + 1) N = true) (hv : kB.V s (a.get d) x) (h : x = b → OpR P ro o a s (Okf s f)) : OpW P ro ops o a s (Fact.guard (x = b) f) := opw_g hg hj hd (sz hz hz0 hn) hv h
theorem pa {s t : St} {u v : Value} {E : TypeId} {sz : Nat} (hc : Ext s t) (h : Sp s v E sz) (e : u = v) : Sp t u E sz := Sp_at h hc (fun _ _ hf => hf) e
theorem px {s t : St} {v : Value} {E : TypeId} {sz : Nat} (hc : Ext s t) (h : Sp s v E sz) : Sp t v E sz := Sp.ext h hc
theorem ogg {G : Prop} {j : Nat} {b x : Bool} {oj : Oper} {d : Nat} {a0 : Act} {N : Nat} (hg : o.guard = some (j, b)) (hj : ops[j]? = some oj) (hd : oj.dst = some d) (hz : a.tmps.size = a0.tmps.size) (hz0 : a0.tmps.size = N) (hn : Nat.ble (d + 1) N = true) (hv : (Fact.guard G (Fact.v kB x)).φ s (a.get d)) (h : G ∧ x = b → OpR P ro o a s (Okf s f)) : OpW P ro ops o a s (Fact.guard (G ∧ x = b) f) := opw_gg hg hj hd (sz hz hz0 hn) hv h
end
end
section
structure SiTy (P : Program) (T : TypeId) : Prop where
  und : ∃ f0 f1 : Field, P.underlying T = some (.struct #[f0, f1]) ∧ (f0.name == "_") = false ∧ (f1.name == "_") = false ∧ f0.offset = 0 ∧ f1.offset = 1 ∧ P.underlying f0.type = some .string ∧ P.underlying f1.type = some (.int .i64) ∧
    (∀ w, (isAgg f0.type).run P w = .ok false w) ∧ (∀ w, (isAgg f1.type).run P w = .ok false w)
  held : P.stoodInHeld T = false
  guard : P.eqGuardType P.depth T = false
theorem equalIn_s {P : Program} {T : TypeId} (h : P.underlying T = some .string) (d : Nat) (a b : ByteArray) (w : World) : (Op.equalIn (d + 1) T (.string a) (.string b)).run P w = .ok (a == b) w := by
  unfold Op.equalIn
  simp [run_underlying h]
theorem equalIn_i {P : Program} {T : TypeId} {k : IntKind} (h : P.underlying T = some (.int k)) (d : Nat) (a b : Int) (w : World) : (Op.equalIn (d + 1) T (.int k a) (.int k b)).run P w = .ok (a == b) w := by
  unfold Op.equalIn
  simp [run_underlying h]
section
variable {P : Program} {ro : Option Nat} {o : Oper} {a : Act} {s : St}
end
end
section
theorem w64 {n : Int} (h0 : -9223372036854775808 ≤ n) (h1 : n < 9223372036854775808) : IntKind.wrap .i64 n = n := by
  simp [IntKind.wrap, IntKind.signed, IntKind.bits]; omega
theorem w64s {n : Nat} (h : n < 9223372036854775807) : IntKind.wrap .i64 ((n : Int) + 1) = (n : Int) + 1 := by
  rw [w64 (by omega) (by omega)]
theorem maxLen_lt : maxLen < 9223372036854775808 := by decide
/-- A loop from above: if it holds at the end, and a round leads from y to y + 1. -/
theorem rounds {p : Nat → Prop} (n : Nat) (h1 : p n) (h2 : ∀ y, y < n → p (y + 1) → p y) : ∀ y, y ≤ n → p y := by
  intro y hy
  obtain ⟨d, rfl⟩ : ∃ d, n = y + d := ⟨n - y, by omega⟩
  clear hy
  induction d generalizing y with
  | zero => exact h1
  | succ d ih =>
    refine h2 y (by omega) (ih (y + 1) ?_ ?_)
    · rw [show y + 1 + d = y + (d + 1) from by omega]; exact h1
    · intro z hz; exact h2 z (by omega)
theorem getD_at {α : Type} {xs : List α} {y : Nat} {d : α} (h : y < xs.length) : xs.getD y d = xs[y] := by
  rw [List.getD_eq_getElem?_getD, List.getElem?_eq_getElem h]; rfl
theorem drop_at {α : Type} {xs : List α} {y : Nat} (d : α) (h : y < xs.length) : xs.drop y = xs.getD y d :: xs.drop (y + 1) := by
  rw [getD_at h, List.drop_eq_getElem_cons h]
theorem byte_nat (c : UInt8) : c.toNat < 256 := c.toNat_lt
theorem inK64 {n : Int} (h : inK .i64 n) : -9223372036854775808 ≤ n ∧ n ≤ 9223372036854775807 := by
  simpa [inK, IntKind.min, IntKind.max, IntKind.signed, IntKind.bits] using h
theorem inKu64 {n : Int} (h : inK .u64 n) : 0 ≤ n ∧ n < 18446744073709551616 := by
  simp [inK, IntKind.min, IntKind.max, IntKind.signed, IntKind.bits] at h; omega
theorem inKu8 {n : Int} (h : inK .u8 n) : 0 ≤ n ∧ n < 256 := by
  simp [inK, IntKind.min, IntKind.max, IntKind.signed, IntKind.bits] at h; omega
end
section
theorem wrap_u8 (n : Nat) : IntKind.wrap .u8 (n : Int) = ((n % 256 : Nat) : Int) := by simp [IntKind.wrap, IntKind.signed, IntKind.bits]
theorem wrap_u32 (n : Nat) : IntKind.wrap .u32 (n : Int) = ((n % 4294967296 : Nat) : Int) := by simp [IntKind.wrap, IntKind.signed, IntKind.bits]
theorem wrap_u64 (n : Nat) : IntKind.wrap .u64 (n : Int) = ((n % 18446744073709551616 : Nat) : Int) := by simp [IntKind.wrap, IntKind.signed, IntKind.bits]
theorem sShr_nat {k : IntKind} (n y : Nat) (h : n < 2 ^ k.bits) : sShr k (n : Int) (y : Int) = ((n / 2 ^ y : Nat) : Int) := by
  unfold sShr
  rw [Int.toNat_natCast, Int.fdiv_eq_ediv_of_nonneg _ (by exact_mod_cast Nat.zero_le _)]
  rcases Nat.le_total y k.bits with h1 | h1
  · rw [Nat.min_eq_left h1]; norm_cast
  · rw [Nat.min_eq_right h1, Nat.div_eq_of_lt (Nat.lt_of_lt_of_le h (Nat.pow_le_pow_right (by omega) h1))]
    have : (n / 2 ^ k.bits : Nat) = 0 := Nat.div_eq_of_lt h
    norm_cast
theorem sShl_nat {k : IntKind} (n y : Nat) (h : y ≤ k.bits) : sShl k (n : Int) (y : Int) = k.wrap ((n * 2 ^ y : Nat) : Int) := by
  unfold sShl
  rw [Int.toNat_natCast, Nat.min_eq_left h]
  norm_cast
theorem ofInt_nat (k n : Nat) (h : n < 2 ^ k) : (BitVec.ofInt k (n : Int)).toNat = n := by
  rw [BitVec.toNat_ofInt]
  have : ((n : Int) % ((2 ^ k : Nat) : Int)) = ((n % 2 ^ k : Nat) : Int) := by norm_cast
  rw [this, Int.toNat_natCast, Nat.mod_eq_of_lt h]
theorem wrap_nat {k : IntKind} (hk : k.signed = false) (n : Nat) : k.wrap (n : Int) = ((n % 2 ^ k.bits : Nat) : Int) := by
  simp [IntKind.wrap, hk]
theorem bAnd_nat {k : IntKind} (hk : k.signed = false) {m n : Nat} (hm : m < 2 ^ k.bits) (hn : n < 2 ^ k.bits) : bAnd k (m : Int) (n : Int) = ((m &&& n : Nat) : Int) := by
  unfold bAnd
  rw [BitVec.toNat_and, ofInt_nat _ _ hm, ofInt_nat _ _ hn, wrap_nat hk, Nat.mod_eq_of_lt (Nat.and_lt_two_pow _ hn)]
theorem bOr_nat {k : IntKind} (hk : k.signed = false) {m n : Nat} (hm : m < 2 ^ k.bits) (hn : n < 2 ^ k.bits) : bOr k (m : Int) (n : Int) = ((m ||| n : Nat) : Int) := by
  unfold bOr
  rw [BitVec.toNat_or, ofInt_nat _ _ hm, ofInt_nat _ _ hn, wrap_nat hk, Nat.mod_eq_of_lt (Nat.or_lt_two_pow hm hn)]
theorem bXor_nat {k : IntKind} (hk : k.signed = false) {m n : Nat} (hm : m < 2 ^ k.bits) (hn : n < 2 ^ k.bits) : bXor k (m : Int) (n : Int) = ((m ^^^ n : Nat) : Int) := by
  unfold bXor
  rw [BitVec.toNat_xor, ofInt_nat _ _ hm, ofInt_nat _ _ hn, wrap_nat hk, Nat.mod_eq_of_lt (Nat.xor_lt_two_pow hm hn)]
/-- How many bits. -/
def bl (n : Nat) : Nat := if n = 0 then 0 else n.log2 + 1
theorem bl_le {n j : Nat} : bl n ≤ j ↔ n < 2 ^ j := by
  unfold bl
  by_cases h : n = 0
  · subst h; simp [Nat.pow_pos]
  · rw [if_neg h, ← Nat.log2_lt h]; omega
theorem bl_div {n j : Nat} (h : 2 ^ j ≤ n) : bl n = j + bl (n / 2 ^ j) := by
  have hp : 0 < 2 ^ j := Nat.pow_pos (by omega)
  have key : ∀ i, bl n ≤ j + i ↔ bl (n / 2 ^ j) ≤ i := fun i => by
    rw [bl_le, bl_le, Nat.div_lt_iff_lt_mul hp, Nat.pow_add, Nat.mul_comm]
  have h1 : j ≤ bl n := by
    rcases Nat.lt_or_ge (bl n) j with h' | h'
    · have := bl_le.1 (Nat.le_refl (bl n))
      have := Nat.lt_of_lt_of_le this (Nat.pow_le_pow_right (show 0 < 2 by omega) (Nat.le_of_lt h'))
      omega
    · exact h'
  have h2 := (key (bl n - j)).1 (by omega)
  have h3 := (key (bl (n / 2 ^ j))).2 (Nat.le_refl _)
  omega
end
section
section
variable {P : Program} {ro : Option Nat} {o : Oper} {a : Act} {s : St} {K : Value → St → Prop}
end
end
section
section
variable {P : Program} {ro : Option Nat} {o : Oper} {a : Act} {s : St} {K : Value → St → Prop}
theorem op_range_s {T : TypeId} {x : Operand} {y : Str} (ho : o.op = .range T x) (hT : P.underlying T = some .string) (hx : kS.V s (a.eval x) y)
    (h : ∀ t, Ext s t → Ob t s.w.heap.size (.stringIter ⟨y.toArray⟩ 0) → K (.pointer (some ⟨s.w.heap.size, 0, none⟩)) t) : OpR P ro o a s K := by
  have ex : a.eval x = .string ⟨y.toArray⟩ := List.cons.inj hx.1 |>.1
  exact opr_val (t := s.alloc (.stringIter ⟨y.toArray⟩ 0)) (v := .pointer (some ⟨s.w.heap.size, 0, none⟩)) (by simp [ho]) (by simp [execOp, ho, Instr.range, run_underlying hT, ex]; rfl) (h _ (s.alloc_ext _) (Ob.new s _))
theorem op_next_more {x : Operand} {b pos : Nat} {y : Str} (ho : o.op = .next x true) (hx : a.eval x = .pointer (some ⟨b, 0, none⟩)) (hb : Ob s b (.stringIter ⟨y.toArray⟩ pos)) (hp : pos < y.length)
    (h : ∀ t, Chg (· = b) s t → Ob t b (.stringIter ⟨y.toArray⟩ (pos + (Utf8.decode ⟨y.toArray⟩ pos).2)) → K (.tuple #[.bool true, .int .i64 (pos : Int), .int .i32 ((Utf8.decode ⟨y.toArray⟩ pos).1 : Int)]) t) : OpR P ro o a s K := by
  have hsz : (⟨y.toArray⟩ : ByteArray).size = y.length := by simp [ByteArray.size]
  have hlt := hb.lt
  exact opr_val (t := s.put b (.stringIter ⟨y.toArray⟩ (pos + (Utf8.decode ⟨y.toArray⟩ pos).2)) hb.free) (by simp [ho]) (by
    have hg : (getObj b).run P s.w = .ok (.stringIter ⟨y.toArray⟩ pos) s.w := by simp [getObj, Sem.run, hb.heap]
    have hs : ∀ o', (setObj b o').run P s.w = .ok () { s.w with heap := s.w.heap.setIfInBounds b o' } := fun o' => by simp [setObj, Sem.run, hb.heap]
    simp only [execOp, ho, Instr.next, hx, Sem.run_bind, hg, Result.andThen_ok, hsz, if_pos hp, hs, Sem.run_pure]
    rfl) (h _ (s.put_chg b _ hb.free) (hb.put _))
theorem op_next_end {x : Operand} {b pos : Nat} {y : Str} (ho : o.op = .next x true) (hx : a.eval x = .pointer (some ⟨b, 0, none⟩)) (hb : Ob s b (.stringIter ⟨y.toArray⟩ pos)) (hp : y.length ≤ pos)
    (h : K (.tuple #[.bool false]) s) : OpR P ro o a s K := by
  have hsz : (⟨y.toArray⟩ : ByteArray).size = y.length := by simp [ByteArray.size]
  have hn : ¬ pos < y.length := by omega
  exact opr_val (t := s) (by simp [ho]) (by
    have hg : (getObj b).run P s.w = .ok (.stringIter ⟨y.toArray⟩ pos) s.w := by simp [getObj, Sem.run, hb.heap]
    simp only [execOp, ho, Instr.next, hx, Sem.run_bind, hg, Result.andThen_ok, hsz, if_neg hn, Sem.run_pure]) h
/-- A call of a function that the runtime holds. -/
theorem op_cmp {g : FuncId} {x y : Operand} {ts : Array TypeId} {u v : Str} (ho : o.op = .call { callee := .value (.func g), args := #[x, y], argTypes := ts }) (hc : ∀ (a b : ByteArray) (w : World), (callFunc g #[.string a, .string b]).run P w = .ok (.value (.int .i64 (Lib.compareBytes a.data.toList b.data.toList))) w) (hx : kS.V s (a.eval x) u) (hy : kS.V s (a.eval y) v) : OpR P ro o a s (Okf s (Fact.v (kI .i64) (Lib.compareBytes u v))) := by
  have ex : a.eval x = .string ⟨u.toArray⟩ := List.cons.inj hx.1 |>.1
  have ey : a.eval y = .string ⟨v.toArray⟩ := List.cons.inj hy.1 |>.1
  have he : a.eval (.func g) = .func (.func g) #[] #[] := rfl
  have hr := hc ⟨u.toArray⟩ ⟨v.toArray⟩ s.w
  have hk : inK .i64 (Lib.compareBytes u v) := by
    have : ∀ u v, Lib.compareBytes u v = -1 ∨ Lib.compareBytes u v = 0 ∨ Lib.compareBytes u v = 1 := by
      intro u
      induction u with
      | nil => intro v; cases v <;> simp [Lib.compareBytes]
      | cons c u ih =>
        intro v
        cases v with
        | nil => simp [Lib.compareBytes]
        | cons d v =>
          simp only [Lib.compareBytes]
          split
          · simp
          · split
            · simp
            · exact ih v
    rcases this u v with h | h | h <;> rw [h] <;> decide
  exact opr_pure (v := .int .i64 (Lib.compareBytes u v)) (by simp [ho]) (by simp [execOp, ho, resolve, he, Deferred.ofValue, ex, ey, invoke, hr]) ⟨rfl, hk⟩
end
theorem rune_at {y : Str} {pos : Nat} (h : pos < y.length) : ((y.getD pos default).toNat < 128 → Utf8.decode ⟨y.toArray⟩ pos = ((y.getD pos default).toNat, 1)) ∧ (128 ≤ (y.getD pos default).toNat → 128 ≤ (Utf8.decode ⟨y.toArray⟩ pos).1) ∧ inK .i32 ((Utf8.decode ⟨y.toArray⟩ pos).1 : Int) := by
  have hsz : pos < (⟨y.toArray⟩ : ByteArray).size := by simpa [ByteArray.size] using h
  have hb : (⟨y.toArray⟩ : ByteArray)[pos]'hsz = y.getD pos default := by rw [getD_at h]; rfl
  refine ⟨fun ha => ?_, fun ha => ?_, ?_⟩
  · have := decode_ascii ⟨y.toArray⟩ pos hsz (by rw [hb]; exact ha)
    rw [hb] at this; exact this
  · exact (decode_high ⟨y.toArray⟩ pos hsz (by rw [hb]; exact ha)).1
  · have := decode_le ⟨y.toArray⟩ pos
    simp [inK, IntKind.min, IntKind.max, IntKind.signed, IntKind.bits]; omega
end
section
def LeF (f : Fact) : Prop := ∀ (s t : St) (v : Value), Le s t → f.φ s v → f.φ t v
theorem leF_v {α : Type} {d : Kn α} {x : α} : LeF (Fact.v d x) := fun _ _ _ h hv => Kn.V_mono h hv
theorem leF_eq {v : Value} : LeF (Fact.eq v) := fun _ _ _ _ h => h
def Fact.tt : Fact := ⟨fun _ _ => True, fun _ _ => trivial⟩
def AllLe (j0 : Nat) : List It → Nat → Prop
  | [], _ => True
  | it :: l, i => (i = j0 ∨ LeF it.f) ∧ AllLe j0 l (i + 1)
theorem allLe_at {j0 : Nat} : ∀ {l : List It} {i j : Nat} {it : It}, AllLe j0 l i → l[j]? = some it → i + j ≠ j0 → LeF it.f
  | [], _, _, _, _, h, _ => by simp at h
  | x :: l, i, 0, it, h, hk, hne => by
    simp at hk; subst hk
    rcases h.1 with h' | h'
    · exact absurd h' hne
    · exact h'
  | x :: l, i, j + 1, it, h, hk, hne => allLe_at (i := i + 1) h.2 (by simpa using hk) (by omega)
section
variable {P : Program} {ro : Option Nat}
/-- What is to be shown of an operation: of the one that turns M, and of the others. -/
def ObM (P : Program) (ro : Option Nat) (ops : Array Oper) (its : List It) (a0 : Act) (s0 : St) (M : Nat → Prop) (J : St → Prop) (turns : Bool) (o : Oper) (it : It) : Prop :=
  match turns with
  | false => ∀ (a : Act) (s : St), Chg M s0 s → (∀ x, isIn x (dsts its) = false → a.get x = a0.get x) → a.tmps.size = a0.tmps.size → Nd its a s (OpW P ro ops o a s it.f) it.need
  | true => o.guard = none ∧ ∀ (a : Act) (s : St), Ext s0 s → (∀ x, isIn x (dsts its) = false → a.get x = a0.get x) → a.tmps.size = a0.tmps.size → Nd its a s (OpR P ro o a s (fun v t => Chg M s t ∧ J t ∧ it.f.φ t (match o.dst with | none => undef | some _ => v))) it.need
def AllObM (P : Program) (ro : Option Nat) (ops : Array Oper) (its : List It) (a0 : Act) (s0 : St) (M : Nat → Prop) (J : St → Prop) (j0 : Nat) : List Oper → List It → Nat → Prop
  | _, [], _ => True
  | [], _ :: _, _ => False
  | o :: l, it :: k, i => ObM P ro ops its a0 s0 M J (Nat.beq i j0) o it ∧ AllObM P ro ops its a0 s0 M J j0 l k (i + 1)
theorem allObM_at {ops : Array Oper} {its : List It} {a0 : Act} {s0 : St} {M : Nat → Prop} {J : St → Prop} {j0 : Nat} {l : List Oper} : ∀ {k : List It} {i j : Nat} {o : Oper} {it : It}, AllObM P ro ops its a0 s0 M J j0 l k i → l[j]? = some o → k[j]? = some it → ObM P ro ops its a0 s0 M J (Nat.beq (i + j) j0) o it := by
  induction l with
  | nil => intro k i j o it _ h; cases h
  | cons x l ih =>
    intro k i j o it h ho hk
    cases k with
    | nil => cases hk
    | cons y k =>
      cases j with
      | zero => simp at ho hk; subst ho hk; exact h.1
      | succ j => have := ih h.2 (by simpa using ho) (by simpa using hk); rwa [show i + 1 + j = i + (j + 1) from by omega] at this
def needOkM (N j0 : Nat) (ds : List Nat) : List Oper → List It → List Nat → Nat → Bool
  | _, [], _, _ => true
  | [], _ :: _, _, _ => false
  | o :: l, it :: k, seen, i => (match o.dst with | some d => Nat.beq d it.d && Nat.ble (it.d + 1) N | none => Nat.ble N it.d && Nat.beq i j0) && !isIn it.d seen && it.need.all (fun j => Nat.ble (j + 1) i && (ds.getD i 0).testBit j) && needOkM N j0 ds l k (it.d :: seen) (i + 1)
def chkDrawM (N j0 : Nat) (ops : List Oper) (its : List It) : Bool :=
  let ds := deps ops [] ops
  onBelow 0 ops && depOk ds 0 ops && needOkM N j0 ds ops its [] 0 && restOk ds its.length ops.length && Nat.ble its.length ops.length && Nat.ble (j0 + 1) its.length
theorem needOkM_at {N j0 : Nat} {ds : List Nat} {l : List Oper} : ∀ {k : List It} {seen : List Nat} {i j : Nat} {o : Oper} {it : It}, needOkM N j0 ds l k seen i = true → l[j]? = some o → k[j]? = some it →
    ((o.dst = some it.d ∧ it.d < N) ∨ (o.dst = none ∧ N ≤ it.d)) ∧ isIn it.d seen = false ∧ ∀ x ∈ it.need, x < i + j ∧ (ds.getD (i + j) 0).testBit x = true := by
  induction l with
  | nil => intro k seen i j o it _ h; cases h
  | cons x l ih =>
    intro k seen i j o it hc ho hk
    cases k with
    | nil => cases hk
    | cons y k =>
      simp only [needOkM, Bool.and_eq_true, Bool.not_eq_true', List.all_eq_true] at hc
      obtain ⟨⟨⟨hdst, hns⟩, hnd⟩, hc⟩ := hc
      cases j with
      | zero =>
        simp at ho hk; subst ho hk
        refine ⟨?_, hns, fun z hz => ⟨by have := Nat.le_of_ble_eq_true (hnd z hz).1; omega, (hnd z hz).2⟩⟩
        cases e : x.dst with
        | none => simp only [e, Bool.and_eq_true] at hdst; exact .inr ⟨rfl, Nat.le_of_ble_eq_true hdst.1⟩
        | some d => simp only [e, Bool.and_eq_true] at hdst; rw [Nat.eq_of_beq_eq_true hdst.1]; exact .inl ⟨rfl, by have := Nat.le_of_ble_eq_true hdst.2; omega⟩
      | succ j =>
        obtain ⟨h1, h3, h4⟩ := ih hc (by simpa using ho) (by simpa using hk)
        refine ⟨h1, ?_, fun z hz => by have := h4 z hz; rw [show i + (j + 1) = i + 1 + j from by omega]; exact this⟩
        simp only [isIn, Bool.or_eq_false_iff] at h3
        exact h3.2
theorem needOkM_none {N j0 : Nat} {ds : List Nat} {l : List Oper} : ∀ {k : List It} {seen : List Nat} {i j : Nat} {o : Oper} {it : It}, needOkM N j0 ds l k seen i = true → l[j]? = some o → k[j]? = some it → o.dst = none → i + j = j0 := by
  induction l with
  | nil => intro k seen i j o it _ h; cases h
  | cons x l ih =>
    intro k seen i j o it hc ho hk he
    cases k with
    | nil => cases hk
    | cons y k =>
      simp only [needOkM, Bool.and_eq_true, Bool.not_eq_true', List.all_eq_true] at hc
      obtain ⟨⟨⟨hdst, hns⟩, hnd⟩, hc⟩ := hc
      cases j with
      | zero =>
        simp at ho; subst ho
        simp only [he, Bool.and_eq_true] at hdst
        exact Nat.eq_of_beq_eq_true hdst.2
      | succ j =>
        have := ih hc (by simpa using ho) (by simpa using hk) he
        omega
theorem needOkM_ne {N j0 : Nat} {ds : List Nat} {l : List Oper} : ∀ {k : List It} {seen : List Nat} {i j j' : Nat} {it it' : It}, needOkM N j0 ds l k seen i = true → k[j]? = some it → k[j']? = some it' → j < j' → it.d ≠ it'.d := by
  have len : ∀ (l : List Oper) (k : List It) (seen : List Nat) (i : Nat), needOkM N j0 ds l k seen i = true → k.length ≤ l.length := by
    intro l
    induction l with
    | nil => intro k _ _ h; cases k with
      | nil => simp
      | cons _ _ => simp [needOkM] at h
    | cons _ l ih => intro k _ _ h; cases k with
      | nil => simp
      | cons _ k => simp only [needOkM, Bool.and_eq_true] at h; have := ih _ _ _ h.2; simp; omega
  induction l with
  | nil => intro k seen i j j' it it' hc hk; cases k with
    | nil => cases hk
    | cons y k => simp [needOkM] at hc
  | cons x l ih =>
    intro k seen i j j' it it' hc hk hk' hjj
    cases k with
    | nil => cases hk
    | cons y k =>
      have hc' := hc
      simp only [needOkM, Bool.and_eq_true, Bool.not_eq_true', List.all_eq_true] at hc
      obtain ⟨⟨⟨hdst, hns⟩, hnd⟩, hc⟩ := hc
      cases j' with
      | zero => omega
      | succ j' =>
        cases j with
        | zero =>
          simp at hk; subst hk
          intro e
          have hj : j' < l.length := by
            have h1 := len _ _ _ _ hc
            have h2 := (List.getElem?_eq_some_iff.1 (show k[j']? = some it' by simpa using hk')).1
            omega
          have := (needOkM_at hc (List.getElem?_eq_getElem hj) (show k[j']? = some it' by simpa using hk')).2.1
          rw [← e] at this
          simp [isIn] at this
        | succ j => exact ih hc (by simpa using hk) (by simpa using hk') (by omega)
theorem put_none (a : Act) (v : Value) : a.put none v = a := rfl
/-- The operations that may come in one order or another. -/
theorem any_preM {ops : List Oper} {its : List It} {a0 : Act} {s0 : St} {M : Nat → Prop} {J : St → Prop} {j0 : Nat} {Q : Exit → Act → World → Prop} {K : Act → St → Prop} (hc : chkDrawM a0.tmps.size j0 ops its = true) (hJ : ∀ s t, J s → Ext s t → J t) (hle0 : AllLe j0 its 0) (hQ : ∀ a t, K a t → Q .normal a t.w)
    (ho : AllObM P ro ops.toArray its a0 s0 M J j0 ops its 0)
    (hK : ∀ a s, Chg M s0 s → J s → (∀ x, isIn x (dsts its) = false → a.get x = a0.get x) → a.tmps.size = a0.tmps.size → a.defers = a0.defers → (∀ (j : Nat) (it : It), its[j]? = some it → it.f.φ s (a.get it.d)) → Sq P ro ops.toArray (ops.drop its.length) a s K) :
    ∀ (fuel : Nat) (l : Array Bool) (a : Act) (s : St), l.size = ops.length → unl l ops.length ≤ fuel → (∀ j, Lst l j → j < its.length) →
      (∀ i o, Lst l i → ops[i]? = some o → ∀ e ∈ o.after.toList, Region.binds .any e = true → Lst l e.on) → ((¬ Lst l j0 → Ext s0 s) ∧ (Lst l j0 → Chg M s0 s ∧ J s)) → (∀ x, isIn x (dsts its) = false → a.get x = a0.get x) → a.tmps.size = a0.tmps.size → a.defers = a0.defers →
      (∀ (j : Nat) (it : It), Lst l j → its[j]? = some it → it.f.φ s (a.get it.d)) → wpAnyIn (FN ro) 0 P .any ops.toArray Q fuel l a s.w := by
  simp only [chkDrawM, Bool.and_eq_true] at hc
  obtain ⟨⟨⟨⟨⟨hb, hd⟩, hn⟩, hr⟩, hle⟩, hj0⟩ := hc
  have hj0 := Nat.le_of_ble_eq_true hj0
  have hle := Nat.le_of_ble_eq_true hle
  intro fuel
  induction fuel with
  | zero =>
    intro l a s hz hu hp hcl he hf hsz hdf hfs
    have hall := unl_zero (Nat.le_zero.1 hu)
    refine any_rest hb hd hr hQ 0 its.length l a s hz (Nat.le_refl _) hle ?_ (fun j hj => ⟨hp j, fun _ => hall j hj⟩) (hK a s (he.2 (hall j0 (by omega))).1 (he.2 (hall j0 (by omega))).2 hf hsz hdf fun j it hit => hfs j it (hall j (by have := (List.getElem?_eq_some_iff.1 hit).1; omega)) hit)
    rcases Nat.lt_or_ge its.length ops.length with h | h
    · have := hp _ (hall its.length h); omega
    · omega
  | succ fuel ih =>
    intro l a s hz hu hp hcl he hf hsz hdf hfs
    by_cases hall : ∀ j, j < its.length → Lst l j
    · refine any_rest hb hd hr hQ (fuel + 1) its.length l a s hz (Nat.le_refl _) hle ?_ (fun j hj => ⟨hp j, fun h => hall j h⟩) (hK a s (he.2 (hall j0 (by omega))).1 (he.2 (hall j0 (by omega))).2 hf hsz hdf fun j it hit => hfs j it (hall j (List.getElem?_eq_some_iff.1 hit).1) hit)
      have : ∀ k, k ≤ ops.length → k - its.length ≤ unl l k := by
        intro k
        induction k with
        | zero => intro _; simp
        | succ k ihk =>
          intro hk
          have := ihk (by omega)
          simp only [unl]
          rcases Nat.lt_or_ge k its.length with h | h
          · omega
          · rw [if_neg (fun hx => by have := hp k hx; omega)]; omega
      have := this ops.length (Nat.le_refl _)
      omega
    · have hex : ∃ j, j < its.length ∧ ¬ Lst l j := by
        refine Classical.byContradiction fun hn => hall fun j hj => Classical.byContradiction fun hx => hn ⟨j, hj, hx⟩
      refine ⟨fun hnil => ?_, fun j hj => ?_⟩
      · exfalso
        obtain ⟨k, ⟨hk, hkl⟩, hmin⟩ := least hex
        have hk' : k < ops.length := by omega
        have : k ∈ Region.ready .any ops.toArray l := by
          refine mem_ready.2 ⟨by simpa using hk', ?_, ops[k], by simp [hk'], ?_⟩
          · unfold Lst at hkl
            rw [Array.getD_eq_getD_getElem?, Array.getElem?_eq_getElem (by omega)]
            rw [Array.getElem?_eq_getElem (by omega)] at hkl
            simpa using hkl
          · intro e hee hbd
            have hon := onBelow_at (i := 0) hb (List.getElem?_eq_getElem hk') e hee hbd
            have : Lst l e.on := Classical.byContradiction fun hx => by have := hmin e.on ⟨by omega, hx⟩; omega
            unfold Lst at this
            simp [Array.getD_eq_getD_getElem?, this]
        rw [hnil] at this; cases this
      · obtain ⟨h1, h2, o, hoo, h3⟩ := mem_ready.1 hj
        have h1 : j < ops.length := by simpa using h1
        have ho' : ops[j]? = some o := by simpa using hoo
        have hnl : ¬ Lst l j := fun h => by unfold Lst at h; simp [Array.getD_eq_getD_getElem?, h] at h2
        have hL3 : ∀ e ∈ o.after.toList, Region.binds .any e = true → Lst l e.on := fun e hee hbd => by
          have := h3 e hee hbd
          have hon := onBelow_at (i := 0) hb ho' e hee hbd
          unfold Lst
          rw [Array.getD_eq_getD_getElem?, Array.getElem?_eq_getElem (by omega)] at this
          rw [Array.getElem?_eq_getElem (by omega)]
          simpa using this
        have hin := dep_in hb hd hcl j o ho' hL3
        have hjm : j < its.length := by
          rcases Nat.lt_or_ge j its.length with h | h
          · exact h
          · exfalso
            obtain ⟨k, hk, hkl⟩ := hex
            refine hkl (hin k (by omega) ?_)
            simp only [restOk, List.all_eq_true, List.mem_range] at hr
            have := hr (j - its.length) (by omega) k (by omega)
            rwa [show its.length + (j - its.length) = j from by omega] at this
        have hit : its[j]? = some its[j] := List.getElem?_eq_getElem hjm
        obtain ⟨hdst, _, hneed⟩ := needOkM_at (i := 0) hn ho' hit
        rw [Nat.zero_add] at hneed
        have hm : Chg M s0 s := by
          by_cases h : Lst l j0
          · exact (he.2 h).1
          · exact Chg.of_ext (he.1 h)
        have hobs := allObM_at ho ho' hit
        rw [Nat.zero_add] at hobs
        have hmem : isIn its[j].d (dsts its) = true := isIn_iff.2 (List.mem_map.2 ⟨_, List.mem_of_getElem? hit, rfl⟩)
        have next : ∀ v t, (∀ (x : Nat) (it : It), Lst l x → x ≠ j → its[x]? = some it → it.f.φ t (a.get it.d)) → its[j].f.φ t (if o.dst = none then a.get its[j].d else v) → ((¬ Lst (l.setIfInBounds j true) j0 → Ext s0 t) ∧ (Lst (l.setIfInBounds j true) j0 → Chg M s0 t ∧ J t)) → wpAnyIn (FN ro) 0 P .any ops.toArray Q fuel (l.setIfInBounds j true) (a.put o.dst v) t.w := by
          intro v t hold hv hrel
          refine ih _ _ t (by simpa using hz) (by have := unl_set_lt l j (by omega) hnl ops.length h1; omega) ?_ ?_ hrel ?_ (by rw [size_put]; exact hsz) (by rw [defers_put]; exact hdf) ?_
          · intro x hx
            rcases (lst_set (by omega) x).1 hx with h | h
            · omega
            · exact hp x h
          · intro x ox hx hox e hee hbd
            rw [lst_set (by omega)]
            rcases (lst_set (by omega) x).1 hx with h | h
            · subst h
              rw [ho'] at hox; cases hox
              exact .inr (hL3 e hee hbd)
            · exact .inr (hcl x ox h hox e hee hbd)
          · intro x hx
            have hne : x ≠ its[j].d := fun e => by rw [e, hmem] at hx; cases hx
            rcases hdst with ⟨e, _⟩ | ⟨e, _⟩
            · rw [e, get_put_ne _ _ _ _ hne]; exact hf x hx
            · rw [e, put_none]; exact hf x hx
          · intro x it' hx hxi
            by_cases hxj : x = j
            · subst hxj
              rw [hit] at hxi; cases hxi
              rcases hdst with ⟨e, hlt⟩ | ⟨e, _⟩
              · rw [e, get_put_eq _ _ _ (by rw [hsz]; exact hlt)]
                rw [if_neg (by rw [e]; simp)] at hv; exact hv
              · rw [e, put_none]; rw [if_pos e] at hv; exact hv
            · have hLx : Lst l x := by
                rcases (lst_set (by omega) x).1 hx with h | h
                · exact absurd h hxj
                · exact h
              have hne : it'.d ≠ its[j].d := by
                rcases Nat.lt_or_gt_of_ne hxj with h | h
                · exact needOkM_ne hn hxi hit h
                · exact (needOkM_ne hn hit hxi h).symm
              rcases hdst with ⟨e, _⟩ | ⟨e, _⟩
              · rw [e, get_put_ne _ _ _ _ hne]; exact hold x it' hLx hxj hxi
              · rw [e, put_none]; exact hold x it' hLx hxj hxi
        by_cases hjj : j = j0
        · subst hjj
          rw [Nat.beq_refl] at hobs
          have hext := he.1 hnl
          have hw := nd_intro (hobs.2 a s hext hf hsz) fun x hx it hxi => hfs x it (hin x (hneed x hx).1 (hneed x hx).2) hxi
          simp only [wpOpIn, hoo]
          rw [if_pos (by simp [Region.wanted, hobs.1])]
          refine hw _ _ fun v t ⟨c1, c2, c3⟩ => next v t (fun x it hx hxj hxi => allLe_at (i := 0) hle0 hxi (by omega) s t _ c1.le (hfs x it hx hxi)) ?_ ⟨fun hh => absurd ((lst_set (by omega) j).2 (.inl rfl)) hh, fun _ => ⟨(Chg.of_ext hext).trans c1, c2⟩⟩
          rcases hdst with ⟨e, _⟩ | ⟨e, hge⟩
          · rw [if_neg (by rw [e]; simp)]
            simp only [e] at c3; exact c3
          · rw [if_pos e]
            simp only [e] at c3
            have : a.get its[j].d = undef := by simp [Act.get, Array.getD_eq_getD_getElem?, Array.getElem?_eq_none (show a.tmps.size ≤ its[j].d by rw [hsz]; exact hge)]
            rw [this]; exact c3
        · have hbf : Nat.beq j j0 = false := by
            cases e : Nat.beq j j0
            · rfl
            · exact absurd (Nat.eq_of_beq_eq_true e) hjj
          rw [hbf] at hobs
          have hw := nd_intro (hobs a s hm hf hsz) fun x hx it hxi => hfs x it (hin x (hneed x hx).1 (hneed x hx).2) hxi
          have hsome : o.dst ≠ none := by
            intro e
            have := needOkM_none hn ho' hit e
            omega
          have rel : ∀ t, Ext s t → ((¬ Lst (l.setIfInBounds j true) j0 → Ext s0 t) ∧ (Lst (l.setIfInBounds j true) j0 → Chg M s0 t ∧ J t)) := fun t het => by
            have hiff : Lst (l.setIfInBounds j true) j0 ↔ Lst l j0 := by
              rw [lst_set (by omega)]
              exact ⟨fun h => h.resolve_left (fun e => hjj e.symm), .inr⟩
            rw [hiff]
            exact ⟨fun h => (he.1 h).trans het, fun h => ⟨(he.2 h).1.trans (Chg.of_ext het), hJ _ _ (he.2 h).2 het⟩⟩
          have go : ∀ v t, Ext s t → its[j].f.φ t v → wpAnyIn (FN ro) 0 P .any ops.toArray Q fuel (l.setIfInBounds j true) (a.put o.dst v) t.w := fun v t het hv =>
            next v t (fun x it hx hxj hxi => it.f.mono het (hfs x it hx hxi)) (by rw [if_neg hsome]; exact hv) (rel t het)
          simp only [wpOpIn, hoo]
          unfold OpW at hw
          split at hw
          · rename_i hww
            rw [if_pos hww]
            exact hw _ _ fun v t ⟨h1, h2⟩ => go v t h1 h2
          · rename_i hww
            rw [if_neg hww]
            exact ⟨fun _ _ => trivial, go _ s (Chg.refl _ _) hw⟩
/-- A region that draws its order, one operation of which turns M. -/
theorem wp_drawM {ops : List Oper} {id : Nat} {a0 : Act} {s0 : St} {M : Nat → Prop} (J : St → Prop) (j0 : Nat) {Q : Exit → Act → St → Prop} (its : List It) (outs : List Nat) {N : Nat} (hm : P.follows .mixedOrders = true) (hN : a0.tmps.size = N) (hc : chkDrawM N j0 ops its = true)
    (hJ : ∀ s t, J s → Ext s t → J t) (hle : AllLe j0 its 0)
    (ho : AllObM P ro ops.toArray its a0 s0 M J j0 ops its 0)
    (hK : ∀ a s, Chg M s0 s → J s → (∀ x, isIn x (dsts its) = false → a.get x = a0.get x) → a.tmps.size = N → a.defers = a0.defers → Nd its a s (Sq P ro ops.toArray (ops.drop its.length) a s (fun a t => Q .normal a t)) outs) : Wp P ro (.region id ops.toArray true) a0 s0 Q := by
  subst hN
  refine wpIn_region_draw fun t => ?_
  simp only [Region.schedule, hm, Bool.true_or, if_true]
  refine wpAnyIn_sound _ t _ _ _ ?_
  have hu : ∀ k, unl (Array.replicate ops.length false) k ≤ k := by
    intro k
    induction k with
    | zero => exact Nat.le_refl _
    | succ k ih => simp only [unl]; split <;> omega
  have hnone : ∀ j, ¬ Lst (Array.replicate ops.length false) j := fun j h => by
    unfold Lst at h
    rw [Array.getElem?_replicate] at h
    split at h <;> cases h
  have he : Ext s0 (s0.drew (s0.w.drawn + 1)) := s0.drew_ext _
  have := any_preM (P := P) (ro := ro) (its := its) (a0 := a0) (s0 := s0) (M := M) (J := J) (j0 := j0) (Q := fun e a w => ∃ t, t.w = w ∧ Q e a t) (K := fun a t => Q .normal a t) hc hJ hle (fun a t h => ⟨t, rfl, h⟩) ho
    (fun a s h1 h1' h2 h3 h4 h5 => nd_intro (hK a s h1 h1' h2 h3 h4) fun j _ it hit => h5 j it hit) ops.toArray.size (Array.replicate ops.toArray.size false) a0 (s0.drew (s0.w.drawn + 1)) (by simp) (by simpa using hu ops.length)
    (fun j h => absurd (by simpa using h) (hnone j)) (fun i o h => absurd (by simpa using h) (hnone i)) ⟨fun _ => he, fun h => absurd (by simpa using h) (hnone j0)⟩ (fun _ _ => rfl) rfl rfl (fun j it h => absurd (by simpa using h) (hnone j))
  exact this
end
end
section
section
variable {P : Program} {ro : Option Nat} {o : Oper} {a : Act} {s : St}
end
/-- A call of yield: a round goes through; then K of what it hands back. -/
def Yd (P : Program) (l : Nat) (args : Array Value) (s : St) (K : Value → St → Prop) : Prop :=
  YieldAt (FN none) 0 P l args s.w fun e w => ∃ v t, e = .returned v ∧ t.w = w ∧ K v t
section
variable {P : Program} {ro : Option Nat} {o : Oper} {a : Act} {s : St}
theorem op_yield {l : Nat} {x : Operand} {args : Array Operand} {ts : Array TypeId} {vs : List Value} {K : Value → St → Prop} (ho : o.op = .call { callee := .value x, args := args, argTypes := ts }) (hx : a.eval x = .func (.yield l) #[] #[]) (hv : args.toList.map a.eval = vs) (h : Yd P l vs.toArray s K) : OpR P ro o a s K := by
  intro next Q hn
  obtain ⟨fn, tmps, assign, body, hy, hr⟩ := h
  refine ⟨fun _ _ => trivial, ?_⟩
  have e : (execOp a.eval o).run P s.w = .ok (.round l fn tmps assign body) s.w := by
    simp only [execOp, ho, resolve, hx, Deferred.ofValue, map_eval, hv, Sem.run_bind, Sem.run_pure, Result.andThen_ok, invoke, Array.empty_append, Array.append_empty, hy]
  rw [Oper.semAt_eq _ _ _ (by simp [ho]), e]
  refine ⟨fun hx => by simp [Fence.wide] at hx, ?_⟩
  have h2 : RoundIn (FN ro) 0 P l fn tmps assign body s.w fun e w => ∃ v t, e = .returned v ∧ t.w = w ∧ K v t := hr
  refine h2.mono ?_
  rintro e w ⟨v, t, rfl, rfl, hK⟩
  exact hn v t hK
end
theorem Yd.mono {P : Program} {l : Nat} {args : Array Value} {s : St} {K K' : Value → St → Prop} (h : Yd P l args s K) (hk : ∀ v t, K v t → K' v t) : Yd P l args s K' := by
  obtain ⟨fn, tmps, assign, body, hy, hr⟩ := h
  exact ⟨fn, tmps, assign, body, hy, hr.mono fun e w ⟨v, t, h1, h2, h3⟩ => ⟨v, t, h1, h2, hk v t h3⟩⟩
abbrev mark (D : Nat) : Deferred := { target := .collected D, args := #[] }
def LeftM (P : Program) (fn : Func) (R : Value → St → Prop) (a : Act) (t : St) : Prop :=
  (a.defers = [] ∧ ∃ v, (results fn a.tmps).run P t.w = .ok v t.w ∧ R v t) ∨
  (∃ D, a.defers = [mark D] ∧ Ob t D (.deferred (some [])) ∧ ∀ t', Chg (· = D) t t' → ∃ v, (results fn a.tmps).run P t'.w = .ok v t'.w ∧ R v t')
def RetM (P : Program) (fn : Func) (R : Value → St → Prop) : Exit → Act → St → Prop
  | .normal, a, t => LeftM P fn R a t
  | .ret, a, t => LeftM P fn R a t
  | _, _, _ => False
theorem leaves_of_left {P : Program} {fn : Func} {R : Value → St → Prop} {a : Act} {t : St} (h : LeftM P fn R a t) : LeavesInM (FN none) 0 P fn a.tmps (fun e w => ∃ v t, e = .returned v ∧ t.w = w ∧ R v t) a.defers .returning t.w := by
  rcases h with ⟨hd, v, hr, hv⟩ | ⟨D, hd, hO, hK⟩
  · rw [hd]; exact ⟨v, hr, v, t, rfl, rfl, hv⟩
  · rw [hd]
    obtain ⟨v, hr, hv⟩ := hK (t.put D (.deferred none) hO.free) (t.put_chg D _ hO.free)
    refine ⟨by simp, .inl ⟨D, _, rfl, run_takeDeferred hO.heap, ?_⟩⟩
    exact ⟨v, hr, v, _, rfl, rfl, hv⟩
theorem cl_of_wpM {P : Program} {f : FuncId} {fn : Func} {c : Code} {args : Array Value} {s : St} {R : Value → St → Prop} (hf : P.funcs[f]? = some fn) (hb : fn.body = some c) (he : Enters P f)
    (h : ∀ a : Act, a.tmps.size = max args.size fn.ntmps → a.defers = [] → (∀ i v, args[i]? = some v → a.get i = v) → Wp P none c a s (RetM P fn R)) : Cl P f args s R := by
  refine ⟨he, callsIn_of_wp_marks hf hb trivial ?_⟩
  refine wpIn_mono (h { tmps := args ++ Array.replicate (fn.ntmps - args.size) undef, defers := [] } (by simp; omega) rfl ?_) ?_
  · intro i v hv
    have hi := (Array.getElem?_eq_some_iff.1 hv).1
    simp [Act.get, Array.getD_eq_getD_getElem?, Array.getElem?_append_left hi, hv]
  · rintro e a w ⟨t, rfl, hR⟩
    cases e with
    | normal => exact leaves_of_left hR
    | ret => exact leaves_of_left hR
    | _ => exact hR.elim
/-- The temporaries of a round. -/
theorem round1 {a : Act} {p : Tmp} {u : Value} {N : Nat} (hN : a.tmps.size = N) (hp : Nat.ble (p + 1) N = true) : (({ tmps := (#[p].zip [u].toArray).foldl (fun tmps (t, a) => tmps.setIfInBounds t a) a.tmps, defers := [] } : Act).tmps.size = N) ∧
    (∀ x, isIn x [p] = false → ({ tmps := (#[p].zip [u].toArray).foldl (fun tmps (t, a) => tmps.setIfInBounds t a) a.tmps, defers := [] } : Act).get x = a.get x) ∧
    ({ tmps := (#[p].zip [u].toArray).foldl (fun tmps (t, a) => tmps.setIfInBounds t a) a.tmps, defers := [] } : Act).get p = u := by
  have hp := Nat.le_of_ble_eq_true hp
  have e : (#[p].zip [u].toArray).foldl (fun tmps (t, a) => tmps.setIfInBounds t a) a.tmps = a.tmps.setIfInBounds p u := by
    have h0 : #[p].zip [u].toArray = #[(p, u)] := by first | rfl | simp [← Array.toList_inj]
    rw [h0]; simp
  rw [e]
  refine ⟨by simpa using hN, fun x hx => ?_, ?_⟩
  · have hne : x ≠ p := fun h => by subst h; simp [isIn] at hx
    simp [Act.get, Array.getD_eq_getD_getElem?, Array.getElem?_setIfInBounds_ne (Ne.symm hne)]
  · simp only [Act.get, Array.getD_eq_getD_getElem?]
    rw [Array.getElem?_setIfInBounds_self_of_lt (by omega)]; rfl
theorem round_wp {P : Program} {ro : Option Nat} {c : Code} {a : Act} {p : Tmp} {u : Value} {N : Nat} {t : St} {Q : Exit → Act → St → Prop} (hN : a.tmps.size = N) (hp : Nat.ble (p + 1) N = true)
    (h : ∀ a' : Act, a'.tmps.size = N → a'.defers = [] → (∀ x, isIn x [p] = false → a'.get x = a.get x) → a'.get p = u → Wp P ro c a' t Q) : Wp P ro c { tmps := (#[p].zip [u].toArray).foldl (fun tmps (t, a) => tmps.setIfInBounds t a) a.tmps, defers := [] } t Q :=
  h _ (round1 hN hp).1 rfl (round1 hN hp).2.1 (round1 hN hp).2.2
theorem done_wp {a : Act} {D : Nat} {t : St} {Q : Exit → Act → St → Prop} (hd : a.defers = []) (h : ∀ a' : Act, a'.tmps.size = a.tmps.size → a'.defers = [mark D] → (∀ x, isIn x [] = false → a'.get x = a.get x) → Q .normal a' t) : Q .normal { a with defers := mark D :: a.defers } t :=
  h _ rfl (by rw [hd]) fun _ _ => rfl
def lcase {τ β : Type} (l : List τ) (e : β) (c : τ → List τ → β) : β := match l with
  | [] => e
  | x :: q => c x q
theorem lcase_nil {τ β : Type} {e : β} {c : τ → List τ → β} {r : β} (h : lcase [] e c = r) : e = r := h
theorem lcase_cons {τ β : Type} {x : τ} {q : List τ} {e : β} {c : τ → List τ → β} {r : β} (h : lcase (x :: q) e c = r) : c x q = r := h
theorem yield_h {τ : Type} {o : Option (List τ)} {v : τ} {r : List τ} (h : o.map (fun q => v :: q) = some r) : ∃ q, r = v :: q ∧ o = some q := by
  cases o with
  | none => cases h
  | some q => cases h; exact ⟨q, rfl, rfl⟩
end
section
structure SOut where
  head : Frame
  pieces : (List (List Op))
  acked : Int
  deriving DecidableEq, Inhabited
def kSOut : Kn SOut := kM (kP kFrame (kP (kSl (kSl kOp)) (kI .i64))) (fun x => (x.head, x.pieces, x.acked))
theorem kSOut_open {s : St} {es : List Value} {x : SOut} (h : kSOut.R s es x) : ∃ u0 u1 u2 u3 u4 u5 u6 u7 u8 u9 u10, es = [u0, u1, u2, u3, u4, u5, u6, u7, u8, u9, u10] ∧ (kI .i64).V s u0 x.head.kind ∧ kS.V s u1 x.head.src ∧ kS.V s u2 x.head.dst ∧ kS.V s u3 x.head.cart ∧ (kI .i64).V s u4 x.head.session ∧ (kI .i64).V s u5 x.head.index ∧ (kI .i64).V s u6 x.head.many ∧ (kSl kDot).V s u7 x.head.known ∧ (kSl kOp).V s u8 x.head.ops ∧ (kSl (kSl kOp)).V s u9 x.pieces ∧ (kI .i64).V s u10 x.acked := by
  obtain ⟨e0, r0, rfl, h0, ⟨e1, r1, rfl, h1, h2⟩⟩ := h
  obtain ⟨u0, u1, u2, u3, u4, u5, u6, u7, u8, rfl, g0, g1, g2, g3, g4, g5, g6, g7, g8⟩ := kFrame_open h0
  obtain ⟨u9, rfl, g9⟩ := one_of rfl rfl h1
  obtain ⟨u10, rfl, g10⟩ := one_of rfl rfl h2
  exact ⟨u0, u1, u2, u3, u4, u5, u6, u7, u8, u9, u10, rfl, g0, g1, g2, g3, g4, g5, g6, g7, g8, g9, g10⟩
theorem kSOut_close {s : St} {u0 : Value} {t0 : Int} {u1 : Value} {t1 : Str} {u2 : Value} {t2 : Str} {u3 : Value} {t3 : Str} {u4 : Value} {t4 : Int} {u5 : Value} {t5 : Int} {u6 : Value} {t6 : Int} {u7 : Value} {t7 : (List Dot)} {u8 : Value} {t8 : (List Op)} {u9 : Value} {t9 : (List (List Op))} {u10 : Value} {t10 : Int} (g0 : (kI .i64).V s u0 t0) (g1 : kS.V s u1 t1) (g2 : kS.V s u2 t2) (g3 : kS.V s u3 t3) (g4 : (kI .i64).V s u4 t4) (g5 : (kI .i64).V s u5 t5) (g6 : (kI .i64).V s u6 t6) (g7 : (kSl kDot).V s u7 t7) (g8 : (kSl kOp).V s u8 t8) (g9 : (kSl (kSl kOp)).V s u9 t9) (g10 : (kI .i64).V s u10 t10) : kSOut.R s [u0, u1, u2, u3, u4, u5, u6, u7, u8, u9, u10] (⟨(⟨t0, t1, t2, t3, t4, t5, t6, t7, t8⟩ : Frame), t9, t10⟩ : SOut) :=
  ⟨[u0, u1, u2, u3, u4, u5, u6, u7, u8], [u9, u10], rfl, kFrame_close g0 g1 g2 g3 g4 g5 g6 g7 g8, ⟨[u9], [u10], rfl, V_one rfl g9, V_one rfl g10⟩⟩
theorem kSOut_eta {s : St} {u0 : Value} {u1 : Value} {u2 : Value} {u3 : Value} {u4 : Value} {u5 : Value} {u6 : Value} {u7 : Value} {u8 : Value} {u9 : Value} {u10 : Value} {x : SOut} (g0 : (kI .i64).V s u0 x.head.kind) (g1 : kS.V s u1 x.head.src) (g2 : kS.V s u2 x.head.dst) (g3 : kS.V s u3 x.head.cart) (g4 : (kI .i64).V s u4 x.head.session) (g5 : (kI .i64).V s u5 x.head.index) (g6 : (kI .i64).V s u6 x.head.many) (g7 : (kSl kDot).V s u7 x.head.known) (g8 : (kSl kOp).V s u8 x.head.ops) (g9 : (kSl (kSl kOp)).V s u9 x.pieces) (g10 : (kI .i64).V s u10 x.acked) : kSOut.R s [u0, u1, u2, u3, u4, u5, u6, u7, u8, u9, u10] x :=
  kSOut_close g0 g1 g2 g3 g4 g5 g6 g7 g8 g9 g10
structure ROut where
  src : Str
  dst : Str
  cart : Str
  session : Int
  l : (List Op)
  acked : Int
  deriving DecidableEq, Inhabited
structure Whose where
  frm : Str
  crt : Str
  deriving DecidableEq, Inhabited
def kWhose : Kn Whose := kM (kP kS kS) (fun x => (x.frm, x.crt))
theorem kWhose_open {s : St} {es : List Value} {x : Whose} (h : kWhose.R s es x) : ∃ u0 u1, es = [u0, u1] ∧ kS.V s u0 x.frm ∧ kS.V s u1 x.crt := by
  obtain ⟨e0, r0, rfl, h0, h1⟩ := h
  obtain ⟨u0, rfl, g0⟩ := one_of rfl rfl h0
  obtain ⟨u1, rfl, g1⟩ := one_of rfl rfl h1
  exact ⟨u0, u1, rfl, g0, g1⟩
theorem kWhose_close {s : St} {u0 : Value} {t0 : Str} {u1 : Value} {t1 : Str} (g0 : kS.V s u0 t0) (g1 : kS.V s u1 t1) : kWhose.R s [u0, u1] (⟨t0, t1⟩ : Whose) :=
  ⟨[u0], [u1], rfl, V_one rfl g0, V_one rfl g1⟩
structure Curs where
  ses : Int
  cam : Int
  deriving DecidableEq, Inhabited
def kCurs : Kn Curs := kM (kP (kI .i64) (kI .i64)) (fun x => (x.ses, x.cam))
theorem kCurs_open {s : St} {es : List Value} {x : Curs} (h : kCurs.R s es x) : ∃ u0 u1, es = [u0, u1] ∧ (kI .i64).V s u0 x.ses ∧ (kI .i64).V s u1 x.cam := by
  obtain ⟨e0, r0, rfl, h0, h1⟩ := h
  obtain ⟨u0, rfl, g0⟩ := one_of rfl rfl h0
  obtain ⟨u1, rfl, g1⟩ := one_of rfl rfl h1
  exact ⟨u0, u1, rfl, g0, g1⟩
theorem kCurs_close {s : St} {u0 : Value} {t0 : Int} {u1 : Value} {t1 : Int} (g0 : (kI .i64).V s u0 t0) (g1 : (kI .i64).V s u1 t1) : kCurs.R s [u0, u1] (⟨t0, t1⟩ : Curs) :=
  ⟨[u0], [u1], rfl, V_one rfl g0, V_one rfl g1⟩
theorem kCurs_eta {s : St} {u0 : Value} {u1 : Value} {x : Curs} (g0 : (kI .i64).V s u0 x.ses) (g1 : (kI .i64).V s u1 x.cam) : kCurs.R s [u0, u1] x :=
  kCurs_close g0 g1
/-- A pointer that may be nil, and a number beside it. -/
def Np {α : Type} (s0 : St) (T : TypeId) (d : Kn α) (en eo : Int) (r : Option α) (v : Value) (t : St) : Prop :=
  match r with
  | none => (Fact.tup [Fact.eq (.pointer none), Fact.v (kI .i64) en]).φ t v
  | some x => ∃ b, s0.w.heap.size ≤ b ∧ Hd t b T d x ∧ (Fact.tup [Fact.eq (.pointer (some ⟨b, 0, none⟩)), Fact.v (kI .i64) eo]).φ t v
theorem np_none {α : Type} {s0 t : St} {T : TypeId} {d : Kn α} {en eo : Int} {v : Value} (h : (Fact.tup [Fact.eq (.pointer none), Fact.v (kI .i64) en]).φ t v) : Np s0 T d en eo none v t := h
theorem np_some {α : Type} {s0 t : St} {T : TypeId} {d : Kn α} {en eo : Int} {x : α} {v : Value} {b : Nat} (hb : s0.w.heap.size ≤ b) (hH : Hd t b T d x) (h : (Fact.tup [Fact.eq (.pointer (some ⟨b, 0, none⟩)), Fact.v (kI .i64) eo]).φ t v) : Np s0 T d en eo (some x) v t := ⟨b, hb, hH, h⟩
theorem opr_dead {P : Program} {ro : Option Nat} {o : Oper} {a : Act} {s : St} (h : False) : OpR P ro o a s (Okf s (Fact.v kB true)) := h.elim
def npC {α β : Type} (r : Option α) (e : β) (c : α → β) : β := match r with
  | none => e
  | some x => c x
theorem npC_none {α β : Type} {e : β} {c : α → β} {r : β} (h : npC none e c = r) : e = r := h
theorem npC_some {α β : Type} {x : α} {e : β} {c : α → β} {r : β} (h : npC (some x) e c = r) : c x = r := h
/-- for .. := range g { .. }, each round of which goes on; what was made since may be turned too. -/
theorem wp_rangeG {P : Program} {g : Operand} {ps : Array Tmp} {assign body : Code} {a : Act} {s : St} {Q : Exit → Act → St → Prop} {gf : FuncId} {lb : List Value} (hg : a.eval g = .func (.func gf) #[] lb.toArray) {τ : Type} (B M : Nat → Prop) (hB : ∀ k, B k → k < s.w.heap.size) (hM : ∀ k, s.w.heap.size ≤ k → k < s.w.heap.size + 2 → ¬ M k)
    (J : List τ → St → Prop) (V : St → τ → List Value → Prop) (r0 : List τ)
    (hJ : ∀ q t t', J q t → Chg B t t' → J q t')
    (hL : ∀ l q t t', l = s.w.heap.size + 1 → J q t → Chg (· = l) t t' → J q t')
    (h0 : J r0 s)
    (hen : Enters P gf)
    (hseq : ∀ (l : Nat) (t : St), l = s.w.heap.size + 1 → l < t.w.heap.size → Ext s t → ∀ (J' : List τ → St → Prop), (∀ q t t', J' q t → Chg B t t' → J' q t') → J' r0 t →
      (∀ x q t us, J' (x :: q) t → V t x us → Yd P l us.toArray t (fun v t' => v = .bool true ∧ Chg (fun k => M k ∨ k = l) t t' ∧ J' q t')) →
      Cl P gf (.func (.yield l) #[] #[] :: lb).toArray t (fun _ t' => Chg (fun k => (M k ∨ k = l) ∨ B k) t t' ∧ J' [] t'))
    (hlen : ∀ t x us, V t x us → us.length = ps.size)
    (hround : ∀ (l : Nat) (x : τ) (q : List τ) (t : St) (us : List Value), l = s.w.heap.size + 1 → s.w.heap.size + 2 ≤ t.w.heap.size → J (x :: q) t → V t x us →
      Wp P (some l) assign { tmps := (ps.zip us.toArray).foldl (fun tmps (t, a) => tmps.setIfInBounds t a) a.tmps, defers := [] } t
        (Then (fun a1 t1 => Chg M t t1 ∧ ∀ t2, Chg (· = l) t1 t2 → Wp P (some l) body a1 t2 (Then (fun _ t3 => Chg M t2 t3 ∧ J q t3) (fun _ _ _ => False))) (fun _ _ _ => False)))
    (hdone : ∀ (D : Nat) (t : St), D = s.w.heap.size → Chg (fun k => M k ∨ B k) s t → J [] t → Ob t D (.deferred (some [])) → Q .normal { a with defers := mark D :: a.defers } t) :
    Wp P none (.rangeFunc g ps assign body) a s Q := by
  refine wpIn_rangeFunc (F := FN none) ?_
  intro fn hfn
  obtain ⟨rec, hrec⟩ : ∃ rec : LoopState → Option Code → Loop, rec = fun st pe => { state := st, pending := pe, fn, tmps := a.tmps, params := ps, assign, body, defers := s.w.heap.size } := ⟨_, rfl⟩
  obtain ⟨t0, ht0⟩ : ∃ t0, t0 = (s.alloc (.deferred (some []))).alloc (.loop (rec .ready none)) := ⟨_, rfl⟩
  have hext : Ext s t0 := by rw [ht0]; exact (s.alloc_ext _).trans (St.alloc_ext _ _)
  have hsz : (s.alloc (.deferred (some []))).w.heap.size = s.w.heap.size + 1 := by simp [St.alloc]
  have hOl : Ob t0 (s.w.heap.size + 1) (.loop (rec .ready none)) := by
    have := Ob.new (s.alloc (.deferred (some []))) (.loop (rec .ready none))
    rw [hsz] at this; rw [ht0]; exact this
  have hOD : Ob t0 s.w.heap.size (.deferred (some [])) := by
    rw [ht0]; exact (Ob.new s _).ext (St.alloc_ext _ _)
  have hMD : ∀ k, k = s.w.heap.size ∨ k = s.w.heap.size + 1 → ¬ M k := fun k hk => hM k (by omega) (by omega)
  have hBD : ∀ k, s.w.heap.size ≤ k → ¬ B k := fun k hk hm => by have := hB k hm; omega
  have hcl := hseq (s.w.heap.size + 1) t0 rfl hOl.lt hext (fun q t => J q t ∧ Ob t (s.w.heap.size + 1) (.loop (rec .ready none)) ∧ Ob t s.w.heap.size (.deferred (some [])))
    (fun q t t' h he => ⟨hJ q t t' h.1 he, h.2.1.chg he (hBD _ (by omega)), h.2.2.chg he (hBD _ (Nat.le_refl _))⟩) ⟨hJ _ _ _ h0 (Chg.of_ext hext), hOl, hOD⟩ (by
      rintro x q t us ⟨hj, ol, od⟩ hV
      refine ⟨fn, _, assign, body, by have := run_yield (P := P) (args := us.toArray) ol.heap (by rw [hrec]; simpa using hlen _ _ _ hV); rw [hrec] at this; exact this, roundIn_of_wpIn hfn ?_⟩
      have hw := hround (s.w.heap.size + 1) x q t us rfl (by have := ol.lt; omega) hj hV
      refine wpIn_mono (F := FN (some (s.w.heap.size + 1))) hw fun e a1 w1 ⟨t1, hw1, hT⟩ => ?_
      subst hw1
      cases e with
      | normal =>
        obtain ⟨c1, hb⟩ := hT
        have ol1 := ol.chg c1 (hMD _ (.inr rfl))
        have od1 := od.chg c1 (hMD _ (.inl rfl))
        obtain ⟨t2, ht2⟩ : ∃ t2, t2 = t1.put (s.w.heap.size + 1) (.loop { rec .ready none with state := .busy }) ol1.free := ⟨_, rfl⟩
        have c2 : Chg (· = s.w.heap.size + 1) t1 t2 := by rw [ht2]; exact t1.put_chg _ _ _
        have ol2 : Ob t2 (s.w.heap.size + 1) (.loop { rec .ready none with state := .busy }) := by rw [ht2]; exact ol1.put _
        have od2 := od1.chg c2 (by omega)
        refine ⟨t2.w, by rw [ht2]; exact run_beginRound (P := P) ol1.heap (by rw [hrec]), ?_⟩
        refine wpIn_mono (F := FN (some (s.w.heap.size + 1))) (hb t2 c2) fun e a3 w3 ⟨t3, hw3, hT3⟩ => ?_
        subst hw3
        cases e with
        | normal =>
          obtain ⟨c3, hj3⟩ := hT3
          have ol3 := ol2.chg c3 (hMD _ (.inr rfl))
          have od3 := od2.chg c3 (hMD _ (.inl rfl))
          obtain ⟨t4, ht4⟩ : ∃ t4, t4 = t3.put (s.w.heap.size + 1) (.loop (rec .ready none)) ol3.free := ⟨_, rfl⟩
          have c4 : Chg (· = s.w.heap.size + 1) t3 t4 := by rw [ht4]; exact t3.put_chg _ _ _
          have wk : ∀ {u v : St}, Chg M u v → Chg (fun k => M k ∨ k = s.w.heap.size + 1) u v := fun h => h.weak fun _ _ hm => .inl hm
          have wl : ∀ {u v : St}, Chg (· = s.w.heap.size + 1) u v → Chg (fun k => M k ∨ k = s.w.heap.size + 1) u v := fun h => h.weak fun _ _ hm => .inr hm
          refine ⟨.bool true, t4.w, ?_, .bool true, t4, rfl, rfl, rfl, (((wk c1).trans (wl c2)).trans (wk c3)).trans (wl c4), hL _ _ _ _ rfl hj3 c4, by rw [ht4]; exact ol3.put _, od3.chg c4 (by omega)⟩
          have := run_endRound (P := P) none ol3.heap
          have e4 : t4.w = t3.w.putObj (s.w.heap.size + 1) (.loop (rec .ready none)) := by rw [ht4]; rfl
          rw [e4, hrec]; rw [hrec] at this; exact this
        | _ => exact hT3.elim
      | _ => exact hT.elim)
  refine ⟨s.w.heap.size + 1, [mark s.w.heap.size], t0.w, { target := .fn (.func gf) lb.toArray, args := #[.func (.yield (s.w.heap.size + 1)) #[] #[]] }, t0.w, gf, (.func (.yield (s.w.heap.size + 1)) #[] #[] :: lb).toArray, t0.w, ?_, ?_, fun _ _ => trivial, ?_, fun h => by simp [Fence.wide] at h, ?_⟩
  · rw [ht0, hrec]; exact run_enterLoop_outer _ _ _ _ _
  · simp only [resolve, hg]
    simp [go_sem]
  · have := hen (.func (.yield (s.w.heap.size + 1)) #[] #[] :: lb).toArray t0.w
    simp [invoke, go_sem] at this ⊢
    simpa using this
  · refine hcl.2.mono ?_
    rintro e w ⟨v, t, rfl, rfl, hc, hj, ol, od⟩
    obtain ⟨t4, ht4⟩ : ∃ t4, t4 = t.put (s.w.heap.size + 1) (.loop { rec .ready none with state := .exhausted }) ol.free := ⟨_, rfl⟩
    have c4 : Chg (· = s.w.heap.size + 1) t t4 := by rw [ht4]; exact t.put_chg _ _ _
    refine ⟨none, t4.w, ?_, t4, rfl, hdone _ t4 rfl ?_ (hL _ _ _ _ rfl hj c4) (od.chg c4 (by omega))⟩
    · have := run_endLoop (P := P) ol.heap (by rw [hrec]; simp)
      have e4 : t4.w = t.w.putObj (s.w.heap.size + 1) (.loop { rec .ready none with state := .exhausted }) := by rw [ht4]; rfl
      rw [e4, hrec]; rw [hrec] at this; exact this
    · have h1 : Chg (fun k => M k ∨ B k) s t := (Chg.of_ext hext).chg hc fun k hk hlt => hk.elim (fun h => .inl (h.resolve_right (by omega))) .inr
      exact h1.chg c4 fun k hk hlt => by omega
end
section
structure SsTy (P : Program) (T : TypeId) : Prop where
  und : ∃ f0 f1 : Field, P.underlying T = some (.struct #[f0, f1]) ∧ (f0.name == "_") = false ∧ (f1.name == "_") = false ∧ f0.offset = 0 ∧ f1.offset = 1 ∧ P.underlying f0.type = some .string ∧ P.underlying f1.type = some .string ∧
    (∀ w, (isAgg f0.type).run P w = .ok false w) ∧ (∀ w, (isAgg f1.type).run P w = .ok false w)
  held : P.stoodInHeld T = false
  guard : P.eqGuardType P.depth T = false
structure IiTy (P : Program) (T : TypeId) : Prop where
  und : ∃ f0 f1 : Field, P.underlying T = some (.struct #[f0, f1]) ∧ (f0.name == "_") = false ∧ (f1.name == "_") = false ∧ f0.offset = 0 ∧ f1.offset = 1 ∧ P.underlying f0.type = some (.int .i64) ∧ P.underlying f1.type = some (.int .i64) ∧
    (∀ w, (isAgg f0.type).run P w = .ok false w) ∧ (∀ w, (isAgg f1.type).run P w = .ok false w)
  held : P.stoodInHeld T = false
  guard : P.eqGuardType P.depth T = false
theorem equal_ss' {P : Program} {T : TypeId} (h : SsTy P T) (d : Nat) (a b m n : ByteArray) (w : World) : (Op.equalIn (d + 1 + 1) T (.agg #[.string a, .string m]) (.agg #[.string b, .string n])).run P w = .ok (a == b && m == n) w := by
  obtain ⟨⟨f0, f1, hT, n0, n1, o0, o1, t0, t1, g0, g1⟩, hh, _⟩ := h
  have e0 : f0.name ≠ "_" := by simpa using n0
  have e1 : f1.name ≠ "_" := by simpa using n1
  have r0 := equalIn_s t0 d a b
  have r1 := equalIn_s t1 d m n
  generalize hd : d + 1 = k at *
  unfold Op.equalIn
  cases h0 : a == b <;> cases h1 : m == n <;> simp [run_underlying hT, hh, e0, e1, part, o0, o1, g0, g1, r0, r1, h0, h1]
theorem equal_ii' {P : Program} {T : TypeId} (h : IiTy P T) (d : Nat) (a b m n : Int) (w : World) : (Op.equalIn (d + 1 + 1) T (.agg #[.int .i64 a, .int .i64 m]) (.agg #[.int .i64 b, .int .i64 n])).run P w = .ok (a == b && m == n) w := by
  obtain ⟨⟨f0, f1, hT, n0, n1, o0, o1, t0, t1, g0, g1⟩, hh, _⟩ := h
  have e0 : f0.name ≠ "_" := by simpa using n0
  have e1 : f1.name ≠ "_" := by simpa using n1
  have r0 := equalIn_i t0 d a b
  have r1 := equalIn_i t1 d m n
  generalize hd : d + 1 = k at *
  unfold Op.equalIn
  cases h0 : a == b <;> cases h1 : m == n <;> simp [run_underlying hT, hh, e0, e1, part, o0, o1, g0, g1, r0, r1, h0, h1]
theorem checkKey_s {P : Program} {T : TypeId} (h : P.underlying T = some .string) (e : Bool) (d : Nat) (a : ByteArray) (w : World) : (Instr.checkKey e (d + 1) T (.string a)).run P w = .ok () w := by
  unfold Instr.checkKey
  simp [run_underlying h]
theorem checkKey_ss {P : Program} {T : TypeId} (h : SsTy P T) (e : Bool) (d : Nat) (a m : ByteArray) (w : World) : (Instr.checkKey e (d + 1 + 1) T (.agg #[.string a, .string m])).run P w = .ok () w := by
  obtain ⟨⟨f0, f1, hT, n0, n1, o0, o1, t0, t1, g0, g1⟩, hh, _⟩ := h
  have e0 : f0.name ≠ "_" := by simpa using n0
  have e1 : f1.name ≠ "_" := by simpa using n1
  have r0 := checkKey_s t0 e d a
  have r1 := checkKey_s t1 e d m
  generalize hd : d + 1 = k at *
  unfold Instr.checkKey
  simp [run_underlying hT, e0, e1, part, o0, o1, g0, g1, r0, r1]
/-- What a map's keys must answer. -/
structure KeyTy {κ : Type} (P : Program) (KT : TypeId) (d : Kn κ) : Prop where
  und : ∃ D, P.underlying KT = some D
  eq : ∀ {s : St} {a b : Value} {x y : κ} (w : World), d.V s a x → d.V s b y → ∃ r : Bool, (Op.equal KT a b).run P w = .ok r w ∧ (r = true ↔ x = y)
  chk : ∀ {s : St} {a : Value} {x : κ} (e : Bool) (w : World), d.V s a x → (Instr.checkKey e 10000 KT a).run P w = .ok () w
  now : ∀ (D : TypeDesc) {s : St} {a b : Value} {x y : κ}, d.V s a x → d.V s b y → Instr.sameNow D a b = none
  same : ∀ {s : St} {a b : Value} {x : κ}, d.V s a x → d.V s b x → Instr.sameBits 10000 a b = true
theorem whose_val {s : St} {v : Value} {x : Whose} (h : kWhose.V s v x) : v = .agg #[strV x.frm, strV x.crt] := by
  obtain ⟨e1, w1, h1⟩ := V_open rfl h
  obtain ⟨a1, b1, rfl, p1, q1⟩ := kWhose_open h1
  have := List.cons.inj p1.1 |>.1; subst this; have := List.cons.inj q1.1 |>.1; subst this
  exact w1
theorem keyTy_whose {P : Program} {T : TypeId} (h : SsTy P T) : KeyTy P T kWhose where
  und := by obtain ⟨⟨f0, f1, hT, _⟩, _⟩ := h; exact ⟨_, hT⟩
  eq := fun {s a b x y} w ha hb => by
    rw [whose_val ha, whose_val hb]
    have := equal_ss' h 9998 ⟨x.frm.toArray⟩ ⟨y.frm.toArray⟩ ⟨x.crt.toArray⟩ ⟨y.crt.toArray⟩ w
    refine ⟨_, this, ?_⟩
    rw [beq_toListBytes, toList_mk, toList_mk, beq_str, beq_toListBytes, toList_mk, toList_mk, beq_str]
    cases x; cases y; simp
  chk := fun {s a x} e w ha => by
    rw [whose_val ha]
    exact checkKey_ss h e 9998 ⟨x.frm.toArray⟩ ⟨x.crt.toArray⟩ w
  now := fun D {s a b x y} ha hb => by
    rw [whose_val ha, whose_val hb]
    unfold Instr.sameNow
    split <;> first | rfl | (rename_i h1 h2; cases h1) | (rename_i h1; cases h1)
  same := fun {s a b x} ha hb => by
    rw [whose_val ha, whose_val hb]
    show Instr.sameBits (9999 + 1) _ _ = true
    simp [Instr.sameBits, strV, beq_toListBytes, toList_mk, beq_str]
/-- A map's entries are these. -/
def Ents {κ ν : Type} (s : St) (d : Kn κ) (e : Kn ν) : List MapEntry → List (κ × ν) → Prop
  | [], [] => True
  | m :: es, p :: l => d.V s m.key p.1 ∧ e.V s m.val p.2 ∧ Ents s d e es l
  | _, _ => False
theorem Ents.mono {κ ν : Type} {s t : St} {d : Kn κ} {e : Kn ν} (hl : Le s t) : ∀ {es : List MapEntry} {l : List (κ × ν)}, Ents s d e es l → Ents t d e es l
  | [], [], _ => trivial
  | m :: es, p :: l, h => ⟨Kn.V_mono hl h.1, Kn.V_mono hl h.2.1, Ents.mono hl h.2.2⟩
theorem Ents.len {κ ν : Type} {s : St} {d : Kn κ} {e : Kn ν} : ∀ {es : List MapEntry} {l : List (κ × ν)}, Ents s d e es l → es.length = l.length
  | [], [], _ => rfl
  | m :: es, p :: l, h => by rw [List.length_cons, List.length_cons, Ents.len h.2.2]
theorem Ents.push {κ ν : Type} {s : St} {d : Kn κ} {e : Kn ν} {m : MapEntry} {k : κ} {v : ν} : ∀ {es : List MapEntry} {l : List (κ × ν)}, Ents s d e es l → d.V s m.key k → e.V s m.val v → Ents s d e (es ++ [m]) (l ++ [(k, v)])
  | [], [], _, hk, hv => ⟨hk, hv, trivial⟩
  | _ :: _, _ :: _, h, hk, hv => ⟨h.1, h.2.1, Ents.push h.2.2 hk hv⟩
def mget {κ ν : Type} [DecidableEq κ] (z : ν) : List (κ × ν) → κ → ν
  | [], _ => z
  | p :: l, k => if k = p.1 then p.2 else mget z l k
def mset {κ ν : Type} [DecidableEq κ] : List (κ × ν) → κ → ν → List (κ × ν)
  | [], k, v => [(k, v)]
  | p :: l, k, v => if k = p.1 then (k, v) :: l else p :: mset l k v
def efind {κ ν : Type} [DecidableEq κ] : List MapEntry → List (κ × ν) → κ → Nat → Option (Nat × Value)
  | m :: es, p :: l, k, i => if k = p.1 then some (i, m.val) else efind es l k (i + 1)
  | _, _, _, _ => none
theorem mset_len {κ ν : Type} [DecidableEq κ] : ∀ (l : List (κ × ν)) (k : κ) (v : ν), (mset l k v).length ≤ l.length + 1
  | [], _, _ => by simp [mset]
  | p :: l, k, v => by
    unfold mset
    have := mset_len l k v
    split <;> simp <;> omega
section
variable {P : Program} {KT : TypeId} {κ ν : Type} [DecidableEq κ] {d : Kn κ} {e : Kn ν}
theorem run_findAsking (hK : KeyTy P KT d) {s : St} {k : Value} {x : κ} (hk : d.V s k x) (w : World) : ∀ (es : List MapEntry) (l : List (κ × ν)) (i : Nat), Ents s d e es l → (Instr.findAsking KT k es i).run P w = .ok (efind es l x i) w
  | [], [], i, _ => by simp [Instr.findAsking, efind]
  | m :: es, p :: l, i, h => by
    obtain ⟨r, hr, hi⟩ := hK.eq w hk h.1
    have ih := run_findAsking hK hk w es l (i + 1) h.2.2
    unfold Instr.findAsking efind
    cases r
    · have : ¬ x = p.1 := fun e => by have := hi.2 e; cases this
      rw [if_neg this]
      simp only [Sem.run_bind, hr, Result.andThen_ok, Bool.false_eq_true, if_false]
      exact ih
    · rw [if_pos (hi.1 rfl)]
      simp [hr]
omit [DecidableEq κ] in
theorem findNow_none (hK : KeyTy P KT d) (D : TypeDesc) {s : St} {k : Value} {x : κ} (hk : d.V s k x) : ∀ (es : List MapEntry) (l : List (κ × ν)) (i : Nat), Ents s d e es l → Instr.findNow D k es i = none ∨ (es = [] ∧ l = [])
  | [], [], i, _ => .inr ⟨rfl, rfl⟩
  | m :: es, p :: l, i, h => .inl (by unfold Instr.findNow; rw [hK.now D hk h.1])
theorem run_findKey' (hK : KeyTy P KT d) {s : St} {k : Value} {x : κ} (hk : d.V s k x) (w : World) {es : List MapEntry} {l : List (κ × ν)} (h : Ents s d e es l) : (Instr.findKey KT k es).run P w = .ok (efind es l x 0) w := by
  obtain ⟨D, hD⟩ := hK.und
  unfold Instr.findKey
  rcases findNow_none hK D hk es l 0 h with e1 | ⟨rfl, rfl⟩
  · simp only [Sem.run_bind, run_underlying hD, Result.andThen_ok, e1]
    exact run_findAsking hK hk w es l 0 h
  · simp [run_underlying hD, Instr.findNow, efind]
theorem efind_none {z v : ν} : ∀ {s : St} {es : List MapEntry} {l : List (κ × ν)} {x : κ} {i : Nat}, Ents s d e es l → efind es l x i = none → mget z l x = z ∧ mset l x v = l ++ [(x, v)]
  | _, [], [], _, _, _, _ => ⟨rfl, rfl⟩
  | s, m :: es, p :: l, x, i, h, hf => by
    unfold efind at hf
    split at hf
    · cases hf
    · rename_i hx
      obtain ⟨h1, h2⟩ := efind_none (z := z) (v := v) h.2.2 hf
      unfold mget mset
      rw [if_neg hx, if_neg hx, h1, h2]; exact ⟨rfl, rfl⟩
theorem efind_some {z v : ν} {k u' : Value} : ∀ {s : St} {es : List MapEntry} {l : List (κ × ν)} {x : κ} {i j : Nat} {u : Value}, Ents s d e es l → d.V s k x → e.V s u' v → efind es l x i = some (j, u) → i ≤ j ∧ (∃ en, es[j - i]? = some en ∧ d.V s en.key x) ∧ e.V s u (mget z l x) ∧ Ents s d e (es.modify (j - i) fun en => { en with key := k, val := u' }) (mset l x v)
  | s, [], [], _, _, _, _, _, _, _, hf => by cases hf
  | s, m :: es, p :: l, x, i, j, u, h, hk, hu, hf => by
    unfold efind at hf
    split at hf
    · rename_i hx
      cases hf
      unfold mget mset
      rw [if_pos hx, if_pos hx, Nat.sub_self]
      exact ⟨Nat.le_refl _, ⟨m, rfl, hx ▸ h.1⟩, h.2.1, hk, hu, h.2.2⟩
    · rename_i hx
      obtain ⟨h1, ⟨en, h2, h3⟩, h4, h5⟩ := efind_some (z := z) (v := v) h.2.2 hk hu hf
      have e1 : j - i = (j - (i + 1)) + 1 := by omega
      unfold mget mset
      rw [if_neg hx, if_neg hx, e1]
      exact ⟨by omega, ⟨en, by rw [List.getElem?_cons_succ]; exact h2, h3⟩, h4, h.1, h.2.1, h5⟩
end
/-- The map at r holds these. -/
def Mp {κ ν : Type} (s : St) (r : Nat) (d : Kn κ) (e : Kn ν) (l : List (κ × ν)) : Prop := l.length ≤ 1000000 ∧ ∃ es c, Ob s r (.map es c) ∧ Ents s d e es.toList l
section
variable {κ ν : Type} {d : Kn κ} {e : Kn ν}
theorem Mp.chg {M : Nat → Prop} {s t : St} {r : Nat} {l : List (κ × ν)} (h : Mp s r d e l) (hc : Chg M s t) (hm : ¬ M r) : Mp t r d e l := by
  obtain ⟨hl, es, c, h1, h2⟩ := h
  exact ⟨hl, es, c, h1.chg hc hm, h2.mono hc.le⟩
theorem Mp.ext {s t : St} {r : Nat} {l : List (κ × ν)} (h : Mp s r d e l) (hc : Ext s t) : Mp t r d e l := h.chg hc (fun hf => hf)
theorem Mp.lt {s : St} {r : Nat} {l : List (κ × ν)} (h : Mp s r d e l) : r < s.w.heap.size := by
  obtain ⟨_, es, c, h1, _⟩ := h
  exact h1.lt
variable {P : Program} {ro : Option Nat} {o : Oper} {a : Act} {s : St} {K : Value → St → Prop}
theorem op_makemap {T : TypeId} (ho : o.op = .makeMap T none) (h : ∀ t, Ext s t → Mp t s.w.heap.size d e [] → K (.map (some s.w.heap.size)) t) : OpR P ro o a s K :=
  opr_val (t := s.alloc (.map #[] 0)) (v := .map (some s.w.heap.size)) (by simp [ho]) (by simp [execOp, ho, Instr.makeMap, St.alloc, World.alloc, -World.alloc_eq]) (h _ (s.alloc_ext _) ⟨by simp, #[], 0, Ob.new s _, trivial⟩)
theorem op_lookup {T KT VT : TypeId} [DecidableEq κ] {x y : Operand} {r : Nat} {l : List (κ × ν)} {k : κ} {zv : Value} {z : ν} (ho : o.op = .lookup T x y false) (hT : P.underlying T = some (.map KT VT)) (hK : KeyTy P KT d) (hz : ∀ w, (zeroValue VT).run P w = .ok zv w) (hx : a.eval x = .map (some r)) (hm : Mp s r d e l) (hy : d.V s (a.eval y) k) (hv : e.V s zv z) :
    OpR P ro o a s (Okf s (Fact.v e (mget z l k))) := by
  obtain ⟨hl, es, c, h1, h2⟩ := hm
  have hg : (getObj r).run P s.w = .ok (.map es c) s.w := by simp [getObj, Sem.run, h1.heap]
  have hf := run_findKey' hK hy s.w h2
  have hc := fun b => hK.chk b s.w hy
  cases hr : efind es.toList l k 0 with
  | none =>
    obtain ⟨g1, _⟩ := efind_none (z := z) (v := z) h2 hr
    rw [g1]
    exact opr_pure (v := zv) (by simp [ho]) (by simp [execOp, ho, Instr.lookup, run_underlying hT, hx, hg, hc, hf, hr, hz s.w]) hv
  | some p =>
    obtain ⟨j, u⟩ := p
    obtain ⟨_, _, g2, _⟩ := efind_some (z := z) (v := z) h2 hy hv hr
    exact opr_pure (v := u) (by simp [ho]) (by simp [execOp, ho, Instr.lookup, run_underlying hT, hx, hg, hc, hf, hr]) g2
theorem op_lenmap {T KT VT : TypeId} {x : Operand} {r : Nat} {l : List (κ × ν)} (ho : o.op = .call { callee := .builtin .len, args := #[x], argTypes := #[T] }) (hT : P.underlying T = some (.map KT VT)) (hx : a.eval x = .map (some r)) (hm : Mp s r d e l) : OpR P ro o a s (Okf s (Fact.v (kI .i64) (l.length : Int))) := by
  obtain ⟨hl, es, c, h1, h2⟩ := hm
  have hg : (getObj r).run P s.w = .ok (.map es c) s.w := by simp [getObj, Sem.run, h1.heap]
  have hn : es.size = l.length := by rw [← h2.len]; simp
  exact opr_pure (v := .int .i64 (l.length : Int)) (by simp [ho]) (by simp [execOp, ho, resolve, invoke, builtin, Builtin.len_, hx, run_underlying hT, hg, goInt, hn]) ⟨rfl, len_in (Nat.le_trans hl (by decide))⟩
theorem op_mapset {T KT VT : TypeId} [DecidableEq κ] {x y z : Operand} {r : Nat} {l : List (κ × ν)} {k : κ} {v : ν} (ho : o.op = .mapUpdate T x y z) (hT : P.underlying T = some (.map KT VT)) (hK : KeyTy P KT d) (hx : a.eval x = .map (some r)) (hm : Mp s r d e l) (hy : d.V s (a.eval y) k) (hv : e.V s (a.eval z) v) (hn : l.length < 1000000)
    (h : ∀ t, Chg (· = r) s t → Mp t r d e (mset l k v) → K undef t) : OpR P ro o a s K := by
  obtain ⟨hl, es, c, h1, h2⟩ := hm
  have hg : (getObj r).run P s.w = .ok (.map es c) s.w := by simp [getObj, Sem.run, h1.heap]
  have hs : ∀ ob, (setObj r ob).run P s.w = .ok () (s.put r ob h1.free).w := fun ob => by simp [setObj, Sem.run, h1.heap, St.put]
  have hf := run_findKey' hK hy s.w h2
  have hc := hK.chk false s.w hy
  have hlen := mset_len l k v
  cases hr : efind es.toList l k 0 with
  | none =>
    obtain ⟨_, g1⟩ := efind_none (z := v) (v := v) h2 hr
    refine opr_skip (t := s.put r (.map (es.push { key := a.eval y, val := a.eval z, born := c }) (c + 1)) h1.free) (by simp [ho]) (by simp [execOp, ho, Instr.mapUpdate, run_underlying hT, hx, hg, hc, hf, hr, hs]) ?_
    refine h _ (s.put_chg _ _ _) ⟨by omega, _, _, h1.put _, ?_⟩
    rw [g1, Array.toList_push]
    have hle := (s.put_chg r (.map (es.push { key := a.eval y, val := a.eval z, born := c }) (c + 1)) h1.free).le
    exact Ents.push (h2.mono hle) (Kn.V_mono hle hy) (Kn.V_mono hle hv)
  | some p =>
    obtain ⟨j, u⟩ := p
    obtain ⟨_, ⟨en, g2, g3⟩, _, g4⟩ := efind_some (z := v) (v := v) h2 hy hv hr
    have hsame := hK.same g3 hy
    have ht : (Instr.keyThatStays en.key (a.eval y)).run P s.w = .ok (a.eval y) s.w := by simp [Instr.keyThatStays, hsame]
    have g2' : es[j]? = some en := by rw [← Array.getElem?_toList]; simpa using g2
    refine opr_skip (t := s.put r (.map (es.modify j fun en => { en with key := a.eval y, val := a.eval z }) c) h1.free) (by simp [ho]) (by simp [execOp, ho, Instr.mapUpdate, run_underlying hT, hx, hg, hc, hf, hr, g2', ht, hs]) ?_
    refine h _ (s.put_chg _ _ _) ⟨by omega, _, _, h1.put _, ?_⟩
    rw [Array.toList_modify]
    exact Ents.mono (s.put_chg _ _ _).le (by simpa using g4)
end
structure PIn where
  who : Str
  l : List (Whose × Curs)
  deriving Inhabited
def Hm (s : St) (b : Nat) (T : TypeId) (r : Nat) (x : PIn) : Prop := ∃ u, Bx s b T [u, .map (some r)] ∧ kS.V s u x.who ∧ Mp s r kWhose kCurs x.l
theorem Hm.ne {s : St} {b r : Nat} {T : TypeId} {x : PIn} (h : Hm s b T r x) : r ≠ b := by
  obtain ⟨u, h1, _, _, es, c, h2, _⟩ := h
  intro e
  have := h1.heap
  rw [← e, h2.heap] at this
  cases this
theorem Hm.ext {s t : St} {b r : Nat} {T : TypeId} {x : PIn} (h : Hm s b T r x) (he : Ext s t) : Hm t b T r x := by
  obtain ⟨u, h1, h2, h3⟩ := h
  exact ⟨u, h1.ext he, Kn.V_mono he.le h2, h3.ext he⟩
theorem Hm.bd {s : St} {b r : Nat} {T : TypeId} {x : PIn} (h : Hm s b T r x) : x.l.length ≤ 1000000 := by
  obtain ⟨u, h1, h2, h3⟩ := h
  exact h3.1
/-- A pointer that may be nil to what has a map, and a number beside it. -/
def NpM (s0 : St) (T : TypeId) (en eo : Int) (r : Option PIn) (v : Value) (t : St) : Prop :=
  match r with
  | none => (Fact.tup [Fact.eq (.pointer none), Fact.v (kI .i64) en]).φ t v
  | some x => ∃ b m, s0.w.heap.size ≤ b ∧ s0.w.heap.size ≤ m ∧ Hm t b T m x ∧ (Fact.tup [Fact.eq (.pointer (some ⟨b, 0, none⟩)), Fact.v (kI .i64) eo]).φ t v
theorem npM_none {s0 t : St} {T : TypeId} {en eo : Int} {v : Value} (h : (Fact.tup [Fact.eq (.pointer none), Fact.v (kI .i64) en]).φ t v) : NpM s0 T en eo none v t := h
theorem npM_some {s0 t : St} {T : TypeId} {en eo : Int} {x : PIn} {v : Value} {b m : Nat} (hb : s0.w.heap.size ≤ b) (hm : s0.w.heap.size ≤ m) (hH : Hm t b T m x) (h : (Fact.tup [Fact.eq (.pointer (some ⟨b, 0, none⟩)), Fact.v (kI .i64) eo]).φ t v) : NpM s0 T en eo (some x) v t := ⟨b, m, hb, hm, hH, h⟩
def Fact.bx (T : TypeId) (cs : List Value) (lo : Nat) : Fact := ⟨fun t u => ∃ b, u = .pointer (some ⟨b, 0, none⟩) ∧ lo ≤ b ∧ Bx t b T cs, fun he ⟨b, h1, h2, h3⟩ => ⟨b, h1, h2, h3.ext he⟩⟩
section
variable {P : Program} {ro : Option Nat} {o : Oper} {a : Act} {s : St} {K : Value → St → Prop}
theorem curs_val {s : St} {v : Value} {x : Curs} (h : kCurs.V s v x) : v = .agg #[.int .i64 x.ses, .int .i64 x.cam] := by
  obtain ⟨e1, w1, h1⟩ := V_open rfl h
  obtain ⟨a1, b1, rfl, p1, q1⟩ := kCurs_open h1
  have := List.cons.inj p1.1 |>.1; subst this; have := List.cons.inj q1.1 |>.1; subst this
  exact w1
theorem op_cueql {T T' : TypeId} {x y : Operand} {u v : Curs} (ho : o.op = .binOp .eql T x y T') (hT : IiTy P T) (hx : kCurs.V s (a.eval x) u) (hy : kCurs.V s (a.eval y) v) : OpR P ro o a s (Okf s (Fact.v kB (decide (u = v)))) := by
  have ex := curs_val hx
  have ey := curs_val hy
  have he : (Op.equal T (.agg #[.int .i64 u.ses, .int .i64 u.cam]) (.agg #[.int .i64 v.ses, .int .i64 v.cam])).run P s.w = .ok (decide (u = v)) s.w := by
    have := equal_ii' hT 9998 u.ses v.ses u.cam v.cam s.w
    have e : (u.ses == v.ses && u.cam == v.cam) = decide (u = v) := by
      cases u; cases v
      rw [Bool.eq_iff_iff]; simp
    rw [e] at this
    exact this
  exact opr_pure (by simp [ho]) (by simp [execOp, ho, ex, ey, eqGuard, hT.guard, binOp, he]) rfl
end
section
variable {P : Program} {s : St} {fn : Func} {tmps : Array Value} {T TB : TypeId} {b : Nat} {es : List Value}
theorem results_tct {agg : Bool} {t c u : Tmp} (h : fn.results = #[.tmp t, .cell c T, .tmp u]) (hT : Ty P T agg es.length) (h1 : agg = false → es.length = 1) (hp : tmps.getD c undef = .pointer (some ⟨b, 0, none⟩)) (hb : Bx s b TB es) : (results fn tmps).run P s.w = .ok (.tuple #[tmps.getD t undef, if agg then .agg es.toArray else es.headD undef, tmps.getD u undef]) s.w := by
  have hr := loadVar_run (P := P) (w := s.w) (p := ⟨b, 0, none⟩) hT h1 fun j u hu => by rw [add_plain, hb.cell, Nat.zero_add]; exact hu
  have hp' : tmps[c]?.getD undef = .pointer (some ⟨b, 0, none⟩) := by rw [← hp]; simp [Array.getD_eq_getD_getElem?]
  simp [results, h, hp', hr, asAddr]
  try (rw [List.headD_eq_head?_getD])
end
end
section
attribute [local irreducible] Kn.V PtrV
theorem en_44 : Enters Try.prog 44 := enters_of Try.func44 (by kernel_rfl) rfl
theorem u_9 : Try.prog.underlying 9 = some (.string) := by kernel_rfl
theorem en_79 : Enters Try.prog 79 := enters_of Try.func79 (by kernel_rfl) rfl
theorem fa_34_6 : FieldAt Try.prog 34 6 6 := fun a w => by kernel_rfl
theorem ty_2 : Ty Try.prog 2 false 1 := ⟨fun w => by kernel_rfl, fun w => by kernel_rfl⟩
theorem fa_34_7 : FieldAt Try.prog 34 7 7 := fun a w => by kernel_rfl
theorem ty_32 : Ty Try.prog 32 false 1 := ⟨fun w => by kernel_rfl, fun w => by kernel_rfl⟩
theorem u_32 : Try.prog.underlying 32 = some (.slice 70) := by kernel_rfl
theorem fa_34_8 : FieldAt Try.prog 34 8 8 := fun a w => by kernel_rfl
theorem ty_22 : Ty Try.prog 22 false 1 := ⟨fun w => by kernel_rfl, fun w => by kernel_rfl⟩
theorem u_22 : Try.prog.underlying 22 = some (.slice 72) := by kernel_rfl
theorem en_94 : Enters Try.prog 94 := enters_of Try.func94 (by kernel_rfl) rfl
theorem en_102 : Enters Try.prog 102 := enters_of Try.func102 (by kernel_rfl) rfl
theorem fa_70_0 : FieldAt Try.prog 70 0 0 := fun a w => by kernel_rfl
theorem ty_9 : Ty Try.prog 9 false 1 := ⟨fun w => by kernel_rfl, fun w => by kernel_rfl⟩
theorem fa_70_1 : FieldAt Try.prog 70 1 1 := fun a w => by kernel_rfl
theorem en_50 : Enters Try.prog 50 := enters_of Try.func50 (by kernel_rfl) rfl
theorem en_93 : Enters Try.prog 93 := enters_of Try.func93 (by kernel_rfl) rfl
theorem sl_32 : SlTy Try.prog 32 70 2 := ⟨by kernel_rfl, fun w => by kernel_rfl⟩
theorem ty_70 : Ty Try.prog 70 true 2 := ⟨fun w => by kernel_rfl, fun w => by kernel_rfl⟩
theorem zv_70 : ∀ w, (zeroValue 70).run Try.prog w = .ok (.agg #[.string ⟨#[]⟩, .int .i64 0]) w := fun w => by kernel_rfl
theorem u_53 : Try.prog.underlying 53 = some (.slice 5) := by kernel_rfl
theorem sl_53 : SlTy Try.prog 53 5 1 := ⟨by kernel_rfl, fun w => by kernel_rfl⟩
theorem ty_5 : Ty Try.prog 5 false 1 := ⟨fun w => by kernel_rfl, fun w => by kernel_rfl⟩
theorem mo : Try.prog.follows .mixedOrders = true := by kernel_rfl
theorem en_133 : Enters Try.prog 133 := enters_of Try.func133 (by kernel_rfl) rfl
def lit_256_0_8 : Str := [0, 1, 2, 2, 3, 3, 3, 3, 4, 4, 4, 4, 4, 4, 4, 4, 5, 5, 5, 5, 5, 5, 5, 5, 5, 5, 5, 5, 5, 5, 5, 5, 6, 6, 6, 6, 6, 6, 6, 6, 6, 6, 6, 6, 6, 6, 6, 6, 6, 6, 6, 6, 6, 6, 6, 6, 6, 6, 6, 6, 6, 6, 6, 6, 7, 7, 7, 7, 7, 7, 7, 7, 7, 7, 7, 7, 7, 7, 7, 7, 7, 7, 7, 7, 7, 7, 7, 7, 7, 7, 7, 7, 7, 7, 7, 7, 7, 7, 7, 7, 7, 7, 7, 7, 7, 7, 7, 7, 7, 7, 7, 7, 7, 7, 7, 7, 7, 7, 7, 7, 7, 7, 7, 7, 7, 7, 7, 7, 8, 8, 8, 8, 8, 8, 8, 8, 8, 8, 8, 8, 8, 8, 8, 8, 8, 8, 8, 8, 8, 8, 8, 8, 8, 8, 8, 8, 8, 8, 8, 8, 8, 8, 8, 8, 8, 8, 8, 8, 8, 8, 8, 8, 8, 8, 8, 8, 8, 8, 8, 8, 8, 8, 8, 8, 8, 8, 8, 8, 8, 8, 8, 8, 8, 8, 8, 8, 8, 8, 8, 8, 8, 8, 8, 8, 8, 8, 8, 8, 8, 8, 8, 8, 8, 8, 8, 8, 8, 8, 8, 8, 8, 8, 8, 8, 8, 8, 8, 8, 8, 8, 8, 8, 8, 8, 8, 8, 8, 8, 8, 8, 8, 8, 8, 8, 8, 8, 8, 8, 8, 8, 8, 8, 8, 8, 8, 8]
theorem u_5 : Try.prog.underlying 5 = some (.int .u8) := by kernel_rfl
theorem u_3 : Try.prog.underlying 3 = some (.int .i64) := by kernel_rfl
theorem en_134 : Enters Try.prog 134 := enters_of Try.func134 (by kernel_rfl) rfl
theorem u_89 : Try.prog.underlying 89 = some (.int .u64) := by kernel_rfl
theorem en_105 : Enters Try.prog 105 := enters_of Try.func105 (by kernel_rfl) rfl
theorem en_106 : Enters Try.prog 106 := enters_of Try.func106 (by kernel_rfl) rfl
theorem en_115 : Enters Try.prog 115 := enters_of Try.func115 (by kernel_rfl) rfl
theorem en_111 : Enters Try.prog 111 := enters_of Try.func111 (by kernel_rfl) rfl
theorem el_53 : ElTy Try.prog 53 5 1 1 := ElTy.mk' (z := (.int .u8 0)) (by kernel_rfl) (by kernel_rfl) rfl
theorem lt_53 : LitTy Try.prog 53 5 1 (.int .u8 0) := ⟨by kernel_rfl, fun w => by kernel_rfl, fun w => by kernel_rfl⟩
theorem en_131 : Enters Try.prog 131 := enters_of Try.func131 (by kernel_rfl) rfl
theorem el_32 : ElTy Try.prog 32 70 2 24 := ElTy.mk' (z := (.agg #[.string ⟨#[]⟩, .int .i64 0])) (by kernel_rfl) (by kernel_rfl) rfl
theorem lt_32 : LitTy Try.prog 32 70 2 (.agg #[.string ⟨#[]⟩, .int .i64 0]) := ⟨by kernel_rfl, fun w => by kernel_rfl, fun w => by kernel_rfl⟩
theorem en_70 : Enters Try.prog 70 := enters_of Try.func70 (by kernel_rfl) rfl
theorem en_75 : Enters Try.prog 75 := enters_of Try.func75 (by kernel_rfl) rfl
theorem u_165 : Try.prog.underlying 165 = some (.slice 53) := by kernel_rfl
theorem sl_165 : SlTy Try.prog 165 53 1 := ⟨by kernel_rfl, fun w => by kernel_rfl⟩
theorem ty_53 : Ty Try.prog 53 false 1 := ⟨fun w => by kernel_rfl, fun w => by kernel_rfl⟩
theorem en_132 : Enters Try.prog 132 := enters_of Try.func132 (by kernel_rfl) rfl
theorem u_151 : Try.prog.underlying 151 = some (.int .u32) := by kernel_rfl
theorem en_117 : Enters Try.prog 117 := enters_of Try.func117 (by kernel_rfl) rfl
theorem en_61 : Enters Try.prog 61 := enters_of Try.func61 (by kernel_rfl) rfl
theorem en_90 : Enters Try.prog 90 := enters_of Try.func90 (by kernel_rfl) rfl
theorem en_59 : Enters Try.prog 59 := enters_of Try.func59 (by kernel_rfl) rfl
theorem en_89 : Enters Try.prog 89 := enters_of Try.func89 (by kernel_rfl) rfl
theorem en_43 : Enters Try.prog 43 := enters_of Try.func43 (by kernel_rfl) rfl
theorem cmp_153 : ∀ (a b : ByteArray) (w : World), (callFunc 153 #[.string a, .string b]).run Try.prog w = .ok (.value (.int .i64 (Lib.compareBytes a.data.toList b.data.toList))) w := fun a b w => by rw [run_callFunc_extern Try.func153 (by kernel_rfl) (by kernel_rfl) (by kernel_rfl) (e := Extern.BytealgCompare.compare) (by kernel_rfl), Lib.run_compareString] <;> rfl
theorem en_146 : Enters Try.prog 146 := enters_of Try.func146 (by kernel_rfl) rfl
theorem en_129 : Enters Try.prog 129 := enters_of Try.func129 (by kernel_rfl) rfl
theorem en_118 : Enters Try.prog 118 := enters_of Try.func118 (by kernel_rfl) rfl
theorem en_99 : Enters Try.prog 99 := enters_of Try.func99 (by kernel_rfl) rfl
theorem en_80 : Enters Try.prog 80 := enters_of Try.func80 (by kernel_rfl) rfl
theorem en_82 : Enters Try.prog 82 := enters_of Try.func82 (by kernel_rfl) rfl
theorem en_152 : Enters Try.prog 152 := enters_of Try.func152 (by kernel_rfl) rfl
theorem en_151 : Enters Try.prog 151 := enters_of Try.func151 (by kernel_rfl) rfl
theorem u_143 : Try.prog.underlying 143 = some (.int .u64) := by kernel_rfl
theorem en_145 : Enters Try.prog 145 := enters_of Try.func145 (by kernel_rfl) rfl
theorem en_128 : Enters Try.prog 128 := enters_of Try.func128 (by kernel_rfl) rfl
theorem en_95 : Enters Try.prog 95 := enters_of Try.func95 (by kernel_rfl) rfl
theorem u_2 : Try.prog.underlying 2 = some (.int .i64) := by kernel_rfl
theorem en_62 : Enters Try.prog 62 := enters_of Try.func62 (by kernel_rfl) rfl
theorem bt_70 : BuildTy Try.prog 70 [.string ⟨#[]⟩, .int .i64 0] [(0, 1), (1, 1)] := ⟨⟨(.agg #[.string ⟨#[]⟩, .int .i64 0]), fun w => by kernel_rfl, rfl⟩, ⟨_, Try.underlying70, fun w => by kernel_rfl⟩⟩
theorem en_67 : Enters Try.prog 67 := enters_of Try.func67 (by kernel_rfl) rfl
theorem en_147 : Enters Try.prog 147 := enters_of Try.func147 (by kernel_rfl) rfl
theorem en_130 : Enters Try.prog 130 := enters_of Try.func130 (by kernel_rfl) rfl
theorem en_126 : Enters Try.prog 126 := enters_of Try.func126 (by kernel_rfl) rfl
theorem u_175 : Try.prog.underlying 175 = some (.slice 3) := by kernel_rfl
theorem sl_175 : SlTy Try.prog 175 3 1 := ⟨by kernel_rfl, fun w => by kernel_rfl⟩
theorem ty_3 : Ty Try.prog 3 false 1 := ⟨fun w => by kernel_rfl, fun w => by kernel_rfl⟩
theorem en_96 : Enters Try.prog 96 := enters_of Try.func96 (by kernel_rfl) rfl
theorem lt_175 : LitTy Try.prog 175 3 1 (.int .i64 0) := ⟨by kernel_rfl, fun w => by kernel_rfl, fun w => by kernel_rfl⟩
theorem en_47 : Enters Try.prog 47 := enters_of Try.func47 (by kernel_rfl) rfl
theorem fa_72_0 : FieldAt Try.prog 72 0 0 := fun a w => by kernel_rfl
theorem fa_72_1 : FieldAt Try.prog 72 1 2 := fun a w => by kernel_rfl
theorem fa_72_2 : FieldAt Try.prog 72 2 3 := fun a w => by kernel_rfl
theorem fa_72_4 : FieldAt Try.prog 72 4 5 := fun a w => by kernel_rfl
theorem fa_72_6 : FieldAt Try.prog 72 6 7 := fun a w => by kernel_rfl
theorem fa_72_3 : FieldAt Try.prog 72 3 4 := fun a w => by kernel_rfl
theorem fa_72_5 : FieldAt Try.prog 72 5 6 := fun a w => by kernel_rfl
theorem ty_72 : Ty Try.prog 72 true 8 := ⟨fun w => by kernel_rfl, fun w => by kernel_rfl⟩
theorem zv_72 : ∀ w, (zeroValue 72).run Try.prog w = .ok (.agg #[.string ⟨#[]⟩, .int .i64 0, .slice none 0 0, .string ⟨#[]⟩, .int .i64 0, .string ⟨#[]⟩, .int .i64 0, .slice none 0 0]) w := fun w => by kernel_rfl
theorem bt_72 : BuildTy Try.prog 72 [.string ⟨#[]⟩, .int .i64 0, .slice none 0 0, .string ⟨#[]⟩, .int .i64 0, .string ⟨#[]⟩, .int .i64 0, .slice none 0 0] [(0, 2), (2, 1), (3, 1), (4, 1), (5, 1), (6, 1), (7, 1)] := ⟨⟨(.agg #[.string ⟨#[]⟩, .int .i64 0, .slice none 0 0, .string ⟨#[]⟩, .int .i64 0, .string ⟨#[]⟩, .int .i64 0, .slice none 0 0]), fun w => by kernel_rfl, rfl⟩, ⟨_, Try.underlying72, fun w => by kernel_rfl⟩⟩
theorem en_92 : Enters Try.prog 92 := enters_of Try.func92 (by kernel_rfl) rfl
theorem sl_22 : SlTy Try.prog 22 72 8 := ⟨by kernel_rfl, fun w => by kernel_rfl⟩
theorem en_45 : Enters Try.prog 45 := enters_of Try.func45 (by kernel_rfl) rfl
theorem en_81 : Enters Try.prog 81 := enters_of Try.func81 (by kernel_rfl) rfl
theorem fa_34_3 : FieldAt Try.prog 34 3 3 := fun a w => by kernel_rfl
theorem en_29 : Enters Try.prog 29 := enters_of Try.func29 (by kernel_rfl) rfl
theorem fa_34_1 : FieldAt Try.prog 34 1 1 := fun a w => by kernel_rfl
theorem fa_34_2 : FieldAt Try.prog 34 2 2 := fun a w => by kernel_rfl
theorem fa_34_4 : FieldAt Try.prog 34 4 4 := fun a w => by kernel_rfl
theorem fa_34_5 : FieldAt Try.prog 34 5 5 := fun a w => by kernel_rfl
theorem fa_34_0 : FieldAt Try.prog 34 0 0 := fun a w => by kernel_rfl
theorem ty_34 : Ty Try.prog 34 true 9 := ⟨fun w => by kernel_rfl, fun w => by kernel_rfl⟩
theorem lt_22 : LitTy Try.prog 22 72 8 (.agg #[.string ⟨#[]⟩, .int .i64 0, .slice none 0 0, .string ⟨#[]⟩, .int .i64 0, .string ⟨#[]⟩, .int .i64 0, .slice none 0 0]) := ⟨by kernel_rfl, fun w => by kernel_rfl, fun w => by kernel_rfl⟩
theorem el_22 : ElTy Try.prog 22 72 8 120 := ElTy.mk' (z := (.agg #[.string ⟨#[]⟩, .int .i64 0, .slice none 0 0, .string ⟨#[]⟩, .int .i64 0, .string ⟨#[]⟩, .int .i64 0, .slice none 0 0])) (by kernel_rfl) (by kernel_rfl) rfl
theorem zv_34 : ∀ w, (zeroValue 34).run Try.prog w = .ok (.agg #[.int .i64 0, .string ⟨#[]⟩, .string ⟨#[]⟩, .string ⟨#[]⟩, .int .i64 0, .int .i64 0, .int .i64 0, .slice none 0 0, .slice none 0 0]) w := fun w => by kernel_rfl
theorem bt_34 : BuildTy Try.prog 34 [.int .i64 0, .string ⟨#[]⟩, .string ⟨#[]⟩, .string ⟨#[]⟩, .int .i64 0, .int .i64 0, .int .i64 0, .slice none 0 0, .slice none 0 0] [(0, 1), (1, 1), (2, 1), (3, 1), (4, 1), (5, 1), (6, 1), (7, 1), (8, 1)] := ⟨⟨(.agg #[.int .i64 0, .string ⟨#[]⟩, .string ⟨#[]⟩, .string ⟨#[]⟩, .int .i64 0, .int .i64 0, .int .i64 0, .slice none 0 0, .slice none 0 0]), fun w => by kernel_rfl, rfl⟩, ⟨_, Try.underlying34, fun w => by kernel_rfl⟩⟩
theorem en_46 : Enters Try.prog 46 := enters_of Try.func46 (by kernel_rfl) rfl
theorem en_98 : Enters Try.prog 98 := enters_of Try.func98 (by kernel_rfl) rfl
theorem en_49 : Enters Try.prog 49 := enters_of Try.func49 (by kernel_rfl) rfl
theorem en_48 : Enters Try.prog 48 := enters_of Try.func48 (by kernel_rfl) rfl
theorem en_97 : Enters Try.prog 97 := enters_of Try.func97 (by kernel_rfl) rfl
theorem en_14 : Enters Try.prog 14 := enters_of Try.func14 (by kernel_rfl) rfl
theorem bt_76 : BuildTy Try.prog 76 [.int .i64 0, .string ⟨#[]⟩, .string ⟨#[]⟩, .string ⟨#[]⟩, .int .i64 0, .int .i64 0, .int .i64 0, .slice none 0 0, .slice none 0 0, .slice none 0 0, .int .i64 0] [(0, 9), (9, 1), (10, 1)] := ⟨⟨(.agg #[.int .i64 0, .string ⟨#[]⟩, .string ⟨#[]⟩, .string ⟨#[]⟩, .int .i64 0, .int .i64 0, .int .i64 0, .slice none 0 0, .slice none 0 0, .slice none 0 0, .int .i64 0]), fun w => by kernel_rfl, rfl⟩, ⟨_, Try.underlying76, fun w => by kernel_rfl⟩⟩
theorem zv_25 : ∀ w, (zeroValue 25).run Try.prog w = .ok (.pointer none) w := fun w => by kernel_rfl
theorem ty_25 : Ty Try.prog 25 false 1 := ⟨fun w => by kernel_rfl, fun w => by kernel_rfl⟩
theorem fa_76_1 : FieldAt Try.prog 76 1 9 := fun a w => by kernel_rfl
theorem ty_74 : Ty Try.prog 74 false 1 := ⟨fun w => by kernel_rfl, fun w => by kernel_rfl⟩
theorem lt_74 : LitTy Try.prog 74 22 1 (.slice none 0 0) := ⟨by kernel_rfl, fun w => by kernel_rfl, fun w => by kernel_rfl⟩
theorem el_74 : ElTy Try.prog 74 22 1 24 := ElTy.mk' (z := (.slice none 0 0)) (by kernel_rfl) (by kernel_rfl) rfl
theorem en_16 : Enters Try.prog 16 := enters_of Try.func16 (by kernel_rfl) rfl
theorem u_25 : Try.prog.underlying 25 = some (.pointer 76) := by kernel_rfl
theorem fa_76_2 : FieldAt Try.prog 76 2 10 := fun a w => by kernel_rfl
theorem u_74 : Try.prog.underlying 74 = some (.slice 22) := by kernel_rfl
theorem fa_76_0 : FieldAt Try.prog 76 0 0 := fun a w => by kernel_rfl
theorem sl_74 : SlTy Try.prog 74 22 1 := ⟨by kernel_rfl, fun w => by kernel_rfl⟩
theorem en_19 : Enters Try.prog 19 := enters_of Try.func19 (by kernel_rfl) rfl
theorem en_20 : Enters Try.prog 20 := enters_of Try.func20 (by kernel_rfl) rfl
theorem en_55 : Enters Try.prog 55 := enters_of Try.func55 (by kernel_rfl) rfl
theorem en_22 : Enters Try.prog 22 := enters_of Try.func22 (by kernel_rfl) rfl
theorem en_33 : Enters Try.prog 33 := enters_of Try.func33 (by kernel_rfl) rfl
theorem bt_114 : BuildTy Try.prog 114 [.string ⟨#[]⟩, .map none] [(0, 1), (1, 1)] := ⟨⟨(.agg #[.string ⟨#[]⟩, .map none]), fun w => by kernel_rfl, rfl⟩, ⟨_, Try.underlying114, fun w => by kernel_rfl⟩⟩
theorem en_35 : Enters Try.prog 35 := enters_of Try.func35 (by kernel_rfl) rfl
theorem u_55 : Try.prog.underlying 55 = some (.pointer 114) := by kernel_rfl
theorem fa_114_0 : FieldAt Try.prog 114 0 0 := fun a w => by kernel_rfl
theorem bt_119 : BuildTy Try.prog 119 [.string ⟨#[]⟩, .string ⟨#[]⟩] [(0, 1), (1, 1)] := ⟨⟨(.agg #[.string ⟨#[]⟩, .string ⟨#[]⟩]), fun w => by kernel_rfl, rfl⟩, ⟨_, Try.underlying119, fun w => by kernel_rfl⟩⟩
theorem zv_119 : ∀ w, (zeroValue 119).run Try.prog w = .ok (.agg #[.string ⟨#[]⟩, .string ⟨#[]⟩]) w := fun w => by kernel_rfl
theorem ty_119 : Ty Try.prog 119 true 2 := ⟨fun w => by kernel_rfl, fun w => by kernel_rfl⟩
theorem fa_114_1 : FieldAt Try.prog 114 1 1 := fun a w => by kernel_rfl
theorem ty_112 : Ty Try.prog 112 false 1 := ⟨fun w => by kernel_rfl, fun w => by kernel_rfl⟩
theorem ss_119 : SsTy Try.prog 119 := ⟨⟨_, _, Try.underlying119, by kernel_rfl, by kernel_rfl, rfl, rfl, by kernel_rfl, by kernel_rfl, fun w => by kernel_rfl, fun w => by kernel_rfl⟩, by kernel_rfl, by kernel_rfl⟩
theorem u_112 : Try.prog.underlying 112 = some (.map 119 121) := by kernel_rfl
theorem zv_121 : ∀ w, (zeroValue 121).run Try.prog w = .ok (.agg #[.int .i64 0, .int .i64 0]) w := fun w => by kernel_rfl
theorem ty_121 : Ty Try.prog 121 true 2 := ⟨fun w => by kernel_rfl, fun w => by kernel_rfl⟩
theorem fa_121_0 : FieldAt Try.prog 121 0 0 := fun a w => by kernel_rfl
theorem bt_121 : BuildTy Try.prog 121 [.int .i64 0, .int .i64 0] [(0, 1), (1, 1)] := ⟨⟨(.agg #[.int .i64 0, .int .i64 0]), fun w => by kernel_rfl, rfl⟩, ⟨_, Try.underlying121, fun w => by kernel_rfl⟩⟩
theorem ii_121 : IiTy Try.prog 121 := ⟨⟨_, _, Try.underlying121, by kernel_rfl, by kernel_rfl, rfl, rfl, by kernel_rfl, by kernel_rfl, fun w => by kernel_rfl, fun w => by kernel_rfl⟩, by kernel_rfl, by kernel_rfl⟩
theorem fa_121_1 : FieldAt Try.prog 121 1 1 := fun a w => by kernel_rfl
theorem en_13 : Enters Try.prog 13 := enters_of Try.func13 (by kernel_rfl) rfl
theorem en_37 : Enters Try.prog 37 := enters_of Try.func37 (by kernel_rfl) rfl
theorem en_39 : Enters Try.prog 39 := enters_of Try.func39 (by kernel_rfl) rfl
theorem en_10 : Enters Try.prog 10 := enters_of Try.func10 (by kernel_rfl) rfl
end
end Go.Proofs.Ytfaenhhiogcacaa.Px
