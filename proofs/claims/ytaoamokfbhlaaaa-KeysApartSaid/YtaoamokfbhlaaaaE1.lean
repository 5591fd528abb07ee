/- Core of a walking engine: frames by facts on slots, code by paths, worlds by steps that keep what is below a watermark. No program in sight. -/
import Derived.Calls
import Derived.Orders
import Derived.KernelRfl
import Derived.Below
import Derived.Laws.AppendOwn
import Derived.Laws.Cells
import Derived.Laws.CopyRow
import Derived.Laws.Entries
import Derived.Tactics
import Derived.Deep.LoopGhost
set_option linter.unusedVariables false
set_option linter.unusedSimpArgs false
namespace Go.Proofs.Ytaoamokfbhlaaaa.E
open Go

/-! ### 1. Frames -/
abbrev Sl := List (Nat × Value)

structure Fr (a : Act) (n : Nat) (l : Sl) : Prop where
  d : a.defers = []
  s : a.tmps.size = n
  h : ∀ t v, l.lookup t = some v → a.tmps.getD t undef = v

def sel (ks : List Nat) (l : Sl) : Sl := ks.filterMap fun k => (l.lookup k).map fun v => (k, v)

theorem lookup_sel (l : Sl) (t : Nat) (v : Value) : ∀ (ks : List Nat), (sel ks l).lookup t = some v → l.lookup t = some v := by
  intro ks
  induction ks with
  | nil => intro h; simp [sel] at h
  | cons k ks ih =>
    intro h
    unfold sel at h
    rw [List.filterMap_cons] at h
    cases hk : l.lookup k with
    | none => rw [hk] at h; exact ih h
    | some u =>
      rw [hk] at h
      simp only [Option.map_some] at h
      rw [List.lookup_cons] at h
      by_cases e : t = k
      · subst e; simp at h; rw [hk, h]
      · have : (t == k) = false := by simpa using e
        rw [this] at h
        exact ih h

theorem Fr.keep {a : Act} {n : Nat} {l : Sl} (h : Fr a n l) (ks : List Nat) (l' : Sl) (e : sel ks l = l') : Fr a n l' :=
  ⟨h.d, h.s, fun t v hv => h.h t v (lookup_sel l t v ks (e ▸ hv))⟩

theorem Fr.put {a : Act} {n : Nat} {l : Sl} (h : Fr a n l) (d : Nat) (v : Value) (hd : d < n) : Fr (a.put (some d) v) n ((d, v) :: l) := by
  refine ⟨h.d, by simp [Act.put, h.s], fun t u hu => ?_⟩
  rw [List.lookup_cons] at hu
  by_cases e : t = d
  · subst e
    simp at hu
    subst hu
    simp [Act.put, h.s, hd]
  · have : (t == d) = false := by simpa using e
    rw [this] at hu
    have := h.h t u hu
    rw [← this]
    simp only [Act.put, Array.getD_eq_getD_getElem?]
    rw [Array.getElem?_setIfInBounds_ne (Ne.symm e)]

theorem Fr.set {a : Act} {n : Nat} {l : Sl} (h : Fr a n l) (t : Nat) (v v' : Value) (hl : l.lookup t = some v) (e : v = v') : Fr a n ((t, v') :: l) := by
  refine ⟨h.d, h.s, fun t' u hu => ?_⟩
  rw [List.lookup_cons] at hu
  by_cases c : t' = t
  · subst c
    simp at hu
    subst hu; subst e
    exact h.h _ _ hl
  · have : (t' == t) = false := by simpa using c
    rw [this] at hu
    exact h.h _ _ hu

/-- A slot's value is another's by an equation. -/
theorem Fr.to {a : Act} {n : Nat} {l l' : Sl} (h : Fr a n l) (e : l = l') : Fr a n l' := e ▸ h

def putS (d : Option Nat) (v : Value) (l : Sl) : Sl := match d with | some d => (d, v) :: l | none => l

def evl (l : Sl) : Operand → Value
  | .tmp t => (l.lookup t).getD undef
  | .const v => v
  | .global g => .pointer (some ⟨g, 0, none⟩)
  | .func f => .func (.func f) #[] #[]

def known (l : Sl) : Operand → Bool
  | .tmp t => (l.lookup t).isSome
  | _ => true

theorem Fr.ev {a : Act} {n : Nat} {l : Sl} (h : Fr a n l) (x : Operand) (hk : known l x = true) : a.eval x = evl l x := by
  cases x with
  | tmp t =>
    simp only [known] at hk
    cases e : l.lookup t with
    | none => simp [e] at hk
    | some v => simp only [Act.eval, evl, e, Option.getD_some]; exact h.h t v e
  | _ => rfl

/-! ### 2. Operations that the kernel runs -/

def opOk (l : Sl) (o : Oper) : Bool := o.op.operands.toList.all (known l) && (match o.op with | .select .. => false | _ => true)

theorem opOk_exec {a : Act} {n : Nat} {l : Sl} (h : Fr a n l) {o : Oper} (hk : opOk l o = true) : execOp a.eval o = execOp (evl l) o := by
  simp only [opOk, Bool.and_eq_true, List.all_eq_true] at hk
  refine execOp_congr o (fun cs b e => by rw [e] at hk; simp at hk) (fun x hx => h.ev x (hk.1 x (by simpa using hx)))

/-- Is the operation to be run? The guard's operation has left a bool. -/
def guardOn (ops : Array Oper) (l : Sl) (o : Oper) : Option Bool :=
  match o.guard with
  | none => some true
  | some (j, want) =>
    match (ops[j]?).bind (·.dst) with
    | none => none
    | some d => match l.lookup d with
      | some (.bool b) => some (b == want)
      | some _ => some false
      | none => none

theorem guardOn_spec {a : Act} {n : Nat} {l : Sl} (h : Fr a n l) {ops : Array Oper} {o : Oper} {b : Bool} (hb : ∀ d, (l.lookup d).isSome → d < n) (hg : guardOn ops l o = some b) : Region.wanted o (yielded ops a.tmps) = b := by
  unfold guardOn at hg
  unfold Region.wanted
  split at hg
  · rename_i e; rw [e]; simpa using hg
  · rename_i j want e
    rw [e]
    split at hg
    · simp at hg
    · rename_i d hd
      have at_d : ∀ v, l.lookup d = some v → a.tmps[d]? = some v := by
        intro v hv
        have h1 := h.h d v hv
        have hlt : d < n := hb d (by rw [hv]; rfl)
        have hs : d < a.tmps.size := by rw [h.s]; exact hlt
        rw [Array.getElem?_eq_getElem hs]
        simp only [Array.getD_eq_getD_getElem?, Array.getElem?_eq_getElem hs, Option.getD_some] at h1
        rw [h1]
      split at hg
      · rename_i c hc
        simp only [yielded, hd, Option.bind_some, at_d _ hc]
        simp only [Option.some.injEq] at hg
        rw [← hg]
        cases c <;> cases want <;> rfl
      · rename_i v hnb hv
        simp only [yielded, hd, Option.bind_some, at_d _ hv]
        simp only [Option.some.injEq] at hg
        rw [← hg]
        cases v <;> first | rfl | exact absurd rfl (hnb _)
      · simp at hg

def allLt (n : Nat) (l : Sl) : Bool := l.all fun p => decide (p.1 < n)

theorem allLt_spec {n : Nat} {l : Sl} (h : allLt n l = true) : ∀ d, (l.lookup d).isSome → d < n := by
  intro d hd
  simp only [allLt, List.all_eq_true, decide_eq_true_eq] at h
  cases e : l.lookup d with
  | none => rw [e] at hd; simp at hd
  | some v =>
    obtain ⟨l1, l2, hl, _⟩ := List.lookup_eq_some_iff.1 e
    exact h (d, v) (by rw [hl]; simp)

/-- The operations of one list, run behind one another over a frame that is known in part. -/
def runAll (ops : Array Oper) : List Oper → Sl → Sem Sl
  | [], l => pure l
  | o :: os, l =>
    match guardOn ops l o with
    | none => stuck "guard"
    | some false => runAll ops os (putS o.dst undef l)
    | some true =>
      if opOk l o then do
        match ← execOp (evl l) o with
        | .value v => runAll ops os (putS o.dst v l)
        | .skip => match o.dst with
          | some _ => stuck "dst"
          | none => runAll ops os l
        | _ => stuck "no value"
      else stuck "operand"

def dstOk (n : Nat) (o : Oper) : Bool := match o.dst with | some d => decide (d < n) | none => true

theorem Fr.putD {a : Act} {n : Nat} {l : Sl} (h : Fr a n l) {o : Oper} (ho : dstOk n o = true) (v : Value) :
    Fr (a.put o.dst v) n (putS o.dst v l) := by
  unfold dstOk at ho
  cases e : o.dst with
  | none => exact h
  | some d => rw [e] at ho; simp only [decide_eq_true_eq] at ho; exact h.put d v ho

theorem allLt_put {n : Nat} {l : Sl} (h : allLt n l = true) {o : Oper} (ho : dstOk n o = true) (v : Value) : allLt n (putS o.dst v l) = true := by
  unfold dstOk at ho
  unfold putS
  cases e : o.dst with
  | none => exact h
  | some d =>
    rw [e] at ho
    simp only [allLt, List.all_cons, Bool.and_eq_true]
    exact ⟨ho, h⟩

theorem wp_runAll {P : Program} {ops : Array Oper} {Q : Exit → Act → World → Prop} {n : Nat} {l' : Sl} {w' : World} {rest : List Oper} :
    ∀ (os : List Oper) (l : Sl) (a : Act) (w : World), Fr a n l → allLt n l = true → os.all (dstOk n) = true → (runAll ops os l).run P w = .ok l' w' →
      (∀ a', Fr a' n l' → wpList P ops Q rest a' w') → wpList P ops Q (os ++ rest) a w := by
  intro os
  induction os with
  | nil =>
    intro l a w hF _ _ hr k
    simp only [runAll, Sem.run_pure] at hr
    obtain ⟨rfl, rfl⟩ : l = l' ∧ w = w' := by injection hr with h1 h2; exact ⟨h1, h2⟩
    exact k a hF
  | cons o os ih =>
    intro l a w hF hn hds hr k
    simp only [List.all_cons, Bool.and_eq_true] at hds
    simp only [runAll] at hr
    have hsp := allLt_spec hn
    show wpList P ops Q (o :: (os ++ rest)) a w
    unfold wpList
    split at hr
    · simp at hr
    · rename_i hg
      rw [guardOn_spec hF hsp hg]
      simp only [Bool.false_eq_true, if_false]
      exact ih _ _ _ (hF.putD hds.1 undef) (allLt_put hn hds.1 undef) hds.2 hr k
    · rename_i hg
      rw [guardOn_spec hF hsp hg]
      simp only [if_true]
      split at hr
      · rename_i hk
        left
        unfold Oper.wp
        rw [opOk_exec hF hk]
        rw [Sem.run_bind] at hr
        cases hx : (execOp (evl l) o).run P w with
        | halt h w1 => rw [hx] at hr; simp at hr
        | ok nx w1 =>
          rw [hx] at hr
          simp only [Result.andThen_ok] at hr
          cases nx with
          | value v =>
            simp only [Oper.upon_value]
            exact ih _ _ _ (hF.putD hds.1 v) (allLt_put hn hds.1 v) hds.2 hr k
          | skip =>
            simp only [Oper.upon_skip]
            cases hd : o.dst with
            | none => 
              rw [hd] at hr
              have h2 := hF.putD hds.1 undef
              rw [hd] at h2
              exact ih _ _ _ h2 hn hds.2 hr k
            | some d => rw [hd] at hr; simp at hr
          | _ => simp at hr
      · simp at hr

/-- 'k' operations, run by the kernel. -/
theorem st_run {P : Program} {ops : Array Oper} {Q : Exit → Act → World → Prop} {n : Nat} {l l' : Sl} {a : Act} {w w' : World} {os : List Oper} (k : Nat)
    (hF : Fr a n l) (hc : (allLt n l && (os.take k).all (dstOk n)) = true) (hr : (runAll ops (os.take k) l).run P w = .ok l' w')
    (K : ∀ a', Fr a' n l' → wpList P ops Q (os.drop k) a' w') : wpList P ops Q os a w := by
  have h := wp_runAll (rest := os.drop k) (Q := Q) (os.take k) l a w hF (by simp only [Bool.and_eq_true] at hc; exact hc.1) (by simp only [Bool.and_eq_true] at hc; exact hc.2) hr K
  rwa [List.take_append_drop] at h

/-- One operation that gives a value. -/
theorem st_val {P : Program} {ops : Array Oper} {Q : Exit → Act → World → Prop} {n : Nat} {l : Sl} {a : Act} {w : World} {o : Oper} {rest : List Oper}
    (hF : Fr a n l) (hc : (allLt n l && opOk l o && dstOk n o) = true) (hg : guardOn ops l o = some true) (w' : World) (v : Value)
    (hr : (execOp (evl l) o).run P w = .ok (.value v) w')
    (K : ∀ a', Fr a' n (putS o.dst v l) → wpList P ops Q rest a' w') : wpList P ops Q (o :: rest) a w := by
  simp only [Bool.and_eq_true] at hc
  unfold wpList
  rw [guardOn_spec hF (allLt_spec hc.1.1) hg]
  simp only [if_true]
  left
  unfold Oper.wp
  rw [opOk_exec hF hc.1.2, hr]
  exact K _ (hF.putD hc.2 v)

/-- One operation that gives none (a store). -/
theorem st_skip {P : Program} {ops : Array Oper} {Q : Exit → Act → World → Prop} {n : Nat} {l : Sl} {a : Act} {w : World} {o : Oper} {rest : List Oper}
    (hF : Fr a n l) (hc : (allLt n l && opOk l o && o.dst.isNone) = true) (hg : guardOn ops l o = some true) (w' : World)
    (hr : (execOp (evl l) o).run P w = .ok .skip w')
    (K : ∀ a', Fr a' n l → wpList P ops Q rest a' w') : wpList P ops Q (o :: rest) a w := by
  simp only [Bool.and_eq_true] at hc
  unfold wpList
  rw [guardOn_spec hF (allLt_spec hc.1.1) hg]
  simp only [if_true]
  left
  unfold Oper.wp
  rw [opOk_exec hF hc.1.2, hr]
  have : o.dst = none := by simpa using hc.2
  rw [Oper.upon_skip, this]
  exact K _ hF

/-! ### 3. Code by paths -/
def sub : Code → List Nat → Code
  | c, [] => c
  | .seq a b, i :: p => if i = 0 then sub a p else sub b p
  | .cond _ t e, i :: p => if i = 0 then sub t p else sub e p
  | .block _ b, _ :: p => sub b p
  | .loop b, _ :: p => sub b p
  | .scope b, _ :: p => sub b p
  | .rangeFunc _ _ x b, i :: p => if i = 0 then sub x p else sub b p
  | _, _ => .skip

theorem sub_nil (C : Code) : sub C [] = C := by cases C <;> rfl

def opsOf : Code → Array Oper
  | .region _ ops _ => ops
  | _ => #[]

section rules
variable {P : Program} {Q : Exit → Act → World → Prop} {a : Act} {w : World} {C : Code}

theorem c_seq {p : List Nat} (p0 p1 : List Nat) (h : sub C p = .seq (sub C p0) (sub C p1)) (k : (sub C p0).wp P (Exit.then ((sub C p1).wp P Q) Q) a w) : (sub C p).wp P Q a w := by
  rw [h]; exact wp_seq k
theorem c_block {p : List Nat} (p0 : List Nat) (id : Nat) (h : sub C p = .block id (sub C p0)) (k : (sub C p0).wp P (Exit.inBlock id Q) a w) : (sub C p).wp P Q a w := by
  rw [h]; exact wp_block k
theorem c_skip {p : List Nat} (h : sub C p = .skip) (k : Q .normal a w) : (sub C p).wp P Q a w := by
  rw [h]; exact wp_skip k
theorem c_ret {p : List Nat} (h : sub C p = .ret) (k : Q .ret a w) : (sub C p).wp P Q a w := by
  rw [h]; exact wp_ret k
theorem c_exit {p : List Nat} (id : Nat) (h : sub C p = .exit id) (k : Q (.exit id) a w) : (sub C p).wp P Q a w := by
  rw [h]; exact wp_exit k
theorem c_region {p : List Nat} (id : Nat) (h : sub C p = .region id (opsOf (sub C p)) false) (k : wpList P (opsOf (sub C p)) Q (opsOf (sub C p)).toList a w) : (sub C p).wp P Q a w := by
  rw [h]; exact wp_region_list k
theorem c_cond {p : List Nat} (p0 p1 : List Nat) (t : Nat) (h : sub C p = .cond (.tmp t) (sub C p0) (sub C p1)) {n : Nat} {l : Sl} (hF : Fr a n l) (b : Bool) (hl : l.lookup t = some (.bool b))
    (k1 : b = true → (sub C p0).wp P Q a w) (k2 : b = false → (sub C p1).wp P Q a w) : (sub C p).wp P Q a w := by
  rw [h]; exact wp_cond_split (hF.h t _ hl) k1 k2
theorem c_cond_true {p : List Nat} (p0 p1 : List Nat) (t : Nat) (h : sub C p = .cond (.tmp t) (sub C p0) (sub C p1)) {n : Nat} {l : Sl} (hF : Fr a n l) (hl : l.lookup t = some (.bool true))
    (k1 : (sub C p0).wp P Q a w) : (sub C p).wp P Q a w := by
  rw [h]; exact wp_cond_true (hF.h t _ hl) k1
theorem c_cond_false {p : List Nat} (p0 p1 : List Nat) (t : Nat) (h : sub C p = .cond (.tmp t) (sub C p0) (sub C p1)) {n : Nat} {l : Sl} (hF : Fr a n l) (hl : l.lookup t = some (.bool false))
    (k1 : (sub C p1).wp P Q a w) : (sub C p).wp P Q a w := by
  rw [h]; exact wp_cond_false (hF.h t _ hl) k1

/-- A loop, by a ghost. -/
theorem c_loop {p : List Nat} (p0 : List Nat) (h : sub C p = .loop (sub C p0)) {ι : Type} (I : ι → Act → World → Prop) (μ : ι → Nat) (i0 : ι) (h0 : I i0 a w)
    (round : ∀ i a w, I i a w → (sub C p0).wp P (Exit.then (fun a' w' => ∃ j, I j a' w' ∧ μ j < μ i) Q) a w) : (sub C p).wp P Q a w := by
  rw [h]
  refine wp_loop_ghost (fun m a w => ∃ i, μ i = m ∧ I i a w) (μ i0) ⟨i0, rfl, h0⟩ ?_
  rintro m a w ⟨i, rfl, hI⟩
  refine wp_mono (round i a w hI) ?_
  intro e a' w' hq
  cases e with
  | normal => obtain ⟨j, hj, hlt⟩ := hq; exact ⟨μ j, hlt, j, rfl, hj⟩
  | _ => exact hq
end rules
end Go.Proofs.Ytaoamokfbhlaaaa.E
