/- The engine's steps: operations on memory, calls, a function's begin and end. -/
import Derived.Test.YtaoamokfbhlaaaaE2
import Derived.Laws.BytesArg
set_option linter.unusedVariables false
set_option linter.unusedSimpArgs false
namespace Go.Proofs.Ytaoamokfbhlaaaa.E
open Go Go.RowKit

/-! ### 1. A region's operations by their place -/
def wpAt (P : Program) (ops : Array Oper) (Q : Exit → Act → World → Prop) (i : Nat) (a : Act) (w : World) : Prop := wpList P ops Q (ops.toList.drop i) a w

section
variable {P : Program} {ops : Array Oper} {Q : Exit → Act → World → Prop} {Kp : Act → World → Prop} {n i : Nat} {l l' : Sl} {a : Act} {w w' : World} {C : Code}

theorem c_reg {p : List Nat} (id : Nat) (h : sub C p = .region id (opsOf (sub C p)) false) (k : wpAt P (opsOf (sub C p)) Q 0 a w) : (sub C p).wp P Q a w := c_region id h k

theorem r_end (h : ops.size = i) (k : Q .normal a w) : wpAt P ops Q i a w := by
  unfold wpAt
  rw [List.drop_of_length_le (by simp [h])]
  exact k

theorem drop_of {o : Oper} (h : ops[i]? = some o) : ops.toList.drop i = o :: ops.toList.drop (i + 1) := by
  have h' : ops.toList[i]? = some o := by simpa using h
  obtain ⟨hlt, e⟩ := List.getElem?_eq_some_iff.1 h'
  rw [List.drop_eq_getElem_cons hlt, e]

theorem r_run (k : Nat) (hF : Fr a n l) (hc : (allLt n l && ((ops.toList.drop i).take k).all (dstOk n)) = true) (hr : (runAll ops ((ops.toList.drop i).take k) l).run P w = .ok l' w')
    (K : ∀ a', Fr a' n l' → wpAt P ops Q (i + k) a' w') : wpAt P ops Q i a w := by
  refine st_run k hF hc hr fun a' hF' => ?_
  rw [List.drop_drop]
  exact K a' hF'

/-- 'k' operations, of whose slots some are kept. -/
def runSel (P : Program) (ops : Array Oper) (os : List Oper) (l : Sl) (ks : List Nat) (w : World) : Option (Sl × World) :=
  match (runAll ops os l).run P w with
  | .ok l' w' => some (sel ks l', w')
  | _ => none
theorem r_runk (k : Nat) (ks : List Nat) (l' : Sl) (hF : Fr a n l) (hc : (allLt n l && ((ops.toList.drop i).take k).all (dstOk n)) = true) (hr : runSel P ops ((ops.toList.drop i).take k) l ks w = some (l', w))
    (K : ∀ a', Fr a' n l' → wpAt P ops Q (i + k) a' w) : wpAt P ops Q i a w := by
  unfold runSel at hr
  split at hr
  · rename_i l2 w2 h2
    simp only [Option.some.injEq, Prod.mk.injEq] at hr
    obtain ⟨h3, rfl⟩ := hr
    exact r_run k hF hc h2 fun a' hF' => K a' (hF'.keep ks l' h3)
  · simp at hr

/-- What an operation is, as far as it counts. -/
def opAt (ops : Array Oper) (i : Nat) (d : Option Nat) (op : Op) : Prop := ∃ o, ops[i]? = some o ∧ o.dst = d ∧ o.op = op

theorem opAt_of {d : Option Nat} {op : Op} (h : (ops[i]?).map (fun o => (o.dst, o.op)) = some (d, op)) : opAt ops i d op := by
  obtain ⟨o, ho, e⟩ := Option.map_eq_some_iff.1 h
  injection e with e1 e2
  exact ⟨o, ho, e1, e2⟩

def okAt (ops : Array Oper) (i n : Nat) (l : Sl) : Bool :=
  match ops[i]? with
  | some o => allLt n l && opOk l o && dstOk n o && (match guardOn ops l o with | some true => true | _ => false)
  | none => false

theorem wpOp_on {o : Oper} (h1 : ops[i]? = some o) (hw : Region.wanted o (yielded ops a.tmps) = true) (h : o.wp P a w Kp Q) : wpOp P ops Q i Kp a w := by
  unfold wpOp
  rw [h1]
  simp only [hw, if_true]
  exact .inl h

/-- One operation of a region that stands in order. -/
theorem r_at (h : wpOp P ops Q i (wpAt P ops Q (i + 1)) a w) : wpAt P ops Q i a w := by
  unfold wpAt at *
  unfold wpOp at h
  cases e : ops[i]? with
  | none =>
    rw [e] at h
    have hl : ops.size ≤ i := by
      rcases Nat.lt_or_ge i ops.size with c | c
      · rw [Array.getElem?_eq_getElem c] at e; simp at e
      · exact c
    rw [List.drop_of_length_le (by simp; omega)] at h
    rw [List.drop_of_length_le (by simpa using hl)]
    exact h
  | some o =>
    rw [e] at h
    rw [drop_of e]
    exact h

theorem r_val {d : Nat} {op : Op} (hF : Fr a n l) (ho : (ops[i]?).map (fun o => (o.dst, o.op)) = some (some d, op)) (hk : okAt ops i n l = true) (v : Value) (w' : World)
    (hr : ∀ o : Oper, o.op = op → (execOp (evl l) o).run P w = .ok (.value v) w')
    (K : ∀ a', Fr a' n ((d, v) :: l) → Kp a' w') : wpOp P ops Q i Kp a w := by
  obtain ⟨o, h1, h2, h3⟩ := opAt_of ho
  unfold okAt at hk
  rw [h1] at hk
  simp only [Bool.and_eq_true] at hk
  have hg : guardOn ops l o = some true := by
    have := hk.2
    split at this <;> simp_all
  refine wpOp_on h1 (guardOn_spec hF (allLt_spec hk.1.1.1) hg) ?_
  unfold Oper.wp
  rw [opOk_exec hF hk.1.1.2, hr o h3, Oper.upon_value]
  have hF' := hF.putD hk.1.2 v
  rw [h2] at hF'
  rw [h2]
  exact K _ hF'

theorem r_skip {op : Op} (hF : Fr a n l) (ho : (ops[i]?).map (fun o => (o.dst, o.op)) = some (none, op)) (hk : okAt ops i n l = true) (w' : World)
    (hr : ∀ o : Oper, o.op = op → (execOp (evl l) o).run P w = .ok .skip w')
    (K : ∀ a', Fr a' n l → Kp a' w') : wpOp P ops Q i Kp a w := by
  obtain ⟨o, h1, h2, h3⟩ := opAt_of ho
  unfold okAt at hk
  rw [h1] at hk
  simp only [Bool.and_eq_true] at hk
  have hg : guardOn ops l o = some true := by
    have := hk.2
    split at this <;> simp_all
  refine wpOp_on h1 (guardOn_spec hF (allLt_spec hk.1.1.1) hg) ?_
  unfold Oper.wp
  rw [opOk_exec hF hk.1.1.2, hr o h3, Oper.upon_skip]
  have hF' := hF.putD hk.1.2 undef
  rw [h2] at hF'
  rw [h2]
  exact K _ hF'
end

/-! ### 2. Layout -/
structure Lay (P : Program) (t : TypeId) (agg : Bool) (k : Nat) : Prop where
  a : ∀ w, (isAgg t).run P w = .ok agg w
  s : ∀ w, (sizeOf t).run P w = .ok k w

def vOf (agg : Bool) (cs : List Value) : Value := if agg then .agg cs.toArray else cs.headD undef

theorem run_loadVar_cs {P : Program} {w : World} {t : TypeId} {agg : Bool} {b o : Nat} {cs : List Value} (L : Lay P t agg cs.length) (ha : agg = true ∨ cs.length = 1)
    (hc : ∀ j v, cs[j]? = some v → w.cell? ⟨b, o + j, none⟩ = some v) : (loadVar t ⟨b, o, none⟩).run P w = .ok (vOf agg cs) w := by
  have hc' : ∀ j v, cs[j]? = some v → w.cell? ((⟨b, o, none⟩ : Addr).add j) = some v := fun j v h => by rw [Addr.add_lit]; exact hc j v h
  unfold loadVar
  simp only [Sem.run_bind, L.a, Result.andThen_ok]
  cases agg with
  | true =>
    simp only [if_true, Sem.run_bind, L.s, Result.andThen_ok, run_loadCells_list w _ cs hc', Sem.run_pure, vOf]
  | false =>
    have h1 : cs.length = 1 := by simpa using ha
    rcases cs with _ | ⟨v, _ | ⟨u, r⟩⟩
    · simp at h1
    · have := hc 0 v rfl
      simp only [Nat.add_zero] at this
      simp only [Bool.false_eq_true, if_false, run_load, this, vOf, List.headD]
    · simp at h1

theorem exec_load {P : Program} {w : World} {l : Sl} {t : TypeId} {x : Operand} {agg : Bool} {b o : Nat} {cs : List Value} (L : Lay P t agg cs.length) (ha : agg = true ∨ cs.length = 1)
    (hx : evl l x = .pointer (some ⟨b, o, none⟩)) (hc : ∀ j v, cs[j]? = some v → w.cell? ⟨b, o + j, none⟩ = some v) :
    ∀ op : Oper, op.op = .load t x → (execOp (evl l) op).run P w = .ok (.value (vOf agg cs)) w := by
  intro op e
  simp only [execOp, e, hx, Instr.loadAt, Instr.sureAddr, Sem.run_bind, Sem.run_pure, Result.andThen_ok, run_loadVar_cs L ha hc]

section
variable {P : Program} {ops : Array Oper} {Q : Exit → Act → World → Prop} {Kp : Act → World → Prop} {n i : Nat} {l l' : Sl} {a : Act} {w w' : World} {C : Code} {M : Nat → Prop} {σ : Nat → Nat}

theorem Seg.cell {b o : Nat} {cs : List Value} (h : Seg σ w b o cs) : ∀ j v, cs[j]? = some v → w.cell? ⟨b, o + j, none⟩ = some v := fun j v e => (h.h j v e).2
theorem Seg.sub {b o : Nat} {cs : List Value} (h : Seg σ w b o cs) (k m : Nat) (c : List Value) (hc : (cs.drop k).take m = c) : Seg σ w b (o + k) c := by
  refine h.part k fun j v e => ?_
  rw [← hc, List.getElem?_take] at e
  split at e
  · rwa [List.getElem?_drop] at e
  · simp at e
theorem Bx.cells {b : Nat} {all : List Value} {e : TypeId} (h : Bx σ w b all e) (off m : Nat) (c : List Value) (hc : (all.drop off).take m = c) : ∀ j v, c[j]? = some v → w.cell? ⟨b, off + j, none⟩ = some v := by
  intro j v e
  rw [h.cell, ← List.getElem?_drop]
  rw [← hc, List.getElem?_take] at e
  split at e
  · exact e
  · simp at e

theorem storeAt_run {t : TypeId} {b off : Nat} {old vs : List Value} {e : TypeId} (hg : w.heap[b]? = some (.cells old.toArray e (0, 0))) (hs : ∀ w, (sizeOf t).run P w = .ok vs.length w) (v : Value) (hv : v.cells.toList = vs)
    (h1 : ∀ u ∈ vs, u.oneCell' = true) (hfit : off + vs.length ≤ old.length) :
    (Instr.storeAt t (.pointer (some ⟨b, off, none⟩)) v).run P w = .ok () (w.setRow b (old.take off ++ vs ++ old.drop (off + vs.length)).toArray) := by
  have hsz : v.cells.size = vs.length := by rw [← hv]; simp
  have hst := run_storeCells_at P b off e vs 0 old.toArray w hg (by simpa using hfit) h1
  simp only [Nat.add_zero] at hst
  unfold Instr.storeAt storeVar
  simp only [Instr.sureAddr, Sem.run_bind, Sem.run_pure, Result.andThen_ok, hs, hsz, ne_eq, not_true_eq_false, if_false, hv]
  exact hst

/-- A store into a variable of one's own. -/
theorem r_store {t : TypeId} {x y : Operand} (hF : Fr a n l) (ho : (ops[i]?).map (fun o => (o.dst, o.op)) = some (none, .store t x y)) (hk : okAt ops i n l = true)
    {b : Nat} {old : List Value} {e : TypeId} (hB : Bx σ w b old e) (off : Nat) (vs new : List Value) (hx : evl l x = .pointer (some ⟨b, off, none⟩)) (hv : (evl l y).cells.toList = vs)
    (k : Nat) (agg : Bool) (L : Lay P t agg k) (hkl : vs.length = k) (h1 : vs.all (·.oneCell') = true) (hfit : off + vs.length ≤ old.length) (hnew : old.take off ++ vs ++ old.drop (off + vs.length) = new)
    (K : ∀ a' w', Stp (· = b) σ w σ w' → Bx σ w' b new e → Fr a' n l → Kp a' w') : wpOp P ops Q i Kp a w := by
  subst hkl
  refine r_skip hF ho hk (w.setRow b new.toArray) ?_ fun a' hF' => K a' _ ?_ ?_ hF'
  · intro o e
    simp only [execOp, e, hx, Sem.run_bind]
    rw [storeAt_run hB.h L.s _ hv (by simpa using h1) hfit, hnew]
    rfl
  · refine ⟨rfl, rfl, rfl, by simp, fun x _ hx => setRow_other w b x _ hx, fun _ _ _ => rfl, fun x o hx ho => ?_, fun _ _ => Nat.le_refl _⟩
    have hne : x ≠ b := by rintro rfl; rw [hB.z] at ho; omega
    exact World.cell?_of_block (setRow_other w b x _ hne)
  · exact ⟨setRow_heap w b _ _ e _ hB.h, hB.z⟩

/-- A new variable: 'box', 'alloc'. -/
theorem r_new {d : Nat} {op : Op} (hF : Fr a n l) (ho : (ops[i]?).map (fun o => (o.dst, o.op)) = some (some d, op)) (hk : okAt ops i n l = true) (σ : Nat → Nat) (cs : List Value) (e : TypeId)
    (hr : ∀ o : Oper, o.op = op → (execOp (evl l) o).run P w = .ok (.value (.pointer (some ⟨w.heap.size, 0, none⟩))) (w.alloc (.cells cs.toArray e)))
    (K : ∀ a' σ' w' b, b = w.heap.size → Stp noM σ w σ' w' → Bx σ' w' b cs e → Fr a' n ((d, .pointer (some ⟨b, 0, none⟩)) :: l) → Kp a' w') : wpOp P ops Q i Kp a w :=
  r_val hF ho hk _ _ hr fun a' hF' => K a' _ _ _ rfl (Stp.alloc σ w _ 0) (Bx.new σ w cs e) hF'

theorem exec_box {x : Operand} {t : TypeId} (cs : List Value) (hx : (evl l x).cells.toList = cs) : ∀ o : Oper, o.op = .box t x → (execOp (evl l) o).run P w = .ok (.value (.pointer (some ⟨w.heap.size, 0, none⟩))) (w.alloc (.cells cs.toArray t)) := by
  intro o e
  have : (evl l x).cells = cs.toArray := by rw [← hx]
  simp only [execOp, e, Instr.box, newVar, newRow, this]
  rfl

theorem exec_alloc {t : TypeId} (cs : List Value) (hz : ∀ w, (zeroValue t).run P w = .ok (.agg cs.toArray) w ∨ ∃ v, cs = [v] ∧ v.oneCell' = true ∧ (zeroValue t).run P w = .ok v w) :
    ∀ o : Oper, o.op = .alloc t → (execOp (evl l) o).run P w = .ok (.value (.pointer (some ⟨w.heap.size, 0, none⟩))) (w.alloc (.cells cs.toArray t)) := by
  intro o e
  simp only [execOp, e, Instr.alloc, Sem.run_bind]
  rcases hz w with h | ⟨v, rfl, hv, h⟩
  · rw [h]; rfl
  · rw [h]
    cases v <;> first | rfl | (simp [Value.oneCell'] at hv)

/-- A slice that is built with its elements. -/
theorem r_lit {α : Type} (T : Ty α) {d : Nat} {t e : TypeId} {m : Nat} {parts : Array (Nat × Operand)} (hF : Fr a n l) (ho : (ops[i]?).map (fun o => (o.dst, o.op)) = some (some d, .buildSlice t m parts)) (hk : okAt ops i n l = true)
    (σ : Nat → Nat) (xs : List α) (cs : List Value) (hr : Reps (T.rep σ w) xs cs) (hm : xs.length = m) (hb : m * T.by_ ≤ big)
    (hrun : ∀ o : Oper, o.op = .buildSlice t m parts → (execOp (evl l) o).run P w = .ok (.value (.slice (some ⟨w.heap.size, 0, none⟩) m m)) (w.alloc (.cells cs.toArray e))) (hmm : m ≤ maxLen)
    (K : ∀ a' σ' w' g, g = w.heap.size → Stp noM σ w σ' w' → Own T e g σ' w' (.slice (some ⟨g, 0, none⟩) m m) xs → Fr a' n ((d, .slice (some ⟨g, 0, none⟩) m m) :: l) → Kp a' w') : wpOp P ops Q i Kp a w := by
  subst hm
  exact r_val hF ho hk _ _ hrun fun a' hF' => K a' _ _ _ rfl (Stp.alloc σ w _ _) (Own.built T e σ w xs cs hr hb hmm) hF'

theorem exec_index {t e : TypeId} {x y : Operand} {ad : Option Addr} {len cap b off : Nat} (he : ad = some ⟨b, off, none⟩) (hx : evl l x = .slice ad len cap) {kd : IntKind} (j : Nat) (hy : evl l y = .int kd (j : Int)) (hj : j < len) (k : Nat)
    (hu : P.underlying t = some (.slice e)) (hs : ∀ w, (sizeOf e).run P w = .ok k w) : ∀ o : Oper, o.op = .indexAddr t x y → (execOp (evl l) o).run P w = .ok (.value (.pointer (some ⟨b, off + j * k, none⟩))) w := by
  intro op hop
  subst he
  have h0 : (0 : Int) ≤ (j : Int) := by omega
  have h1 : (j : Int) < ((len : Nat) : Int) := by omega
  simp only [execOp, hop, hx, hy, Instr.indexAt, asIntOf, Sem.run_bind, Sem.run_pure, Result.andThen_ok, run_underlying hu, h0, h1, and_self, if_true, hs, Int.toNat_natCast, Addr.add_lit]
end

/-! ### 3. Calls -/
def Ctr (P : Program) (f : FuncId) (vs : List Value) (M : Nat → Prop) (σ : Nat → Nat) (w : World) (Post : (Nat → Nat) → World → Value → Prop) : Prop :=
  Calls P f vs.toArray w fun e w' => ∃ σ' v, e = .returned v ∧ Stp M σ w σ' w' ∧ Post σ' w' v

theorem Ctr.mono {P : Program} {f : FuncId} {vs : List Value} {M M' : Nat → Prop} {σ : Nat → Nat} {w : World} {Post Post' : (Nat → Nat) → World → Value → Prop}
    (h : Ctr P f vs M σ w Post) (hM : ∀ b, b < w.heap.size → M b → M' b) (hp : ∀ σ' w' v, Stp M σ w σ' w' → Post σ' w' v → Post' σ' w' v) : Ctr P f vs M' σ w Post' :=
  Calls.mono h fun e w' ⟨σ', v, h1, h2, h3⟩ => ⟨σ', v, h1, h2.mono hM, hp σ' w' v h2 h3⟩

def callable (P : Program) (f : FuncId) : Bool :=
  match P.funcs[f]? with
  | some fn => !(fn.name == "runtime.NumGoroutine") && fn.body.isSome
  | none => false

theorem run_callFunc {P : Program} {f : FuncId} (h : callable P f = true) (args : Array Value) (w : World) : (callFunc f args).run P w = .ok (.enter f args) w := by
  unfold callable at h
  unfold callFunc
  simp only [Sem.run_bind, run_program, Result.andThen_ok]
  cases e : P.funcs[f]? with
  | none => rw [e] at h; simp at h
  | some fn =>
    rw [e] at h
    simp only [Bool.and_eq_true, Bool.not_eq_true'] at h
    have hb : fn.body.isNone = false := by cases hb : fn.body with | none => rw [hb] at h; simp at h | some _ => rfl
    simp [h.1, hb]

section
variable {P : Program} {ops : Array Oper} {Q : Exit → Act → World → Prop} {Kp : Act → World → Prop} {n i : Nat} {l l' : Sl} {a : Act} {w w' : World} {C : Code} {M : Nat → Prop} {σ : Nat → Nat}

theorem r_enter {d : Option Nat} {op : Op} (hF : Fr a n l) (ho : (ops[i]?).map (fun o => (o.dst, o.op)) = some (d, op)) (hk : okAt ops i n l = true) {f : FuncId} {vs : List Value}
    (hr : ∀ o : Oper, o.op = op → (execOp (evl l) o).run P w = .ok (.enter f vs.toArray) w) {Post : (Nat → Nat) → World → Value → Prop} (hc : Ctr P f vs M σ w Post)
    (K : ∀ a' σ' w' v, Stp M σ w σ' w' → Post σ' w' v → Fr a' n (putS d v l) → Kp a' w') : wpOp P ops Q i Kp a w := by
  obtain ⟨o, h1, h2, h3⟩ := opAt_of ho
  unfold okAt at hk
  rw [h1] at hk
  simp only [Bool.and_eq_true] at hk
  have hg : guardOn ops l o = some true := by
    have := hk.2
    split at this <;> simp_all
  refine wpOp_on h1 (guardOn_spec hF (allLt_spec hk.1.1.1) hg) ?_
  unfold Oper.wp
  rw [opOk_exec hF hk.1.1.2, hr o h3, Oper.upon_enter]
  refine Calls.mono hc fun e w' ⟨σ', v, e1, h4, h5⟩ => ?_
  subst e1
  refine K _ σ' w' v h4 h5 ?_
  rw [← h2]
  exact hF.putD hk.1.2 v

theorem r_call {d : Option Nat} {f : FuncId} {args : Array Operand} {tys : Array TypeId} (hF : Fr a n l) (ho : (ops[i]?).map (fun o => (o.dst, o.op)) = some (d, .call ⟨.value (.func f), args, tys⟩)) (hk : okAt ops i n l = true)
    (hf : callable P f = true) (vs : List Value) (hv : (args.map (evl l)).toList = vs) {Post : (Nat → Nat) → World → Value → Prop} (hc : Ctr P f vs M σ w Post)
    (K : ∀ a' σ' w' v, Stp M σ w σ' w' → Post σ' w' v → Fr a' n (putS d v l) → Kp a' w') : wpOp P ops Q i Kp a w := by
  refine r_enter hF ho hk (fun o e => ?_) hc K
  have hv' : args.map (evl l) = vs.toArray := by rw [← hv]
  simp only [execOp, e, resolve, evl, Deferred.ofValue, Sem.run_bind, Sem.run_pure, Result.andThen_ok, invoke, Array.append_empty, Array.empty_append]
  have : (fun x => evl l x) = evl l := rfl
  rw [hv', run_callFunc hf]

/-- A call of a function value. -/
theorem r_callv {d : Option Nat} {t : Nat} {f : FuncId} {first captured : Array Value} {args : Array Operand} {tys : Array TypeId} (hF : Fr a n l) (ho : (ops[i]?).map (fun o => (o.dst, o.op)) = some (d, .call ⟨.value (.tmp t), args, tys⟩)) (hk : okAt ops i n l = true)
    (hf : callable P f = true) (ht : evl l (.tmp t) = .func (.func f) first captured) (vs : List Value) (hv : (first ++ args.map (evl l) ++ captured).toList = vs) {Post : (Nat → Nat) → World → Value → Prop} (hc : Ctr P f vs M σ w Post)
    (K : ∀ a' σ' w' v, Stp M σ w σ' w' → Post σ' w' v → Fr a' n (putS d v l) → Kp a' w') : wpOp P ops Q i Kp a w := by
  refine r_enter hF ho hk (fun o e => ?_) hc K
  have hv' : first ++ args.map (evl l) ++ captured = vs.toArray := by rw [← hv]
  simp only [execOp, e, resolve, ht, Deferred.ofValue, Sem.run_bind, Sem.run_pure, Result.andThen_ok, invoke]
  rw [hv', run_callFunc hf]
end

/-! ### 4. A function's begin and end -/
def zipS : Nat → List Value → Sl
  | _, [] => []
  | k, v :: vs => (k, v) :: zipS (k + 1) vs

theorem zipS_lookup : ∀ (vs : List Value) (k t : Nat) (v : Value), (zipS k vs).lookup t = some v → k ≤ t ∧ vs[t - k]? = some v
  | [], k, t, v, h => by simp [zipS] at h
  | u :: vs, k, t, v, h => by
    simp only [zipS, List.lookup_cons] at h
    by_cases e : t = k
    · subst e; simp at h; subst h; simp
    · have : (t == k) = false := by simpa using e
      rw [this] at h
      obtain ⟨h1, h2⟩ := zipS_lookup vs (k + 1) t v h
      refine ⟨by omega, ?_⟩
      rw [show t - k = (t - (k + 1)) + 1 by omega, List.getElem?_cons_succ]
      exact h2

theorem ctr_enter {P : Program} {f : FuncId} {vs : List Value} {M : Nat → Prop} {σ : Nat → Nat} {w : World} {Post : (Nat → Nat) → World → Value → Prop} {fn : Func} (hf : P.funcs[f]? = some fn) (C : Code) (hb : fn.body = some C) (n : Nat) (hn : fn.ntmps = n) (hl : vs.length ≤ n)
    (l : Sl) (hz : zipS 0 vs = l) (h : ∀ a, Fr a n l → (sub C []).wp P (bodyPost P fn (fun e w' => ∃ σ' v, e = .returned v ∧ Stp M σ w σ' w' ∧ Post σ' w' v)) a w) : Ctr P f vs M σ w Post := by
  refine calls_of_wp hf hb ?_
  rw [← sub_nil C]
  refine h _ ?_
  subst hz
  refine ⟨rfl, by simp; omega, fun t v ht => ?_⟩
  obtain ⟨_, h2⟩ := zipS_lookup vs 0 t v ht
  simp only [Nat.sub_zero] at h2
  have hlt : t < vs.length := (List.getElem?_eq_some_iff.1 h2).1
  simp only [Array.getD_eq_getD_getElem?]
  rw [Array.getElem?_append_left (by simpa using hlt)]
  simp [h2]

inductive RVs (P : Program) (a : Act) (w : World) : List ResultVar → List Value → Prop
  | nil : RVs P a w [] []
  | tmp {t : Nat} {rs : List ResultVar} {v : Value} {vs : List Value} (h : a.tmps.getD t undef = v) (k : RVs P a w rs vs) : RVs P a w (.tmp t :: rs) (v :: vs)
  | cell {t : Nat} {ty : TypeId} {rs : List ResultVar} {v : Value} {vs : List Value} {ad : Addr} (h : a.tmps.getD t undef = .pointer (some ad)) (hl : (loadVar ty ad).run P w = .ok v w) (k : RVs P a w rs vs) : RVs P a w (.cell t ty :: rs) (v :: vs)

def rvF (a : Act) : ResultVar → Sem Value
  | .tmp t => pure (a.tmps.getD t undef)
  | .cell ad t => do loadVar t (← asAddr (a.tmps.getD ad undef))

theorem RVs.run {P : Program} {a : Act} {w : World} {rs : List ResultVar} {vs : List Value} (h : RVs P a w rs vs) : (rs.mapM (rvF a)).run P w = .ok vs w := by
  induction h with
  | nil => rfl
  | tmp h k ih => simp only [List.mapM_cons, rvF, Sem.run_bind, Sem.run_pure, Result.andThen_ok, h, ih]
  | @cell _ _ _ _ _ ad h hl k ih =>
    rw [List.mapM_cons]
    have e : (asAddr (Value.pointer (some ad))).run P w = .ok ad w := rfl
    simp only [Sem.run_bind, rvF, h, e, Result.andThen_ok, hl, ih, Sem.run_pure]

theorem results_eq (fn : Func) (a : Act) : results fn a.tmps = (do let vs ← fn.results.mapM (rvF a); pure (if h : vs.size = 1 then vs[0] else .tuple vs)) := by
  unfold results
  congr 1

theorem results_of {P : Program} {fn : Func} {a : Act} {w : World} {rs : List ResultVar} {vs : List Value} (hr : fn.results = rs.toArray) (h : RVs P a w rs vs) (v : Value) (hv : (if h : vs.toArray.size = 1 then vs.toArray[0] else .tuple vs.toArray) = v) :
    (results fn a.tmps).run P w = .ok v w := by
  subst hv
  rw [results_eq, hr, List.mapM_toArray, Sem.run_bind, Sem.run_map, h.run]
  rfl

section
variable {P : Program} {fn : Func} {a : Act} {n : Nat} {l : Sl} {M : Nat → Prop} {σ0 σ : Nat → Nat} {w0 w : World} {Post : (Nat → Nat) → World → Value → Prop}

theorem f_ret (hF : Fr a n l) (rs : List ResultVar) (hr : fn.results = rs.toArray) (vs : List Value) (h : RVs P a w rs vs) (v : Value) (hv : (if h : vs.toArray.size = 1 then vs.toArray[0] else .tuple vs.toArray) = v)
    (σ : Nat → Nat) (hs : Stp M σ0 w0 σ w) (hp : Post σ w v) : bodyPost P fn (fun e w' => ∃ σ' v, e = .returned v ∧ Stp M σ0 w0 σ' w' ∧ Post σ' w' v) .ret a w :=
  ⟨hF.d, v, results_of hr h v hv, σ, v, rfl, hs, hp⟩

theorem f_ret1 (hF : Fr a n l) (t : Nat) (hr : fn.results = #[.tmp t]) (v : Value) (hl : l.lookup t = some v) (σ : Nat → Nat) (hs : Stp M σ0 w0 σ w) (hp : Post σ w v) :
    bodyPost P fn (fun e w' => ∃ σ' v, e = .returned v ∧ Stp M σ0 w0 σ' w' ∧ Post σ' w' v) .ret a w :=
  f_ret hF [.tmp t] hr [v] (.tmp (hF.h t v hl) .nil) v rfl σ hs hp

theorem f_ret2 (hF : Fr a n l) (t u : Nat) (hr : fn.results = #[.tmp t, .tmp u]) (v1 v2 : Value) (hl1 : l.lookup t = some v1) (hl2 : l.lookup u = some v2) (σ : Nat → Nat) (hs : Stp M σ0 w0 σ w) (hp : Post σ w (.tuple #[v1, v2])) :
    bodyPost P fn (fun e w' => ∃ σ' v, e = .returned v ∧ Stp M σ0 w0 σ' w' ∧ Post σ' w' v) .ret a w :=
  f_ret hF [.tmp t, .tmp u] hr [v1, v2] (.tmp (hF.h t v1 hl1) (.tmp (hF.h u v2 hl2) .nil)) _ rfl σ hs hp

theorem f_ret3 (hF : Fr a n l) (t u s : Nat) (hr : fn.results = #[.tmp t, .tmp u, .tmp s]) (v1 v2 v3 : Value) (hl1 : l.lookup t = some v1) (hl2 : l.lookup u = some v2) (hl3 : l.lookup s = some v3) (σ : Nat → Nat) (hs : Stp M σ0 w0 σ w) (hp : Post σ w (.tuple #[v1, v2, v3])) :
    bodyPost P fn (fun e w' => ∃ σ' v, e = .returned v ∧ Stp M σ0 w0 σ' w' ∧ Post σ' w' v) .ret a w :=
  f_ret hF [.tmp t, .tmp u, .tmp s] hr [v1, v2, v3] (.tmp (hF.h t v1 hl1) (.tmp (hF.h u v2 hl2) (.tmp (hF.h s v3 hl3) .nil))) _ rfl σ hs hp
end
end Go.Proofs.Ytaoamokfbhlaaaa.E
