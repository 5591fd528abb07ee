/- Regions that draw their order: what only reads is taken first; what is left stands in a chain. -/
import Derived.Test.YtaoamokfbhlaaaaE5
import Derived.OrdersHeld
set_option linter.unusedVariables false
set_option linter.unusedSimpArgs false
namespace Go.Proofs.Ytaoamokfbhlaaaa.E
open Go Go.RowKit

/-- What a region may have changed since its begin. -/
def Since (M : Nat → Prop) (σ : Nat → Nat) (w : World) : World → Prop := fun w' => ∃ σ', Stp M σ w σ' w'

def takeOk (ops : Array Oper) (listed : Array Bool) (i : Nat) : Bool := Region.noSelect ops && Region.free .any ops listed i && (Region.ready .any ops listed).contains i

section
variable {P : Program} {ops : Array Oper} {Q : Exit → Act → World → Prop} {S : World → Prop} {n i : Nat} {l : Sl} {a : Act} {w : World} {C : Code} {listed : Array Bool} {fuel : Nat}

theorem c_draw {p : List Nat} (id : Nat) (h : sub C p = .region id (opsOf (sub C p)) true) (hm : P.follows .mixedOrders = true) (σ : Nat → Nat) (M : Nat → Prop) (m : Nat) (hsz : (opsOf (sub C p)).size = m) (listed : Array Bool) (hl : Array.replicate m false = listed)
    (k : ∀ w', Stp noM σ w σ w' → wpAnyH P .any (opsOf (sub C p)) Q (Since M σ w') m listed a w') : (sub C p).wp P Q a w := by
  rw [h]
  refine wp_region_held (S := Since M σ { w with drawn := w.drawn + 1 }) hm ?_
  subst hl
  rw [hsz]
  exact k _ (Stp.drew σ w)

theorem run1 {o : Oper} {d : Nat} {v : Value} {w' : World} (hd : o.dst = some d) (hF : Fr a n l) (hn : allLt n l = true) (hr : (runAll ops [o] l).run P w = .ok ((d, v) :: l) w') :
    (Region.wanted o (yielded ops a.tmps) = true ∧ (execOp a.eval o).run P w = .ok (.value v) w') ∨ (Region.wanted o (yielded ops a.tmps) = false ∧ v = undef ∧ w' = w) := by
  simp only [runAll, hd, putS] at hr
  have hsp := allLt_spec hn
  cases hg : guardOn ops l o with
  | none => rw [hg] at hr; simp at hr
  | some b =>
    rw [hg] at hr
    have hw := guardOn_spec hF hsp hg
    cases b with
    | false =>
      right
      simp only [Sem.run_pure] at hr
      injection hr with h1 h0
      injection h1 with h2 _
      injection h2 with _ h3
      exact ⟨hw, h3.symm, h0.symm⟩
    | true =>
      left
      refine ⟨hw, ?_⟩
      simp only [] at hr
      split at hr
      · rename_i hk
        rw [opOk_exec hF hk]
        rw [Sem.run_bind] at hr
        cases hx : (execOp (evl l) o).run P w with
        | halt h w1 => rw [hx] at hr; simp at hr
        | ok nx w1 =>
          rw [hx] at hr
          simp only [Result.andThen_ok] at hr
          cases nx with
          | value u =>
            simp only [Sem.run_pure] at hr
            injection hr with h2 h3
            injection h2 with h4 _
            injection h4 with _ h5
            rw [h5, h3]
          | _ => simp at hr
      · simp at hr

/-- A pure operation, or one whose guard says no, taken first. -/
theorem d_run {d : Nat} {v : Value} (i : Nat) (hF : Fr a n l) (hS : S w) (ht : takeOk ops listed i = true) (hc : (allLt n l && ((ops.toList.drop i).take 1).all (fun o => dstOk n o && o.dst == some d)) = true)
    (hr : ∀ w', (runAll ops ((ops.toList.drop i).take 1) l).run P w' = .ok ((d, v) :: l) w') (hQ : ∀ c a w, Q (.panic c) (a.put (some d) v) w → Q (.panic c) a w) (listed' : Array Bool) (hl : listed.setIfInBounds i true = listed')
    (K : ∀ a', Fr a' n ((d, v) :: l) → wpAnyH P .any ops Q S fuel listed' a' w) : wpAnyH P .any ops Q S (fuel + 1) listed a w := by
  subst hl
  simp only [takeOk, Bool.and_eq_true] at ht
  cases e : ops[i]? with
  | none =>
    have hz : (ops.toList.drop i).take 1 = [] := by
      rcases Nat.lt_or_ge i ops.size with c | c
      · rw [Array.getElem?_eq_getElem c] at e; simp at e
      · rw [List.drop_of_length_le (by simpa using c)]; rfl
    have := hr w
    rw [hz] at this
    simp only [runAll, Sem.run_pure] at this
    injection this with h1 _
    exact absurd (congrArg List.length h1) (by simp)
  | some o =>
    have hz : (ops.toList.drop i).take 1 = [o] := by rw [drop_of e]; rfl
    rw [hz] at hc hr
    simp only [Bool.and_eq_true, List.all_cons, List.all_nil, Bool.and_true, beq_iff_eq] at hc
    have hd : o.dst = some d := hc.2.2
    have hy : YieldsIf P ops S o v a := by
      rcases run1 hd hF hc.1 (hr w) with ⟨hw, hx⟩ | ⟨hw, hv, _⟩
      · refine .inl ⟨hw, fun w' _ => ?_⟩
        rcases run1 hd hF hc.1 (hr w') with ⟨_, hx⟩ | ⟨hw', _⟩
        · exact hx
        · rw [hw] at hw'; simp at hw'
      · exact .inr ⟨hw, hv⟩
    refine wpAnyH_take e ht.1.1 ht.1.2 ht.2 ?_ hy hS ?_
    · rw [hd]; exact hQ
    · rw [hd]; exact K _ (hF.put d v (by have := hc.2.1; unfold dstOk at this; rw [hd] at this; simpa using this))

/-- An operation that gives the same value whenever it comes, taken first. -/
theorem d_val {d : Nat} {op : Op} {v : Value} (i : Nat) (hF : Fr a n l) (hS : S w) (ht : takeOk ops listed i = true) (ho : (ops[i]?).map (fun o => (o.dst, o.op)) = some (some d, op)) (hk : okAt ops i n l = true)
    (hv : ∀ w', S w' → ∀ o : Oper, o.op = op → (execOp (evl l) o).run P w' = .ok (.value v) w')
    (hQ : ∀ c a w, Q (.panic c) (a.put (some d) v) w → Q (.panic c) a w) (listed' : Array Bool) (hl : listed.setIfInBounds i true = listed')
    (K : ∀ a', Fr a' n ((d, v) :: l) → wpAnyH P .any ops Q S fuel listed' a' w) : wpAnyH P .any ops Q S (fuel + 1) listed a w := by
  subst hl
  simp only [takeOk, Bool.and_eq_true] at ht
  obtain ⟨o, h1, h2, h3⟩ := opAt_of ho
  unfold okAt at hk
  rw [h1] at hk
  simp only [Bool.and_eq_true] at hk
  have hg : guardOn ops l o = some true := by
    have := hk.2
    split at this <;> simp_all
  refine wpAnyH_take (v := v) h1 ht.1.1 ht.1.2 ht.2 (by rw [h2]; exact hQ) (.inl ⟨guardOn_spec hF (allLt_spec hk.1.1.1) hg, fun w' hw' => ?_⟩) hS ?_
  · rw [opOk_exec hF hk.1.1.2]
    exact hv w' hw' o h3
  · rw [h2]
    exact K _ (hF.put d _ (by have := hk.1.2; unfold dstOk at this; rw [h2] at this; simpa using this))

theorem wpAnyH_mono {S' : World → Prop} (hS : ∀ w, S' w → S w) : ∀ (fuel : Nat) (listed : Array Bool) (a : Act) (w : World), wpAnyH P .any ops Q S' fuel listed a w → wpAnyH P .any ops Q S fuel listed a w
  | 0, _, _, _, h => h
  | fuel + 1, _, _, _, h => ⟨h.1, fun i hi => wpOp_mono (fun a' w' h' => ⟨hS _ h'.1, wpAnyH_mono hS fuel _ a' w' h'.2⟩) (h.2 i hi)⟩

/-- Behind an operation: what holds since then holds since the region's begin. -/
theorem d_next {M M' : Nat → Prop} {σ σ' : Nat → Nat} {w w' : World} (st : Stp M' σ w σ' w') (hM : ∀ b, M' b → M b) (k : wpAnyH P .any ops Q (Since M σ' w') fuel listed a w') :
    Since M σ w w' ∧ wpAnyH P .any ops Q (Since M σ w) fuel listed a w' :=
  ⟨⟨σ', st.mono fun b _ => hM b⟩, wpAnyH_mono (fun w2 ⟨σ2, h2⟩ => ⟨σ2, st.trans h2 fun b _ e => e.elim (hM b) id⟩) _ _ _ _ k⟩
theorem since_refl (M : Nat → Prop) (σ : Nat → Nat) (w : World) : Since M σ w w := ⟨σ, Stp.refl _ _ _⟩

/-- The one operation that may come up. -/
theorem d_do (i : Nat) (hr : Region.ready .any ops listed = [i]) (listed' : Array Bool) (hl : listed.setIfInBounds i true = listed')
    (h : wpOp P ops Q i (fun a' w' => S w' ∧ wpAnyH P .any ops Q S fuel listed' a' w') a w) : wpAnyH P .any ops Q S (fuel + 1) listed a w := by
  subst hl
  refine wpAnyH_all hr (by simp) fun j hj => ?_
  simp only [List.mem_singleton] at hj
  subst hj
  exact h

/-- One of two. -/
theorem d_two (i j : Nat) (hr : Region.ready .any ops listed = [i, j]) (l1 l2 : Array Bool) (hl1 : listed.setIfInBounds i true = l1) (hl2 : listed.setIfInBounds j true = l2)
    (h1 : wpOp P ops Q i (fun a' w' => S w' ∧ wpAnyH P .any ops Q S fuel l1 a' w') a w) (h2 : wpOp P ops Q j (fun a' w' => S w' ∧ wpAnyH P .any ops Q S fuel l2 a' w') a w) : wpAnyH P .any ops Q S (fuel + 1) listed a w := by
  subst hl1; subst hl2
  refine wpAnyH_all hr (by simp) fun k hk => ?_
  simp only [List.mem_cons, List.not_mem_nil, or_false] at hk
  rcases hk with rfl | rfl
  · exact h1
  · exact h2

theorem d_end (hr : Region.ready .any ops listed = []) (h : Q .normal a w) : wpAnyH P .any ops Q S fuel listed a w := wpAnyH_done hr h fuel

/-- One pure operation, as one that is done. -/
theorem o_pure {d : Nat} {v : Value} {Kp : Act → World → Prop} (hF : Fr a n l) (hc : (allLt n l && ((ops.toList.drop i).take 1).all (fun o => dstOk n o && o.dst == some d)) = true) (w' : World)
    (hr : (runAll ops ((ops.toList.drop i).take 1) l).run P w = .ok ((d, v) :: l) w') (K : ∀ a', Fr a' n ((d, v) :: l) → Kp a' w') : wpOp P ops Q i Kp a w := by
  cases e : ops[i]? with
  | none =>
    have hz : (ops.toList.drop i).take 1 = [] := by
      rcases Nat.lt_or_ge i ops.size with c | c
      · rw [Array.getElem?_eq_getElem c] at e; simp at e
      · rw [List.drop_of_length_le (by simpa using c)]; rfl
    rw [hz] at hr
    simp only [runAll, Sem.run_pure] at hr
    injection hr with h1 _
    exact absurd (congrArg List.length h1) (by simp)
  | some o =>
    have hz : (ops.toList.drop i).take 1 = [o] := by rw [drop_of e]; rfl
    rw [hz] at hc hr
    simp only [Bool.and_eq_true, List.all_cons, List.all_nil, Bool.and_true, beq_iff_eq] at hc
    have hF' := hF.put d v (by have := hc.2.1; unfold dstOk at this; rw [hc.2.2] at this; simpa using this)
    rcases run1 hc.2.2 hF hc.1 hr with ⟨hw, hx⟩ | ⟨hw, rfl, rfl⟩
    · refine wpOp_on e hw ?_
      unfold Oper.wp
      rw [hx, Oper.upon_value, hc.2.2]
      exact K _ hF'
    · unfold wpOp
      rw [e]
      simp only [hw, Bool.false_eq_true, if_false]
      rw [hc.2.2]
      exact K _ hF'
end
end Go.Proofs.Ytaoamokfbhlaaaa.E
