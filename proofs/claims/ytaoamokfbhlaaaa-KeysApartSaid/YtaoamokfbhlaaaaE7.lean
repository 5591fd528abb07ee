/- Regions that draw their order, by a plan: what only reads comes first, what is left stands in a chain; the plan is checked once, by bits. -/
import Derived.Test.YtaoamokfbhlaaaaE6
set_option linter.unusedVariables false
set_option linter.unusedSimpArgs false
namespace Go.Proofs.Ytaoamokfbhlaaaa.E
open Go Go.RowKit

def maskOf : List Nat → Nat
  | [] => 0
  | t :: l => (1 <<< t) ||| maskOf l

theorem one_bit (t s : Nat) : (1 <<< t).testBit s = decide (t = s) := by
  rw [Nat.one_shiftLeft, Nat.testBit_two_pow]

theorem maskOf_bit (t : Nat) : ∀ l : List Nat, (maskOf l).testBit t = decide (t ∈ l)
  | [] => by simp [maskOf]
  | s :: l => by
    rw [maskOf, Nat.testBit_or, one_bit, maskOf_bit t l]
    by_cases h : s = t
    · subst h; simp
    · have : t ≠ s := fun e => h e.symm
      simp [h, this]

abbrev OI := Nat × Nat × Nat
def presOf (o : Oper) : List Nat := (o.after.toList.filter (fun e => Region.binds .any e)).map (·.on)
def opInfo (ops : Array Oper) (o : Oper) : OI := (maskOf (presOf o), (match o.dst with | some d => 1 <<< d | none => 0), maskOf (o.looksAt ops))
def infoOf (ops : Array Oper) : List OI := ops.toList.map (opInfo ops)

def allIdx (f : Nat → OI → Bool) : List OI → Nat → Bool
  | [], _ => true
  | x :: l, j => f j x && allIdx f l (j + 1)

theorem allIdx_spec (f : Nat → OI → Bool) : ∀ (l : List OI) (j : Nat), allIdx f l j = true → ∀ (k : Nat) (x : OI), l[k]? = some x → f (j + k) x = true
  | [], _, _, k, x, h => by simp at h
  | y :: l, j, h, 0, x, e => by
    simp only [allIdx, Bool.and_eq_true] at h
    simp at e; subst e; exact h.1
  | y :: l, j, h, k + 1, x, e => by
    simp only [allIdx, Bool.and_eq_true] at h
    have := allIdx_spec f l (j + 1) h.2 k x (by simpa using e)
    rwa [show j + (k + 1) = j + 1 + k by omega]

def freeM (I : List OI) (m i : Nat) (x : OI) : Bool :=
  allIdx (fun j y => j == i || m.testBit j || y.1.testBit i || (((x.2.1 &&& y.2.2) == 0) && ((x.2.1 &&& y.2.1) == 0) && ((y.2.1 &&& x.2.2) == 0))) I 0
def onlyM (I : List OI) (m i : Nat) : Bool :=
  allIdx (fun j y => j == i || m.testBit j || !((y.1 &&& m) == y.1)) I 0

def planOk (I : List OI) : List (Nat × Bool) → Nat → Bool
  | [], m => allIdx (fun j _ => m.testBit j) I 0
  | (i, fl) :: r, m =>
    match I[i]? with
    | none => false
    | some x => !m.testBit i && ((x.1 &&& m) == x.1) && (if fl then freeM I m i x else onlyM I m i) && planOk I r (m ||| 1 <<< i)

structure Rel (ops : Array Oper) (listed : Array Bool) (m : Nat) : Prop where
  s : listed.size = ops.size
  b : ∀ j, j < ops.size → listed[j]? = some (m.testBit j)
  o : ∀ j, ops.size ≤ j → m.testBit j = false

section
variable {ops : Array Oper} {listed : Array Bool} {m : Nat}

theorem info_get {j : Nat} {x : OI} (h : (infoOf ops)[j]? = some x) : ∃ o, ops[j]? = some o ∧ x = opInfo ops o := by
  unfold infoOf at h
  rw [List.getElem?_map] at h
  obtain ⟨o, ho, e⟩ := Option.map_eq_some_iff.1 h
  exact ⟨o, by simpa using ho, e.symm⟩
theorem info_of {j : Nat} {o : Oper} (h : ops[j]? = some o) : (infoOf ops)[j]? = some (opInfo ops o) := by
  unfold infoOf
  rw [List.getElem?_map]
  have : ops.toList[j]? = some o := by simpa using h
  rw [this]; rfl

theorem sub_mask {p m : Nat} (h : ((p &&& m) == p) = true) {t : Nat} (ht : p.testBit t = true) : m.testBit t = true := by
  have e : p &&& m = p := by simpa using h
  rw [← e, Nat.testBit_and] at ht
  simp only [Bool.and_eq_true] at ht
  exact ht.2

theorem sub_mask' {p m : Nat} (h : ∀ t, p.testBit t = true → m.testBit t = true) : ((p &&& m) == p) = true := by
  have : p &&& m = p := by
    apply Nat.eq_of_testBit_eq
    intro t
    rw [Nat.testBit_and]
    cases hp : p.testBit t with
    | false => rfl
    | true => rw [h t hp]; rfl
  simpa using this

theorem Rel.ready (R : Rel ops listed m) {j : Nat} : j ∈ Region.ready .any ops listed ↔ ∃ o, ops[j]? = some o ∧ m.testBit j = false ∧ ∀ t ∈ presOf o, m.testBit t = true := by
  rw [mem_ready]
  constructor
  · rintro ⟨h0, o, ho, h⟩
    have hlt : j < ops.size := (Array.getElem?_eq_some_iff.1 ho).1
    refine ⟨o, ho, ?_, fun t ht => ?_⟩
    · rw [Array.getD_eq_getD_getElem?, R.b j hlt] at h0; simpa using h0
    · simp only [presOf, List.mem_map, List.mem_filter] at ht
      obtain ⟨e, ⟨he, hb⟩, rfl⟩ := ht
      have h1 := h e (by simpa using he) hb
      rcases Nat.lt_or_ge e.on ops.size with hl | hl
      · rw [Array.getD_eq_getD_getElem?, R.b _ hl] at h1; simpa using h1
      · rw [Array.getD_eq_getD_getElem?, Array.getElem?_eq_none (by rw [R.s]; exact hl)] at h1; simp at h1
  · rintro ⟨o, ho, h0, h⟩
    have hlt : j < ops.size := (Array.getElem?_eq_some_iff.1 ho).1
    refine ⟨by rw [Array.getD_eq_getD_getElem?, R.b j hlt]; simpa using h0, o, ho, fun e he hb => ?_⟩
    have h1 := h e.on (by simp only [presOf, List.mem_map, List.mem_filter]; exact ⟨e, ⟨by simpa using he, hb⟩, rfl⟩)
    have hl : e.on < ops.size := by
      rcases Nat.lt_or_ge e.on ops.size with hl | hl
      · exact hl
      · rw [R.o _ hl] at h1; simp at h1
    rw [Array.getD_eq_getD_getElem?, R.b _ hl]; simpa using h1

theorem Rel.set (R : Rel ops listed m) {i : Nat} (hi : i < ops.size) : Rel ops (listed.setIfInBounds i true) (m ||| 1 <<< i) := by
  refine ⟨by simp [R.s], fun j hj => ?_, fun j hj => ?_⟩
  · rw [Nat.testBit_or, one_bit]
    by_cases e : i = j
    · subst e
      rw [Array.getElem?_setIfInBounds_self_of_lt (by rw [R.s]; exact hi)]; simp
    · rw [Array.getElem?_setIfInBounds_ne e, R.b j hj]; simp [e]
  · rw [Nat.testBit_or, one_bit, R.o j hj]
    have : i ≠ j := by omega
    simp [this]

theorem dst_mask {o p : Oper} {d : Nat} (ho : o.dst = some d) {q : Nat} (h : ((opInfo ops o).2.1 &&& q == 0) = true) : q.testBit d = false := by
  have e : (opInfo ops o).2.1 &&& q = 0 := by simpa using h
  have h1 : ((opInfo ops o).2.1 &&& q).testBit d = false := by rw [e]; simp
  rw [Nat.testBit_and] at h1
  have h2 : ((opInfo ops o).2.1).testBit d = true := by
    simp only [opInfo, ho]; rw [one_bit]; simp
  rw [h2] at h1
  simpa using h1

theorem Rel.free (R : Rel ops listed m) {i : Nat} {oi : Oper} (hi : ops[i]? = some oi) (h : freeM (infoOf ops) m i (opInfo ops oi) = true) : Region.free .any ops listed i = true := by
  unfold Region.free
  rw [hi]
  simp only [List.all_eq_true, List.mem_range]
  intro j hj
  have ho : ops[j]? = some ops[j] := Array.getElem?_eq_getElem hj
  have h1 := allIdx_spec _ _ _ h j _ (info_of ho)
  simp only [Nat.zero_add, Bool.or_eq_true, Bool.and_eq_true] at h1
  rw [ho]
  simp only [Bool.or_eq_true]
  rcases h1 with ((h1 | h1) | h1) | h1
  · exact .inl (.inl h1)
  · left; right
    rw [Array.getD_eq_getD_getElem?, R.b j hj]; simpa using h1
  · right; left
    have h2 : i ∈ presOf ops[j] := by
      have := h1
      simp only [opInfo] at this
      rw [maskOf_bit] at this
      simpa using this
    simp only [presOf, List.mem_map, List.mem_filter] at h2
    obtain ⟨e, ⟨he, hb⟩, e2⟩ := h2
    rw [Array.any_eq_true']
    exact ⟨e, by simpa using he, by simp [hb, e2]⟩
  · right; right
    obtain ⟨⟨ha, hb⟩, hc⟩ := h1
    unfold Oper.apart
    simp only [Bool.and_eq_true]
    constructor
    · cases hd : oi.dst with
      | none => rfl
      | some d =>
        have h2 := dst_mask (p := oi) hd ha
        have h3 := dst_mask (p := oi) hd hb
        simp only [opInfo] at h2 h3
        rw [maskOf_bit] at h2
        simp only [Bool.and_eq_true, Bool.not_eq_true', bne_iff_ne, ne_eq]
        refine ⟨by simpa using h2, fun e => ?_⟩
        rw [e] at h3
        simp only [one_bit] at h3
        simp at h3
    · cases hd : ops[j].dst with
      | none => rfl
      | some d =>
        have h2 := dst_mask (p := oi) hd hc
        simp only [opInfo] at h2
        rw [maskOf_bit] at h2
        simpa using h2
end

/-- What is to be shown, along a plan. -/
def wpPlan (P : Program) (ops : Array Oper) (Q : Exit → Act → World → Prop) (M : Nat → Prop) : List (Nat × Bool) → (Nat → Nat) → Act → World → Prop
  | [], _, a, w => Q .normal a w
  | (i, true) :: r, σ, a, w => ∃ o v, ops[i]? = some o ∧ YieldsIf P ops (Since M σ w) o v a ∧ (∀ c a w, Q (.panic c) (a.put o.dst v) w → Q (.panic c) a w) ∧ wpPlan P ops Q M r σ (a.put o.dst v) w
  | (i, false) :: r, σ, a, w => wpOp P ops Q i (fun a' w' => ∃ σ', Stp M σ w σ' w' ∧ wpPlan P ops Q M r σ' a' w') a w

theorem plan_sound {P : Program} {ops : Array Oper} {Q : Exit → Act → World → Prop} {M : Nat → Prop} (hs : Region.noSelect ops = true) :
    ∀ (π : List (Nat × Bool)) (m : Nat) (listed : Array Bool) (σ : Nat → Nat) (a : Act) (w : World), planOk (infoOf ops) π m = true → Rel ops listed m → wpPlan P ops Q M π σ a w →
      wpAnyH P .any ops Q (Since M σ w) π.length listed a w := by
  intro π
  induction π with
  | nil =>
    intro m listed σ a w hp R h
    refine wpAnyH_done ?_ h 0
    apply List.eq_nil_iff_forall_not_mem.2
    intro j hj
    obtain ⟨o, ho, h0, _⟩ := R.ready.1 hj
    have := allIdx_spec _ _ _ hp j _ (info_of ho)
    simp only [Nat.zero_add] at this
    rw [this] at h0; simp at h0
  | cons p r ih =>
    obtain ⟨i, fl⟩ := p
    intro m listed σ a w hp R h
    simp only [planOk] at hp
    cases hx : (infoOf ops)[i]? with
    | none => rw [hx] at hp; simp at hp
    | some x =>
      rw [hx] at hp
      obtain ⟨o, ho, rfl⟩ := info_get hx
      simp only [Bool.and_eq_true, Bool.not_eq_true'] at hp
      have hlt : i < ops.size := (Array.getElem?_eq_some_iff.1 ho).1
      have hrdy : i ∈ Region.ready .any ops listed := R.ready.2 ⟨o, ho, hp.1.1.1, fun t ht => sub_mask hp.1.1.2 (by simp only [opInfo]; rw [maskOf_bit]; simpa using ht)⟩
      have R' := R.set hlt
      cases fl with
      | true =>
        obtain ⟨o', v, ho', hy, hQ, hr⟩ := h
        have : o = o' := by rw [ho] at ho'; injection ho'
        subst this
        refine wpAnyH_take ho hs (R.free ho (by simpa using hp.1.2)) (by simpa using hrdy) hQ hy (since_refl _ _ _) ?_
        exact ih _ _ _ _ _ hp.2 R' hr
      | false =>
        have honly : onlyM (infoOf ops) m i = true := by simpa using hp.1.2
        refine ⟨fun h0 => (by rw [h0] at hrdy; cases hrdy), fun j hj => ?_⟩
        have hji : j = i := by
          obtain ⟨oj, hoj, hj0, hjp⟩ := R.ready.1 hj
          have h1 := allIdx_spec _ _ _ honly j _ (info_of hoj)
          simp only [Nat.zero_add, Bool.or_eq_true, hj0, Bool.false_eq_true, or_false] at h1
          rcases h1 with h1 | h1
          · simpa using h1
          · exfalso
            have h2 : (((opInfo ops oj).1 &&& m) == (opInfo ops oj).1) = true := sub_mask' fun t ht => by
              refine hjp t ?_
              simp only [opInfo] at ht
              rw [maskOf_bit] at ht
              simpa using ht
            rw [h2] at h1; simp at h1
        subst hji
        refine wpOp_mono (fun a' w' => ?_) h
        rintro ⟨σ', st, hr⟩
        exact d_next st (fun _ e => e) (ih _ _ _ _ _ hp.2 R' hr)

section
variable {P : Program} {ops : Array Oper} {Q : Exit → Act → World → Prop} {M : Nat → Prop} {σ : Nat → Nat} {n i : Nat} {l : Sl} {a : Act} {w : World} {C : Code} {r : List (Nat × Bool)}

theorem rel0 (ops : Array Oper) : Rel ops (Array.replicate ops.size false) 0 :=
  ⟨by simp, fun j hj => by simp [hj], fun j _ => by simp⟩

theorem c_plan {p : List Nat} (id : Nat) (h : sub C p = .region id (opsOf (sub C p)) true) (hm : P.follows .mixedOrders = true) (σ : Nat → Nat) (M : Nat → Prop) (π : List (Nat × Bool)) (I : List OI) (hI : infoOf (opsOf (sub C p)) = I)
    (hs : Region.noSelect (opsOf (sub C p)) = true) (hp : planOk I π 0 = true) (hl : (opsOf (sub C p)).size = π.length)
    (k : ∀ w', Stp noM σ w σ w' → wpPlan P (opsOf (sub C p)) Q M π σ a w') : (sub C p).wp P Q a w := by
  rw [h]
  refine wp_region_held (S := Since M σ { w with drawn := w.drawn + 1 }) hm ?_
  have h1 := plan_sound (P := P) (Q := Q) (M := M) hs π 0 _ σ a { w with drawn := w.drawn + 1 } (by rw [hI]; exact hp) (rel0 _) (k _ (Stp.drew σ w))
  rw [← hl] at h1
  exact h1

theorem p_run {d : Nat} {v : Value} (hF : Fr a n l) (hc : (allLt n l && ((ops.toList.drop i).take 1).all (fun o => dstOk n o && o.dst == some d)) = true)
    (hr : ∀ w', (runAll ops ((ops.toList.drop i).take 1) l).run P w' = .ok ((d, v) :: l) w') (hQ : ∀ c a w, Q (.panic c) (a.put (some d) v) w → Q (.panic c) a w)
    (K : ∀ a', Fr a' n ((d, v) :: l) → wpPlan P ops Q M r σ a' w) : wpPlan P ops Q M ((i, true) :: r) σ a w := by
  cases e : ops[i]? with
  | none =>
    have hz : (ops.toList.drop i).take 1 = [] := by
      rcases Nat.lt_or_ge i ops.size with c | c
      · rw [Array.getElem?_eq_getElem c] at e; simp at e
      · rw [List.drop_of_length_le (by simpa using c)]; rfl
    have := hr w
    rw [hz] at this
    simp only [runAll, Sem.run_pure] at this
    injection this with h1 _
    exact absurd (congrArg List.length h1) (by simp)
  | some o =>
    have hz : (ops.toList.drop i).take 1 = [o] := by rw [drop_of e]; rfl
    rw [hz] at hc hr
    simp only [Bool.and_eq_true, List.all_cons, List.all_nil, Bool.and_true, beq_iff_eq] at hc
    have hd : o.dst = some d := hc.2.2
    refine ⟨o, v, e, ?_, by rw [hd]; exact hQ, ?_⟩
    · rcases run1 hd hF hc.1 (hr w) with ⟨hw, hx⟩ | ⟨hw, hv, _⟩
      · refine .inl ⟨hw, fun w' _ => ?_⟩
        rcases run1 hd hF hc.1 (hr w') with ⟨_, hx⟩ | ⟨hw', _⟩
        · exact hx
        · rw [hw] at hw'; simp at hw'
      · exact .inr ⟨hw, hv⟩
    · rw [hd]; exact K _ (hF.put d v (by have := hc.2.1; unfold dstOk at this; rw [hd] at this; simpa using this))

theorem p_val {d : Nat} {op : Op} {v : Value} (hF : Fr a n l) (ho : (ops[i]?).map (fun o => (o.dst, o.op)) = some (some d, op)) (hk : okAt ops i n l = true)
    (hv : ∀ w', Since M σ w w' → ∀ o : Oper, o.op = op → (execOp (evl l) o).run P w' = .ok (.value v) w')
    (hQ : ∀ c a w, Q (.panic c) (a.put (some d) v) w → Q (.panic c) a w)
    (K : ∀ a', Fr a' n ((d, v) :: l) → wpPlan P ops Q M r σ a' w) : wpPlan P ops Q M ((i, true) :: r) σ a w := by
  obtain ⟨o, h1, h2, h3⟩ := opAt_of ho
  unfold okAt at hk
  rw [h1] at hk
  simp only [Bool.and_eq_true] at hk
  have hg : guardOn ops l o = some true := by
    have := hk.2
    split at this <;> simp_all
  refine ⟨o, v, h1, .inl ⟨guardOn_spec hF (allLt_spec hk.1.1.1) hg, fun w' hw' => ?_⟩, by rw [h2]; exact hQ, ?_⟩
  · rw [opOk_exec hF hk.1.1.2]
    exact hv w' hw' o h3
  · rw [h2]
    exact K _ (hF.put d _ (by have := hk.1.2; unfold dstOk at this; rw [h2] at this; simpa using this))

theorem p_do (h : wpOp P ops Q i (fun a' w' => ∃ σ', Stp M σ w σ' w' ∧ wpPlan P ops Q M r σ' a' w') a w) : wpPlan P ops Q M ((i, false) :: r) σ a w := h
theorem p_end (h : Q .normal a w) : wpPlan P ops Q M [] σ a w := h
end
end Go.Proofs.Ytaoamokfbhlaaaa.E
