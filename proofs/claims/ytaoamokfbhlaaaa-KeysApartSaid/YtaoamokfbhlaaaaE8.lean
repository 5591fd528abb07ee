/- From a row's arguments to the engine's words. -/
import Derived.Test.YtaoamokfbhlaaaaE7
import Derived.OpenShut
import Derived.Laws.BytesArg
import Derived.SizedLaws
import Derived.ChangeArms
set_option linter.unusedVariables false
set_option linter.unusedSimpArgs false
namespace Go.Proofs.Ytaoamokfbhlaaaa.E
open Go Go.RowKit

/-- At the begin all that is in memory is settled. -/
def sig0 (w : World) : Nat → Nat := fun b => match w.heap[b]? with | some (.cells c _ _) => c.size | _ => 0

theorem sig0_lt {w : World} {b o : Nat} {v : Value} (h : w.cell? ⟨b, o, none⟩ = some v) : o < sig0 w b := by
  unfold World.cell? at h
  unfold sig0
  split at h
  · rename_i c e f hb
    simp only [] at hb
    rw [hb]
    simp only [Option.isSome_none, Bool.false_eq_true, if_false] at h
    exact (Array.getElem?_eq_some_iff.1 h).1
  · simp at h

theorem wf_u64 {a : Int} (h : (Lit.int .u64 a).wf = true) : ∃ n : UInt64, a = (n.toNat : Int) := by
  have h' : 0 ≤ a ∧ a ≤ 18446744073709551615 := by
    have := h
    simp only [Lit.wf, IntKind.min, IntKind.max, IntKind.signed, IntKind.bits, decide_eq_true_eq, Bool.and_eq_true] at this
    simpa using this
  refine ⟨UInt64.ofNat a.toNat, ?_⟩
  rw [UInt64.toNat_ofNat']
  have h2 : (2 ^ 64 : Nat) = 18446744073709551616 := by decide
  rw [h2]; omega
theorem wf_u8 {a : Int} (h : (Lit.int .u8 a).wf = true) : ∃ n : UInt8, a = (n.toNat : Int) := by
  have h' : 0 ≤ a ∧ a ≤ 255 := by
    have := h
    simp only [Lit.wf, IntKind.min, IntKind.max, IntKind.signed, IntKind.bits, decide_eq_true_eq, Bool.and_eq_true] at this
    simpa using this
  refine ⟨UInt8.ofNat a.toNat, ?_⟩
  rw [UInt8.toNat_ofNat']
  omega
theorem wf_i64 {a : Int} (h : (Lit.int .i64 a).wf = true) : -9223372036854775808 ≤ a ∧ a < 9223372036854775808 := by
  have h' : -9223372036854775808 ≤ a ∧ a ≤ 9223372036854775807 := by
    have := h
    simp only [Lit.wf, IntKind.min, IntKind.max, IntKind.signed, IntKind.bits, decide_eq_true_eq, Bool.and_eq_true] at this
    simpa using this
  omega
theorem ba_eta (a : ByteArray) : (⟨a.data.toList.toArray⟩ : ByteArray) = a := by cases a; simp
theorem ba_len (a : ByteArray) (h : a.size ≤ 140737488351232) : a.data.toList.length ≤ 140737488355328 := by
  have : a.data.toList.length = a.size := by rw [Array.length_toList]; rfl
  omega
theorem sv_of (a : ByteArray) : Value.string a = sv a.data.toList := by unfold sv; rw [ba_eta]

/-! ### What came in, as the engine's words: by the type -/
def Opens {α : Type} (P : Program) (t : TypeId) (T : Ty α) : Prop :=
  ∀ {H : Type} {enc : TypeId × Value → H} {w : World} {sp : Nat → Bool} {held : Bool} {fuel : Nat} {cs : List Value} {x : DataW H × List MemPlace},
    DataW.trod enc P w 0 sp held fuel t cs = some x → (∀ n ∈ x.1.weights P t, n ≤ reachBytes) → ∃ a, T.rep (sig0 w) w a cs

theorem opens_bool {P : Program} {t : TypeId} (ht : P.underlying t = some .bool) : Opens P t tBool := by
  intro H enc w sp held fuel cs x h _
  obtain ⟨b, rfl, _⟩ := DataW.trod_bool ht h
  exact ⟨b, rfl⟩
theorem opens_u8 {P : Program} {t : TypeId} (ht : P.underlying t = some (.int .u8)) : Opens P t tU8 := by
  intro H enc w sp held fuel cs x h _
  obtain ⟨n, rfl, _, hw⟩ := DataW.trod_int ht h
  obtain ⟨m, rfl⟩ := wf_u8 hw
  exact ⟨m, rfl⟩
theorem opens_u64 {P : Program} {t : TypeId} (ht : P.underlying t = some (.int .u64)) : Opens P t tU64 := by
  intro H enc w sp held fuel cs x h _
  obtain ⟨n, rfl, _, hw⟩ := DataW.trod_int ht h
  obtain ⟨m, rfl⟩ := wf_u64 hw
  exact ⟨m, rfl⟩
theorem opens_str {P : Program} {t : TypeId} (ht : P.underlying t = some .string) : Opens P t tStr := by
  intro H enc w sp held fuel cs x h _
  obtain ⟨s, rfl, _⟩ := DataW.trod_string ht h
  exact ⟨s.data.toList, by show [Value.string s] = [sv s.data.toList]; rw [sv_of]⟩

theorem cells_some {w : World} {base : Nat} {a : Addr} {n : Nat} {cs : List Value} (h : w.cells? base a n = some cs) : cs.length = n ∧ ∀ j v, cs[j]? = some v → w.cell? (a.add j) = some v := by
  unfold World.cells? at h
  split at h
  · have gen : ∀ (l : List Nat) (cs : List Value), l.mapM (fun i => w.cell? (a.add i)) = some cs → cs.length = l.length ∧ ∀ (j : Nat) (v : Value), cs[j]? = some v → ∃ i : Nat, l[j]? = some i ∧ w.cell? (a.add i) = some v := by
      intro l
      induction l with
      | nil => intro cs h; simp at h; subst h; simp
      | cons i l ih =>
        intro cs h
        rw [List.mapM_cons] at h
        cases hc : w.cell? (a.add i) with
        | none => rw [hc] at h; simp at h
        | some u =>
          rw [hc] at h
          cases hr : l.mapM (fun i => w.cell? (a.add i)) with
          | none => rw [hr] at h; simp at h
          | some r =>
            rw [hr] at h
            simp at h
            subst h
            obtain ⟨h1, h2⟩ := ih r hr
            refine ⟨by simp [h1], fun j v hv => ?_⟩
            cases j with
            | zero => simp at hv; subst hv; exact ⟨i, rfl, hc⟩
            | succ j => simpa using h2 j v (by simpa using hv)
    obtain ⟨h1, h2⟩ := gen _ _ h
    refine ⟨by simpa using h1, fun j v hv => ?_⟩
    obtain ⟨i, hi, hc⟩ := h2 j v hv
    have hj : j < n := by
      have := (List.getElem?_eq_some_iff.1 hi).1
      simpa using this
    rw [List.getElem?_range hj] at hi
    injection hi with hi
    subst hi
    exact hc
  · simp at h

theorem collect {α : Type} {R : α → List Value → Prop} {S : Nat → Value → Prop} {sz : Nat} (hs : ∀ x c, R x c → c.length = sz) : ∀ (n : Nat), (∀ i, i < n → ∃ a c, R a c ∧ ∀ j v, c[j]? = some v → S (i * sz + j) v) →
    ∃ xs cs, xs.length = n ∧ Reps R xs cs ∧ ∀ j v, cs[j]? = some v → S j v
  | 0, _ => ⟨[], [], rfl, rfl, fun j v h => by simp at h⟩
  | n + 1, h => by
    obtain ⟨xs, cs, hl, hr, hc⟩ := collect hs n (fun i hi => h i (by omega))
    obtain ⟨a, c, ha, hac⟩ := h n (by omega)
    refine ⟨xs ++ [a], cs ++ c, by simp [hl], Reps.append hr (Reps.one ha), fun j v hv => ?_⟩
    have hcl := Reps.length hs hr
    by_cases hj : j < cs.length
    · rw [List.getElem?_append_left hj] at hv; exact hc j v hv
    · rw [List.getElem?_append_right (by omega)] at hv
      have := hac (j - cs.length) v hv
      rwa [show n * sz + (j - cs.length) = j by rw [hcl, hl]; rw [hcl, hl] at hj; omega] at this

theorem weights_all {H : Type} {P : Program} {e : TypeId} {n : Nat} : ∀ {l : List (DataW H)} {d : DataW H}, d ∈ l → n ∈ d.weights P e → n ∈ DataW.weightsAll P e l
  | a :: l, d, hd, hn => by
    simp only [DataW.weightsAll, List.mem_append]
    rcases List.mem_cons.1 hd with rfl | h
    · exact .inl hn
    · exact .inr (weights_all h hn)

theorem opens_slice {α : Type} {P : Program} {t e : TypeId} {T : Ty α} (ht : P.underlying t = some (.slice e)) (hsz : P.cellsOf e = T.sz) (hby : P.bytesOf e = T.by_) (h0 : 0 < T.sz) (O : Opens P e T) : Opens P t (tSl T) := by
  intro H enc w sp held fuel cs x h hw
  rcases DataW.trod_slice ht h with ⟨rfl, rfl⟩ | ⟨a, len, cap, elems, rest, n, rfl, rfl, rfl, hb, hl, hm, hlen, hel, _, _⟩
  · exact ⟨[], _, rfl, Rd.nil _ _ _ _ _⟩
  · have hbytes : len * T.by_ ≤ big := by
      have := hw ((elems.length + rest.length) * P.bytesOf e) (by simp [DataW.weights, ht])
      rw [hby] at this
      have h2 : len * T.by_ ≤ (elems.length + rest.length) * T.by_ := Nat.mul_le_mul_right _ (by omega)
      have h3 := reachBytes_lt
      have h4 : (2 : Nat) ^ 47 = 140737488355328 := by decide
      simp only [big]; omega
    by_cases hz : len = 0
    · subst hz
      exact ⟨[], _, rfl, ⟨_, cap, rfl, hl, by simp, .inl rfl⟩⟩
    · -- where it lies
      have hplain : ∃ b o, a = ⟨b, o, none⟩ := by
        have h1 := hel 0 (by omega)
        rw [List.getElem?_eq_getElem (by omega)] at h1
        obtain ⟨c, hc, _⟩ := Option.bind_eq_some_iff.1 h1
        obtain ⟨hcl, hcc⟩ := cells_some hc
        have hp : 0 < c.length := by omega
        have h2 := hcc 0 _ (List.getElem?_eq_getElem hp)
        simp only [Nat.zero_mul] at h2
        have h3 : (a.add 0).add 0 = a := by simp [Addr.add]
        rw [h3] at h2
        refine ⟨a.block, a.off, ?_⟩
        cases hs : a.spot with
        | none => cases a; simp_all
        | some s =>
          unfold World.cell? at h2
          rw [hs] at h2
          simp only [Option.isSome_some, if_true] at h2
          split at h2 <;> simp at h2
      obtain ⟨b, o, rfl⟩ := hplain
      obtain ⟨xs, ds, hxl, hxr, hxc⟩ := collect (R := T.rep (sig0 w) w) (S := fun j v => o + j < sig0 w b ∧ w.cell? ⟨b, o + j, none⟩ = some v) (sz := T.sz) (fun x c hx => T.len hx) len (fun i hi => by
        have h1 := hel i hi
        rw [List.getElem?_eq_getElem (by omega)] at h1
        obtain ⟨c, hc, hy⟩ := Option.bind_eq_some_iff.1 h1
        obtain ⟨hcl, hcc⟩ := cells_some hc
        obtain ⟨y, hyr⟩ := O hy (fun m hm => hw m (by
          simp only [DataW.weights, ht, List.mem_cons, List.mem_append]
          right; left
          exact weights_all (List.mem_map.2 ⟨elems[i], List.getElem_mem _, rfl⟩) hm))
        refine ⟨y, c, hyr, fun j v hv => ?_⟩
        have h2 := hcc j v hv
        rw [Addr.add_lit, Addr.add_lit, hsz, Nat.add_assoc] at h2
        exact ⟨sig0_lt h2, h2⟩)
      refine ⟨xs, _, rfl, _, cap, by rw [hxl], by omega, by rw [hxl]; exact hbytes, .inr ⟨b, o, ds, rfl, ⟨?_, hxc⟩, hxr⟩⟩
      right
      have hp : 0 < ds.length := by
        rw [Reps.length (fun x c hx => T.len hx) hxr, hxl]
        exact Nat.mul_pos (by omega) h0
      exact World.block_lt_of_cell? w _ (hxc 0 _ (List.getElem?_eq_getElem hp)).2

/-- An argument that is a slice. -/
theorem arg_slice {α : Type} {H : Type} {P : Program} {enc : TypeId × Value → H} {w : World} {sp : Nat → Bool} {held : Bool} {t : TypeId} {T : Ty α} {v : Value} {d : DataW H} {ps : List MemPlace} {ts : List TypeId} {ds : List (DataW H)} {j : Nat} (O : Opens P t (tSl T))
    (h : DataW.Trod enc P w 0 sp held t v d ps) (hv : v.oneCell' = true) (hsz : (DataW.weightsEach P ts ds).all (· ≤ reachBytes) = true) (ht : ts[j]? = some t) (hd : ds[j]? = some d) : ∃ xs, Rd T (sig0 w) w v xs := by
  obtain ⟨fuel, hf⟩ := h
  obtain ⟨xs, u, hu, hr⟩ := O hf (fun n hn => by
    have := List.all_eq_true.1 hsz n (DataW.weights_mem_each ht hd n hn)
    simpa using this)
  have : v.cells.toList = [v] := by cases v <;> first | rfl | (simp [Value.oneCell'] at hv)
  rw [this] at hu
  injection hu with hu _
  subst hu
  exact ⟨xs, hr⟩
end Go.Proofs.Ytaoamokfbhlaaaa.E
