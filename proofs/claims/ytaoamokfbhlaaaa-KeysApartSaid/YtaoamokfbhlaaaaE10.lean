/- Maps that the call itself made: what they hold, in the order in which keys came. -/
import Derived.Test.YtaoamokfbhlaaaaE9
import Derived.MapKept
import Derived.Carry
set_option linter.unusedVariables false
set_option linter.unusedSimpArgs false
namespace Go.Proofs.Ytaoamokfbhlaaaa.E
open Go Go.RowKit

section
variable {α β : Type} [DecidableEq α]
def mput (l : List (α × β)) (a : α) (b : β) : List (α × β) :=
  match l with
  | [] => [(a, b)]
  | p :: r => if p.1 = a then (a, b) :: r else p :: mput r a b
def mget (l : List (α × β)) (a : α) : Option β :=
  match l with
  | [] => none
  | p :: r => if p.1 = a then some p.2 else mget r a
def mdel (l : List (α × β)) (a : α) : List (α × β) :=
  match l with
  | [] => []
  | p :: r => if p.1 = a then r else p :: mdel r a
def midx (l : List (α × β)) (a : α) (i : Nat) : Option (Nat × β) :=
  match l with
  | [] => none
  | p :: r => if p.1 = a then some (i, p.2) else midx r a (i + 1)
theorem midx_get (l : List (α × β)) (a : α) : ∀ i, (midx l a i).map (·.2) = mget l a := by
  induction l with
  | nil => intro i; rfl
  | cons p r ih => intro i; unfold midx mget; split <;> simp_all
theorem midx_none (l : List (α × β)) (a : α) (b : β) : ∀ i, midx l a i = none → mput l a b = l ++ [(a, b)] := by
  induction l with
  | nil => intro i _; rfl
  | cons p r ih =>
    intro i h
    unfold midx at h
    split at h
    · simp at h
    · rename_i hn
      unfold mput
      rw [if_neg hn, ih _ h]
      rfl
theorem midx_some (l : List (α × β)) (a : α) (b : β) : ∀ i j v, midx l a i = some (j, v) → i ≤ j ∧ j - i < l.length ∧ mput l a b = l.modify (j - i) (fun _ => (a, b)) ∧ (l[j - i]?).map (·.1) = some a := by
  induction l with
  | nil => intro i j v h; simp [midx] at h
  | cons p r ih =>
    intro i j v h
    unfold midx at h
    split at h
    · rename_i he
      simp only [Option.some.injEq, Prod.mk.injEq] at h
      obtain ⟨rfl, _⟩ := h
      unfold mput
      simp [he]
    · rename_i hn
      obtain ⟨h1, h2, h3, h4⟩ := ih _ _ _ h
      obtain ⟨k, rfl⟩ : ∃ k, j = i + 1 + k := ⟨j - (i + 1), by omega⟩
      have e1 : i + 1 + k - (i + 1) = k := by omega
      have e2 : i + 1 + k - i = k + 1 := by omega
      rw [e1] at h2 h3 h4
      rw [e2]
      refine ⟨by omega, by simp; omega, ?_, ?_⟩
      · unfold mput
        rw [if_neg hn, h3]
        simp
      · simpa using h4
theorem midx_nodel (l : List (α × β)) (a : α) : ∀ i, midx l a i = none → mdel l a = l := by
  induction l with
  | nil => intro i _; rfl
  | cons p r ih =>
    intro i h
    unfold midx at h
    split at h
    · simp at h
    · rename_i hn
      unfold mdel
      rw [if_neg hn, ih _ h]
theorem midx_del (l : List (α × β)) (a : α) : ∀ i j v, midx l a i = some (j, v) → mdel l a = l.eraseIdx (j - i) := by
  induction l with
  | nil => intro i j v h; simp [midx] at h
  | cons p r ih =>
    intro i j v h
    unfold midx at h
    split at h
    · rename_i he
      simp only [Option.some.injEq, Prod.mk.injEq] at h
      obtain ⟨rfl, _⟩ := h
      unfold mdel
      simp [he]
    · rename_i hn
      have hj : i + 1 ≤ j := (midx_some r a v _ _ _ h).1
      have h3 := ih _ _ _ h
      obtain ⟨k, rfl⟩ : ∃ k, j = i + 1 + k := ⟨j - (i + 1), by omega⟩
      have e1 : i + 1 + k - (i + 1) = k := by omega
      have e2 : i + 1 + k - i = k + 1 := by omega
      rw [e1] at h3
      rw [e2]
      unfold mdel
      rw [if_neg hn, h3]
      simp
end

/-- What a key's type must bring. -/
structure KeyOk {α : Type} [DecidableEq α] (P : Program) (kt : TypeId) (enc : α → Value) : Prop where
  check : ∀ e a w, (Instr.checkKey e 10000 kt (enc a)).run P w = .ok () w
  find : ∀ a (es : List MapEntry) (l : List (α × Value)) w, es.map (fun e => (e.key, e.val)) = l.map (fun p => (enc p.1, p.2)) → (Instr.findKey kt (enc a) es).run P w = .ok (midx l a 0) w
  stays : ∀ a, Instr.sameBits 10000 (enc a) (enc a) = true

theorem findNow_of {α : Type} [DecidableEq α] {kind : TypeDesc} {enc : α → Value} (h : ∀ a b, Instr.sameNow kind (enc a) (enc b) = some (decide (a = b))) (a : α) : ∀ (es : List MapEntry) (l : List (α × Value)) (i : Nat), es.map (fun e => (e.key, e.val)) = l.map (fun p => (enc p.1, p.2)) → Instr.findNow kind (enc a) es i = some (midx l a i)
  | [], [], _, _ => rfl
  | [], _ :: _, _, h => by simp at h
  | _ :: _, [], _, h => by simp at h
  | e :: es, p :: l, i, hm => by
    simp only [List.map_cons, List.cons.injEq, Prod.mk.injEq] at hm
    obtain ⟨⟨h1, h2⟩, h3⟩ := hm
    unfold Instr.findNow midx
    rw [h1, h]
    by_cases e : p.1 = a
    · simp [e, h2]
    · have : ¬ a = p.1 := fun h => e h.symm
      simp only [this, decide_false, e, if_false]
      exact findNow_of h a es l (i + 1) h3

theorem key_string {P : Program} {kt : TypeId} (hk : P.underlying kt = some .string) : KeyOk P kt sv where
  check e a w := MapKept.run_checkKey hk (by simp [MapKept.IsKey, sv]) e 9999
  find a es l w h := by
    have hn : ∀ a b : List UInt8, Instr.sameNow .string (sv a) (sv b) = some (decide (a = b)) := by
      intro a b
      obtain ⟨r, hr, hiff⟩ := MapKept.sameNow_of_keys (d := .string) (a := sv a) (b := sv b) (by simp [MapKept.IsKey, sv]) (by simp [MapKept.IsKey, sv])
      rw [hr, Option.some.injEq, Bool.eq_iff_iff, hiff, decide_eq_true_eq]
      exact ⟨fun h => by simpa [sv] using h, fun h => by rw [h]⟩
    unfold Instr.findKey
    simp only [Sem.run_bind, run_underlying hk, Result.andThen_ok, findNow_of hn a es l 0 h, Sem.run_pure]
  stays a := by
    obtain ⟨r, hr, hiff⟩ := MapKept.sameNow_of_keys (d := .string) (a := sv a) (b := sv a) (by simp [MapKept.IsKey, sv]) (by simp [MapKept.IsKey, sv])
    have h2 := hiff.2 rfl
    subst h2
    unfold Instr.sameNow at hr
    unfold sv at hr ⊢
    unfold Instr.sameBits
    simpa using hr

/-- A map's own block, and what it holds. -/
def Mp {α β : Type} (w : World) (b : Nat) (enc : α → Value) (ev : β → Value) (l : List (α × β)) : Prop :=
  ∃ es clock, w.heap[b]? = some (.map es clock) ∧ es.toList.map (fun e => (e.key, e.val)) = l.map (fun p => (enc p.1, ev p.2))

section
variable {α β : Type} {M : Nat → Prop} {σ σ1 : Nat → Nat} {w w1 : World} {b : Nat} {enc : α → Value} {ev : β → Value} {l : List (α × β)}
theorem Mp.lt (h : Mp w b enc ev l) : b < w.heap.size := by
  obtain ⟨es, c, h, _⟩ := h
  exact (Array.getElem?_eq_some_iff.1 h).1
theorem Mp.step (h : Mp w b enc ev l) (s : Stp M σ w σ1 w1) (hM : ¬ M b) : Mp w1 b enc ev l := by
  have hlt := h.lt
  obtain ⟨es, c, h, hl⟩ := h
  exact ⟨es, c, (s.block b hlt hM).trans h, hl⟩
theorem Mp.step' (h : Mp w b enc ev l) (s : Stp noM σ w σ1 w1) : Mp w1 b enc ev l := h.step s id
theorem Mp.new (w : World) (enc : α → Value) (ev : β → Value) : Mp (w.alloc (.map #[] 0)) w.heap.size enc ev [] :=
  ⟨#[], 0, heap_alloc_new w _, rfl⟩
end

theorem setObj_stp {σ : Nat → Nat} {w : World} {b : Nat} {es es' : Array MapEntry} {c c' : Nat} (h : w.heap[b]? = some (.map es c)) :
    Stp (· = b) σ w σ { w with heap := w.heap.setIfInBounds b (.map es' c') } ∧ ({ w with heap := w.heap.setIfInBounds b (.map es' c') } : World).heap[b]? = some (.map es' c') := by
  have hlt := (Array.getElem?_eq_some_iff.1 h).1
  have hother : ∀ x, x ≠ b → (w.heap.setIfInBounds b (.map es' c'))[x]? = w.heap[x]? := fun x hx => by
    rw [Array.getElem?_setIfInBounds]
    simp [Ne.symm hx]
  refine ⟨⟨rfl, rfl, rfl, by simp, fun x _ hx => hother x hx, fun _ _ _ => rfl, fun x o hx ho => ?_, fun _ _ => Nat.le_refl _⟩, ?_⟩
  · by_cases e : x = b
    · subst e
      simp only [World.cell?, h]
      simp [hlt]
    · exact World.cell?_of_block (hother x e)
  · simp [hlt]

theorem map_modify' {γ δ : Type} (f : γ → δ) (g : γ → γ) (g' : δ → δ) (h : ∀ x, f (g x) = g' (f x)) : ∀ (l : List γ) (i : Nat), (l.modify i g).map f = (l.map f).modify i g'
  | [], i => by simp
  | a :: l, 0 => by simp [h]
  | a :: l, i + 1 => by simp [map_modify' f g g' h l i]

section
variable {P : Program} {α β : Type} [DecidableEq α] {enc : α → Value} {ev : β → Value} {w : World} {b : Nat} {m : List (α × β)} {σ : Nat → Nat}

theorem midx_map (m : List (α × β)) (a : α) (ev : β → Value) : ∀ i, midx (m.map (fun p => (p.1, ev p.2))) a i = (midx m a i).map (fun q => (q.1, ev q.2)) := by
  induction m with
  | nil => intro i; rfl
  | cons p r ih =>
    intro i
    simp only [List.map_cons, midx]
    split
    · rfl
    · exact ih _

theorem run_mapUpdate {t kt e : TypeId} (K : KeyOk P kt enc) (ht : P.underlying t = some (.map kt e)) (h : Mp w b enc ev m) (a : α) (v : β) :
    ∃ w', (Instr.mapUpdate t (.map (some b)) (enc a) (ev v)).run P w = .ok () w' ∧ Mp w' b enc ev (mput m a v) ∧ Stp (· = b) σ w σ w' := by
  obtain ⟨es, c, hb, hl⟩ := h
  have hl' : es.toList.map (fun e => (e.key, e.val)) = (m.map (fun p => (p.1, ev p.2))).map (fun p => (enc p.1, p.2)) := by rw [hl, List.map_map]; rfl
  have hf := K.find a es.toList _ w hl'
  rw [midx_map] at hf
  cases hx : midx m a 0 with
  | none =>
    rw [hx] at hf
    obtain ⟨s1, s2⟩ := setObj_stp (σ := σ) (es' := es.push { key := enc a, val := ev v, born := c }) (c' := c + 1) hb
    refine ⟨_, ?_, ⟨_, _, s2, ?_⟩, s1⟩
    · unfold Instr.mapUpdate
      simp only [Sem.run_bind, run_underlying ht, Result.andThen_ok, MapKept.run_getObj_map hb, K.check, hf, Option.map_none, MapKept.run_setObj_map _ hb]
    · rw [midx_none m a v 0 hx]
      simp [hl]
  | some jv =>
    obtain ⟨j, u⟩ := jv
    rw [hx] at hf
    obtain ⟨_, hj, hp, hk⟩ := midx_some m a v 0 j u hx
    simp only [Nat.sub_zero] at hj hp hk
    have hsz : es.size = m.length := by
      have := congrArg List.length hl
      simpa using this
    have hje : j < es.size := by omega
    have hkey : (es[j]?).map (·.key) = some (enc a) := by
      have h1 := congrArg (fun l => l[j]?) hl
      simp only [List.getElem?_map, Array.getElem?_toList] at h1
      rw [List.getElem?_eq_getElem hj] at h1 hk
      simp only [Option.map_some, Option.some.injEq] at hk h1
      cases he : es[j]? with
      | none => rw [he] at h1; simp at h1
      | some e0 =>
        rw [he] at h1
        simp only [Option.map_some, Option.some.injEq, Prod.mk.injEq] at h1 ⊢
        rw [h1.1, hk]
    obtain ⟨s1, s2⟩ := setObj_stp (σ := σ) (es' := es.modify j fun e => { e with key := enc a, val := ev v }) (c' := c) hb
    refine ⟨_, ?_, ⟨_, _, s2, ?_⟩, s1⟩
    · unfold Instr.mapUpdate
      simp only [Sem.run_bind, run_underlying ht, Result.andThen_ok, MapKept.run_getObj_map hb, K.check, hf, Option.map_some, hkey, Option.getD_some, Instr.keyThatStays, K.stays, if_true, Sem.run_pure, MapKept.run_setObj_map _ hb]
    · rw [hp, Array.toList_modify, map_modify' (fun e : MapEntry => (e.key, e.val)) _ (fun _ => (enc a, ev v)) (fun x => rfl), hl, map_modify' (fun p : α × β => (enc p.1, ev p.2)) (fun _ => (a, v)) (fun _ => (enc a, ev v)) (fun x => rfl)]

theorem run_lookup {t kt e : TypeId} (K : KeyOk P kt enc) (ht : P.underlying t = some (.map kt e)) (h : Mp w b enc ev m) (a : α) {z : β} (hz : (zeroValue e).run P w = .ok (ev z) w) (ok : Bool) :
    (Instr.lookup t (.map (some b)) (enc a) ok).run P w = .ok (if ok then .tuple #[ev ((mget m a).getD z), .bool (mget m a).isSome] else ev ((mget m a).getD z)) w := by
  obtain ⟨es, c, hb, hl⟩ := h
  have hl' : es.toList.map (fun e => (e.key, e.val)) = (m.map (fun p => (p.1, ev p.2))).map (fun p => (enc p.1, p.2)) := by rw [hl, List.map_map]; rfl
  have hf := K.find a es.toList _ w hl'
  rw [midx_map] at hf
  have hg := midx_get m a 0
  unfold Instr.lookup
  simp only [Sem.run_bind, run_underlying ht, Result.andThen_ok, MapKept.run_getObj_map hb, K.check, hf, Sem.run_pure]
  cases hx : midx m a 0 with
  | none =>
    rw [hx] at hg
    simp only [Option.map_none] at hg ⊢
    rw [← hg]
    simp only [Sem.run_bind, hz, Result.andThen_ok, Sem.run_pure, Option.getD_none, Option.isSome_none]
  | some jv =>
    rw [hx] at hg
    simp only [Option.map_some] at hg ⊢
    rw [← hg]
    simp only [Sem.run_bind, Result.andThen_ok, Sem.run_pure, Option.getD_some, Option.isSome_some]

theorem run_mapDelete {t kt e : TypeId} {ts : Array TypeId} {ty : TypeId} (K : KeyOk P kt enc) (ht : P.underlying t = some (.map kt e)) (h : Mp w b enc ev m) (a : α) (h0 : ts[0]? = some t) :
    ∃ w', (Builtin.delete_ ts ty #[.map (some b), enc a]).run P w = .ok (.tuple #[]) w' ∧ Mp w' b enc ev (mdel m a) ∧ Stp (· = b) σ w σ w' := by
  obtain ⟨es, c, hb, hl⟩ := h
  have hl' : es.toList.map (fun e => (e.key, e.val)) = (m.map (fun p => (p.1, ev p.2))).map (fun p => (enc p.1, p.2)) := by rw [hl, List.map_map]; rfl
  have hf := K.find a es.toList _ w hl'
  rw [midx_map] at hf
  have e0 : (#[Value.map (some b), enc a] : Array Value)[0]? = some (.map (some b)) := rfl
  have e1 : (#[Value.map (some b), enc a] : Array Value)[1]? = some (enc a) := rfl
  cases hx : midx m a 0 with
  | none =>
    rw [hx] at hf
    obtain ⟨s1, s2⟩ := setObj_stp (σ := σ) (es' := es) (c' := c) hb
    refine ⟨_, ?_, ⟨_, _, s2, ?_⟩, s1⟩
    · unfold Builtin.delete_
      simp only [h0, e0, e1, Sem.run_bind, run_underlying ht, Result.andThen_ok, MapKept.run_getObj_map hb, K.check, hf, Option.map_none, MapKept.run_setObj_map _ hb, Sem.run_pure]
    · rw [midx_nodel m a 0 hx]; exact hl
  | some jv =>
    obtain ⟨j, u⟩ := jv
    rw [hx] at hf
    have hj := (midx_some m a u 0 j u hx).2.1
    have hp := midx_del m a 0 j u hx
    simp only [Nat.sub_zero] at hj hp
    have hsz : es.size = m.length := by
      have := congrArg List.length hl
      simpa using this
    obtain ⟨s1, s2⟩ := setObj_stp (σ := σ) (es' := es.eraseIdxIfInBounds j) (c' := c) hb
    refine ⟨_, ?_, ⟨_, _, s2, ?_⟩, s1⟩
    · unfold Builtin.delete_
      simp only [h0, e0, e1, Sem.run_bind, run_underlying ht, Result.andThen_ok, MapKept.run_getObj_map hb, K.check, hf, Option.map_some, MapKept.run_setObj_map _ hb, Sem.run_pure]
    · rw [hp]
      have hje : j < es.size := by omega
      simp only [Array.eraseIdxIfInBounds, hje, dif_pos, Array.toList_eraseIdx]
      have map_erase : ∀ {γ δ : Type} (f : γ → δ) (l : List γ) (i : Nat), (l.eraseIdx i).map f = (l.map f).eraseIdx i := by
        intro γ δ f l
        induction l with
        | nil => intro i; simp
        | cons a l ih => intro i; cases i <;> simp [ih]
      rw [map_erase, hl, map_erase]
end

section
variable {P : Program} {ops : Array Oper} {Q : Exit → Act → World → Prop} {Kp : Act → World → Prop} {n i : Nat} {l l' : Sl} {a : Act} {w w' : World} {M : Nat → Prop} {σ : Nat → Nat}

theorem r_makeMap {d : Nat} {t : TypeId} (hF : Fr a n l) (ho : (ops[i]?).map (fun o => (o.dst, o.op)) = some (some d, .makeMap t none)) (hk : okAt ops i n l = true) (σ : Nat → Nat)
    {α β : Type} (enc : α → Value) (ev : β → Value)
    (K : ∀ a' σ' w' b, b = w.heap.size → Stp noM σ w σ' w' → Mp w' b enc ev [] → Fr a' n ((d, .map (some b)) :: l) → Kp a' w') : wpOp P ops Q i Kp a w :=
  r_val hF ho hk (.map (some w.heap.size)) (w.alloc (.map #[] 0)) (fun o e => by simp only [execOp, e, Option.map_none, Sem.run_bind, run_makeMap, Result.andThen_ok, Sem.run_pure]) fun a' hF' => K a' _ _ _ rfl (Stp.alloc σ w _ 0) (Mp.new w enc ev) hF'

theorem r_mapUpdate {α β : Type} [DecidableEq α] {enc : α → Value} {ev : β → Value} {t kt e : TypeId} {x y z : Operand} (hF : Fr a n l) (ho : (ops[i]?).map (fun o => (o.dst, o.op)) = some (none, .mapUpdate t x y z)) (hk : okAt ops i n l = true)
    (KO : KeyOk P kt enc) (ht : P.underlying t = some (.map kt e)) {b : Nat} {m : List (α × β)} (h : Mp w b enc ev m) (k : α) (v : β) (hx : evl l x = .map (some b)) (hy : evl l y = enc k) (hz : evl l z = ev v) (σ : Nat → Nat)
    (K : ∀ a' w', Stp (· = b) σ w σ w' → Mp w' b enc ev (mput m k v) → Fr a' n l → Kp a' w') : wpOp P ops Q i Kp a w := by
  obtain ⟨w', hr, h1, h2⟩ := run_mapUpdate (σ := σ) KO ht h k v
  exact r_skip hF ho hk w' (fun o e => by simp only [execOp, e, hx, hy, hz, Sem.run_bind, hr, Result.andThen_ok, Sem.run_pure]) fun a' hF' => K a' w' h2 h1 hF'

theorem exec_lookup {α β : Type} [DecidableEq α] {enc : α → Value} {ev : β → Value} {t kt e : TypeId} {x y : Operand} (KO : KeyOk P kt enc) (ht : P.underlying t = some (.map kt e)) {b : Nat} {m : List (α × β)} (h : Mp w b enc ev m) (k : α) (z : β) (hz : (zeroValue e).run P w = .ok (ev z) w)
    (hx : evl l x = .map (some b)) (hy : evl l y = enc k) : ∀ o : Oper, o.op = .lookup t x y false → (execOp (evl l) o).run P w = .ok (.value (ev ((mget m k).getD z))) w := by
  intro o e
  have := run_lookup KO ht h k hz false
  simp only [Bool.false_eq_true, if_false] at this
  simp only [execOp, e, hx, hy, Sem.run_bind, this, Result.andThen_ok, Sem.run_pure]
theorem exec_lookup2 {α β : Type} [DecidableEq α] {enc : α → Value} {ev : β → Value} {t kt e : TypeId} {x y : Operand} (KO : KeyOk P kt enc) (ht : P.underlying t = some (.map kt e)) {b : Nat} {m : List (α × β)} (h : Mp w b enc ev m) (k : α) (z : β) (hz : (zeroValue e).run P w = .ok (ev z) w)
    (hx : evl l x = .map (some b)) (hy : evl l y = enc k) : ∀ o : Oper, o.op = .lookup t x y true → (execOp (evl l) o).run P w = .ok (.value (.tuple #[ev ((mget m k).getD z), .bool (mget m k).isSome])) w := by
  intro o e
  have := run_lookup KO ht h k hz true
  simp only [if_true] at this
  simp only [execOp, e, hx, hy, Sem.run_bind, this, Result.andThen_ok, Sem.run_pure]

theorem exec_mlen {α β : Type} {enc : α → Value} {ev : β → Value} {t kt e : TypeId} {x : Operand} (ht : P.underlying t = some (.map kt e)) {b : Nat} {m : List (α × β)} (h : Mp w b enc ev m) (hx : evl l x = .map (some b)) :
    ∀ o : Oper, o.op = .call ⟨.builtin .len, #[x], #[t]⟩ → (execOp (evl l) o).run P w = .ok (.value (.int .i64 ((m.length : Nat) : Int))) w := by
  intro o e
  obtain ⟨es, c, hb, hl⟩ := h
  have hsz : es.size = m.length := by
    have := congrArg List.length hl
    simpa using this
  have e0 : (#[t] : Array TypeId)[0]? = some t := rfl
  have e1 : (#[Value.map (some b)] : Array Value)[0]? = some (.map (some b)) := rfl
  have hr : (Builtin.len_ #[t] o.type #[.map (some b)]).run P w = .ok (.int .i64 ((m.length : Nat) : Int)) w := by
    unfold Builtin.len_
    simp only [e0, e1, Sem.run_bind, run_underlying ht, Result.andThen_ok, MapKept.run_getObj_map hb, Sem.run_pure, goInt, hsz]
  simp only [execOp, e, resolve, List.map_toArray, List.map_cons, List.map_nil, hx, Sem.run_bind, Sem.run_pure, Result.andThen_ok, invoke, builtin, hr]

theorem r_mapDelete {α β : Type} [DecidableEq α] {enc : α → Value} {ev : β → Value} {t kt e : TypeId} {ts : Array TypeId} {d : Nat} {x y : Operand} (hF : Fr a n l) (ho : (ops[i]?).map (fun o => (o.dst, o.op)) = some (some d, .call ⟨.builtin .delete, #[x, y], ts⟩)) (hk : okAt ops i n l = true) (h0 : ts[0]? = some t)
    (KO : KeyOk P kt enc) (ht : P.underlying t = some (.map kt e)) {b : Nat} {m : List (α × β)} (h : Mp w b enc ev m) (k : α) (hx : evl l x = .map (some b)) (hy : evl l y = enc k) (σ : Nat → Nat)
    (K : ∀ a' w', Stp (· = b) σ w σ w' → Mp w' b enc ev (mdel m k) → Fr a' n ((d, .tuple #[]) :: l) → Kp a' w') : wpOp P ops Q i Kp a w := by
  obtain ⟨o, h1, h2, h3⟩ := opAt_of ho
  obtain ⟨w', hr, g1, g2⟩ := run_mapDelete (σ := σ) (ty := o.type) KO ht h k h0
  refine r_val hF ho hk (.tuple #[]) w' ?_ fun a' hF' => K a' w' g2 g1 hF'
  intro o' e'
  have hsame : (Builtin.delete_ ts o'.type #[.map (some b), enc k]) = (Builtin.delete_ ts o.type #[.map (some b), enc k]) := rfl
  simp only [execOp, e', resolve, List.map_toArray, List.map_cons, List.map_nil, hx, hy, Sem.run_bind, Sem.run_pure, Result.andThen_ok, invoke, builtin, hsame, hr]
end
end Go.Proofs.Ytaoamokfbhlaaaa.E
