/- The memory side of the engine: steps between worlds that keep what lies below a watermark; what is read, what is owned, what is one's own variable. -/
import Derived.Test.YtaoamokfbhlaaaaE1
import Derived.OwnWalk
set_option linter.unusedVariables false
set_option linter.unusedSimpArgs false
namespace Go.Proofs.Ytaoamokfbhlaaaa.E
open Go Go.RowKit

/-! ### 1. Steps -/
structure Stp (M : Nat → Prop) (σ : Nat → Nat) (w : World) (σ' : Nat → Nat) (w' : World) : Prop where
  os : w'.os = w.os
  tape : w'.tape = w.tape
  output : w'.output = w.output
  size : w.heap.size ≤ w'.heap.size
  block : ∀ b, b < w.heap.size → ¬ M b → w'.heap[b]? = w.heap[b]?
  wm : ∀ b, b < w.heap.size → ¬ M b → σ' b = σ b
  cell : ∀ b o, b < w.heap.size → o < σ b → w'.cell? ⟨b, o, none⟩ = w.cell? ⟨b, o, none⟩
  wmm : ∀ b, b < w.heap.size → σ b ≤ σ' b

def noM : Nat → Prop := fun _ => False
def upd (σ : Nat → Nat) (b k : Nat) : Nat → Nat := fun x => if x = b then k else σ x
theorem upd_same (σ : Nat → Nat) (b k : Nat) : upd σ b k b = k := by simp [upd]
theorem upd_ne (σ : Nat → Nat) {b x : Nat} (k : Nat) (h : x ≠ b) : upd σ b k x = σ x := by simp [upd, h]

section
variable {M M' M'' : Nat → Prop} {σ σ1 σ2 : Nat → Nat} {w w1 w2 : World}

theorem Stp.refl (M : Nat → Prop) (σ : Nat → Nat) (w : World) : Stp M σ w σ w := ⟨rfl, rfl, rfl, Nat.le_refl _, fun _ _ _ => rfl, fun _ _ _ => rfl, fun _ _ _ _ => rfl, fun _ _ => Nat.le_refl _⟩

theorem Stp.trans (h : Stp M σ w σ1 w1) (k : Stp M' σ1 w1 σ2 w2) (hM : ∀ b, b < w.heap.size → (M b ∨ M' b) → M'' b) : Stp M'' σ w σ2 w2 := by
  refine ⟨k.os.trans h.os, k.tape.trans h.tape, k.output.trans h.output, Nat.le_trans h.size k.size, ?_, ?_, ?_, ?_⟩
  · intro b hb hn
    rw [k.block b (Nat.lt_of_lt_of_le hb h.size) (fun e => hn (hM b hb (.inr e))), h.block b hb (fun e => hn (hM b hb (.inl e)))]
  · intro b hb hn
    rw [k.wm b (Nat.lt_of_lt_of_le hb h.size) (fun e => hn (hM b hb (.inr e))), h.wm b hb (fun e => hn (hM b hb (.inl e)))]
  · intro b o hb ho
    rw [k.cell b o (Nat.lt_of_lt_of_le hb h.size) (Nat.lt_of_lt_of_le ho (h.wmm b hb)), h.cell b o hb ho]
  · intro b hb
    exact Nat.le_trans (h.wmm b hb) (k.wmm b (Nat.lt_of_lt_of_le hb h.size))

theorem Stp.mono (h : Stp M σ w σ1 w1) (hM : ∀ b, b < w.heap.size → M b → M' b) : Stp M' σ w σ1 w1 :=
  ⟨h.os, h.tape, h.output, h.size, fun b hb hn => h.block b hb (fun e => hn (hM b hb e)), fun b hb hn => h.wm b hb (fun e => hn (hM b hb e)), h.cell, h.wmm⟩

/-- Behind another step that writes nothing of what was there at the beginning. -/
theorem Stp.and (h : Stp M σ w σ1 w1) (k : Stp M' σ1 w1 σ2 w2) (hM : ∀ b, M' b → w.heap.size ≤ b) : Stp M σ w σ2 w2 :=
  h.trans k fun b hb e => e.elim id fun e => absurd (hM b e) (by omega)

theorem Stp.then (h : Stp M σ w σ1 w1) (k : Stp noM σ1 w1 σ2 w2) : Stp M σ w σ2 w2 := h.and k fun _ e => e.elim

theorem Stp.lt (h : Stp M σ w σ1 w1) {b : Nat} (hb : b < w.heap.size) : b < w1.heap.size := Nat.lt_of_lt_of_le hb h.size

theorem Stp.below (h : Stp noM σ w σ1 w1) : Below w.heap.size w w1 := ⟨h.os, h.tape, h.output, h.size, fun b hb => h.block b hb id⟩

theorem Stp.alloc (σ : Nat → Nat) (w : World) (o : Obj) (k : Nat) : Stp noM σ w (upd σ w.heap.size k) (w.alloc o) :=
  ⟨rfl, rfl, rfl, by simp, fun b hb _ => Below.heap_alloc w o b hb, fun b hb _ => upd_ne σ k (Nat.ne_of_lt hb),
   fun b i hb _ => World.cell?_of_block (w := w) (Below.heap_alloc w o b hb), fun b hb => by rw [upd_ne σ k (Nat.ne_of_lt hb)]; exact Nat.le_refl _⟩

theorem Stp.drew (σ : Nat → Nat) (w : World) : Stp noM σ w σ { w with drawn := w.drawn + 1 } :=
  ⟨rfl, rfl, rfl, Nat.le_refl _, fun _ _ _ => rfl, fun _ _ _ => rfl, fun _ _ _ _ => rfl, fun _ _ => Nat.le_refl _⟩

/-- What is finished is published: the watermark of one's own block goes up. -/
theorem Stp.publish (σ : Nat → Nat) (w : World) (b k : Nat) (h : σ b ≤ k) : Stp (· = b) σ w (upd σ b k) w :=
  ⟨rfl, rfl, rfl, Nat.le_refl _, fun _ _ _ => rfl, fun x _ hx => upd_ne σ k hx, fun _ _ _ _ => rfl, fun x _ => by
    by_cases e : x = b
    · subst e; rw [upd_same]; exact h
    · rw [upd_ne σ k e]; exact Nat.le_refl _⟩
end

/-! ### 2. Pieces of memory that are settled -/
structure Seg (σ : Nat → Nat) (w : World) (b o : Nat) (cs : List Value) : Prop where
  lt : cs = [] ∨ b < w.heap.size
  h : ∀ j v, cs[j]? = some v → o + j < σ b ∧ w.cell? ⟨b, o + j, none⟩ = some v

section
variable {M : Nat → Prop} {σ σ1 : Nat → Nat} {w w1 : World} {b o : Nat} {cs : List Value}

theorem Seg.step (h : Seg σ w b o cs) (s : Stp M σ w σ1 w1) : Seg σ1 w1 b o cs := by
  rcases h.lt with e | hb
  · subst e; exact ⟨.inl rfl, fun j v hv => by simp at hv⟩
  · refine ⟨.inr (s.lt hb), fun j v hv => ?_⟩
    obtain ⟨h1, h2⟩ := h.h j v hv
    exact ⟨Nat.lt_of_lt_of_le h1 (s.wmm b hb), (s.cell b _ hb h1).trans h2⟩

theorem Seg.part (h : Seg σ w b o cs) (i : Nat) {c : List Value} (hc : ∀ j v, c[j]? = some v → cs[i + j]? = some v) : Seg σ w b (o + i) c := by
  refine ⟨?_, fun j v hv => ?_⟩
  · rcases h.lt with e | hb
    · subst e
      left
      rcases c with _ | ⟨v, c⟩
      · rfl
      · have := hc 0 v rfl; simp at this
    · exact .inr hb
  · have := h.h (i + j) v (hc j v hv)
    rwa [← Nat.add_assoc] at this

theorem Seg.cells (h : Seg σ w b o cs) : ∀ j v, cs[j]? = some v → w.cell? ((⟨b, o, none⟩ : Addr).add j) = some v := by
  intro j v hv
  rw [Addr.add_lit]
  exact (h.h j v hv).2
end

/-! ### 3. Types -/
structure Ty (α : Type) where
  sz : Nat
  by_ : Nat
  rep : (Nat → Nat) → World → α → List Value → Prop
  len : ∀ {σ w x cs}, rep σ w x cs → cs.length = sz
  one : ∀ {σ w x cs}, rep σ w x cs → ∀ v ∈ cs, v.oneCell' = true
  step : ∀ {M σ w σ' w' x cs}, Stp M σ w σ' w' → rep σ w x cs → rep σ' w' x cs

def Ty.flat {α : Type} (enc : α → List Value) (sz by_ : Nat) (hl : ∀ x, (enc x).length = sz) (h1 : ∀ x, ∀ v ∈ enc x, v.oneCell' = true) : Ty α where
  sz := sz
  by_ := by_
  rep := fun _ _ x cs => cs = enc x
  len := fun h => by rw [h]; exact hl _
  one := fun h => by rw [h]; exact h1 _
  step := fun _ h => h

def Reps {α : Type} (R : α → List Value → Prop) : List α → List Value → Prop
  | [], cs => cs = []
  | x :: xs, cs => ∃ c r, cs = c ++ r ∧ R x c ∧ Reps R xs r

section
variable {α : Type} {R R' : α → List Value → Prop}
theorem Reps.mono (h : ∀ x c, R x c → R' x c) : ∀ (xs : List α) (cs : List Value), Reps R xs cs → Reps R' xs cs
  | [], _, e => e
  | _ :: xs, _, ⟨c, r, e, hx, hr⟩ => ⟨c, r, e, h _ _ hx, Reps.mono h xs r hr⟩
theorem Reps.append : ∀ {xs ys : List α} {cs ds : List Value}, Reps R xs cs → Reps R ys ds → Reps R (xs ++ ys) (cs ++ ds)
  | [], _, _, _, e, k => by have e' := e; simp only [Reps] at e'; subst e'; exact k
  | _ :: xs, _, _, _, ⟨c, r, e, hx, hr⟩, k => ⟨c, r ++ _, by rw [e, List.append_assoc], hx, Reps.append hr k⟩
theorem Reps.length {sz : Nat} (hs : ∀ x c, R x c → c.length = sz) : ∀ {xs : List α} {cs : List Value}, Reps R xs cs → cs.length = xs.length * sz
  | [], _, e => by have e' := e; simp only [Reps] at e'; subst e'; simp
  | _ :: xs, _, ⟨c, r, e, hx, hr⟩ => by rw [e, List.length_append, hs _ _ hx, Reps.length hs hr, List.length_cons, Nat.add_mul]; omega
theorem Reps.all {p : Value → Prop} (hs : ∀ x c, R x c → ∀ v ∈ c, p v) : ∀ {xs : List α} {cs : List Value}, Reps R xs cs → ∀ v ∈ cs, p v
  | [], _, e => by have e' := e; simp only [Reps] at e'; subst e'; simp
  | _ :: xs, _, ⟨c, r, e, hx, hr⟩ => by
    intro v hv
    rw [e] at hv
    rcases List.mem_append.1 hv with h | h
    · exact hs _ _ hx v h
    · exact Reps.all hs hr v h
theorem Reps.get {sz : Nat} (hs : ∀ x c, R x c → c.length = sz) : ∀ {xs : List α} {cs : List Value}, Reps R xs cs → ∀ (i : Nat) (hi : i < xs.length), ∃ c, R (xs[i]'hi) c ∧ ∀ j v, c[j]? = some v → cs[i * sz + j]? = some v
  | [], _, _, i, hi => by simp at hi
  | x :: xs, cs, ⟨c, r, e, hx, hr⟩, 0, hi => ⟨c, hx, fun j v hv => by
      have hj : j < c.length := (List.getElem?_eq_some_iff.1 hv).1
      rw [e, Nat.zero_mul, Nat.zero_add, List.getElem?_append_left hj]; exact hv⟩
  | x :: xs, cs, ⟨c, r, e, hx, hr⟩, i + 1, hi => by
      obtain ⟨c', h1, h2⟩ := Reps.get hs hr i (by simpa using hi)
      refine ⟨c', h1, fun j v hv => ?_⟩
      have hl := hs _ _ hx
      rw [e, List.getElem?_append_right (by rw [hl, Nat.add_mul]; omega), hl, show (i + 1) * sz + j - sz = i * sz + j by rw [Nat.add_mul]; omega]
      exact h2 j v hv
theorem Reps.drop {sz : Nat} (hs : ∀ x c, R x c → c.length = sz) : ∀ (k : Nat) {xs : List α} {cs : List Value}, Reps R xs cs → Reps R (xs.drop k) (cs.drop (k * sz))
  | 0, xs, cs, h => by simpa using h
  | k + 1, [], cs, e => by have e' := e; simp only [Reps] at e'; subst e'; simp [Reps]
  | k + 1, x :: xs, cs, ⟨c, r, e, hx, hr⟩ => by
      have hl := hs _ _ hx
      have := Reps.drop hs k hr
      rw [List.drop_succ_cons, e, Nat.add_mul, Nat.one_mul, Nat.add_comm, ← List.drop_drop, ← hl, List.drop_left, hl]
      exact this
theorem Reps.take {sz : Nat} (hs : ∀ x c, R x c → c.length = sz) : ∀ (k : Nat) {xs : List α} {cs : List Value}, Reps R xs cs → Reps R (xs.take k) (cs.take (k * sz))
  | 0, xs, cs, h => by simp [Reps]
  | k + 1, [], cs, e => by have e' := e; simp only [Reps] at e'; subst e'; simp [Reps]
  | k + 1, x :: xs, cs, ⟨c, r, e, hx, hr⟩ => by
      have hl := hs _ _ hx
      refine ⟨c, r.take (k * sz), ?_, hx, Reps.take hs k hr⟩
      rw [e, Nat.add_mul, Nat.one_mul, Nat.add_comm, ← hl, List.take_length_add_append]
theorem Reps.one {x : α} {c : List Value} (h : R x c) : Reps R [x] c := ⟨c, [], by simp, h, rfl⟩
theorem Reps.flat {enc : α → List Value} : ∀ (xs : List α), Reps (fun x cs => cs = enc x) xs (xs.flatMap enc)
  | [] => rfl
  | x :: xs => ⟨enc x, xs.flatMap enc, by simp, rfl, Reps.flat xs⟩
end

def big : Nat := 140737488355328

/-! ### 4. A slice that is read -/
def Rd {α : Type} (T : Ty α) (σ : Nat → Nat) (w : World) (v : Value) (xs : List α) : Prop :=
  ∃ a cap, v = .slice a xs.length cap ∧ xs.length ≤ cap ∧ xs.length * T.by_ ≤ big ∧
    (xs = [] ∨ ∃ b o cs, a = some ⟨b, o, none⟩ ∧ Seg σ w b o cs ∧ Reps (T.rep σ w) xs cs)

section
variable {α : Type} {T : Ty α} {M : Nat → Prop} {σ σ1 : Nat → Nat} {w w1 : World} {v : Value} {xs : List α}

theorem Rd.nil (T : Ty α) (σ : Nat → Nat) (w : World) (a : Option Addr) (c : Nat) : Rd T σ w (.slice a 0 c) [] := ⟨a, c, rfl, Nat.zero_le _, by simp, .inl rfl⟩

theorem Rd.step (h : Rd T σ w v xs) (s : Stp M σ w σ1 w1) : Rd T σ1 w1 v xs := by
  obtain ⟨a, cap, e, hc, hb, h⟩ := h
  refine ⟨a, cap, e, hc, hb, h.imp id ?_⟩
  rintro ⟨b, o, cs, e2, hs, hr⟩
  exact ⟨b, o, cs, e2, hs.step s, Reps.mono (fun x c hx => T.step s hx) _ _ hr⟩

theorem Rd.form (h : Rd T σ w v xs) : ∃ a cap, v = .slice a xs.length cap ∧ xs.length ≤ cap := by
  obtain ⟨a, cap, e, hc, _⟩ := h
  exact ⟨a, cap, e, hc⟩

theorem Rd.bd (h : Rd T σ w v xs) : xs.length * T.by_ ≤ 140737488355328 := by
  obtain ⟨a, cap, e, hc, hb, _⟩ := h
  exact hb

theorem Rd.at {a : Option Addr} {n cap : Nat} (h : Rd T σ w (.slice a n cap) xs) (i : Nat) (hi : i < xs.length) :
    ∃ b o c, a = some ⟨b, o, none⟩ ∧ Seg σ w b (o + i * T.sz) c ∧ T.rep σ w (xs[i]'hi) c := by
  obtain ⟨a', cap', e, hc, hb, h⟩ := h
  injection e with e1 e2 e3
  subst e1
  rcases h with h | ⟨b, o, cs, e2, hs, hr⟩
  · subst h; simp at hi
  · obtain ⟨c, h1, h2⟩ := Reps.get (fun x c hx => T.len hx) hr i hi
    exact ⟨b, o, c, e2, hs.part _ h2, h1⟩

/-- A piece: 'v[lo:hi]' up to the length. -/
theorem Rd.cut {a : Option Addr} {n cap : Nat} (h : Rd T σ w (.slice a n cap) xs) (lo hi : Nat) (h1 : lo ≤ hi) (h2 : hi ≤ xs.length) (m : Nat) (hm : hi ≤ m) (hmc : m ≤ cap) :
    Rd T σ w (.slice (if m = lo then a else a.map (·.add (lo * T.sz))) (hi - lo) (m - lo)) ((xs.take hi).drop lo) := by
  obtain ⟨a', cap', e, hc, hb, h⟩ := h
  injection e with e1 e2 e3
  subst e1
  have hl : ((xs.take hi).drop lo).length = hi - lo := by simp; omega
  refine ⟨_, _, by rw [hl], by omega, ?_, ?_⟩
  · rw [hl]; exact Nat.le_trans (Nat.mul_le_mul_right _ (by omega)) hb
  · by_cases e0 : lo = hi
    · left; exact List.eq_nil_of_length_eq_zero (by rw [hl]; omega)
    · right
      rcases h with h | ⟨b, o, cs, e2, hs, hr⟩
      · subst h; simp at h2; omega
      · have hml : m ≠ lo := by omega
        have hr1 := Reps.drop (fun x c hx => T.len hx) lo (Reps.take (fun x c hx => T.len hx) hi hr)
        refine ⟨b, o + lo * T.sz, (cs.take (hi * T.sz)).drop (lo * T.sz), ?_, hs.part _ ?_, hr1⟩
        · simp only [hml, if_false, e2, Option.map_some, Addr.add_lit]
        · intro j u hj
          rw [List.getElem?_drop] at hj
          rw [List.getElem?_take] at hj
          split at hj
          · exact hj
          · simp at hj
end

/-! ### 5. A slice that is one's own, to which is appended -/
def Own {α : Type} (T : Ty α) (e : TypeId) (B : Nat) (σ : Nat → Nat) (w : World) (v : Value) (xs : List α) : Prop :=
  ∃ cs, w.ownsRow B e T.sz v xs.length cs ∧ Reps (T.rep σ w) xs cs ∧ xs.length * T.by_ ≤ big ∧ (∀ g, v.ownBlock = some g → σ g = xs.length * T.sz)

section
variable {α : Type} {T : Ty α} {e : TypeId} {B : Nat} {M : Nat → Prop} {σ σ1 : Nat → Nat} {w w1 : World} {v : Value} {xs : List α}

theorem Own.nil (T : Ty α) (e : TypeId) (B : Nat) (σ : Nat → Nat) (w : World) : Own T e B σ w (.slice none 0 0) [] :=
  ⟨[], World.ownsRow_nil _ _ _ _, rfl, by simp, fun g hg => by simp [Value.ownBlock] at hg⟩

theorem Own.lt (h : Own T e B σ w v xs) {g : Nat} (hg : v.ownBlock = some g) : g < w.heap.size := by
  obtain ⟨cs, ho, _⟩ := h; exact (ho.lt g hg).2
theorem Own.ge (h : Own T e B σ w v xs) {g : Nat} (hg : v.ownBlock = some g) : B ≤ g := by
  obtain ⟨cs, ho, _⟩ := h; exact (ho.lt g hg).1

theorem Own.rd (h : Own T e B σ w v xs) : Rd T σ w v xs := by
  obtain ⟨cs, ho, hr, hb, hs⟩ := h
  have ho' := ho
  rcases ho'.2 with ⟨rfl, h0⟩ | ⟨g, cap, cur, rfl, hbg, hg, hnc, hcm, hcs, htake⟩
  · have : xs = [] := List.eq_nil_of_length_eq_zero h0
    subst this
    exact Rd.nil _ _ _ _ _
  · refine ⟨_, cap, rfl, hnc, hb, .inr ⟨g, 0, cs, rfl, ⟨.inr (Array.getElem?_eq_some_iff.1 hg).1, fun j u hj => ?_⟩, hr⟩⟩
    have hl := Reps.length (fun x c hx => T.len hx) hr
    have hlt : j < cs.length := (List.getElem?_eq_some_iff.1 hj).1
    refine ⟨by rw [hs g rfl, Nat.zero_add]; omega, ?_⟩
    have := ho.cells (g := g) rfl j u hj
    rwa [Addr.add_lit] at this

theorem Own.step (h : Own T e B σ w v xs) (s : Stp M σ w σ1 w1) (hM : ∀ g, v.ownBlock = some g → ¬ M g) : Own T e B σ1 w1 v xs := by
  have hlt := fun g hg => h.lt (g := g) hg
  obtain ⟨cs, ho, hr, hb, hs⟩ := h
  refine ⟨cs, ?_, Reps.mono (fun x c hx => T.step s hx) _ _ hr, hb, fun g hg => by rw [s.wm g (hlt g hg) (hM g hg)]; exact hs g hg⟩
  refine ⟨ho.1, ho.2.imp id ?_⟩
  rintro ⟨g, cap, cur, rfl, hbg, hg, rest⟩
  refine ⟨g, cap, cur, rfl, hbg, ?_, rest⟩
  rw [s.block g (hlt g rfl) (hM g rfl)]
  exact hg

theorem Own.step' (h : Own T e B σ w v xs) (s : Stp noM σ w σ1 w1) : Own T e B σ1 w1 v xs := h.step s fun _ _ e => e

theorem Own.base {B' : Nat} (h : Own T e B σ w v xs) (hB : ∀ g, v.ownBlock = some g → B' ≤ g) : Own T e B' σ w v xs := by
  obtain ⟨cs, ho, rest⟩ := h
  refine ⟨cs, ⟨ho.1, ho.2.imp id ?_⟩, rest⟩
  rintro ⟨g, cap, cur, rfl, hbg, hg, rest⟩
  exact ⟨g, cap, cur, rfl, hB g rfl, hg, rest⟩

theorem Own.le {B' : Nat} (h : Own T e B σ w v xs) (hB : B' ≤ B) : Own T e B' σ w v xs := h.base fun g hg => Nat.le_trans hB (h.ge hg)
end

/-- A slice that was built with its elements. -/
theorem Own.built {α : Type} (T : Ty α) (e : TypeId) (σ : Nat → Nat) (w : World) (xs : List α) (cs : List Value) (hr : Reps (T.rep σ w) xs cs) (hb : xs.length * T.by_ ≤ big) (hm : xs.length ≤ maxLen) :
    Own T e w.heap.size (upd σ w.heap.size (xs.length * T.sz)) (w.alloc (.cells cs.toArray e)) (.slice (some ⟨w.heap.size, 0, none⟩) xs.length xs.length) xs := by
  have hl := Reps.length (fun x c hx => T.len hx) hr
  refine ⟨cs, ⟨hl, .inr ⟨w.heap.size, xs.length, cs.toArray, rfl, Nat.le_refl _, heap_alloc_new w _, Nat.le_refl _, hm, by simp [hl], ?_⟩⟩, Reps.mono (fun x c hx => T.step (Stp.alloc σ w _ _) hx) _ _ hr, hb, ?_⟩
  · rw [← hl]; simp
  · intro g hg
    simp only [Value.ownBlock, Option.some.injEq] at hg
    subst hg
    rw [upd_same]

/-! ### 6. A variable of one's own in memory -/
structure Bx (σ : Nat → Nat) (w : World) (b : Nat) (cs : List Value) (e : TypeId) : Prop where
  h : w.heap[b]? = some (.cells cs.toArray e (0, 0))
  z : σ b = 0

section
variable {M : Nat → Prop} {σ σ1 : Nat → Nat} {w w1 : World} {b : Nat} {cs : List Value} {e : TypeId}
theorem Bx.lt (h : Bx σ w b cs e) : b < w.heap.size := (Array.getElem?_eq_some_iff.1 h.h).1
theorem Bx.step (h : Bx σ w b cs e) (s : Stp M σ w σ1 w1) (hM : ¬ M b) : Bx σ1 w1 b cs e :=
  ⟨(s.block b h.lt hM).trans h.h, (s.wm b h.lt hM).trans h.z⟩
theorem Bx.step' (h : Bx σ w b cs e) (s : Stp noM σ w σ1 w1) : Bx σ1 w1 b cs e := h.step s id
theorem Bx.new (σ : Nat → Nat) (w : World) (cs : List Value) (e : TypeId) : Bx (upd σ w.heap.size 0) (w.alloc (.cells cs.toArray e)) w.heap.size cs e :=
  ⟨heap_alloc_new w _, upd_same _ _ _⟩
theorem Bx.cell (h : Bx σ w b cs e) (j : Nat) : w.cell? ⟨b, j, none⟩ = cs[j]? := by
  simp [World.cell?, h.h]
theorem Bx.free (h : Bx σ w b cs e) (j : Nat) : w.frozen? ⟨b, j, none⟩ = false := by
  simp [World.frozen?, h.h]
/-- Published: from now on it is settled. -/
theorem Bx.publish (h : Bx σ w b cs e) : Stp (· = b) σ w (upd σ b cs.length) w ∧ Seg (upd σ b cs.length) w b 0 cs := by
  refine ⟨Stp.publish σ w b _ (by rw [h.z]; exact Nat.zero_le _), .inr h.lt, fun j v hv => ?_⟩
  have hj : j < cs.length := (List.getElem?_eq_some_iff.1 hv).1
  rw [upd_same, Nat.zero_add, h.cell]
  exact ⟨hj, hv⟩
end
end Go.Proofs.Ytaoamokfbhlaaaa.E
