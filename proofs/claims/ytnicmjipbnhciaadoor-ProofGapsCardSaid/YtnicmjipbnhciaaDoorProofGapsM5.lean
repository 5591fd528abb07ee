/- What the law ProofGaps needs: the engine, the walks of what it reaches, plain laws; part 5. -/
import Derived.Test.YtnicmjipbnhciaaDoorProofGapsM4
import Derived.OpenShut
set_option linter.unnecessarySimpa false
set_option linter.deprecated false
set_option linter.unusedVariables false
set_option linter.unusedSimpArgs false
set_option maxRecDepth 100000
namespace Go.Proofs.YtnicmjipbnhciaaDoor.X
open Go Go.RowKit Go.Proofs Go.Proofs.YtnicmjipbnhciaaDoor.E
namespace Tr
theorem kids {t : Tr} (h : 0 < t.height) : t = node (gt t.lc) (gt t.rc) ∧ t.lc.isNone = false ∧ t.rc.isNone = false := by
  cases t with
  | leaf a b => simp [height] at h
  | node l r => exact ⟨rfl, rfl, rfl⟩
theorem kid_l {t : Tr} (h : 0 < t.height) : t.lc.isNone = false := (kids h).2.1
theorem kid_least {t : Tr} (h : 0 < t.height) : (gt t.lc).least = t.least ∧ (gt t.lc).depth < t.depth := by
  cases t with
  | leaf a b => simp [height] at h
  | node l r => exact ⟨rfl, by show l.depth < l.depth + r.depth + 1; omega⟩
end Tr
noncomputable def ccR2_77 : Code := (Tryd.f77.body).getD .skip
theorem rhash_ok (h : Int) (s : UInt64) (k v l r : List UInt8) (h0 : 0 ≤ h ∧ h < 1000) (hk : k.length ≤ 1000) (hv : v.length ≤ 1000) (hl : l.length = 32) (hr : r.length = 32) :
  FOk EN 77 ⟨[.pr rootsP, .rd 5 (k), .rd 5 (v)], [.a [.n 1, .n 2, .i h, .u s, .h 32 l, .h 32 r]], Unit, fun _ => ([.pr rootsP, .rd 5 (k), .rd 5 (v)], .a [.h 32 (nsum h s k v l r)]), fun _ => True⟩ := by
 refine v_fun Tryd.f77 ccR2_77 MX (fun ν F σ w => ?_) Tryd.func77
 refine v_nl ?_
 refine v_if (decide (h = 0)) True trivial (fun h1 => ?_) (fun h1 => ?_)
 ·have h1 := of_decide_eq_true h1
  refine v_call _ [0, 2] (rsum_ok (v) (by omega)) ((rootsP = rootsP) ∧ (v = v)) ⟨rfl, rfl⟩ (fun g2 p3 => ?_)
  have p3 : True := p3
  refine v_close 6 [] (close_top [] ([SV.h 32 (sum256 v)])) ((sum256 v = sum256 v)) rfl ?_
  refine v_plan (.fs [0, 1, 2, 3, 5, 6, 8] (.o 4 (.o 7 (.o 9 (.o 10 (.o 11 .e)))))) [4] True trivial ?_
  refine v_call _ [0, 10] (rsum_ok ([0, ofI8 ↑k.length] ++ k ++ sum256 v) (by (simp [sum256_len, eightTo_len]; omega))) (((sum256 v).length = 32 ∧ 32 ≤ 1000000) ∧ (2 + k.length ≤ 1000000) ∧ (([0, ofI8 ↑k.length] ++ k).length + (sum256 v).length ≤ 1000000) ∧ (rootsP = rootsP) ∧ ([0, ofI8 ↑k.length] ++ k ++ sum256 v = [0, ofI8 ↑k.length] ++ k ++ sum256 v)) ⟨(by (simp [sum256_len, eightTo_len]; done)), (by omega), (by (simp [sum256_len, eightTo_len]; omega)), rfl, rfl⟩ (fun g4 p5 => ?_)
  have p5 : True := p5
  exact v_ret () [] ((sum256 ([0, ofI8 ↑k.length] ++ k ++ sum256 v) = nsum h s k v l r) ∧ (rootsP = rootsP) ∧ (k = k) ∧ (v = v)) ⟨(by (simp only [nsum]; (repeat first | rw [if_pos (by omega)] | rw [if_neg (by omega)]); done)), rfl, rfl, rfl⟩ trivial
 ·have h1 := of_decide_eq_false h1
  refine v_join [22, 23, 24, 25, 26, 27, 28, 29, 4] [] (fun _ : Unit => ([(4, SV.n 6)], [Ent.ow 5 ([1, ofI8 h] ++ eightTo s 8)])) (fun _ => True) ?_ (fun _ _ => ?_) True trivial
  ·skip
   refine v_plan (.fs [0, 1, 2, 4, 5] (.c 3 (.o 6 (.o 7 (.fs [8] .e))) (.o 6 (.o 3 (.o 7 (.fs [8] .e)))))) [4, 5] True trivial ?_
   refine v_pick True trivial ?_ ?_
   ·skip
    refine v_call _ [] (eight_ok (s)) ((s = s)) rfl (fun g6 p7 => ?_)
    have p7 : True := p7
    exact v_back (()) [8] ((2 + (eightTo s 8).length ≤ 1000000) ∧ ([1, ofI8 h] ++ eightTo s 8 = [1, ofI8 h] ++ eightTo s 8)) ⟨(by (simp [sum256_len, eightTo_len]; done)), rfl⟩ (show True from trivial)
   ·skip
    refine v_call _ [] (eight_ok (s)) ((s = s)) rfl (fun g8 p9 => ?_)
    have p9 : True := p9
    exact v_back (()) [8] ((2 + (eightTo s 8).length ≤ 1000000) ∧ ([1, ofI8 h] ++ eightTo s 8 = [1, ofI8 h] ++ eightTo s 8)) ⟨(by (simp [sum256_len, eightTo_len]; done)), rfl⟩ (show True from trivial)
  ·skip
   refine v_close 4 [1, 2] (close_top [.no, .no] ([SV.n 0, SV.n 1, SV.i h, SV.u s, SV.h 32 l, SV.h 32 r])) ((h = h) ∧ (s = s) ∧ (l = l) ∧ (r = r)) ⟨rfl, rfl, rfl, rfl⟩ ?_
   refine v_plan (.fs [0, 1, 2, 4, 5] (.o 3 (.o 6 (.o 7 (.o 8 .e))))) [] True trivial ?_
   refine v_call _ [0, 10] (rsum_ok ([1, ofI8 h] ++ eightTo s 8 ++ l ++ r) (by (simp [sum256_len, eightTo_len]; omega))) ((l.length = 32 ∧ 32 ≤ 1000000) ∧ (r.length = 32 ∧ 32 ≤ 1000000) ∧ (([1, ofI8 h] ++ eightTo s 8).length + l.length ≤ 1000000) ∧ (([1, ofI8 h] ++ eightTo s 8 ++ l).length + r.length ≤ 1000000) ∧ (rootsP = rootsP) ∧ ([1, ofI8 h] ++ eightTo s 8 ++ l ++ r = [1, ofI8 h] ++ eightTo s 8 ++ l ++ r)) ⟨(by omega), (by omega), (by (simp [sum256_len, eightTo_len]; omega)), (by (simp [sum256_len, eightTo_len]; omega)), rfl, rfl⟩ (fun g10 p11 => ?_)
   have p11 : True := p11
   exact v_ret () [] ((sum256 ([1, ofI8 h] ++ eightTo s 8 ++ l ++ r) = nsum h s k v l r) ∧ (rootsP = rootsP) ∧ (k = k) ∧ (v = v)) ⟨(by (simp only [nsum]; (repeat first | rw [if_pos (by omega)] | rw [if_neg (by omega)]); done)), rfl, rfl, rfl⟩ trivial
def LI (o k : Option Tr) : Prop := k.isNone = false ∧ (gt k).least = (gt o).least
theorem LI.next {o k : Option Tr} (h : LI o k) (hp : 0 < (gt k).height) : LI o (gt k).lc ∧ (gt (gt k).lc).depth < (gt k).depth := ⟨⟨Tr.kid_l hp, by rw [(Tr.kid_least hp).1]; exact h.2⟩, (Tr.kid_least hp).2⟩
end Go.Proofs.YtnicmjipbnhciaaDoor.X
set_option linter.unusedVariables false
set_option linter.unusedSimpArgs false
set_option maxRecDepth 100000
namespace Go.Proofs.YtnicmjipbnhciaaDoor.X
open Go Go.RowKit Go.Proofs Go.Proofs.YtnicmjipbnhciaaDoor.E
def cutR (k : List UInt8) (t : Tr) : Option Tr := (t.cut k).getD none
section
variable {k : List UInt8} {t : Tr}
end
end Go.Proofs.YtnicmjipbnhciaaDoor.X
set_option linter.unusedVariables false
set_option linter.unusedSimpArgs false
set_option maxRecDepth 100000
namespace Go.Proofs.YtnicmjipbnhciaaDoor.X
open Go Go.RowKit Go.Proofs Go.Proofs.YtnicmjipbnhciaaDoor.E
namespace Tr
end Tr
theorem hashO_len (o : Option Tr) : (hashO o).length = 32 := by
  cases o with
  | none => exact sum256_len _
  | some t => exact t.hash_len
end Go.Proofs.YtnicmjipbnhciaaDoor.X
set_option linter.unusedVariables false
set_option linter.unusedSimpArgs false
set_option maxRecDepth 100000
namespace Go.Proofs.YtnicmjipbnhciaaDoor.X
open Go Go.RowKit Go.Proofs Go.Proofs.YtnicmjipbnhciaaDoor.E
def PI (o : Option Tr) (k : List UInt8) (q : List Turn × Option Tr) : Prop := q.2.isNone = false ∧ q.1 ++ (gt q.2).turns k = (gt o).turns k ∧ (gt q.2).fin k = (gt o).fin k ∧ (gt q.2).Ks ∧ (gt q.2).height < 900 ∧ q.1.length + (gt q.2).depth ≤ (gt o).depth
section
variable {o : Option Tr} {k : List UInt8} {q : List Turn × Option Tr}
theorem PI.start (ho : o.isNone = false) (hk : (gt o).Ks) (hh : (gt o).height < 900) : PI o k ([], o) := ⟨ho, rfl, rfl, hk, hh, by simp⟩
theorem PI.step (h : PI o k q) (hp : 0 < (gt q.2).height) : (gt q.2).turns k = (gt q.2).turn k :: (if (gt q.2).rt k = true then (gt (gt q.2).rc).turns k else (gt (gt q.2).lc).turns k) ∧ (gt q.2).fin k = (if (gt q.2).rt k = true then (gt (gt q.2).rc).fin k else (gt (gt q.2).lc).fin k) ∧ (gt (gt q.2).lc).depth < (gt q.2).depth ∧ (gt (gt q.2).rc).depth < (gt q.2).depth := by
  obtain ⟨e, _, _⟩ := Tr.kids hp
  generalize gt (gt q.2).lc = a at *
  generalize gt (gt q.2).rc = b at *
  rw [e]; exact ⟨rfl, rfl, by simp [Tr.depth]; omega, by simp [Tr.depth]; omega⟩
theorem PI.stop (h : PI o k q) (hp : ¬ 0 < (gt q.2).height) : (gt q.2).key = ((gt o).fin k).key ∧ (gt q.2).value = ((gt o).fin k).value ∧ q.1 = (gt o).turns k := by
  obtain ⟨a1, a2, a3, a4, a5, a6⟩ := h
  have := (gt q.2).height_nn
  obtain ⟨a, b, e⟩ := Tr.leaf_of (s := gt q.2) (by omega)
  rw [e] at a2 a3 ⊢
  simp only [Tr.turns, Tr.fin, List.append_nil] at a2 a3
  rw [← a3]; exact ⟨rfl, rfl, a2⟩
end
def findG (k : List UInt8) : List Pair → Nat → Int
  | [], _ => -1
  | x :: xs, i => if x.key = k then i else findG k xs (i + 1)
def findP (l : List Pair) (k : List UInt8) : Int := findG k l 0
def FI (l : List Pair) (k : List UInt8) (i : Nat) : Prop := findG k (l.drop i) i = findP l k ∧ i ≤ l.length
abbrev dP : Pair := ⟨[], []⟩
theorem FI.hit {l : List Pair} {k : List UInt8} {i : Nat} (h : FI l k i) (hi : (i : Int) < l.length) (he : (l.getD i dP).key = k) : (i : Int) = findP l k := by
  have h := h.1; rw [drop_cons (d := dP) hi, findG, if_pos he] at h; exact h
theorem FI.next {l : List Pair} {k : List UInt8} {i : Nat} (h : FI l k i) (hi : (i : Int) < l.length) (he : ¬ (l.getD i dP).key = k) : FI l k (i + 1) ∧ l.length - (i + 1) < l.length - i := by
  obtain ⟨h, h2⟩ := h; rw [drop_cons (d := dP) hi, findG, if_neg he] at h; exact ⟨⟨h, by omega⟩, by omega⟩
theorem FI.stop {l : List Pair} {k : List UInt8} {i : Nat} (h : FI l k i) (hi : ¬ (i : Int) < l.length) : -1 = findP l k := by
  have h := h.1; rw [List.drop_of_length_le (by omega), findG] at h; exact h
def SI (a b : Proof) (i : Nat) : Prop := (a.turns.drop i = b.turns.drop i ↔ a = b) ∧ i ≤ a.turns.length ∧ a.turns.length = b.turns.length
section
variable {a b : Proof} {i : Nat}
theorem SI.start (h1 : ¬ a.key ≠ b.key) (h2 : ¬ a.value ≠ b.value) (h3 : ¬ (a.turns.length : Int) ≠ b.turns.length) : SI a b 0 := by
  refine ⟨⟨fun h => ?_, fun h => by rw [h]⟩, Nat.zero_le _, by omega⟩
  cases a; cases b; simp only [Decidable.not_not] at *; subst h1; subst h2; simp only [List.drop_zero] at h; rw [h]
theorem SI.ne (h : SI a b i) (hi : (i : Int) < a.turns.length) (hn : teq (a.turns.getD i dT) (b.turns.getD i dT) = false) : false = decide (a = b) := by
  refine (decide_eq_false (fun e => ?_)).symm
  subst e
  have := teq_iff.2 (rfl : a.turns.getD i dT = a.turns.getD i dT); rw [this] at hn; cases hn
theorem SI.next (h : SI a b i) (hi : (i : Int) < a.turns.length) (hn : teq (a.turns.getD i dT) (b.turns.getD i dT) = true) : SI a b (i + 1) ∧ a.turns.length - (i + 1) < a.turns.length - i := by
  obtain ⟨h1, h2, h3⟩ := h
  refine ⟨⟨?_, by omega, h3⟩, by omega⟩
  rw [← h1, drop_cons (d := dT) hi, drop_cons (l := b.turns) (i := i) (d := dT) (by omega), teq_iff.1 hn]; simp
theorem SI.stop (h : SI a b i) (hi : ¬ (i : Int) < a.turns.length) : true = decide (a = b) := by
  refine (decide_eq_true (h.1.1 ?_)).symm
  obtain ⟨h1, h2, h3⟩ := h
  rw [List.drop_of_length_le (by omega), List.drop_of_length_le (by omega)]
end
end Go.Proofs.YtnicmjipbnhciaaDoor.X
set_option linter.unusedVariables false
set_option linter.unusedSimpArgs false
set_option maxRecDepth 100000
namespace Go.Proofs.YtnicmjipbnhciaaDoor.X
open Go Go.RowKit Go.Proofs Go.Proofs.YtnicmjipbnhciaaDoor.E
def ben (l : List Turn) (i : Nat) : Int := if (i : Int) < l.length then (l.getD i dT).height else 0
def bad (l : List Turn) (i : Nat) : Prop := (l.getD i dT).height ≤ ben l (i + 1) ∨ 64 < (l.getD i dT).height
def hashN (p : Proof) : List UInt8 := p.turns.foldr stepH (nsum 0 1 p.key p.value z32 z32)
open Classical in
noncomputable def verC (want : List UInt8) (p : Proof) : Int :=
  if 64 < p.turns.length then 3
  else if p.key.length < 1 ∨ 96 < p.key.length ∨ 256 < p.value.length then 10
  else if ∃ i, i < p.turns.length ∧ bad p.turns i then 12
  else if hashN p = want then 0 else 21
section
variable {p : Proof} {want : List UInt8} {i : Nat} {x : List UInt8}
theorem vc1 (h : 64 < (p.turns.length : Int)) : 3 = verC want p := by unfold verC; rw [if_pos (by omega)]
theorem vc2 (h : ¬ 64 < (p.turns.length : Int)) (h2 : (p.key.length : Int) < 1 ∨ 96 < (p.key.length : Int) ∨ 256 < (p.value.length : Int)) : 10 = verC want p := by unfold verC; rw [if_neg (by omega), if_pos (by omega)]
theorem vc3 (h : ¬ 64 < (p.turns.length : Int)) (h2 : ¬ ((p.key.length : Int) < 1 ∨ 96 < (p.key.length : Int) ∨ 256 < (p.value.length : Int))) (h3 : ∃ i, i < p.turns.length ∧ bad p.turns i) : 12 = verC want p := by unfold verC; rw [if_neg (by omega), if_neg (by omega), if_pos h3]
theorem vc4 (h : ¬ 64 < (p.turns.length : Int)) (h2 : ¬ ((p.key.length : Int) < 1 ∨ 96 < (p.key.length : Int) ∨ 256 < (p.value.length : Int))) (h3 : ∀ i, i < p.turns.length → ¬ bad p.turns i) (h4 : hashN p = want) : 0 = verC want p := by
  unfold verC; rw [if_neg (by omega), if_neg (by omega), if_neg (fun ⟨i, a, b⟩ => h3 i a b), if_pos h4]
theorem vc5 (h : ¬ 64 < (p.turns.length : Int)) (h2 : ¬ ((p.key.length : Int) < 1 ∨ 96 < (p.key.length : Int) ∨ 256 < (p.value.length : Int))) (h3 : ∀ i, i < p.turns.length → ¬ bad p.turns i) (h4 : ¬ hashN p = want) : 21 = verC want p := by
  unfold verC; rw [if_neg (by omega), if_neg (by omega), if_neg (fun ⟨i, a, b⟩ => h3 i a b), if_neg h4]
/-- no fault so far -/
def GI (l : List Turn) (i : Nat) : Prop := (∀ j, j < i → ¬ bad l j) ∧ i ≤ l.length
theorem GI.bad1 {l : List Turn} (hi : (i : Int) < l.length) (hn : (i : Int) + 1 < l.length) (h : (l.getD i dT).height ≤ (l.getD ((i : Int) + 1).toNat dT).height ∨ 64 < (l.getD i dT).height) : ∃ i, i < l.length ∧ bad l i := by
  refine ⟨i, by omega, ?_⟩; unfold bad ben; rw [if_pos (by omega)]; rwa [show ((i : Int) + 1).toNat = i + 1 by omega] at h
theorem GI.bad2 {l : List Turn} (hi : (i : Int) < l.length) (hn : ¬ (i : Int) + 1 < l.length) (h : (l.getD i dT).height ≤ 0 ∨ 64 < (l.getD i dT).height) : ∃ i, i < l.length ∧ bad l i := by
  refine ⟨i, by omega, ?_⟩; unfold bad ben; rw [if_neg (by omega)]; exact h
theorem GI.next1 {l : List Turn} (h0 : GI l i) (hi : (i : Int) < l.length) (hn : (i : Int) + 1 < l.length) (h : ¬ (l.getD i dT).height ≤ (l.getD ((i : Int) + 1).toNat dT).height) (h2 : ¬ 64 < (l.getD i dT).height) : GI l (i + 1) ∧ l.length - (i + 1) < l.length - i := by
  refine ⟨⟨fun j hj => ?_, by omega⟩, by omega⟩
  rcases Nat.lt_or_ge j i with q | q
  · exact h0.1 j q
  · have : j = i := by omega
    subst this; unfold bad ben; rw [if_pos (by omega)]; rw [show ((j : Int) + 1).toNat = j + 1 by omega] at h; omega
theorem GI.next2 {l : List Turn} (h0 : GI l i) (hi : (i : Int) < l.length) (hn : ¬ (i : Int) + 1 < l.length) (h : ¬ (l.getD i dT).height ≤ 0) (h2 : ¬ 64 < (l.getD i dT).height) : GI l (i + 1) ∧ l.length - (i + 1) < l.length - i := by
  refine ⟨⟨fun j hj => ?_, by omega⟩, by omega⟩
  rcases Nat.lt_or_ge j i with q | q
  · exact h0.1 j q
  · have : j = i := by omega
    subst this; unfold bad ben; rw [if_neg (by omega)]; omega
theorem GI.start {l : List Turn} : GI l 0 := ⟨fun j hj => by omega, Nat.zero_le _⟩
theorem GI.all {l : List Turn} (h : GI l i) (hi : ¬ (i : Int) < l.length) : ∀ j, j < l.length → ¬ bad l j := fun j hj => h.1 j (by have := h.2; omega)
theorem ben_nn {l : List Turn} (h : ∀ j, j < l.length → ¬ bad l j) : ∀ n i : Nat, n = l.length - i → 0 ≤ ben l i
  | 0, i, hn => by unfold ben; rw [if_neg (by omega)]; exact Int.le_refl _
  | n + 1, i, hn => by
    have h1 := ben_nn h n (i + 1) (by omega)
    have h2 := h i (by omega)
    unfold bad at h2
    unfold ben; rw [if_pos (by omega)]; omega
theorem good_h {l : List Turn} (h : ∀ j, j < l.length → ¬ bad l j) {j : Nat} (hj : j < l.length) : 0 ≤ (l.getD j dT).height ∧ (l.getD j dT).height ≤ 64 := by
  have h1 := ben_nn h _ (j + 1) rfl
  have h2 := h j hj
  unfold bad at h2; omega
/-- the sums so far, from the end -/
def HI (p : Proof) (q : Nat × List UInt8) : Prop := q.2 = (p.turns.drop q.1).foldr stepH (nsum 0 1 p.key p.value z32 z32) ∧ q.1 ≤ p.turns.length ∧ q.2.length = 32
theorem HI.start : HI p (p.turns.length, nsum 0 1 p.key p.value z32 z32) := ⟨by simp, Nat.le_refl _, show (nsum 0 1 p.key p.value z32 z32).length = 32 from Tr.nsum_len _ _ _ _ _ _⟩
theorem HI.next {n : Nat} (h : HI p (n, x)) (h0 : 0 ≤ (n : Int) - 1) : HI p (n - 1, stepH (tAt p n) x) ∧ n - 1 < n := by
  obtain ⟨m, rfl, e⟩ := RI.succ (p := p) h0
  obtain ⟨h1, h2, h3⟩ := h
  refine ⟨⟨?_, by omega, show (stepH _ _).length = 32 by unfold stepH; split <;> exact Tr.nsum_len _ _ _ _ _ _⟩, by omega⟩
  have h1 : x = (p.turns.drop (m + 1)).foldr stepH (nsum 0 1 p.key p.value z32 z32) := h1
  show stepH _ x = ((p.turns.drop m)).foldr stepH _
  rw [e, drop_cons (l := p.turns) (i := m) (d := dT) (by omega), List.foldr_cons, h1]
theorem HI.nextT {n : Nat} (h : HI p (n, x)) (h0 : 0 ≤ (n : Int) - 1) (hr : (tAt p n).right = true) : HI p (n - 1, nsum (tAt p n).height (tAt p n).size [] [] (tAt p n).other.l x) ∧ n - 1 < n := by
  have := h.next h0; unfold stepH at this; rwa [if_pos hr] at this
theorem HI.nextF {n : Nat} (h : HI p (n, x)) (h0 : 0 ≤ (n : Int) - 1) (hr : (tAt p n).right = false) : HI p (n - 1, nsum (tAt p n).height (tAt p n).size [] [] x (tAt p n).other.l) ∧ n - 1 < n := by
  have := h.next h0; unfold stepH at this; rwa [if_neg (by rw [hr]; simp)] at this
theorem HI.stop {n : Nat} (h : HI p (n, x)) (h0 : ¬ 0 ≤ (n : Int) - 1) : hashN p = x := by
  have : n = 0 := by omega
  subst this; exact h.1.symm
end
noncomputable def ccR8_30 : Code := (Tryd.f30.body).getD .skip
theorem Verify5_aux (want : List UInt8) (p : Proof) (hw : want.length = 32) : FOk EN 30 ⟨[.pr rootsP, .rd 5 (p.key), .rd 5 (p.value), .rd 121 p.turns], [.a [.h 32 want], .a [.n 1, .n 2, .n 3]], Unit, fun _ => ([.pr rootsP, .rd 5 (p.key), .rd 5 (p.value), .rd 121 p.turns], .i (verC want p)), fun _ => True⟩ := by
 refine v_fun Tryd.f30 ccR8_30 MX (fun ν F σ w => ?_) Tryd.func30
 refine v_nl ?_
 refine v_if (decide (64 < (↑p.turns.length : Int))) True trivial (fun h1 => ?_) (fun h1 => ?_)
 ·have h1 := of_decide_eq_true h1
  exact v_ret () [] ((3 = verC want p) ∧ (rootsP = rootsP) ∧ (p.key = p.key) ∧ (p.value = p.value) ∧ (p.turns = p.turns)) ⟨(by exact vc1 (by assumption)), rfl, rfl, rfl, rfl⟩ trivial
 ·have h1 := of_decide_eq_false h1
  refine v_guard 19 (decide ((↑p.key.length : Int) < 1)) True trivial (fun h2 => ?_) (fun h2 => ?_)
  ·have h2 := of_decide_eq_true h2
   exact v_ret () [] ((10 = verC want p) ∧ (rootsP = rootsP) ∧ (p.key = p.key) ∧ (p.value = p.value) ∧ (p.turns = p.turns)) ⟨(by exact vc2 (by assumption) (by omega)), rfl, rfl, rfl, rfl⟩ trivial
  ·have h2 := of_decide_eq_false h2
   refine v_guard 25 (decide (96 < (↑p.key.length : Int))) True trivial (fun h3 => ?_) (fun h3 => ?_)
   ·have h3 := of_decide_eq_true h3
    exact v_ret () [] ((10 = verC want p) ∧ (rootsP = rootsP) ∧ (p.key = p.key) ∧ (p.value = p.value) ∧ (p.turns = p.turns)) ⟨(by exact vc2 (by assumption) (by omega)), rfl, rfl, rfl, rfl⟩ trivial
   ·have h3 := of_decide_eq_false h3
    refine v_if (decide (256 < (↑p.value.length : Int))) True trivial (fun h4 => ?_) (fun h4 => ?_)
    ·have h4 := of_decide_eq_true h4
     exact v_ret () [] ((10 = verC want p) ∧ (rootsP = rootsP) ∧ (p.key = p.key) ∧ (p.value = p.value) ∧ (p.turns = p.turns)) ⟨(by exact vc2 (by assumption) (by omega)), rfl, rfl, rfl, rfl⟩ trivial
    ·have h4 := of_decide_eq_false h4
     refine v_loop (fun i : Nat => ([(5, .i i)], [])) (fun i => GI p.turns i) (fun i => p.turns.length - i) 0 [] (((0 : Int) = (↑(0 : Nat) : Int))) rfl (by exact GI.start) (fun i hk5 => ?_)
     have i1 := (‹GI p.turns i›).2
     refine v_if (decide ((↑i : Int) < (↑p.turns.length : Int))) True trivial (fun h6 => ?_) (fun h6 => ?_)
     ·have h6 := of_decide_eq_true h6
      refine v_if (decide ((↑i : Int) + 1 < (↑p.turns.length : Int))) ((I64 (↑i + 1))) (by (unfold I64; omega)) (fun h7 => ?_) (fun h7 => ?_)
      ·have h7 := of_decide_eq_true h7
       refine v_guard 59 (decide ((p.turns.getD (↑i : Int).toNat (Turn.mk 0 0 false zero32)).height ≤ (p.turns.getD ((↑i : Int) + 1).toNat (Turn.mk 0 0 false zero32)).height)) ((I64 (↑i + 1)) ∧ (0 ≤ (↑i : Int) + 1 ∧ (↑i : Int) + 1 < (↑p.turns.length : Int)) ∧ (0 ≤ (↑i : Int) ∧ (↑i : Int) < (↑p.turns.length : Int))) ⟨(by (unfold I64; omega)), (by omega), (by omega)⟩ (fun h8 => ?_) (fun h8 => ?_)
       ·have h8 := of_decide_eq_true h8
        refine v_leave .rt True trivial ?_
        exact v_ret () [] ((12 = verC want p) ∧ (rootsP = rootsP) ∧ (p.key = p.key) ∧ (p.value = p.value) ∧ (p.turns = p.turns)) ⟨(by exact vc3 (by assumption) (by omega) (GI.bad1 (i := i) (by assumption) (by assumption) (by first | exact Or.inl (by assumption) | exact Or.inr (by assumption)))), rfl, rfl, rfl, rfl⟩ trivial
       ·have h8 := of_decide_eq_false h8
        refine v_if (decide (64 < (p.turns.getD (↑i : Int).toNat (Turn.mk 0 0 false zero32)).height)) ((0 ≤ (↑i : Int) ∧ (↑i : Int) < (↑p.turns.length : Int))) (by omega) (fun h9 => ?_) (fun h9 => ?_)
        ·have h9 := of_decide_eq_true h9
         refine v_leave .rt True trivial ?_
         exact v_ret () [] ((12 = verC want p) ∧ (rootsP = rootsP) ∧ (p.key = p.key) ∧ (p.value = p.value) ∧ (p.turns = p.turns)) ⟨(by exact vc3 (by assumption) (by omega) (GI.bad1 (i := i) (by assumption) (by assumption) (by first | exact Or.inl (by assumption) | exact Or.inr (by assumption)))), rfl, rfl, rfl, rfl⟩ trivial
        ·have h9 := of_decide_eq_false h9
         exact v_back (i + 1) [] ((I64 (↑i + 1)) ∧ ((↑i : Int) + 1 = (↑(i + 1) : Int))) ⟨(by (unfold I64; omega)), rfl⟩ (show GI p.turns (i + 1) ∧ p.turns.length - (i + 1) < p.turns.length - i from (by exact GI.next1 (i := i) (by assumption) (by assumption) (by assumption) (by assumption) (by assumption)))
      ·have h7 := of_decide_eq_false h7
       refine v_guard 59 (decide ((p.turns.getD (↑i : Int).toNat (Turn.mk 0 0 false zero32)).height ≤ 0)) ((0 ≤ (↑i : Int) ∧ (↑i : Int) < (↑p.turns.length : Int))) (by omega) (fun h10 => ?_) (fun h10 => ?_)
       ·have h10 := of_decide_eq_true h10
        refine v_leave .rt True trivial ?_
        exact v_ret () [] ((12 = verC want p) ∧ (rootsP = rootsP) ∧ (p.key = p.key) ∧ (p.value = p.value) ∧ (p.turns = p.turns)) ⟨(by exact vc3 (by assumption) (by omega) (GI.bad2 (i := i) (by assumption) (by assumption) (by first | exact Or.inl (by assumption) | exact Or.inr (by assumption)))), rfl, rfl, rfl, rfl⟩ trivial
       ·have h10 := of_decide_eq_false h10
        refine v_if (decide (64 < (p.turns.getD (↑i : Int).toNat (Turn.mk 0 0 false zero32)).height)) ((0 ≤ (↑i : Int) ∧ (↑i : Int) < (↑p.turns.length : Int))) (by omega) (fun h11 => ?_) (fun h11 => ?_)
        ·have h11 := of_decide_eq_true h11
         refine v_leave .rt True trivial ?_
         exact v_ret () [] ((12 = verC want p) ∧ (rootsP = rootsP) ∧ (p.key = p.key) ∧ (p.value = p.value) ∧ (p.turns = p.turns)) ⟨(by exact vc3 (by assumption) (by omega) (GI.bad2 (i := i) (by assumption) (by assumption) (by first | exact Or.inl (by assumption) | exact Or.inr (by assumption)))), rfl, rfl, rfl, rfl⟩ trivial
        ·have h11 := of_decide_eq_false h11
         exact v_back (i + 1) [] ((I64 (↑i + 1)) ∧ ((↑i : Int) + 1 = (↑(i + 1) : Int))) ⟨(by (unfold I64; omega)), rfl⟩ (show GI p.turns (i + 1) ∧ p.turns.length - (i + 1) < p.turns.length - i from (by exact GI.next2 (i := i) (by assumption) (by assumption) (by assumption) (by assumption) (by assumption)))
     ·have h6 := of_decide_eq_false h6
      refine v_leave (.ex 0) True trivial ?_
      refine v_call _ [0, 1, 2] (rhash_ok (0) (1) (p.key) (p.value) (List.replicate 32 0) (List.replicate 32 0) (by decide) (by omega) (by omega) rfl rfl) (((0 : Int) = (0 : Int)) ∧ ((1 : UInt64) = (1 : UInt64)) ∧ (List.replicate (32 : Nat) (0 : UInt8) = List.replicate (32 : Nat) (0 : UInt8)) ∧ (List.replicate (32 : Nat) (0 : UInt8) = List.replicate (32 : Nat) (0 : UInt8)) ∧ (rootsP = rootsP) ∧ (p.key = p.key) ∧ (p.value = p.value)) ⟨rfl, rfl, rfl, rfl, rfl, rfl, rfl⟩ (fun g12 p13 => ?_)
      have p13 : True := p13
      refine v_loop (fun q : Nat × List UInt8 => ([(8, .i (q.1 - 1)), (7, .p 8 0)], [.bx 52 [.h 32 q.2]])) (fun q => HI p q) (fun q => q.1) (p.turns.length, nsum 0 1 p.key p.value z32 z32) [7] ((I64 (↑p.turns.length - 1)) ∧ ((↑p.turns.length : Int) - 1 = (↑p.turns.length : Int) - 1) ∧ (nsum 0 1 p.key p.value (List.replicate 32 0) (List.replicate 32 0) = nsum 0 1 p.key p.value z32 z32)) ⟨(by (unfold I64; omega)), rfl, rfl⟩ (by exact HI.start) (fun q hk14 => ?_)
      have j1 := (‹HI p q›).2
      refine v_if (decide (0 ≤ (↑q.fst : Int) - 1)) True trivial (fun h15 => ?_) (fun h15 => ?_)
      ·have h15 := of_decide_eq_true h15
       refine v_if ((p.turns.getD ((↑q.fst : Int) - 1).toNat (Turn.mk 0 0 false zero32)).right) ((0 ≤ (↑q.fst : Int) - 1 ∧ (↑q.fst : Int) - 1 < (↑p.turns.length : Int))) (by omega) (fun h16 => ?_) (fun h16 => ?_)
       ·skip
        refine v_call _ [0, 4, 4] (rhash_ok ((p.turns.getD ((↑q.fst : Int) - 1).toNat (Turn.mk 0 0 false zero32)).height) ((p.turns.getD ((↑q.fst : Int) - 1).toNat (Turn.mk 0 0 false zero32)).size) ([]) ([]) ((p.turns.getD ((↑q.fst : Int) - 1).toNat (Turn.mk 0 0 false zero32)).other.l) (q.snd) (by (have h7 := good_h (GI.all (i := i) (by assumption) (by assumption)) (j := ((q.1 : Int) - 1).toNat) (by have := j1.1; omega); exact ⟨h7.1, Int.lt_of_le_of_lt h7.2 (by decide)⟩)) (by decide) (by decide) (by exact Sum32.h _) (by omega)) (((p.turns.getD ((↑q.fst : Int) - 1).toNat (Turn.mk 0 0 false zero32)).height = (p.turns.getD ((↑q.fst : Int) - 1).toNat (Turn.mk 0 0 false zero32)).height) ∧ ((p.turns.getD ((↑q.fst : Int) - 1).toNat (Turn.mk 0 0 false zero32)).size = (p.turns.getD ((↑q.fst : Int) - 1).toNat (Turn.mk 0 0 false zero32)).size) ∧ ((p.turns.getD ((↑q.fst : Int) - 1).toNat (Turn.mk 0 0 false zero32)).other.l = (p.turns.getD ((↑q.fst : Int) - 1).toNat (Turn.mk 0 0 false zero32)).other.l) ∧ (q.snd = q.snd) ∧ (rootsP = rootsP) ∧ (Eq (α := List UInt8) [] []) ∧ (Eq (α := List UInt8) [] [])) ⟨rfl, rfl, rfl, rfl, rfl, rfl, rfl⟩ (fun g17 p18 => ?_)
        have p18 : True := p18
        exact v_back ((q.fst - 1, nsum (p.turns.getD ((↑q.fst : Int) - 1).toNat (Turn.mk 0 0 false zero32)).height (p.turns.getD ((↑q.fst : Int) - 1).toNat (Turn.mk 0 0 false zero32)).size [] [] (p.turns.getD ((↑q.fst : Int) - 1).toNat (Turn.mk 0 0 false zero32)).other.l q.snd)) [8] ((I64 (↑q.fst - 1 - 1)) ∧ ((↑q.fst : Int) - 1 - 1 = (↑(q.fst - 1) : Int) - 1) ∧ (nsum (p.turns.getD ((↑q.fst : Int) - 1).toNat (Turn.mk 0 0 false zero32)).height (p.turns.getD ((↑q.fst : Int) - 1).toNat (Turn.mk 0 0 false zero32)).size [] [] (p.turns.getD ((↑q.fst : Int) - 1).toNat (Turn.mk 0 0 false zero32)).other.l q.snd = nsum (p.turns.getD ((↑q.fst : Int) - 1).toNat (Turn.mk 0 0 false zero32)).height (p.turns.getD ((↑q.fst : Int) - 1).toNat (Turn.mk 0 0 false zero32)).size [] [] (p.turns.getD ((↑q.fst : Int) - 1).toNat (Turn.mk 0 0 false zero32)).other.l q.snd)) ⟨(by (unfold I64; omega)), (by omega), rfl⟩ (show HI p (q.fst - 1, nsum (p.turns.getD ((↑q.fst : Int) - 1).toNat (Turn.mk 0 0 false zero32)).height (p.turns.getD ((↑q.fst : Int) - 1).toNat (Turn.mk 0 0 false zero32)).size [] [] (p.turns.getD ((↑q.fst : Int) - 1).toNat (Turn.mk 0 0 false zero32)).other.l q.snd) ∧ q.fst - 1 < q.fst from (by exact HI.nextT (by assumption) (by omega) (by assumption)))
       ·skip
        refine v_call _ [0, 4, 4] (rhash_ok ((p.turns.getD ((↑q.fst : Int) - 1).toNat (Turn.mk 0 0 false zero32)).height) ((p.turns.getD ((↑q.fst : Int) - 1).toNat (Turn.mk 0 0 false zero32)).size) ([]) ([]) (q.snd) ((p.turns.getD ((↑q.fst : Int) - 1).toNat (Turn.mk 0 0 false zero32)).other.l) (by (have h7 := good_h (GI.all (i := i) (by assumption) (by assumption)) (j := ((q.1 : Int) - 1).toNat) (by have := j1.1; omega); exact ⟨h7.1, Int.lt_of_le_of_lt h7.2 (by decide)⟩)) (by decide) (by decide) (by omega) (by exact Sum32.h _)) (((p.turns.getD ((↑q.fst : Int) - 1).toNat (Turn.mk 0 0 false zero32)).height = (p.turns.getD ((↑q.fst : Int) - 1).toNat (Turn.mk 0 0 false zero32)).height) ∧ ((p.turns.getD ((↑q.fst : Int) - 1).toNat (Turn.mk 0 0 false zero32)).size = (p.turns.getD ((↑q.fst : Int) - 1).toNat (Turn.mk 0 0 false zero32)).size) ∧ (q.snd = q.snd) ∧ ((p.turns.getD ((↑q.fst : Int) - 1).toNat (Turn.mk 0 0 false zero32)).other.l = (p.turns.getD ((↑q.fst : Int) - 1).toNat (Turn.mk 0 0 false zero32)).other.l) ∧ (rootsP = rootsP) ∧ (Eq (α := List UInt8) [] []) ∧ (Eq (α := List UInt8) [] [])) ⟨rfl, rfl, rfl, rfl, rfl, rfl, rfl⟩ (fun g19 p20 => ?_)
        have p20 : True := p20
        exact v_back ((q.fst - 1, nsum (p.turns.getD ((↑q.fst : Int) - 1).toNat (Turn.mk 0 0 false zero32)).height (p.turns.getD ((↑q.fst : Int) - 1).toNat (Turn.mk 0 0 false zero32)).size [] [] q.snd (p.turns.getD ((↑q.fst : Int) - 1).toNat (Turn.mk 0 0 false zero32)).other.l)) [8] ((I64 (↑q.fst - 1 - 1)) ∧ ((↑q.fst : Int) - 1 - 1 = (↑(q.fst - 1) : Int) - 1) ∧ (nsum (p.turns.getD ((↑q.fst : Int) - 1).toNat (Turn.mk 0 0 false zero32)).height (p.turns.getD ((↑q.fst : Int) - 1).toNat (Turn.mk 0 0 false zero32)).size [] [] q.snd (p.turns.getD ((↑q.fst : Int) - 1).toNat (Turn.mk 0 0 false zero32)).other.l = nsum (p.turns.getD ((↑q.fst : Int) - 1).toNat (Turn.mk 0 0 false zero32)).height (p.turns.getD ((↑q.fst : Int) - 1).toNat (Turn.mk 0 0 false zero32)).size [] [] q.snd (p.turns.getD ((↑q.fst : Int) - 1).toNat (Turn.mk 0 0 false zero32)).other.l)) ⟨(by (unfold I64; omega)), (by omega), rfl⟩ (show HI p (q.fst - 1, nsum (p.turns.getD ((↑q.fst : Int) - 1).toNat (Turn.mk 0 0 false zero32)).height (p.turns.getD ((↑q.fst : Int) - 1).toNat (Turn.mk 0 0 false zero32)).size [] [] q.snd (p.turns.getD ((↑q.fst : Int) - 1).toNat (Turn.mk 0 0 false zero32)).other.l) ∧ q.fst - 1 < q.fst from (by exact HI.nextF (by assumption) (by omega) (by assumption)))
      ·have h15 := of_decide_eq_false h15
       refine v_leave (.ex 2) True trivial ?_
       refine v_if (!decide (q.snd = want)) ((EN.P.eqGuardType EN.P.depth (52 : Nat) = false) ∧ (q.snd.length = 32) ∧ (want.length = 32)) ⟨rfl, (by omega), (by assumption)⟩ (fun h21 => ?_) (fun h21 => ?_)
       ·have h21 := of_decide_eq_false (nt h21)
        exact v_ret () [] ((21 = verC want p) ∧ (rootsP = rootsP) ∧ (p.key = p.key) ∧ (p.value = p.value) ∧ (p.turns = p.turns)) ⟨(by exact vc5 (by assumption) (by omega) (GI.all (i := i) (by assumption) (by assumption)) (by rw [HI.stop (by assumption) (by omega)]; assumption)), rfl, rfl, rfl, rfl⟩ trivial
       ·have h21 := of_decide_eq_true (nf h21)
        exact v_ret () [] ((0 = verC want p) ∧ (rootsP = rootsP) ∧ (p.key = p.key) ∧ (p.value = p.value) ∧ (p.turns = p.turns)) ⟨(by exact vc4 (by assumption) (by omega) (GI.all (i := i) (by assumption) (by assumption)) ((HI.stop (by assumption) (by omega)).trans (by assumption))), rfl, rfl, rfl, rfl⟩ trivial
end Go.Proofs.YtnicmjipbnhciaaDoor.X
set_option linter.unusedVariables false
set_option linter.unusedSimpArgs false
set_option maxRecDepth 100000
namespace Go.Proofs.YtnicmjipbnhciaaDoor.X
open Go Go.RowKit Go.Proofs Go.Proofs.YtnicmjipbnhciaaDoor.E
theorem rootN_ok (l : List Turn) (hl : ∀ j, j < l.length → ¬ bad l j) : ∀ (n : Nat) (x : List UInt8), n ≤ l.length → rootN l n (ben l n) x = ((l.take n).foldr stepH x, none)
  | 0, x, _ => by simp [rootN]
  | n + 1, x, hn => by
    have h1 := hl n (by omega)
    unfold bad at h1
    rw [rootN, if_neg (by omega)]
    have e : (l.getD n dT).height = ben l n := by unfold ben; rw [if_pos (by omega)]
    rw [e, rootN_ok l hl n _ (by omega), List.take_succ, List.foldr_append]
    have : l[n]?.toList = [l.getD n dT] := by
      have hlt : n < l.length := by omega
      simp [List.getD_eq_getElem?_getD, hlt]
    rw [this]; rfl
theorem rootN_bad (l : List Turn) : ∀ (n : Nat) (x : List UInt8), n ≤ l.length → (∃ j, j < n ∧ bad l j) → ∃ i : Int, rootN l n (ben l n) x = (z32, some (.step ((#[116, 117, 114, 110] : Array UInt8).toList) i (.num 12)))
  | 0, x, _, ⟨j, h, _⟩ => by omega
  | n + 1, x, hn, ⟨j, hj, hb⟩ => by
    rw [rootN]
    by_cases c : (l.getD n dT).height ≤ ben l (n + 1) ∨ 64 < (l.getD n dT).height
    · rw [if_pos c]; exact ⟨_, rfl⟩
    · rw [if_neg c]
      have e : (l.getD n dT).height = ben l n := by unfold ben; rw [if_pos (by omega)]
      rw [e]
      refine rootN_bad l n _ (by omega) ⟨j, ?_, hb⟩
      rcases Nat.lt_or_ge j n with q | q
      · exact q
      · have : j = n := by omega
        subst this; exact absurd hb c
theorem ben_end (l : List Turn) : ben l l.length = 0 := by unfold ben; rw [if_neg (by omega)]
theorem verC_eq (want : List UInt8) (p : Proof) : verC want p = codeO (verP want p) := by
  unfold verC verP
  by_cases h1 : 64 < p.turns.length
  · rw [if_pos h1, root_e1 h1, if_neg (by simp)]; rfl
  · rw [if_neg h1]
    by_cases h2 : p.key.length < 1 ∨ 96 < p.key.length ∨ 256 < p.value.length
    · rw [if_pos h2, root_e2 h1 (by omega), if_neg (by simp)]; rfl
    · rw [if_neg h2]
      have e : rootP p = rootN p.turns p.turns.length 0 (nsum 0 1 p.key p.value z32 z32) := by unfold rootP; rw [if_neg h1, if_neg (by omega)]
      by_cases h3 : ∃ i, i < p.turns.length ∧ bad p.turns i
      · rw [if_pos h3]
        obtain ⟨i, e2⟩ := rootN_bad p.turns _ (nsum 0 1 p.key p.value z32 z32) (Nat.le_refl _) h3
        rw [ben_end] at e2
        rw [e, e2, if_neg (by simp)]; rfl
      · rw [if_neg h3]
        have e2 := rootN_ok p.turns (fun j hj hb => h3 ⟨j, hj, hb⟩) _ (nsum 0 1 p.key p.value z32 z32) (Nat.le_refl _)
        rw [ben_end, List.take_length] at e2
        have e3 : rootP p = (hashN p, none) := e.trans e2
        rw [e3]
        by_cases q : hashN p = want
        · simp [q, codeO]
        · simp [q, codeO, Er.code]
theorem verP_dep (want : List UInt8) (p : Proof) : depO (verP want p) ≤ 1 := by
  have hN : ∀ (n : Nat) (a : Int) (x : List UInt8), depO (rootN p.turns n a x).2 ≤ 1 := by
    intro n
    induction n with
    | zero => intro a x; simp [rootN, depO]
    | succ n ih => intro a x; rw [rootN]; split; exact Nat.le_refl _; exact ih _ _
  have hR : depO (rootP p).2 ≤ 1 := by
    unfold rootP; split
    · exact Nat.le_refl _
    · split
      · exact Nat.le_refl _
      · exact hN _ _ _
  unfold verP; split
  · split
    · exact Nat.zero_le _
    · exact Nat.le_refl _
  · exact hR
theorem vgS_dep (want k : List UInt8) (i : Int) (o : Option Proof) : depO (vgS want k i o) ≤ 2 := by
  unfold vgS; split
  · exact Nat.zero_le _
  · split
    · rename_i h
      have := verP_dep want (gp o)
      cases e : verP want (gp o) with
      | none => exact Nat.le_succ _
      | some x => rw [e] at this; show x.dep + 1 ≤ 2; exact Nat.succ_le_succ this
    · split
      · exact Nat.le_succ _
      · exact Nat.zero_le _
theorem vgP_dep (want k : List UInt8) (l r : Option Proof) : depO (vgP want k l r) ≤ 2 := by
  unfold vgP; (repeat' split) <;> first | exact Nat.zero_le _ | exact Nat.le_succ _ | (unfold vgL; split <;> exact vgS_dep _ _ _ _)
theorem rver_ok (want : List UInt8) (p : Proof) (hw : want.length = 32) : FOk EN 30 ⟨[.pr rootsP, .rd 5 (p.key), .rd 5 (p.value), .rd 121 p.turns], [.a [.h 32 want], .a [.n 1, .n 2, .n 3]], Unit, fun _ => ([.pr rootsP, .rd 5 (p.key), .rd 5 (p.value), .rd 121 p.turns], .i (codeO (verP want p))), fun _ => True⟩ := by
  rw [← verC_eq]; exact Verify5_aux want p hw
theorem sid_f {r : Bool} {l : List Turn} {f i : Nat} (hk : sideP r (l.drop i) = sideP r (l.drop f) ∧ f ≤ i ∧ i ≤ l.length) (hi : (i : Int) < l.length) (h : ((l.getD i dT).right != r) = true) : false = sideP r (l.drop f) := by
  rw [← hk.1, side_get hi]; cases hh : (l.getD i dT).right <;> rw [hh] at h <;> cases r <;> first | rfl | simp at h
theorem sid_n {r : Bool} {l : List Turn} {f i : Nat} (hk : sideP r (l.drop i) = sideP r (l.drop f) ∧ f ≤ i ∧ i ≤ l.length) (hi : (i : Int) < l.length) (h : ((l.getD i dT).right != r) = false) : (sideP r (l.drop (i + 1)) = sideP r (l.drop f) ∧ f ≤ i + 1 ∧ i + 1 ≤ l.length) ∧ l.length - (i + 1) < l.length - i := by
  refine ⟨⟨?_, by omega, by omega⟩, by omega⟩
  rw [← hk.1, side_get hi]; cases hh : (l.getD i dT).right <;> rw [hh] at h <;> cases r <;> first | (simp at h; done) | simp
theorem sid_e {r : Bool} {l : List Turn} {f i : Nat} (hk : sideP r (l.drop i) = sideP r (l.drop f) ∧ f ≤ i ∧ i ≤ l.length) (hi : ¬ (i : Int) < l.length) : true = sideP r (l.drop f) := by
  rw [← hk.1, List.drop_of_length_le (by omega)]; rfl
noncomputable def ccR9_79 : Code := (Tryd.f79.body).getD .skip
theorem sided_ok (l : List Turn) (f : Nat) (r : Bool) (hf : f ≤ l.length) (hl : l.length ≤ 1000000) : FOk EN 79 ⟨[.rd 121 l], [.n 0, .i f, .b r], Unit, fun _ => ([.rd 121 l], .b (sideP r (l.drop f))), fun _ => True⟩ := by
 refine v_fun Tryd.f79 ccR9_79 MX (fun ν F σ w => ?_) Tryd.func79
 refine v_nl ?_
 refine v_loop (fun i : Nat => ([(7, .i i)], [])) (fun i => sideP r (l.drop i) = sideP r (l.drop f) ∧ f ≤ i ∧ i ≤ l.length) (fun i => l.length - i) f [] (((↑f : Int) = (↑f : Int))) rfl (by (simp; omega)) (fun i hk1 => ?_)
 refine v_if (decide ((↑i : Int) < (↑l.length : Int))) True trivial (fun h2 => ?_) (fun h2 => ?_)
 ·have h2 := of_decide_eq_true h2
  refine v_if ((l.getD (↑i : Int).toNat (Turn.mk 0 0 false zero32)).right != r) ((0 ≤ (↑i : Int) ∧ (↑i : Int) < (↑l.length : Int))) (by omega) (fun h3 => ?_) (fun h3 => ?_)
  ·skip
   refine v_leave .rt True trivial ?_
   exact v_ret () [] ((false = sideP r (List.drop f l)) ∧ (l = l)) ⟨(by exact sid_f (by assumption) (by assumption) (by assumption)), rfl⟩ trivial
  ·skip
   exact v_back (i + 1) [] ((I64 (↑i + 1)) ∧ ((↑i : Int) + 1 = (↑(i + 1) : Int))) ⟨(by (unfold I64; omega)), rfl⟩ (show (sideP r (List.drop (i + 1) l) = sideP r (List.drop f l) ∧ f ≤ i + 1 ∧ i + 1 ≤ l.length) ∧ l.length - (i + 1) < l.length - i from (by exact sid_n (by assumption) (by assumption) (by assumption)))
 ·have h2 := of_decide_eq_false h2
  refine v_leave (.ex 0) True trivial ?_
  exact v_ret () [] ((true = sideP r (List.drop f l)) ∧ (l = l)) ⟨(by exact sid_e (by assumption) (by assumption)), rfl⟩ trivial
noncomputable def ccR9_80 : Code := (Tryd.f80.body).getD .skip
theorem rnext_ok (l r : List Turn) (hl : l.length ≤ 1000000) (hr : r.length ≤ 1000000) : FOk EN 80 ⟨[.rd 121 l, .rd 121 r], [.n 0, .n 1], Unit, fun _ => ([.rd 121 l, .rd 121 r], .b (nextP l r)), fun _ => True⟩ := by
 refine v_fun Tryd.f80 ccR9_80 MX (fun ν F σ w => ?_) Tryd.func80
 refine v_nl ?_
 refine v_loop (fun k : Nat => ([(5, .i k)], [])) (fun k => XI l r k) (fun k => l.length - k) 0 [] (((0 : Int) = (↑(0 : Nat) : Int))) rfl (by exact XI.start) (fun k hk1 => ?_)
 have i1 := (‹XI l r k›).2
 refine v_guard 10 (decide ((↑k : Int) < (↑l.length : Int))) True trivial (fun h2 => ?_) (fun h2 => ?_)
 ·have h2 := of_decide_eq_true h2
  refine v_if (decide ((↑k : Int) < (↑r.length : Int))) True trivial (fun h3 => ?_) (fun h3 => ?_)
  ·have h3 := of_decide_eq_true h3
   refine v_plan (.fs [0, 1, 2, 3, 4, 5, 6, 7, 8] .e) [] True trivial ?_
   refine v_if (decide ((l.getD (↑k : Int).toNat (Turn.mk 0 0 false zero32)).height = (r.getD (↑k : Int).toNat (Turn.mk 0 0 false zero32)).height) && (decide ((l.getD (↑k : Int).toNat (Turn.mk 0 0 false zero32)).size = (r.getD (↑k : Int).toNat (Turn.mk 0 0 false zero32)).size) && ((l.getD (↑k : Int).toNat (Turn.mk 0 0 false zero32)).right == (r.getD (↑k : Int).toNat (Turn.mk 0 0 false zero32)).right && (decide ((l.getD (↑k : Int).toNat (Turn.mk 0 0 false zero32)).other.l = (r.getD (↑k : Int).toNat (Turn.mk 0 0 false zero32)).other.l) && true)))) ((0 ≤ (↑k : Int) ∧ (↑k : Int) < (↑l.length : Int)) ∧ (0 ≤ (↑k : Int) ∧ (↑k : Int) < (↑r.length : Int)) ∧ (EN.P.eqGuardType EN.P.depth (121 : Nat) = false) ∧ (noBl EN.P 121) ∧ ((l.getD (↑k : Int).toNat (Turn.mk 0 0 false zero32)).other.l.length = 32) ∧ ((r.getD (↑k : Int).toNat (Turn.mk 0 0 false zero32)).other.l.length = 32)) ⟨(by omega), (by omega), (by kernel_rfl), (by (unfold noBl; kernel_rfl)), (by exact Sum32.h _), (by exact Sum32.h _)⟩ (fun h4 => ?_) (fun h4 => ?_)
   ·skip
    exact v_back (k + 1) [] ((I64 (↑k + 1)) ∧ ((↑k : Int) + 1 = (↑(k + 1) : Int))) ⟨(by (unfold I64; omega)), rfl⟩ (show XI l r (k + 1) ∧ l.length - (k + 1) < l.length - k from (by exact XI.next (by assumption) (by assumption) (by assumption) (by assumption)))
   ·skip
    refine v_plan (.fs [0, 1, 2, 3, 4, 5, 6, 7, 8, 9, 10, 11, 12, 13, 14, 15, 16, 17, 18, 19, 20, 21, 22, 23, 24, 25, 26, 27, 28, 29, 30, 31, 32, 33, 34, 35, 36, 37, 38, 39, 40, 41, 42] (.o 43 (.fs [44, 45, 46, 47, 48] (.o 49 (.fs [50, 51] .e))))) [] True trivial ?_
    refine v_guard 33 (!(l.getD (↑k : Int).toNat (Turn.mk 0 0 false zero32)).right) ((0 ≤ (↑k : Int) ∧ (↑k : Int) < (↑l.length : Int))) (by omega) (fun h5 => ?_) (fun h5 => ?_)
    ·have h5 := (nt h5)
     refine v_guard 40 ((r.getD (↑k : Int).toNat (Turn.mk 0 0 false zero32)).right) ((0 ≤ (↑k : Int) ∧ (↑k : Int) < (↑r.length : Int))) (by omega) (fun h6 => ?_) (fun h6 => ?_)
     ·skip
      refine v_guard 53 (decide ((l.getD (↑k : Int).toNat (Turn.mk 0 0 false zero32)).height = (r.getD (↑k : Int).toNat (Turn.mk 0 0 false zero32)).height)) ((0 ≤ (↑k : Int) ∧ (↑k : Int) < (↑l.length : Int)) ∧ (0 ≤ (↑k : Int) ∧ (↑k : Int) < (↑r.length : Int))) ⟨(by omega), (by omega)⟩ (fun h7 => ?_) (fun h7 => ?_)
      ·have h7 := of_decide_eq_true h7
       refine v_guard 66 (decide ((l.getD (↑k : Int).toNat (Turn.mk 0 0 false zero32)).size = (r.getD (↑k : Int).toNat (Turn.mk 0 0 false zero32)).size)) ((0 ≤ (↑k : Int) ∧ (↑k : Int) < (↑l.length : Int)) ∧ (0 ≤ (↑k : Int) ∧ (↑k : Int) < (↑r.length : Int))) ⟨(by omega), (by omega)⟩ (fun h8 => ?_) (fun h8 => ?_)
       ·have h8 := of_decide_eq_true h8
        refine v_call _ [0] (sided_ok (l) (k + nat_lit 1) (true) (by (simp; omega)) (by assumption)) ((I64 (↑k + 1)) ∧ ((↑k : Int) + (1 : Int) = (↑(k + nat_lit 1) : Int)) ∧ (true = true) ∧ (l = l)) ⟨(by (unfold I64; omega)), rfl, rfl, rfl⟩ (fun g9 p10 => ?_)
        have p10 : True := p10
        refine v_guard 72 (sideP true (List.drop (k + nat_lit 1) l)) True trivial (fun h11 => ?_) (fun h11 => ?_)
        ·skip
         refine v_call _ [1] (sided_ok (r) (k + nat_lit 1) (false) (by (simp; omega)) (by assumption)) ((I64 (↑k + 1)) ∧ ((↑k : Int) + (1 : Int) = (↑(k + nat_lit 1) : Int)) ∧ (false = false) ∧ (r = r)) ⟨(by (unfold I64; omega)), rfl, rfl, rfl⟩ (fun g12 p13 => ?_)
         have p13 : True := p13
         refine v_leave .rt True trivial ?_
         exact v_ret () [] ((sideP false (List.drop (k + nat_lit 1) r) = nextP l r) ∧ (l = l) ∧ (r = r)) ⟨(by exact nq (k := k) (by first | exact XI.e1 (by assumption) (by assumption) | exact XI.e2 (by assumption) (by assumption) | exact XI.e3 (by assumption) (by assumption) (by assumption) (by assumption)) (by simp only [nextQ]; simp_all)), rfl, rfl⟩ trivial
        ·skip
         refine v_leave .rt True trivial ?_
         exact v_ret () [] ((false = nextP l r) ∧ (l = l) ∧ (r = r)) ⟨(by exact nq (k := k) (by first | exact XI.e1 (by assumption) (by assumption) | exact XI.e2 (by assumption) (by assumption) | exact XI.e3 (by assumption) (by assumption) (by assumption) (by assumption)) (by simp only [nextQ]; simp [*])), rfl, rfl⟩ trivial
       ·have h8 := of_decide_eq_false h8
        refine v_leave .rt True trivial ?_
        exact v_ret () [] ((false = nextP l r) ∧ (l = l) ∧ (r = r)) ⟨(by exact nq (k := k) (by first | exact XI.e1 (by assumption) (by assumption) | exact XI.e2 (by assumption) (by assumption) | exact XI.e3 (by assumption) (by assumption) (by assumption) (by assumption)) (by simp only [nextQ]; simp_all)), rfl, rfl⟩ trivial
      ·have h7 := of_decide_eq_false h7
       refine v_leave .rt True trivial ?_
       exact v_ret () [] ((false = nextP l r) ∧ (l = l) ∧ (r = r)) ⟨(by exact nq (k := k) (by first | exact XI.e1 (by assumption) (by assumption) | exact XI.e2 (by assumption) (by assumption) | exact XI.e3 (by assumption) (by assumption) (by assumption) (by assumption)) (by simp only [nextQ]; simp_all)), rfl, rfl⟩ trivial
     ·skip
      refine v_leave .rt True trivial ?_
      exact v_ret () [] ((false = nextP l r) ∧ (l = l) ∧ (r = r)) ⟨(by exact nq (k := k) (by first | exact XI.e1 (by assumption) (by assumption) | exact XI.e2 (by assumption) (by assumption) | exact XI.e3 (by assumption) (by assumption) (by assumption) (by assumption)) (by simp only [nextQ]; simp_all)), rfl, rfl⟩ trivial
    ·have h5 := (nf h5)
     refine v_leave .rt True trivial ?_
     exact v_ret () [] ((false = nextP l r) ∧ (l = l) ∧ (r = r)) ⟨(by exact nq (k := k) (by first | exact XI.e1 (by assumption) (by assumption) | exact XI.e2 (by assumption) (by assumption) | exact XI.e3 (by assumption) (by assumption) (by assumption) (by assumption)) (by simp only [nextQ]; simp_all)), rfl, rfl⟩ trivial
  ·have h3 := of_decide_eq_false h3
   refine v_leave (.ex 0) True trivial ?_
   exact v_ret () [] ((false = nextP l r) ∧ (l = l) ∧ (r = r)) ⟨(by exact nq (k := k) (by first | exact XI.e1 (by assumption) (by assumption) | exact XI.e2 (by assumption) (by assumption) | exact XI.e3 (by assumption) (by assumption) (by assumption) (by assumption)) (by simp only [nextQ]; simp [*])), rfl, rfl⟩ trivial
 ·have h2 := of_decide_eq_false h2
  refine v_leave (.ex 0) True trivial ?_
  exact v_ret () [] ((false = nextP l r) ∧ (l = l) ∧ (r = r)) ⟨(by exact nq (k := k) (by first | exact XI.e1 (by assumption) (by assumption) | exact XI.e2 (by assumption) (by assumption) | exact XI.e3 (by assumption) (by assumption) (by assumption) (by assumption)) (by simp only [nextQ]; simp [*])), rfl, rfl⟩ trivial
end Go.Proofs.YtnicmjipbnhciaaDoor.X
set_option linter.unusedVariables false
set_option linter.unusedSimpArgs false
set_option maxRecDepth 100000
namespace Go.Proofs.YtnicmjipbnhciaaDoor.X
open Go Go.RowKit Go.Proofs Go.Proofs.YtnicmjipbnhciaaDoor.E
theorem ver_code0 {want : List UInt8} {p : Proof} (h : codeO (verP want p) = 0) : (verP want p).isNone = true := by
  rw [← verC_eq] at h
  unfold verC at h
  by_cases h1 : 64 < p.turns.length
  · rw [if_pos h1] at h; cases h
  · rw [if_neg h1] at h
    by_cases h2 : p.key.length < 1 ∨ 96 < p.key.length ∨ 256 < p.value.length
    · rw [if_pos h2] at h; cases h
    · rw [if_neg h2] at h
      by_cases h3 : ∃ i, i < p.turns.length ∧ bad p.turns i
      · rw [if_pos h3] at h; cases h
      · rw [if_neg h3] at h
        by_cases q : hashN p = want
        · have e : rootP p = (hashN p, none) := by
            have e2 := rootN_ok p.turns (fun j hj hb => h3 ⟨j, hj, hb⟩) _ (nsum 0 1 p.key p.value z32 z32) (Nat.le_refl _)
            rw [ben_end, List.take_length] at e2
            unfold rootP; rw [if_neg h1, if_neg (by omega)]; exact e2
          unfold verP; rw [e]; simp [q]
        · rw [if_neg q] at h; cases h
theorem ver_code1 {want : List UInt8} {p : Proof} (h : ¬ codeO (verP want p) = 0) : (verP want p).isNone = false := by
  cases e : verP want p with
  | none => rw [e] at h; exact absurd rfl h
  | some x => rfl
section
variable {want k : List UInt8} {l r : Option Proof} {c : Int} {e : Er}
theorem vg_left (h1 : ¬ (k.length : Int) < 1) (h2 : ¬ (96 : Int) < k.length) (h3 : l.isNone = false) (h4 : r.isNone = true) (h5 : sideP true (gp l).turns = true) : vgP want k l r = vgL want k l r := by
  unfold vgP; rw [if_neg (by omega), if_neg (by simp [h3]), if_neg (by simp [h3, h5]), if_neg (by simp [h4])]
theorem vg_right (h1 : ¬ (k.length : Int) < 1) (h2 : ¬ (96 : Int) < k.length) (h3 : l.isNone = true) (h4 : r.isNone = false) (h5 : sideP false (gp r).turns = true) : vgP want k l r = vgL want k l r := by
  unfold vgP; rw [if_neg (by omega), if_neg (by simp [h4]), if_neg (by simp [h4, h5]), if_neg (by simp [h3])]
theorem vL_hit (h : vgP want k l r = vgL want k l r) (hs : vgS want k 0 l = some e) : codeO (vgP want k l r) = e.code := by
  rw [h]; unfold vgL; rw [hs]; rfl
theorem vL_r {o : Option Er} (h : vgP want k l r = vgL want k l r) (hs : vgS want k 0 l = none) (hr : vgS want k 1 r = o) : codeO (vgP want k l r) = codeO o := by
  rw [h]; unfold vgL; rw [hs]; simp only [Option.isNone, if_true]; rw [hr]
theorem vs2c {i : Int} {o : Option Proof} (h : o.isNone = false) (h2 : ¬ codeO (verP want (gp o)) = 0) : ∃ e, vgS want k i o = some e ∧ e.code = codeO (verP want (gp o)) := by
  have h2 := ver_code1 h2
  refine ⟨_, vs2 h h2, ?_⟩
  cases e : verP want (gp o) with
  | none => rw [e] at h2; simp at h2
  | some x => rfl
theorem cmp_le {a b : List UInt8} (h : (Op.bytesLess a b || decide (a = b)) = true) : Lib.compareBytes a b = 0 ∨ Lib.compareBytes a b < 0 := by
  rw [less_cmp] at h; simp only [Bool.or_eq_true, decide_eq_true_eq] at h
  rcases h with h | h
  · exact .inr h
  · exact .inl (cmp_zero.2 h)
theorem cmp_gt {a b : List UInt8} (h : (Op.bytesLess a b || decide (a = b)) = false) : ¬ Lib.compareBytes a b = 0 ∧ ¬ Lib.compareBytes a b < 0 := by
  rw [less_cmp] at h; simp only [Bool.or_eq_false_iff, decide_eq_false_iff_not] at h
  exact ⟨fun q => h.2 (cmp_zero.1 q), h.1⟩
theorem lS1 (h : l.isNone = false) (h0 : codeO (verP want (gp l)) = 0) (h1 : Op.bytesLess (gp l).key k = false) : vgS want k 0 l = some (.step ((#[115, 105, 100, 101] : Array UInt8).toList) 0 (.num 20)) := by
  refine vs3 h (ver_code0 h0) ?_
  have := less_f h1
  by_cases q : Lib.compareBytes (gp l).key k = 0
  · exact .inl q
  · exact .inr (by rw [decide_eq_false this]; rfl)
theorem lS2 (h : l.isNone = false) (h0 : codeO (verP want (gp l)) = 0) (h1 : Op.bytesLess (gp l).key k = true) : vgS want k 0 l = none := by
  have := less_t h1
  exact vs4 h (ver_code0 h0) (by omega) (by rw [decide_eq_true this]; rfl)
theorem rS1 (h : r.isNone = false) (h0 : codeO (verP want (gp r)) = 0) (h1 : (Op.bytesLess (gp r).key k || decide ((gp r).key = k)) = true) : vgS want k 1 r = some (.step ((#[115, 105, 100, 101] : Array UInt8).toList) 1 (.num 20)) := by
  refine vs3 h (ver_code0 h0) ?_
  rcases cmp_le h1 with q | q
  · exact .inl q
  · exact .inr (by rw [decide_eq_true q]; rfl)
theorem rS2 (h : r.isNone = false) (h0 : codeO (verP want (gp r)) = 0) (h1 : (Op.bytesLess (gp r).key k || decide ((gp r).key = k)) = false) : vgS want k 1 r = none := by
  obtain ⟨a, b⟩ := cmp_gt h1
  exact vs4 h (ver_code0 h0) a (by rw [decide_eq_false b]; rfl)
theorem rg1 (h : (k.length : Int) < 1 ∨ (96 : Int) < k.length) : 10 = codeO (vgP want k l r) := by unfold vgP; rw [if_pos (by omega)]; rfl
theorem rg2 (h1 : ¬ (k.length : Int) < 1) (h2 : ¬ (96 : Int) < k.length) (h3 : l.isNone = true) (h4 : r.isNone = true) (h5 : ¬ want = sum256 []) : 21 = codeO (vgP want k l r) := by
  unfold vgP; rw [if_neg (by omega), if_pos ⟨h3, h4⟩, if_neg h5]; rfl
theorem rg3 (h1 : ¬ (k.length : Int) < 1) (h2 : ¬ (96 : Int) < k.length) (h3 : l.isNone = true) (h4 : r.isNone = true) (h5 : want = sum256 []) : 0 = codeO (vgP want k l r) := by
  unfold vgP; rw [if_neg (by omega), if_pos ⟨h3, h4⟩, if_pos h5]; rfl
theorem rg4 (h1 : ¬ (k.length : Int) < 1) (h2 : ¬ (96 : Int) < k.length) (h4 : r.isNone = false) (h5 : l.isNone = true) (h6 : sideP false (gp r).turns = false) : 20 = codeO (vgP want k l r) := by
  unfold vgP; rw [if_neg (by omega), if_neg (by simp [h4]), if_pos (.inl ⟨h5, h6⟩)]; rfl
theorem rg5 (h1 : ¬ (k.length : Int) < 1) (h2 : ¬ (96 : Int) < k.length) (h4 : l.isNone = false) (h5 : r.isNone = true) (h6 : sideP true (gp l).turns = false) : 20 = codeO (vgP want k l r) := by
  unfold vgP; rw [if_neg (by omega), if_neg (by simp [h4]), if_pos (.inr ⟨h5, h6⟩)]; rfl
theorem rg6 (h1 : ¬ (k.length : Int) < 1) (h2 : ¬ (96 : Int) < k.length) (h4 : l.isNone = false) (h5 : r.isNone = false) (h6 : nextP (gp l).turns (gp r).turns = false) : 20 = codeO (vgP want k l r) := by
  rw [vg_next (by omega) h2 h4 h5 h6]; rfl
theorem vg_both' (h1 : ¬ (k.length : Int) < 1) (h2 : ¬ (96 : Int) < k.length) (h3 : l.isNone = false) (h4 : r.isNone = false) (h5 : nextP (gp l).turns (gp r).turns = true) : vgP want k l r = vgL want k l r := vg_both (by omega) h2 h3 h4 h5
end
noncomputable def ccR10_32 : Code := (Tryd.f32.body).getD .skip
theorem rVerifyGap_ok (want k : List UInt8) (l r : Option Proof) (hw : want.length = 32) (hl : (gp l).turns.length ≤ 1000000) (hr : (gp r).turns.length ≤ 1000000) : FOk EN 32 ⟨[.pr rootsP, .rd 5 (k), .pt 26 l, .pt 26 r], [.a [.h 32 want], .n 1, .a [.n 2, .n 3]], Unit, fun _ => ([.pr rootsP, .rd 5 (k), .pt 26 l, .pt 26 r], .i (codeO (vgP want k l r))), fun _ => True⟩ := by
 refine v_fun Tryd.f32 ccR10_32 MX (fun ν F σ w => ?_) Tryd.func32
 refine v_nl ?_
 refine v_guard 12 (decide ((↑k.length : Int) < 1)) True trivial (fun h1 => ?_) (fun h1 => ?_)
 ·have h1 := of_decide_eq_true h1
  exact v_ret () [] ((10 = codeO (vgP want k l r)) ∧ (rootsP = rootsP) ∧ (k = k) ∧ (l = l) ∧ (r = r)) ⟨(by exact rg1 (by omega)), rfl, rfl, rfl, rfl⟩ trivial
 ·have h1 := of_decide_eq_false h1
  refine v_if (decide (96 < (↑k.length : Int))) True trivial (fun h2 => ?_) (fun h2 => ?_)
  ·have h2 := of_decide_eq_true h2
   exact v_ret () [] ((10 = codeO (vgP want k l r)) ∧ (rootsP = rootsP) ∧ (k = k) ∧ (l = l) ∧ (r = r)) ⟨(by exact rg1 (by omega)), rfl, rfl, rfl, rfl⟩ trivial
  ·have h2 := of_decide_eq_false h2
   refine v_guard 20 (l.isNone) True trivial (fun h3 => ?_) (fun h3 => ?_)
   ·skip
    refine v_if (r.isNone) True trivial (fun h4 => ?_) (fun h4 => ?_)
    ·skip
     refine v_plan (.fs [0] (.o 1 (.fs [2] .e))) [5, 6] True trivial ?_
     refine v_call _ [0, 4] (rsum_ok ([]) (by decide)) ((rootsP = rootsP) ∧ (Eq (α := List UInt8) [] [])) ⟨rfl, rfl⟩ (fun g5 p6 => ?_)
     have p6 : True := p6
     refine v_if (!decide (want = sum256 [])) ((EN.P.eqGuardType EN.P.depth (52 : Nat) = false) ∧ (want.length = 32) ∧ ((sum256 []).length = 32)) ⟨rfl, (by assumption), rfl⟩ (fun h7 => ?_) (fun h7 => ?_)
     ·have h7 := of_decide_eq_false (nt h7)
      exact v_ret () [] ((21 = codeO (vgP want k l r)) ∧ (rootsP = rootsP) ∧ (k = k) ∧ (l = l) ∧ (r = r)) ⟨(by exact rg2 (by assumption) (by assumption) (by assumption) (by assumption) (by assumption)), rfl, rfl, rfl, rfl⟩ trivial
     ·have h7 := of_decide_eq_true (nf h7)
      exact v_ret () [] ((0 = codeO (vgP want k l r)) ∧ (rootsP = rootsP) ∧ (k = k) ∧ (l = l) ∧ (r = r)) ⟨(by exact rg3 (by assumption) (by assumption) (by assumption) (by assumption) (by assumption)), rfl, rfl, rfl, rfl⟩ trivial
    ·skip
     refine v_guard 31 (l.isNone) True trivial (fun h8 => ?_) (fun h8 => ?_)
     ·skip
      refine v_open 3 (open_pf (r) (by assumption)) ((PPt GT 26 r = PPt GT 26 r)) rfl ?_
      refine v_call _ [9] (sided_ok ((gp r).turns) (nat_lit 0) (false) (by exact Nat.zero_le _) (by assumption)) (((0 : Int) = (↑(nat_lit 0) : Int)) ∧ (false = false) ∧ ((gp r).turns = (gp r).turns)) ⟨rfl, rfl, rfl⟩ (fun g9 p10 => ?_)
      have p10 : True := p10
      refine v_guard 40 (!sideP false (List.drop (nat_lit 0) (gp r).turns)) True trivial (fun h11 => ?_) (fun h11 => ?_)
      ·have h11 := (nt h11)
       exact v_ret () [] ((20 = codeO (vgP want k l r)) ∧ (rootsP = rootsP) ∧ (k = k) ∧ (l = l) ∧ (PLe (PPt GT 26 r) (PPt GT 26 r))) ⟨(by exact rg4 (by assumption) (by assumption) (by assumption) (by assumption) (by first | assumption | simpa using ‹_›)), rfl, rfl, rfl, fun _ _ _ h => h⟩ trivial
      ·have h11 := (nf h11)
       refine v_plan (.fs [0, 1, 2, 3, 4, 5, 6, 7, 8, 9, 10, 11, 12, 13, 14, 15, 16, 17, 18] (.o 19 (.fs [20, 21] .e))) [5, 6] True trivial ?_
       refine v_guard 57 (!l.isNone) True trivial (fun h12 => ?_) (fun h12 => ?_)
       ·have h12 := (nt h12)
        exfalso; (simp_all; done)
       ·have h12 := (nf h12)
        refine v_if (!l.isNone) True trivial (fun h13 => ?_) (fun h13 => ?_)
        ·have h13 := (nt h13)
         exfalso; (simp_all; done)
        ·have h13 := (nf h13)
         refine v_plan (.fs [0, 1, 2, 3, 4] (.o 5 (.fs [6] .e))) [5, 6] True trivial ?_
         refine v_call _ [0, 7, 8, 9] (rver_ok (want) (gp r) (by assumption)) ((want = want) ∧ (rootsP = rootsP) ∧ ((gp r).key = (gp r).key) ∧ ((gp r).value = (gp r).value) ∧ ((gp r).turns = (gp r).turns)) ⟨rfl, rfl, rfl, rfl, rfl⟩ (fun g14 p15 => ?_)
         have p15 : True := p15
         refine v_if (decide (codeO (verP want (gp r)) ≠ 0)) True trivial (fun h16 => ?_) (fun h16 => ?_)
         ·have h16 := of_decide_eq_true h16
          exact v_ret () [] ((codeO (verP want (gp r)) = codeO (vgP want k l r)) ∧ (rootsP = rootsP) ∧ (k = k) ∧ (l = l) ∧ (PLe (PPt GT 26 r) (PPt GT 26 r))) ⟨(by (obtain ⟨e7, h7, hc⟩ := vs2c (want := want) (k := k) (o := r) (i := 1) (by assumption) (by assumption); rw [vL_r (by first | exact vg_both' (by assumption) (by assumption) (by assumption) (by assumption) (by assumption) | exact vg_left (by assumption) (by assumption) (by assumption) (by assumption) (by assumption) | exact vg_right (by assumption) (by assumption) (by assumption) (by assumption) (by assumption)) (by first | exact vs1 (by assumption) | exact lS2 (by assumption) (by omega) (by assumption)) h7]; exact hc.symm)), rfl, rfl, rfl, fun _ _ _ h => h⟩ trivial
         ·have h16 := of_decide_eq_false h16
          refine v_plan (.fs [0, 1, 2, 3, 4, 5, 6, 7, 8] .e) [5, 6] True trivial ?_
          refine v_if (Op.bytesLess (gp r).key k || decide ((gp r).key = k)) True trivial (fun h17 => ?_) (fun h17 => ?_)
          ·skip
           exact v_ret () [] ((20 = codeO (vgP want k l r)) ∧ (rootsP = rootsP) ∧ (k = k) ∧ (l = l) ∧ (PLe (PPt GT 26 r) (PPt GT 26 r))) ⟨(by (rw [vL_r (by first | exact vg_both' (by assumption) (by assumption) (by assumption) (by assumption) (by assumption) | exact vg_left (by assumption) (by assumption) (by assumption) (by assumption) (by assumption) | exact vg_right (by assumption) (by assumption) (by assumption) (by assumption) (by assumption)) (by first | exact vs1 (by assumption) | exact lS2 (by assumption) (by omega) (by assumption)) (rS1 (by assumption) (by omega) (by assumption))]; rfl)), rfl, rfl, rfl, fun _ _ _ h => h⟩ trivial
          ·skip
           exact v_ret () [] ((0 = codeO (vgP want k l r)) ∧ (rootsP = rootsP) ∧ (k = k) ∧ (l = l) ∧ (PLe (PPt GT 26 r) (PPt GT 26 r))) ⟨(by (rw [vL_r (by first | exact vg_both' (by assumption) (by assumption) (by assumption) (by assumption) (by assumption) | exact vg_left (by assumption) (by assumption) (by assumption) (by assumption) (by assumption) | exact vg_right (by assumption) (by assumption) (by assumption) (by assumption) (by assumption)) (by first | exact vs1 (by assumption) | exact lS2 (by assumption) (by omega) (by assumption)) (rS2 (by assumption) (by omega) (by assumption))]; rfl)), rfl, rfl, rfl, fun _ _ _ h => h⟩ trivial
     ·skip
      exfalso; (simp_all; done)
   ·skip
    refine v_guard 31 (l.isNone) True trivial (fun h18 => ?_) (fun h18 => ?_)
    ·skip
     exfalso; (simp_all; done)
    ·skip
     refine v_guard 44 (r.isNone) True trivial (fun h19 => ?_) (fun h19 => ?_)
     ·skip
      refine v_open 2 (open_pf (l) (by assumption)) ((PPt GT 26 l = PPt GT 26 l)) rfl ?_
      refine v_call _ [9] (sided_ok ((gp l).turns) (nat_lit 0) (true) (by exact Nat.zero_le _) (by assumption)) (((0 : Int) = (↑(nat_lit 0) : Int)) ∧ (true = true) ∧ ((gp l).turns = (gp l).turns)) ⟨rfl, rfl, rfl⟩ (fun g20 p21 => ?_)
      have p21 : True := p21
      refine v_if (!sideP true (List.drop (nat_lit 0) (gp l).turns)) True trivial (fun h22 => ?_) (fun h22 => ?_)
      ·have h22 := (nt h22)
       exact v_ret () [] ((20 = codeO (vgP want k l r)) ∧ (rootsP = rootsP) ∧ (k = k) ∧ (PLe (PPt GT 26 l) (PPt GT 26 l)) ∧ (r = r)) ⟨(by exact rg5 (by assumption) (by assumption) (by assumption) (by assumption) (by first | assumption | simpa using ‹_›)), rfl, rfl, fun _ _ _ h => h, rfl⟩ trivial
      ·have h22 := (nf h22)
       refine v_plan (.fs [0, 1, 2, 3, 4, 5, 6, 7, 8, 9, 10, 11, 12, 13, 14, 15, 16, 17, 18] (.o 19 (.fs [20, 21] .e))) [5, 6] True trivial ?_
       refine v_guard 62 (!r.isNone) True trivial (fun h23 => ?_) (fun h23 => ?_)
       ·have h23 := (nt h23)
        exfalso; (simp_all; done)
       ·have h23 := (nf h23)
        refine v_plan (.fs [0, 1, 2, 3, 4] (.o 5 (.fs [6] .e))) [5, 6] True trivial ?_
        refine v_call _ [0, 7, 8, 9] (rver_ok (want) (gp l) (by assumption)) ((want = want) ∧ (rootsP = rootsP) ∧ ((gp l).key = (gp l).key) ∧ ((gp l).value = (gp l).value) ∧ ((gp l).turns = (gp l).turns)) ⟨rfl, rfl, rfl, rfl, rfl⟩ (fun g24 p25 => ?_)
        have p25 : True := p25
        refine v_if (decide (codeO (verP want (gp l)) ≠ 0)) True trivial (fun h26 => ?_) (fun h26 => ?_)
        ·have h26 := of_decide_eq_true h26
         exact v_ret () [] ((codeO (verP want (gp l)) = codeO (vgP want k l r)) ∧ (rootsP = rootsP) ∧ (k = k) ∧ (PLe (PPt GT 26 l) (PPt GT 26 l)) ∧ (r = r)) ⟨(by (obtain ⟨e7, h7, hc⟩ := vs2c (want := want) (k := k) (o := l) (i := 0) (by assumption) (by assumption); rw [vL_hit (by first | exact vg_both' (by assumption) (by assumption) (by assumption) (by assumption) (by assumption) | exact vg_left (by assumption) (by assumption) (by assumption) (by assumption) (by assumption) | exact vg_right (by assumption) (by assumption) (by assumption) (by assumption) (by assumption)) h7, hc])), rfl, rfl, fun _ _ _ h => h, rfl⟩ trivial
        ·have h26 := of_decide_eq_false h26
         refine v_plan (.fs [0, 1, 2, 3, 4, 5, 6, 7, 8] .e) [5, 6] True trivial ?_
         refine v_if (!Op.bytesLess (gp l).key k) True trivial (fun h27 => ?_) (fun h27 => ?_)
         ·have h27 := (nt h27)
          exact v_ret () [] ((20 = codeO (vgP want k l r)) ∧ (rootsP = rootsP) ∧ (k = k) ∧ (PLe (PPt GT 26 l) (PPt GT 26 l)) ∧ (r = r)) ⟨(by (rw [vL_hit (by first | exact vg_both' (by assumption) (by assumption) (by assumption) (by assumption) (by assumption) | exact vg_left (by assumption) (by assumption) (by assumption) (by assumption) (by assumption) | exact vg_right (by assumption) (by assumption) (by assumption) (by assumption) (by assumption)) (lS1 (by assumption) (by omega) (by assumption))]; rfl)), rfl, rfl, fun _ _ _ h => h, rfl⟩ trivial
         ·have h27 := (nf h27)
          refine v_if (!r.isNone) True trivial (fun h28 => ?_) (fun h28 => ?_)
          ·have h28 := (nt h28)
           exfalso; (simp_all; done)
          ·have h28 := (nf h28)
           exact v_ret () [] ((0 = codeO (vgP want k l r)) ∧ (rootsP = rootsP) ∧ (k = k) ∧ (PLe (PPt GT 26 l) (PPt GT 26 l)) ∧ (r = r)) ⟨(by (rw [vL_r (by first | exact vg_both' (by assumption) (by assumption) (by assumption) (by assumption) (by assumption) | exact vg_left (by assumption) (by assumption) (by assumption) (by assumption) (by assumption) | exact vg_right (by assumption) (by assumption) (by assumption) (by assumption) (by assumption)) (by first | exact vs1 (by assumption) | exact lS2 (by assumption) (by omega) (by assumption)) (vs1 (by assumption))]; rfl)), rfl, rfl, fun _ _ _ h => h, rfl⟩ trivial
     ·skip
      refine v_open 2 (open_pf (l) (by assumption)) ((PPt GT 26 l = PPt GT 26 l)) rfl ?_
      refine v_open 3 (open_pf (r) (by assumption)) ((PPt GT 26 r = PPt GT 26 r)) rfl ?_
      refine v_plan (.fs [0, 1, 2, 3, 4, 5, 6, 7, 8, 9, 10, 11, 12, 13, 14, 15, 16, 17, 18] (.o 19 (.fs [20, 21] .e))) [5, 6] True trivial ?_
      refine v_call _ [9, 12] (rnext_ok ((gp l).turns) ((gp r).turns) (by assumption) (by assumption)) (((gp l).turns = (gp l).turns) ∧ ((gp r).turns = (gp r).turns)) ⟨rfl, rfl⟩ (fun g29 p30 => ?_)
      have p30 : True := p30
      refine v_if (!nextP (gp l).turns (gp r).turns) True trivial (fun h31 => ?_) (fun h31 => ?_)
      ·have h31 := (nt h31)
       exact v_ret () [] ((20 = codeO (vgP want k l r)) ∧ (rootsP = rootsP) ∧ (k = k) ∧ (PLe (PPt GT 26 l) (PPt GT 26 l)) ∧ (PLe (PPt GT 26 r) (PPt GT 26 r))) ⟨(by exact rg6 (by assumption) (by assumption) (by assumption) (by assumption) (by assumption)), rfl, rfl, fun _ _ _ h => h, fun _ _ _ h => h⟩ trivial
      ·have h31 := (nf h31)
       refine v_plan (.fs [0, 1, 2, 3, 4] (.o 5 (.fs [6] .e))) [5, 6] True trivial ?_
       refine v_call _ [0, 7, 8, 9] (rver_ok (want) (gp l) (by assumption)) ((want = want) ∧ (rootsP = rootsP) ∧ ((gp l).key = (gp l).key) ∧ ((gp l).value = (gp l).value) ∧ ((gp l).turns = (gp l).turns)) ⟨rfl, rfl, rfl, rfl, rfl⟩ (fun g32 p33 => ?_)
       have p33 : True := p33
       refine v_if (decide (codeO (verP want (gp l)) ≠ 0)) True trivial (fun h34 => ?_) (fun h34 => ?_)
       ·have h34 := of_decide_eq_true h34
        exact v_ret () [] ((codeO (verP want (gp l)) = codeO (vgP want k l r)) ∧ (rootsP = rootsP) ∧ (k = k) ∧ (PLe (PPt GT 26 l) (PPt GT 26 l)) ∧ (PLe (PPt GT 26 r) (PPt GT 26 r))) ⟨(by (obtain ⟨e7, h7, hc⟩ := vs2c (want := want) (k := k) (o := l) (i := 0) (by assumption) (by assumption); rw [vL_hit (by first | exact vg_both' (by assumption) (by assumption) (by assumption) (by assumption) (by assumption) | exact vg_left (by assumption) (by assumption) (by assumption) (by assumption) (by assumption) | exact vg_right (by assumption) (by assumption) (by assumption) (by assumption) (by assumption)) h7, hc])), rfl, rfl, fun _ _ _ h => h, fun _ _ _ h => h⟩ trivial
       ·have h34 := of_decide_eq_false h34
        refine v_plan (.fs [0, 1, 2, 3, 4, 5, 6, 7, 8] .e) [5, 6] True trivial ?_
        refine v_if (!Op.bytesLess (gp l).key k) True trivial (fun h35 => ?_) (fun h35 => ?_)
        ·have h35 := (nt h35)
         exact v_ret () [] ((20 = codeO (vgP want k l r)) ∧ (rootsP = rootsP) ∧ (k = k) ∧ (PLe (PPt GT 26 l) (PPt GT 26 l)) ∧ (PLe (PPt GT 26 r) (PPt GT 26 r))) ⟨(by (rw [vL_hit (by first | exact vg_both' (by assumption) (by assumption) (by assumption) (by assumption) (by assumption) | exact vg_left (by assumption) (by assumption) (by assumption) (by assumption) (by assumption) | exact vg_right (by assumption) (by assumption) (by assumption) (by assumption) (by assumption)) (lS1 (by assumption) (by omega) (by assumption))]; rfl)), rfl, rfl, fun _ _ _ h => h, fun _ _ _ h => h⟩ trivial
        ·have h35 := (nf h35)
         refine v_plan (.fs [0, 1, 2, 3, 4] (.o 5 (.fs [6] .e))) [5, 6] True trivial ?_
         refine v_call _ [0, 10, 11, 12] (rver_ok (want) (gp r) (by assumption)) ((want = want) ∧ (rootsP = rootsP) ∧ ((gp r).key = (gp r).key) ∧ ((gp r).value = (gp r).value) ∧ ((gp r).turns = (gp r).turns)) ⟨rfl, rfl, rfl, rfl, rfl⟩ (fun g36 p37 => ?_)
         have p37 : True := p37
         refine v_if (decide (codeO (verP want (gp r)) ≠ 0)) True trivial (fun h38 => ?_) (fun h38 => ?_)
         ·have h38 := of_decide_eq_true h38
          exact v_ret () [] ((codeO (verP want (gp r)) = codeO (vgP want k l r)) ∧ (rootsP = rootsP) ∧ (k = k) ∧ (PLe (PPt GT 26 l) (PPt GT 26 l)) ∧ (PLe (PPt GT 26 r) (PPt GT 26 r))) ⟨(by (obtain ⟨e7, h7, hc⟩ := vs2c (want := want) (k := k) (o := r) (i := 1) (by assumption) (by assumption); rw [vL_r (by first | exact vg_both' (by assumption) (by assumption) (by assumption) (by assumption) (by assumption) | exact vg_left (by assumption) (by assumption) (by assumption) (by assumption) (by assumption) | exact vg_right (by assumption) (by assumption) (by assumption) (by assumption) (by assumption)) (by first | exact vs1 (by assumption) | exact lS2 (by assumption) (by omega) (by assumption)) h7]; exact hc.symm)), rfl, rfl, fun _ _ _ h => h, fun _ _ _ h => h⟩ trivial
         ·have h38 := of_decide_eq_false h38
          refine v_plan (.fs [0, 1, 2, 3, 4, 5, 6, 7, 8] .e) [5, 6] True trivial ?_
          refine v_if (Op.bytesLess (gp r).key k || decide ((gp r).key = k)) True trivial (fun h39 => ?_) (fun h39 => ?_)
          ·skip
           exact v_ret () [] ((20 = codeO (vgP want k l r)) ∧ (rootsP = rootsP) ∧ (k = k) ∧ (PLe (PPt GT 26 l) (PPt GT 26 l)) ∧ (PLe (PPt GT 26 r) (PPt GT 26 r))) ⟨(by (rw [vL_r (by first | exact vg_both' (by assumption) (by assumption) (by assumption) (by assumption) (by assumption) | exact vg_left (by assumption) (by assumption) (by assumption) (by assumption) (by assumption) | exact vg_right (by assumption) (by assumption) (by assumption) (by assumption) (by assumption)) (by first | exact vs1 (by assumption) | exact lS2 (by assumption) (by omega) (by assumption)) (rS1 (by assumption) (by omega) (by assumption))]; rfl)), rfl, rfl, fun _ _ _ h => h, fun _ _ _ h => h⟩ trivial
          ·skip
           exact v_ret () [] ((0 = codeO (vgP want k l r)) ∧ (rootsP = rootsP) ∧ (k = k) ∧ (PLe (PPt GT 26 l) (PPt GT 26 l)) ∧ (PLe (PPt GT 26 r) (PPt GT 26 r))) ⟨(by (rw [vL_r (by first | exact vg_both' (by assumption) (by assumption) (by assumption) (by assumption) (by assumption) | exact vg_left (by assumption) (by assumption) (by assumption) (by assumption) (by assumption) | exact vg_right (by assumption) (by assumption) (by assumption) (by assumption) (by assumption)) (by first | exact vs1 (by assumption) | exact lS2 (by assumption) (by omega) (by assumption)) (rS2 (by assumption) (by omega) (by assumption))]; rfl)), rfl, rfl, fun _ _ _ h => h, fun _ _ _ h => h⟩ trivial
end Go.Proofs.YtnicmjipbnhciaaDoor.X
set_option linter.unusedVariables false
set_option linter.unusedSimpArgs false
set_option maxRecDepth 100000
namespace Go.Proofs.YtnicmjipbnhciaaDoor.X
open Go Go.RowKit Go.Proofs Go.Proofs.YtnicmjipbnhciaaDoor.E
def keyA (a : Act) : List UInt8 := if 0 < a.raw.length then a.raw else [107, 97 + a.k % 26, 97 + a.k / 26]
noncomputable def ccR11_63 : Code := (Tryd.f63.body).getD .skip
theorem Key_ok (a : Act) : FOk EN 63 ⟨[.rd 5 (a.raw), .rd 5 (a.value)], [.a [.c a.kind, .c a.k, .n 0, .n 1]], Unit, fun _ => ([.rd 5 (a.raw), .rd 5 (a.value), .rd 5 (keyA a)], .n 2), fun _ => True⟩ := by
 refine v_fun Tryd.f63 ccR11_63 MX (fun ν F σ w => ?_) Tryd.func63
 refine v_nl ?_
 refine v_if (decide (0 < (↑a.raw.length : Int))) True trivial (fun h1 => ?_) (fun h1 => ?_)
 ·have h1 := of_decide_eq_true h1
  exact v_ret () [0] ((a.raw = a.raw) ∧ (a.value = a.value) ∧ (a.raw = keyA a)) ⟨rfl, rfl, (by (unfold keyA; rw [if_pos (by omega)]))⟩ trivial
 ·have h1 := of_decide_eq_false h1
  exact v_ret () [4] (((26 : UInt8) ≠ (0 : UInt8)) ∧ ((26 : UInt8) ≠ (0 : UInt8)) ∧ (a.raw = a.raw) ∧ (a.value = a.value) ∧ ([107, 97 + a.k % 26, 97 + a.k / 26] = keyA a)) ⟨(by decide), (by decide), rfl, rfl, (by (unfold keyA; rw [if_neg (by omega)]))⟩ trivial
def putPair (k v : List UInt8) : List Pair → List Pair
  | [] => [⟨k, v⟩]
  | x :: xs => if Op.bytesLess x.key k = true then x :: putPair k v xs else ⟨k, v⟩ :: (if x.key = k then xs else x :: xs)
def cutPair (k : List UInt8) (l : List Pair) : List Pair := l.filter fun x => decide (x.key ≠ k)
def UI (k v : List UInt8) (l : List Pair) (q : Nat × List Pair) : Prop := q.2 ++ putPair k v (l.drop q.1) = putPair k v l ∧ q.1 ≤ l.length ∧ q.2.length = q.1
section
variable {k v : List UInt8} {l xs : List Pair} {i : Nat}
theorem UI.start : UI k v l (0, []) := ⟨rfl, Nat.zero_le _, rfl⟩
theorem UI.next (h : UI k v l (i, xs)) (hi : (i : Int) < l.length) (hl : Op.bytesLess (l.getD i dP).key k = true) : UI k v l (i + 1, xs ++ [l.getD i dP]) ∧ l.length - (i + 1) < l.length - i := by
  obtain ⟨h1, h2, h3⟩ := h
  have h1 : xs ++ putPair k v (l.drop i) = putPair k v l := h1
  have h3 : xs.length = i := h3
  refine ⟨⟨?_, by omega, by simp [h3]⟩, by omega⟩
  show (xs ++ [l.getD i dP]) ++ putPair k v (l.drop (i + 1)) = _
  rw [← h1, drop_cons (d := dP) hi, putPair, if_pos hl]; simp
theorem UI.end0 (h : UI k v l (i, xs)) (hi : ¬ (i : Int) < l.length) : xs ++ [⟨k, v⟩] ++ l.drop i = putPair k v l := by
  have h1 : xs ++ putPair k v (l.drop i) = putPair k v l := h.1
  rw [← h1, List.drop_of_length_le (by omega)]; simp [putPair]
theorem UI.end1 (h : UI k v l (i, xs)) (hi : (i : Int) < l.length) (hl : Op.bytesLess (l.getD i dP).key k = false) (he : (l.getD i dP).key = k) : xs ++ [⟨k, v⟩] ++ l.drop (i + 1) = putPair k v l := by
  have h1 : xs ++ putPair k v (l.drop i) = putPair k v l := h.1
  rw [← h1, drop_cons (d := dP) hi, putPair, if_neg (by rw [hl]; simp), if_pos he]; simp
theorem UI.end2 (h : UI k v l (i, xs)) (hi : (i : Int) < l.length) (hl : Op.bytesLess (l.getD i dP).key k = false) (he : ¬ (l.getD i dP).key = k) : xs ++ [⟨k, v⟩] ++ l.drop i = putPair k v l := by
  have h1 : xs ++ putPair k v (l.drop i) = putPair k v l := h.1
  rw [← h1, drop_cons (d := dP) hi, putPair, if_neg (by rw [hl]; simp), if_neg he]; simp
end
noncomputable def ccR11_64 : Code := (Tryd.f64.body).getD .skip
theorem PutPair_ok (l : List Pair) (k v : List UInt8) (hl : l.length ≤ 100000) : FOk EN 64 ⟨[.rd 46 (l), .rd 5 (k), .rd 5 (v)], [.n 0, .n 1, .n 2], Unit, fun _ => ([.rd 46 (l), .rd 5 (k), .rd 5 (v), .ow 46 (putPair k v l)], .n 3), fun _ => True⟩ := by
 refine v_fun Tryd.f64 ccR11_64 MX (fun ν F σ w => ?_) Tryd.func64
 refine v_nl ?_
 refine v_loop (fun q : Nat × List Pair => ([(8, .i q.1), (7, .n 4)], [.ow 46 q.2])) (fun q => UI k v l q) (fun q => l.length - q.1) (0, []) [3] (((0 : Int) = (↑(0 : Nat) : Int)) ∧ (Eq (α := List Pair) [] [])) ⟨rfl, rfl⟩ (by exact UI.start) (fun q hk1 => ?_)
 have i1 := (‹UI k v l q›).2
 refine v_plan (.fs [0, 1, 2, 3, 4, 5, 6, 7, 8, 9, 10, 11, 12, 13, 14] .e) [4] True trivial ?_
 refine v_guard 13 (decide ((↑q.fst : Int) < (↑l.length : Int))) True trivial (fun h2 => ?_) (fun h2 => ?_)
 ·have h2 := of_decide_eq_true h2
  refine v_if (Op.bytesLess (l.getD (↑q.fst : Int).toNat (Pair.mk [] [])).key k) ((0 ≤ (↑q.fst : Int) ∧ (↑q.fst : Int) < (↑l.length : Int))) (by omega) (fun h3 => ?_) (fun h3 => ?_)
  ·skip
   exact v_back ((q.fst + 1, q.snd ++ [Pair.mk (l.getD (↑q.fst : Int).toNat (Pair.mk [] [])).key (l.getD (↑q.fst : Int).toNat (Pair.mk [] [])).value])) [12] ((0 ≤ (↑q.fst : Int) ∧ (↑q.fst : Int) < (↑l.length : Int)) ∧ (q.snd.length + 1 ≤ 1000000) ∧ (I64 (↑q.fst + 1)) ∧ ((↑q.fst : Int) + 1 = (↑(q.fst + 1) : Int)) ∧ (q.snd ++ [Pair.mk (l.getD (↑q.fst : Int).toNat (Pair.mk [] [])).key (l.getD (↑q.fst : Int).toNat (Pair.mk [] [])).value] = q.snd ++ [Pair.mk (l.getD (↑q.fst : Int).toNat (Pair.mk [] [])).key (l.getD (↑q.fst : Int).toNat (Pair.mk [] [])).value])) ⟨(by omega), (by omega), (by (unfold I64; omega)), rfl, rfl⟩ (show UI k v l (q.fst + 1, q.snd ++ [Pair.mk (l.getD (↑q.fst : Int).toNat (Pair.mk [] [])).key (l.getD (↑q.fst : Int).toNat (Pair.mk [] [])).value]) ∧ l.length - (q.fst + 1) < l.length - q.fst from (by exact UI.next (by assumption) (by assumption) (by assumption)))
  ·skip
   refine v_leave (.ex 0) True trivial ?_
   refine v_plan (.fs [0, 1, 2, 3, 4, 5, 6, 7, 8, 9, 10, 11, 12, 13, 14] .e) [8, 9] ((q.snd.length + 1 ≤ 1000000)) (by omega) ?_
   refine v_guard 43 (decide ((↑q.fst : Int) < (↑l.length : Int))) True trivial (fun h4 => ?_) (fun h4 => ?_)
   ·have h4 := of_decide_eq_true h4
    refine v_if (decide ((l.getD (↑q.fst : Int).toNat (Pair.mk [] [])).key = k)) ((0 ≤ (↑q.fst : Int) ∧ (↑q.fst : Int) < (↑l.length : Int))) (by omega) (fun h5 => ?_) (fun h5 => ?_)
    ·have h5 := of_decide_eq_true h5
     exact v_ret () [14] ((I64 (↑q.fst + 1)) ∧ (0 ≤ (↑q.fst : Int) + 1 ∧ (↑q.fst : Int) + 1 ≤ (↑l.length : Int)) ∧ ((q.snd ++ [Pair.mk k v]).length + (List.drop ((↑q.fst : Int) + 1).toNat l).length ≤ 1000000) ∧ (l = l) ∧ (k = k) ∧ (v = v) ∧ (q.snd ++ [Pair.mk k v] ++ List.drop ((↑q.fst : Int) + 1).toNat l = putPair k v l)) ⟨(by (unfold I64; omega)), (by omega), (by (simp; omega)), rfl, rfl, rfl, (by exact UI.end1 (by assumption) (by assumption) (by assumption) (by assumption))⟩ trivial
    ·have h5 := of_decide_eq_false h5
     exact v_ret () [14] ((0 ≤ (↑q.fst : Int) ∧ (↑q.fst : Int) ≤ (↑l.length : Int)) ∧ ((q.snd ++ [Pair.mk k v]).length + (List.drop (↑q.fst : Int).toNat l).length ≤ 1000000) ∧ (l = l) ∧ (k = k) ∧ (v = v) ∧ (q.snd ++ [Pair.mk k v] ++ List.drop (↑q.fst : Int).toNat l = putPair k v l)) ⟨(by omega), (by (simp; omega)), rfl, rfl, rfl, (by exact UI.end2 (by assumption) (by assumption) (by assumption) (by assumption))⟩ trivial
   ·have h4 := of_decide_eq_false h4
    omega
 ·have h2 := of_decide_eq_false h2
  refine v_leave (.ex 0) True trivial ?_
  refine v_plan (.fs [0, 1, 2, 3, 4, 5, 6, 7, 8, 9, 10, 11, 12, 13, 14] .e) [5, 6] ((q.snd.length + 1 ≤ 1000000)) (by omega) ?_
  refine v_guard 43 (decide ((↑q.fst : Int) < (↑l.length : Int))) True trivial (fun h6 => ?_) (fun h6 => ?_)
  ·have h6 := of_decide_eq_true h6
   omega
  ·have h6 := of_decide_eq_false h6
   exact v_ret () [8] ((0 ≤ (↑q.fst : Int) ∧ (↑q.fst : Int) ≤ (↑l.length : Int)) ∧ ((q.snd ++ [Pair.mk k v]).length + (List.drop (↑q.fst : Int).toNat l).length ≤ 1000000) ∧ (l = l) ∧ (k = k) ∧ (v = v) ∧ (q.snd ++ [Pair.mk k v] ++ List.drop (↑q.fst : Int).toNat l = putPair k v l)) ⟨(by omega), (by (simp; omega)), rfl, rfl, rfl, (by exact UI.end0 (by assumption) (by assumption))⟩ trivial
def TI5 (k : List UInt8) (l : List Pair) (q : Nat × List Pair) : Prop := q.2 ++ cutPair k (l.drop q.1) = cutPair k l ∧ q.1 ≤ l.length ∧ q.2.length ≤ q.1
theorem TI5.start {k : List UInt8} {l : List Pair} : TI5 k l (0, []) := ⟨rfl, Nat.zero_le _, Nat.le_refl _⟩
theorem TI5.next {k : List UInt8} {l xs : List Pair} {i : Nat} (h : TI5 k l (i, xs)) (hi : (i : Int) < l.length) (he : (l.getD i dP).key ≠ k) : TI5 k l (i + 1, xs ++ [l.getD i dP]) ∧ l.length - (i + 1) < l.length - i := by
  obtain ⟨h1, h2, h3⟩ := h
  have h1 : xs ++ cutPair k (l.drop i) = cutPair k l := h1
  have h3 : xs.length ≤ i := h3
  refine ⟨⟨?_, by omega, by simp; exact h3⟩, by omega⟩
  show (xs ++ [l.getD i dP]) ++ cutPair k (l.drop (i + 1)) = _
  rw [← h1, drop_cons (d := dP) hi]; simp only [cutPair, List.filter_cons]; rw [if_pos (by exact decide_eq_true he)]; simp
theorem TI5.skip {k : List UInt8} {l xs : List Pair} {i : Nat} (h : TI5 k l (i, xs)) (hi : (i : Int) < l.length) (he : ¬ (l.getD i dP).key ≠ k) : TI5 k l (i + 1, xs) ∧ l.length - (i + 1) < l.length - i := by
  obtain ⟨h1, h2, h3⟩ := h
  have h1 : xs ++ cutPair k (l.drop i) = cutPair k l := h1
  have h3 : xs.length ≤ i := h3
  refine ⟨⟨?_, by omega, by show xs.length ≤ i + 1; omega⟩, by omega⟩
  show xs ++ cutPair k (l.drop (i + 1)) = _
  rw [← h1, drop_cons (d := dP) hi]; simp only [cutPair, List.filter_cons]; rw [if_neg (by simpa using he)]
theorem TI5.stop {k : List UInt8} {l xs : List Pair} {i : Nat} (h : TI5 k l (i, xs)) (hi : ¬ (i : Int) < l.length) : xs = cutPair k l := by
  have h1 : xs ++ cutPair k (l.drop i) = cutPair k l := h.1
  rw [← h1, List.drop_of_length_le (by omega)]; simp [cutPair]
noncomputable def ccR11_66 : Code := (Tryd.f66.body).getD .skip
theorem CutPair_ok (l : List Pair) (k : List UInt8) (hl : l.length ≤ 100000) : FOk EN 66 ⟨[.rd 46 (l), .rd 5 (k)], [.n 0, .n 1], Unit, fun _ => ([.rd 46 (l), .rd 5 (k), .ow 46 (cutPair k l)], .n 2), fun _ => True⟩ := by
 refine v_fun Tryd.f66 ccR11_66 MX (fun ν F σ w => ?_) Tryd.func66
 refine v_nl ?_
 refine v_loop (fun q : Nat × List Pair => ([(6, .i q.1), (5, .n 3)], [.ow 46 q.2])) (fun q => TI5 k l q) (fun q => l.length - q.1) (0, []) [2] (((0 : Int) = (↑(0 : Nat) : Int)) ∧ (Eq (α := List Pair) [] [])) ⟨rfl, rfl⟩ (by exact TI5.start) (fun q hk1 => ?_)
 have i1 := (‹TI5 k l q›).2
 refine v_if (decide ((↑q.fst : Int) < (↑l.length : Int))) True trivial (fun h2 => ?_) (fun h2 => ?_)
 ·have h2 := of_decide_eq_true h2
  refine v_plan (.fs [0, 1, 2, 3, 4, 5, 6, 7, 8] .e) [3] True trivial ?_
  refine v_if (decide ((l.getD (↑q.fst : Int).toNat (Pair.mk [] [])).key ≠ k)) ((0 ≤ (↑q.fst : Int) ∧ (↑q.fst : Int) < (↑l.length : Int))) (by omega) (fun h3 => ?_) (fun h3 => ?_)
  ·have h3 := of_decide_eq_true h3
   exact v_back ((q.fst + 1, q.snd ++ [Pair.mk (l.getD (↑q.fst : Int).toNat (Pair.mk [] [])).key (l.getD (↑q.fst : Int).toNat (Pair.mk [] [])).value])) [11] ((0 ≤ (↑q.fst : Int) ∧ (↑q.fst : Int) < (↑l.length : Int)) ∧ (q.snd.length + 1 ≤ 1000000) ∧ (I64 (↑q.fst + 1)) ∧ ((↑q.fst : Int) + 1 = (↑(q.fst + 1) : Int)) ∧ (q.snd ++ [Pair.mk (l.getD (↑q.fst : Int).toNat (Pair.mk [] [])).key (l.getD (↑q.fst : Int).toNat (Pair.mk [] [])).value] = q.snd ++ [Pair.mk (l.getD (↑q.fst : Int).toNat (Pair.mk [] [])).key (l.getD (↑q.fst : Int).toNat (Pair.mk [] [])).value])) ⟨(by omega), (by omega), (by (unfold I64; omega)), rfl, rfl⟩ (show TI5 k l (q.fst + 1, q.snd ++ [Pair.mk (l.getD (↑q.fst : Int).toNat (Pair.mk [] [])).key (l.getD (↑q.fst : Int).toNat (Pair.mk [] [])).value]) ∧ l.length - (q.fst + 1) < l.length - q.fst from (by exact TI5.next (by assumption) (by assumption) (by assumption)))
  ·have h3 := of_decide_eq_false h3
   exact v_back ((q.fst + 1, q.snd)) [3] ((I64 (↑q.fst + 1)) ∧ ((↑q.fst : Int) + 1 = (↑(q.fst + 1) : Int)) ∧ (q.snd = q.snd)) ⟨(by (unfold I64; omega)), rfl, rfl⟩ (show TI5 k l (q.fst + 1, q.snd) ∧ l.length - (q.fst + 1) < l.length - q.fst from (by exact TI5.skip (by assumption) (by assumption) (by assumption)))
 ·have h2 := of_decide_eq_false h2
  refine v_leave (.ex 0) True trivial ?_
  exact v_ret () [3] ((l = l) ∧ (k = k) ∧ (q.snd = cutPair k l)) ⟨rfl, rfl, (by exact TI5.stop (by assumption) (by assumption))⟩ trivial
end Go.Proofs.YtnicmjipbnhciaaDoor.X
set_option linter.unusedVariables false
set_option linter.unusedSimpArgs false
set_option maxRecDepth 100000
namespace Go.Proofs.YtnicmjipbnhciaaDoor.X
open Go Go.RowKit Go.Proofs Go.Proofs.YtnicmjipbnhciaaDoor.E
def isGt (a b : List UInt8) : Bool := !(Op.bytesLess a b || decide (a = b))
def bsG (k : List UInt8) : List Pair → Nat → Int × Int → Int × Int
  | [], _, s => s
  | x :: xs, i, s => bsG k xs (i + 1) (if Op.bytesLess x.key k = true then (i : Int) else s.1, if isGt x.key k = true ∧ s.2 < 0 then (i : Int) else s.2)
def besideP (l : List Pair) (k : List UInt8) : Int × Int := bsG k l 0 (-1, -1)
def BI (l : List Pair) (k : List UInt8) (q : Nat × Int × Int) : Prop := bsG k (l.drop q.1) q.1 q.2 = besideP l k ∧ q.1 ≤ l.length
section
variable {l : List Pair} {k : List UInt8} {i : Nat} {a b : Int}
theorem BI.start : BI l k (0, -1, -1) := ⟨rfl, Nat.zero_le _⟩
theorem BI.next (h : BI l k (i, a, b)) (hi : (i : Int) < l.length) : BI l k (i + 1, (if Op.bytesLess (l.getD i dP).key k = true then (i : Int) else a), (if isGt (l.getD i dP).key k = true ∧ b < 0 then (i : Int) else b)) ∧ l.length - (i + 1) < l.length - i := by
  obtain ⟨h1, h2⟩ := h
  rw [drop_cons (d := dP) hi, bsG] at h1
  exact ⟨⟨h1, by omega⟩, by omega⟩
theorem BI.n1 (h : BI l k (i, a, b)) (hi : (i : Int) < l.length) (h1 : Op.bytesLess (l.getD i dP).key k = true) (h2 : isGt (l.getD i dP).key k = true) (h3 : b < 0) : BI l k (i + 1, (i : Int), (i : Int)) ∧ l.length - (i + 1) < l.length - i := by
  have := h.next hi; rwa [if_pos h1, if_pos ⟨h2, h3⟩] at this
theorem BI.n2 (h : BI l k (i, a, b)) (hi : (i : Int) < l.length) (h1 : Op.bytesLess (l.getD i dP).key k = true) (h2 : isGt (l.getD i dP).key k = false ∨ ¬ b < 0) : BI l k (i + 1, (i : Int), b) ∧ l.length - (i + 1) < l.length - i := by
  have := h.next hi; rwa [if_pos h1, if_neg (by rintro ⟨x, y⟩; rcases h2 with h2 | h2; rw [h2] at x; cases x; exact h2 y)] at this
theorem BI.n3 (h : BI l k (i, a, b)) (hi : (i : Int) < l.length) (h1 : Op.bytesLess (l.getD i dP).key k = false) (h2 : isGt (l.getD i dP).key k = true) (h3 : b < 0) : BI l k (i + 1, a, (i : Int)) ∧ l.length - (i + 1) < l.length - i := by
  have := h.next hi; rwa [if_neg (by rw [h1]; simp), if_pos ⟨h2, h3⟩] at this
theorem BI.n4 (h : BI l k (i, a, b)) (hi : (i : Int) < l.length) (h1 : Op.bytesLess (l.getD i dP).key k = false) (h2 : isGt (l.getD i dP).key k = false ∨ ¬ b < 0) : BI l k (i + 1, a, b) ∧ l.length - (i + 1) < l.length - i := by
  have := h.next hi; rwa [if_neg (by rw [h1]; simp), if_neg (by rintro ⟨x, y⟩; rcases h2 with h2 | h2; rw [h2] at x; cases x; exact h2 y)] at this
theorem BI.stop (h : BI l k (i, a, b)) (hi : ¬ (i : Int) < l.length) : a = (besideP l k).1 ∧ b = (besideP l k).2 := by
  have h1 := h.1; rw [List.drop_of_length_le (by omega), bsG] at h1; rw [← h1]; exact ⟨rfl, rfl⟩
end
end Go.Proofs.YtnicmjipbnhciaaDoor.X
set_option linter.unusedVariables false
set_option linter.unusedSimpArgs false
set_option maxRecDepth 100000
namespace Go.Proofs.YtnicmjipbnhciaaDoor.X
open Go Go.RowKit Go.Proofs Go.Proofs.YtnicmjipbnhciaaDoor.E
namespace Tr
theorem bal_depth (l r : Tr) : (l.bal r).depth = l.depth + r.depth + 1 := by
  unfold bal
  split
  · cases l with
    | leaf a b => rfl
    | node a b =>
      dsimp only
      split
      · cases b with
        | leaf c d => rfl
        | node c d => simp only [depth]; omega
      · simp only [depth]; omega
  · split
    · cases r with
      | leaf a b => rfl
      | node a b =>
        dsimp only
        split
        · cases a with
          | leaf c d => rfl
          | node c d => simp only [depth]; omega
        · simp only [depth]; omega
    · rfl
theorem put_depth (k v : List UInt8) : ∀ t : Tr, (t.put k v).depth ≤ t.depth + 1
  | leaf a b => by unfold put; split; simp [depth]; split; simp [depth]; simp [depth]
  | node l r => by
    have h1 := put_depth k v l; have h2 := put_depth k v r
    unfold put; split <;> rw [bal_depth] <;> simp only [depth] <;> omega
theorem cut_depth {k : List UInt8} : ∀ {t t' : Tr}, t.cut k = some (some t') → t'.depth ≤ t.depth
  | leaf a b, t', e => by unfold cut at e; split at e <;> simp at e
  | node l r, t', e => by
    unfold cut at e
    split at e
    · split at e
      · simp at e
      · simp at e; subst e; simp only [depth]; omega
      · rename_i l' hl; simp at e; subst e; rw [bal_depth]; have := cut_depth hl; simp only [depth]; omega
    · split at e
      · simp at e
      · simp at e; subst e; simp only [depth]; omega
      · rename_i r' hr; simp at e; subst e; rw [bal_depth]; have := cut_depth hr; simp only [depth]; omega
theorem height_depth : ∀ t : Tr, t.height ≤ t.depth
  | leaf _ _ => Int.le_refl _
  | node l r => by have h1 := height_depth l; have h2 := height_depth r; simp only [height, depth]; omega
theorem leaves_len : ∀ t : Tr, t.leaves.length = t.depth + 1
  | leaf _ _ => rfl
  | node l r => by simp [leaves, leaves_len l, leaves_len r, depth]; omega
end Tr
/-- A tree of at most n keys, none too long. -/
def okN (n : Nat) (o : Option Tr) : Prop := ∀ t, o = some t → t.Ks ∧ t.depth + 1 ≤ n
theorem okN.O {n : Nat} {o : Option Tr} (h : okN n o) (hn : n ≤ 600) : okO o := fun t e => by
  obtain ⟨h1, h2⟩ := h t e
  have := t.height_depth
  exact ⟨h1, by omega, by omega⟩
theorem okN.leaves {n : Nat} {o : Option Tr} (h : okN n o) : (leavesO o).length ≤ n := by
  cases o with
  | none => exact Nat.zero_le _
  | some t => obtain ⟨_, h2⟩ := h t rfl; show t.leaves.length ≤ n; rw [t.leaves_len]; exact h2
theorem okN.put {n : Nat} {o : Option Tr} {k v : List UInt8} (h : okN n o) (hk : k.length ≤ 1000) (hv : v.length ≤ 1000) : okN (n + 1) (putO k v o) := fun t e => by
  cases o with
  | none => injection e with e; subst e; exact ⟨⟨hk, hv⟩, by simp [Tr.depth]⟩
  | some s =>
    injection e with e; subst e
    obtain ⟨h1, h2⟩ := h s rfl
    have := s.put_depth k v
    exact ⟨Tr.put_Ks ⟨hk, hv⟩ h1, by omega⟩
theorem okN.cut {n : Nat} {o : Option Tr} {k : List UInt8} (h : okN n o) : okN (n + 1) (cutO k o) := fun t e => by
  cases o with
  | none => simp [cutO] at e
  | some s =>
    obtain ⟨h1, h2⟩ := h s rfl
    have e : (match s.cut k with | none => some s | some r => r) = some t := e
    cases c : s.cut k with
    | none => rw [c] at e; injection e with e; subst e; exact ⟨h1, by omega⟩
    | some r => rw [c] at e; have e : r = some t := e; subst e; exact ⟨Tr.cut_Ks h1 c, by have := Tr.cut_depth c; omega⟩
theorem putPair_len (k v : List UInt8) : ∀ l : List Pair, (putPair k v l).length ≤ l.length + 1
  | [] => Nat.le_refl _
  | x :: xs => by have := putPair_len k v xs; unfold putPair; split; simpa using this; split <;> simp
def valA (a : Act) : List UInt8 := a.value.take (if 100 < (a.value.length : Int) then 100 else (a.value.length : Int)).toNat
def stepA (a : Act) (s : Option Tr × List Pair) : Option Tr × List Pair :=
  if a.kind % 6 < 4 then (putO (keyA a) (valA a) s.1, putPair (keyA a) (valA a) s.2) else (cutO (keyA a) s.1, cutPair (keyA a) s.2)
def growG : Nat → List Act → Option Tr × List Pair → Option Tr × List Pair
  | 0, _, s => s
  | _, [], s => s
  | n + 1, a :: l, s => if 90 < (keyA a).length then s else growG n l (stepA a s)
def growT (acts : List Act) (most : Nat) : Option Tr × List Pair := growG most acts (none, [])
abbrev dA : Act := ⟨0, 0, [], []⟩
def GrI (acts : List Act) (m : Nat) (q : Nat × Option Tr × List Pair) : Prop := growG (m - q.1) (acts.drop q.1) q.2 = growT acts m ∧ q.1 ≤ m ∧ q.1 ≤ acts.length ∧ okN q.1 q.2.1 ∧ q.2.2.length ≤ q.1
theorem keyA_pos (a : Act) : 1 ≤ (keyA a).length := by unfold keyA; split; assumption; simp
theorem valA_len (a : Act) : (valA a).length ≤ 100 := by unfold valA; rw [List.length_take]; split <;> omega
section
variable {acts : List Act} {m i : Nat} {o : Option Tr} {l : List Pair}
theorem GrI.start : GrI acts m (0, none, []) := ⟨rfl, Nat.zero_le _, Nat.zero_le _, fun t e => by simp at e, Nat.le_refl _⟩
theorem GrI.stop1 (h : GrI acts m (i, o, l)) (hi : ¬ (i : Int) < acts.length) : growT acts m = (o, l) := by
  have h := h.1; rw [List.drop_of_length_le (by omega)] at h; rw [← h]; cases (m - i) <;> rfl
theorem GrI.stop2 (h : GrI acts m (i, o, l)) (hi : (m : Int) ≤ i) : growT acts m = (o, l) := by
  have h := h.1; rw [show m - i = 0 by omega] at h; rw [← h]; rfl
theorem GrI.stop3 (h : GrI acts m (i, o, l)) (hi : (i : Int) < acts.length) (hm : ¬ (m : Int) ≤ i) (hk : 90 < ((keyA (acts.getD i dA)).length : Int)) : growT acts m = (o, l) := by
  have h := h.1; rw [show m - i = (m - i - 1) + 1 by omega, drop_cons (d := dA) hi, growG, if_pos (by omega)] at h; rw [← h]
theorem GrI.next (h : GrI acts m (i, o, l)) (hi : (i : Int) < acts.length) (hm : ¬ (m : Int) ≤ i) (hk : ¬ 90 < ((keyA (acts.getD i dA)).length : Int)) : growG (m - (i + 1)) (acts.drop (i + 1)) (stepA (acts.getD i dA) (o, l)) = growT acts m := by
  have h := h.1; rw [show m - i = (m - i - 1) + 1 by omega, drop_cons (d := dA) hi, growG, if_neg (by omega)] at h
  rw [← h, show m - (i + 1) = m - i - 1 by omega]
theorem GrI.put (h : GrI acts m (i, o, l)) (hi : (i : Int) < acts.length) (hm : ¬ (m : Int) ≤ i) (hk : ¬ 90 < ((keyA (acts.getD i dA)).length : Int)) (h6 : (acts.getD i dA).kind % 6 < 4) : GrI acts m (i + 1, putO (keyA (acts.getD i dA)) (valA (acts.getD i dA)) o, putPair (keyA (acts.getD i dA)) (valA (acts.getD i dA)) l) ∧ acts.length - (i + 1) < acts.length - i := by
  have hn := h.next hi hm hk
  obtain ⟨a1, a2, a3, a4, a5⟩ := h
  rw [stepA, if_pos h6] at hn
  have a5 : l.length ≤ i := a5
  have := putPair_len (keyA (acts.getD i dA)) (valA (acts.getD i dA)) l
  refine ⟨⟨hn, by show i + 1 ≤ m; omega, by show i + 1 ≤ acts.length; omega, okN.put a4 (by omega) (by have := valA_len (acts.getD i dA); omega), by show (putPair _ _ l).length ≤ i + 1; omega⟩, by omega⟩
theorem GrI.cut (h : GrI acts m (i, o, l)) (hi : (i : Int) < acts.length) (hm : ¬ (m : Int) ≤ i) (hk : ¬ 90 < ((keyA (acts.getD i dA)).length : Int)) (h6 : ¬ (acts.getD i dA).kind % 6 < 4) : GrI acts m (i + 1, cutO (keyA (acts.getD i dA)) o, cutPair (keyA (acts.getD i dA)) l) ∧ acts.length - (i + 1) < acts.length - i := by
  have hn := h.next hi hm hk
  obtain ⟨a1, a2, a3, a4, a5⟩ := h
  rw [stepA, if_neg h6] at hn
  have a5 : l.length ≤ i := a5
  have : (cutPair (keyA (acts.getD i dA)) l).length ≤ l.length := List.length_filter_le ..
  refine ⟨⟨hn, by show i + 1 ≤ m; omega, by show i + 1 ≤ acts.length; omega, okN.cut a4, by show (cutPair _ l).length ≤ i + 1; omega⟩, by omega⟩
end
noncomputable def ccR13_21 : Code := (Tryd.f21.body).getD .skip
theorem Grow_ok (acts : List Act) (m : Nat) (hm : m ≤ 100) : FOk EN 21 ⟨[.pr wordsP, .rd 133 acts], [.n 1, .i m], Unit, fun _ => ([.pr wordsP, .rd 133 acts, .pn (PTO (growT acts m).1) false false, .ow 46 ((growT acts m).2)], .t [.p 2 0, .n 3]), fun _ => True⟩ := by
 refine v_fun Tryd.f21 ccR13_21 MX (fun ν F σ w => ?_) Tryd.func21
 refine v_nl ?_
 refine v_call _ [0] (new_ok) ((wordsP = wordsP)) rfl (fun g1 p2 => ?_)
 have p2 : True := p2
 refine v_loop (fun q : Nat × Option Tr × List Pair => ([(15, .i q.1), (6, .p 4 0), (7, .n 5)], [.pn (PTO q.2.1) false false, .ow 46 q.2.2])) (fun q => GrI acts m q) (fun q => acts.length - q.1) (0, none, []) [3, 2] (((0 : Int) = (↑(0 : Nat) : Int)) ∧ (PTO none = PTO none) ∧ (false = false) ∧ (Eq (α := List Pair) [] [])) ⟨rfl, rfl, rfl, rfl⟩ (by exact GrI.start) (fun q hk3 => ?_)
 have i1 := (‹GrI acts m q›).2
 refine v_if (decide ((↑q.fst : Int) < (↑acts.length : Int))) True trivial (fun h4 => ?_) (fun h4 => ?_)
 ·have h4 := of_decide_eq_true h4
  refine v_plan (.fs [0, 2, 3, 4, 5, 6, 7, 8] (.o 1 (.fs [9, 10] .e))) [5, 9] ((0 ≤ (↑q.fst : Int) ∧ (↑q.fst : Int) < (↑acts.length : Int))) (by omega) ?_
  refine v_call _ [6, 7] (Key_ok (acts.getD (↑q.fst : Int).toNat (Act.mk 0 0 [] []))) (((0 ≤ if 100 < (↑(acts.getD (↑q.fst : Int).toNat (Act.mk 0 0 [] [])).value.length : Int) then 100 else (↑(acts.getD (↑q.fst : Int).toNat (Act.mk 0 0 [] [])).value.length : Int)) ∧ (if 100 < (↑(acts.getD (↑q.fst : Int).toNat (Act.mk 0 0 [] [])).value.length : Int) then 100 else (↑(acts.getD (↑q.fst : Int).toNat (Act.mk 0 0 [] [])).value.length : Int)) ≤ (↑(acts.getD (↑q.fst : Int).toNat (Act.mk 0 0 [] [])).value.length : Int)) ∧ ((acts.getD (↑q.fst : Int).toNat (Act.mk 0 0 [] [])).kind = (acts.getD (↑q.fst : Int).toNat (Act.mk 0 0 [] [])).kind) ∧ ((acts.getD (↑q.fst : Int).toNat (Act.mk 0 0 [] [])).k = (acts.getD (↑q.fst : Int).toNat (Act.mk 0 0 [] [])).k) ∧ ((acts.getD (↑q.fst : Int).toNat (Act.mk 0 0 [] [])).raw = (acts.getD (↑q.fst : Int).toNat (Act.mk 0 0 [] [])).raw) ∧ ((acts.getD (↑q.fst : Int).toNat (Act.mk 0 0 [] [])).value = (acts.getD (↑q.fst : Int).toNat (Act.mk 0 0 [] [])).value)) ⟨(by omega), rfl, rfl, rfl, rfl⟩ (fun g5 p6 => ?_)
  have p6 : True := p6
  refine v_guard 32 (decide ((↑m : Int) ≤ (↑q.fst : Int))) True trivial (fun h7 => ?_) (fun h7 => ?_)
  ·have h7 := of_decide_eq_true h7
   refine v_leave (.ex 0) True trivial ?_
   exact v_ret () [4, 5] ((wordsP = wordsP) ∧ (acts = acts) ∧ (PTO q.snd.fst = PTO (growT acts m).fst) ∧ (false = false) ∧ (q.snd.snd = (growT acts m).snd)) ⟨rfl, rfl, (by (rw [GrI.stop2 (by assumption) (by assumption)])), rfl, (by (rw [GrI.stop2 (by assumption) (by assumption)]))⟩ trivial
  ·have h7 := of_decide_eq_false h7
   refine v_if (decide (90 < (↑(keyA (acts.getD (↑q.fst : Int).toNat (Act.mk 0 0 [] []))).length : Int))) True trivial (fun h8 => ?_) (fun h8 => ?_)
   ·have h8 := of_decide_eq_true h8
    refine v_leave (.ex 0) True trivial ?_
    exact v_ret () [4, 5] ((wordsP = wordsP) ∧ (acts = acts) ∧ (PTO q.snd.fst = PTO (growT acts m).fst) ∧ (false = false) ∧ (q.snd.snd = (growT acts m).snd)) ⟨rfl, rfl, (by (rw [GrI.stop3 (by assumption) (by assumption) (by assumption) (by assumption)])), rfl, (by (rw [GrI.stop3 (by assumption) (by assumption) (by assumption) (by assumption)]))⟩ trivial
   ·have h8 := of_decide_eq_false h8
    refine v_if (decide ((acts.getD (↑q.fst : Int).toNat (Act.mk 0 0 [] [])).kind % 6 < 4)) (((6 : UInt8) ≠ (0 : UInt8))) (by decide) (fun h9 => ?_) (fun h9 => ?_)
    ·have h9 := of_decide_eq_true h9
     refine v_call _ [0, 11, 10, 4] (Put_ok (q.snd.fst) (keyA (acts.getD (↑q.fst : Int).toNat (Act.mk 0 0 [] []))) (List.take (if 100 < (↑(acts.getD (↑q.fst : Int).toNat (Act.mk 0 0 [] [])).value.length : Int) then 100 else (↑(acts.getD (↑q.fst : Int).toNat (Act.mk 0 0 [] [])).value.length : Int)).toNat (acts.getD (↑q.fst : Int).toNat (Act.mk 0 0 [] [])).value) (by exact i1.2.2.1.O (by omega)) (by exact ⟨keyA_pos _, by omega⟩) (by (simp; omega))) ((wordsP = wordsP) ∧ (keyA (acts.getD (↑q.fst : Int).toNat (Act.mk 0 0 [] [])) = keyA (acts.getD (↑q.fst : Int).toNat (Act.mk 0 0 [] []))) ∧ (List.take (if 100 < (↑(acts.getD (↑q.fst : Int).toNat (Act.mk 0 0 [] [])).value.length : Int) then 100 else (↑(acts.getD (↑q.fst : Int).toNat (Act.mk 0 0 [] [])).value.length : Int)).toNat (acts.getD (↑q.fst : Int).toNat (Act.mk 0 0 [] [])).value = List.take (if 100 < (↑(acts.getD (↑q.fst : Int).toNat (Act.mk 0 0 [] [])).value.length : Int) then 100 else (↑(acts.getD (↑q.fst : Int).toNat (Act.mk 0 0 [] [])).value.length : Int)).toNat (acts.getD (↑q.fst : Int).toNat (Act.mk 0 0 [] [])).value) ∧ (PTO q.snd.fst = PTO q.snd.fst) ∧ (false = false)) ⟨rfl, rfl, rfl, rfl, rfl⟩ (fun g10 p11 => ?_)
     have p11 : True := p11
     refine v_call _ [5, 11, 10] (PutPair_ok (q.snd.snd) (keyA (acts.getD (↑q.fst : Int).toNat (Act.mk 0 0 [] []))) (List.take (if 100 < (↑(acts.getD (↑q.fst : Int).toNat (Act.mk 0 0 [] [])).value.length : Int) then 100 else (↑(acts.getD (↑q.fst : Int).toNat (Act.mk 0 0 [] [])).value.length : Int)).toNat (acts.getD (↑q.fst : Int).toNat (Act.mk 0 0 [] [])).value) (by omega)) ((q.snd.snd = q.snd.snd) ∧ (keyA (acts.getD (↑q.fst : Int).toNat (Act.mk 0 0 [] [])) = keyA (acts.getD (↑q.fst : Int).toNat (Act.mk 0 0 [] []))) ∧ (List.take (if 100 < (↑(acts.getD (↑q.fst : Int).toNat (Act.mk 0 0 [] [])).value.length : Int) then 100 else (↑(acts.getD (↑q.fst : Int).toNat (Act.mk 0 0 [] [])).value.length : Int)).toNat (acts.getD (↑q.fst : Int).toNat (Act.mk 0 0 [] [])).value = List.take (if 100 < (↑(acts.getD (↑q.fst : Int).toNat (Act.mk 0 0 [] [])).value.length : Int) then 100 else (↑(acts.getD (↑q.fst : Int).toNat (Act.mk 0 0 [] [])).value.length : Int)).toNat (acts.getD (↑q.fst : Int).toNat (Act.mk 0 0 [] [])).value)) ⟨rfl, rfl, rfl⟩ (fun g12 p13 => ?_)
     have p13 : True := p13
     exact v_back ((q.fst + 1, putO (keyA (acts.getD (↑q.fst : Int).toNat (Act.mk 0 0 [] []))) (List.take (if 100 < (↑(acts.getD (↑q.fst : Int).toNat (Act.mk 0 0 [] [])).value.length : Int) then 100 else (↑(acts.getD (↑q.fst : Int).toNat (Act.mk 0 0 [] [])).value.length : Int)).toNat (acts.getD (↑q.fst : Int).toNat (Act.mk 0 0 [] [])).value) q.snd.fst, putPair (keyA (acts.getD (↑q.fst : Int).toNat (Act.mk 0 0 [] []))) (List.take (if 100 < (↑(acts.getD (↑q.fst : Int).toNat (Act.mk 0 0 [] [])).value.length : Int) then 100 else (↑(acts.getD (↑q.fst : Int).toNat (Act.mk 0 0 [] [])).value.length : Int)).toNat (acts.getD (↑q.fst : Int).toNat (Act.mk 0 0 [] [])).value) q.snd.snd)) [12, 13] ((I64 (↑q.fst + 1)) ∧ ((↑q.fst : Int) + 1 = (↑(q.fst + 1) : Int)) ∧ (PTO (putO (keyA (acts.getD (↑q.fst : Int).toNat (Act.mk 0 0 [] []))) (List.take (if 100 < (↑(acts.getD (↑q.fst : Int).toNat (Act.mk 0 0 [] [])).value.length : Int) then 100 else (↑(acts.getD (↑q.fst : Int).toNat (Act.mk 0 0 [] [])).value.length : Int)).toNat (acts.getD (↑q.fst : Int).toNat (Act.mk 0 0 [] [])).value) q.snd.fst) = PTO (putO (keyA (acts.getD (↑q.fst : Int).toNat (Act.mk 0 0 [] []))) (List.take (if 100 < (↑(acts.getD (↑q.fst : Int).toNat (Act.mk 0 0 [] [])).value.length : Int) then 100 else (↑(acts.getD (↑q.fst : Int).toNat (Act.mk 0 0 [] [])).value.length : Int)).toNat (acts.getD (↑q.fst : Int).toNat (Act.mk 0 0 [] [])).value) q.snd.fst)) ∧ (false = false) ∧ (putPair (keyA (acts.getD (↑q.fst : Int).toNat (Act.mk 0 0 [] []))) (List.take (if 100 < (↑(acts.getD (↑q.fst : Int).toNat (Act.mk 0 0 [] [])).value.length : Int) then 100 else (↑(acts.getD (↑q.fst : Int).toNat (Act.mk 0 0 [] [])).value.length : Int)).toNat (acts.getD (↑q.fst : Int).toNat (Act.mk 0 0 [] [])).value) q.snd.snd = putPair (keyA (acts.getD (↑q.fst : Int).toNat (Act.mk 0 0 [] []))) (List.take (if 100 < (↑(acts.getD (↑q.fst : Int).toNat (Act.mk 0 0 [] [])).value.length : Int) then 100 else (↑(acts.getD (↑q.fst : Int).toNat (Act.mk 0 0 [] [])).value.length : Int)).toNat (acts.getD (↑q.fst : Int).toNat (Act.mk 0 0 [] [])).value) q.snd.snd)) ⟨(by (unfold I64; omega)), rfl, rfl, rfl, rfl⟩ (show GrI acts m (q.fst + 1, putO (keyA (acts.getD (↑q.fst : Int).toNat (Act.mk 0 0 [] []))) (List.take (if 100 < (↑(acts.getD (↑q.fst : Int).toNat (Act.mk 0 0 [] [])).value.length : Int) then 100 else (↑(acts.getD (↑q.fst : Int).toNat (Act.mk 0 0 [] [])).value.length : Int)).toNat (acts.getD (↑q.fst : Int).toNat (Act.mk 0 0 [] [])).value) q.snd.fst, putPair (keyA (acts.getD (↑q.fst : Int).toNat (Act.mk 0 0 [] []))) (List.take (if 100 < (↑(acts.getD (↑q.fst : Int).toNat (Act.mk 0 0 [] [])).value.length : Int) then 100 else (↑(acts.getD (↑q.fst : Int).toNat (Act.mk 0 0 [] [])).value.length : Int)).toNat (acts.getD (↑q.fst : Int).toNat (Act.mk 0 0 [] [])).value) q.snd.snd) ∧ acts.length - (q.fst + 1) < acts.length - q.fst from (by exact GrI.put (by assumption) (by assumption) (by assumption) (by assumption) (by assumption)))
    ·have h9 := of_decide_eq_false h9
     refine v_call _ [0, 11, 4] (Cut_ok (q.snd.fst) (keyA (acts.getD (↑q.fst : Int).toNat (Act.mk 0 0 [] []))) (by exact i1.2.2.1.O (by omega))) ((wordsP = wordsP) ∧ (keyA (acts.getD (↑q.fst : Int).toNat (Act.mk 0 0 [] [])) = keyA (acts.getD (↑q.fst : Int).toNat (Act.mk 0 0 [] []))) ∧ (PTO q.snd.fst = PTO q.snd.fst) ∧ (false = false)) ⟨rfl, rfl, rfl, rfl⟩ (fun g14 p15 => ?_)
     have p15 : True := p15
     refine v_call _ [5, 11] (CutPair_ok (q.snd.snd) (keyA (acts.getD (↑q.fst : Int).toNat (Act.mk 0 0 [] []))) (by omega)) ((q.snd.snd = q.snd.snd) ∧ (keyA (acts.getD (↑q.fst : Int).toNat (Act.mk 0 0 [] [])) = keyA (acts.getD (↑q.fst : Int).toNat (Act.mk 0 0 [] [])))) ⟨rfl, rfl⟩ (fun g16 p17 => ?_)
     have p17 : True := p17
     exact v_back ((q.fst + 1, cutO (keyA (acts.getD (↑q.fst : Int).toNat (Act.mk 0 0 [] []))) q.snd.fst, cutPair (keyA (acts.getD (↑q.fst : Int).toNat (Act.mk 0 0 [] []))) q.snd.snd)) [12, 13] ((I64 (↑q.fst + 1)) ∧ ((↑q.fst : Int) + 1 = (↑(q.fst + 1) : Int)) ∧ (PTO (cutO (keyA (acts.getD (↑q.fst : Int).toNat (Act.mk 0 0 [] []))) q.snd.fst) = PTO (cutO (keyA (acts.getD (↑q.fst : Int).toNat (Act.mk 0 0 [] []))) q.snd.fst)) ∧ (false = false) ∧ (cutPair (keyA (acts.getD (↑q.fst : Int).toNat (Act.mk 0 0 [] []))) q.snd.snd = cutPair (keyA (acts.getD (↑q.fst : Int).toNat (Act.mk 0 0 [] []))) q.snd.snd)) ⟨(by (unfold I64; omega)), rfl, rfl, rfl, rfl⟩ (show GrI acts m (q.fst + 1, cutO (keyA (acts.getD (↑q.fst : Int).toNat (Act.mk 0 0 [] []))) q.snd.fst, cutPair (keyA (acts.getD (↑q.fst : Int).toNat (Act.mk 0 0 [] []))) q.snd.snd) ∧ acts.length - (q.fst + 1) < acts.length - q.fst from (by exact GrI.cut (by assumption) (by assumption) (by assumption) (by assumption) (by assumption)))
 ·have h4 := of_decide_eq_false h4
  refine v_leave (.ex 0) True trivial ?_
  exact v_ret () [4, 5] ((wordsP = wordsP) ∧ (acts = acts) ∧ (PTO q.snd.fst = PTO (growT acts m).fst) ∧ (false = false) ∧ (q.snd.snd = (growT acts m).snd)) ⟨rfl, rfl, (by (rw [GrI.stop1 (by assumption) (by assumption)])), rfl, (by (rw [GrI.stop1 (by assumption) (by assumption)]))⟩ trivial
end Go.Proofs.YtnicmjipbnhciaaDoor.X
set_option linter.unusedVariables false
set_option linter.unusedSimpArgs false
set_option maxRecDepth 100000
namespace Go.Proofs.YtnicmjipbnhciaaDoor.X
open Go Go.RowKit Go.Proofs Go.Proofs.YtnicmjipbnhciaaDoor.E
abbrev klt (a b : List UInt8) : Prop := Lib.compareBytes a b < 0
theorem cmp_anti : ∀ a b : List UInt8, Lib.compareBytes b a = - Lib.compareBytes a b
  | [], [] => rfl
  | [], _ :: _ => rfl
  | _ :: _, [] => rfl
  | a :: xs, b :: ys => by
    unfold Lib.compareBytes
    by_cases h1 : a < b
    · have h2 : ¬ b < a := fun h => absurd (UInt8.lt_trans h1 h) (UInt8.lt_irrefl _)
      simp [h1, h2]
    · by_cases h2 : b < a
      · simp [h1, h2]
      · simp only [if_neg h1, if_neg h2]; exact cmp_anti xs ys
theorem klt_trans : ∀ {a b c : List UInt8}, klt a b → klt b c → klt a c
  | [], [], _, h, _ => by simp [klt, Lib.compareBytes] at h
  | [], _ :: _, [], _, h => by simp [klt, Lib.compareBytes] at h
  | [], _ :: _, _ :: _, _, _ => by simp [klt, Lib.compareBytes]
  | _ :: _, [], _, h, _ => by simp [klt, Lib.compareBytes] at h
  | _ :: _, _ :: _, [], _, h => by simp [klt, Lib.compareBytes] at h
  | a :: xs, b :: ys, c :: zs, h1, h2 => by
    unfold klt at h1 h2 ⊢
    unfold Lib.compareBytes at h1 h2 ⊢
    by_cases p : a < b
    · by_cases q : b < c
      · rw [if_pos (UInt8.lt_trans p q)]; decide
      · rw [if_neg q] at h2
        by_cases q2 : c < b
        · rw [if_pos q2] at h2; exact absurd h2 (by decide)
        · have : b = c := UInt8.le_antisymm (UInt8.not_lt.1 q2) (UInt8.not_lt.1 q)
          subst this; rw [if_pos p]; decide
    · rw [if_neg p] at h1
      by_cases p2 : b < a
      · rw [if_pos p2] at h1; exact absurd h1 (by decide)
      · have : a = b := UInt8.le_antisymm (UInt8.not_lt.1 p2) (UInt8.not_lt.1 p)
        subst this
        rw [if_neg p2] at h1
        by_cases q : a < c
        · rw [if_pos q]; decide
        · rw [if_neg q] at h2 ⊢
          by_cases q2 : c < a
          · rw [if_pos q2] at h2; exact absurd h2 (by decide)
          · rw [if_neg q2] at h2 ⊢; exact klt_trans h1 h2
theorem klt_irr (a : List UInt8) : ¬ klt a a := by have := cmp_anti a a; unfold klt; omega
theorem kge {a b : List UInt8} (h : ¬ klt a b) : a = b ∨ klt b a := by
  have := cmp_anti a b
  unfold klt at *
  by_cases e : Lib.compareBytes a b = 0
  · exact .inl (cmp_zero.1 e)
  · exact .inr (by omega)
def Srt (l : List Pair) : Prop := l.Pairwise fun p q => klt p.key q.key
namespace Tr
theorem leaves_ne : ∀ t : Tr, ∃ v l, t.leaves = ⟨t.least, v⟩ :: l
  | leaf k v => ⟨v, [], rfl⟩
  | node l r => by
    obtain ⟨v, x, e⟩ := leaves_ne l
    exact ⟨v, x ++ r.leaves, by simp [leaves, e, least]⟩
theorem bal_leaves (l r : Tr) : (l.bal r).leaves = l.leaves ++ r.leaves := by
  unfold bal
  split
  · cases l with
    | leaf a b => rfl
    | node a b =>
      dsimp only
      split
      · cases b with
        | leaf c d => rfl
        | node c d => simp [leaves]
      · simp [leaves]
  · split
    · cases r with
      | leaf a b => rfl
      | node a b =>
        dsimp only
        split
        · cases a with
          | leaf c d => rfl
          | node c d => simp [leaves]
        · simp [leaves]
    · rfl
/-- where a key belongs -/
theorem left_of {l r : Tr} (h : Srt (node l r).leaves) {p : Pair} (hp : p ∈ l.leaves) : klt p.key r.least := by
  obtain ⟨v, x, e⟩ := leaves_ne r
  have := (List.pairwise_append.1 h).2.2 p hp ⟨r.least, v⟩ (by rw [e]; exact List.mem_cons_self ..)
  exact this
theorem right_of {r : Tr} (h : Srt r.leaves) {p : Pair} (hp : p ∈ r.leaves) : ¬ klt p.key r.least := by
  obtain ⟨v, x, e⟩ := leaves_ne r
  rw [e] at h hp
  rcases List.mem_cons.1 hp with rfl | hp
  · exact klt_irr _
  · have := (List.pairwise_cons.1 h).1 p hp
    exact fun q => klt_irr _ (klt_trans this q)
end Tr
theorem less_klt {a b : List UInt8} : Op.bytesLess a b = true ↔ klt a b := by rw [less_cmp]; simp
theorem putPair_left (k v : List UInt8) : ∀ (l r : List Pair), (∀ p ∈ r, ¬ klt p.key k ∧ p.key ≠ k) → putPair k v (l ++ r) = putPair k v l ++ r
  | [], r, h => by
    cases r with
    | nil => rfl
    | cons x r =>
      have h1 := h x (List.mem_cons_self ..)
      show (if Op.bytesLess x.key k = true then _ else _) = _
      rw [if_neg (fun q => h1.1 (less_klt.1 q)), if_neg h1.2]; rfl
  | x :: l, r, h => by
    show (if Op.bytesLess x.key k = true then _ else _) = (if Op.bytesLess x.key k = true then _ else _) ++ r
    split
    · show x :: putPair k v (l ++ r) = x :: (putPair k v l ++ r)
      rw [putPair_left k v l r h]
    · split <;> simp
theorem putPair_right (k v : List UInt8) : ∀ (l r : List Pair), (∀ p ∈ l, klt p.key k) → putPair k v (l ++ r) = l ++ putPair k v r
  | [], r, h => rfl
  | x :: l, r, h => by
    show (if Op.bytesLess x.key k = true then _ else _) = _
    rw [if_pos (less_klt.2 (h x (List.mem_cons_self ..)))]
    show x :: putPair k v (l ++ r) = x :: (l ++ putPair k v r)
    rw [putPair_right k v l r (fun p hp => h p (List.mem_cons_of_mem _ hp))]
theorem mem_putPair {k v : List UInt8} : ∀ {l : List Pair} {p : Pair}, p ∈ putPair k v l → p = ⟨k, v⟩ ∨ p ∈ l
  | [], p, h => .inl (by simpa [putPair] using h)
  | x :: l, p, h => by
    unfold putPair at h
    split at h
    · rcases List.mem_cons.1 h with rfl | h
      · exact .inr (List.mem_cons_self ..)
      · rcases mem_putPair h with h | h
        · exact .inl h
        · exact .inr (List.mem_cons_of_mem _ h)
    · split at h
      · rcases List.mem_cons.1 h with h | h
        · exact .inl h
        · exact .inr (List.mem_cons_of_mem _ h)
      · rcases List.mem_cons.1 h with h | h
        · exact .inl h
        · exact .inr h
theorem Srt.put {k v : List UInt8} : ∀ {l : List Pair}, Srt l → Srt (putPair k v l)
  | [], h => List.pairwise_singleton ..
  | x :: l, h => by
    obtain ⟨h1, h2⟩ := List.pairwise_cons.1 h
    unfold putPair
    split
    · rename_i q
      have q := less_klt.1 q
      refine List.pairwise_cons.2 ⟨fun p hp => ?_, Srt.put h2⟩
      rcases mem_putPair hp with rfl | hp
      · exact q
      · exact h1 p hp
    · rename_i q
      have q : ¬ klt x.key k := fun e => q (less_klt.2 e)
      split
      · rename_i e
        exact List.pairwise_cons.2 ⟨fun p hp => by have := h1 p hp; rw [e] at this; exact this, h2⟩
      · rename_i e
        have hx : klt k x.key := (kge q).resolve_left e
        exact List.pairwise_cons.2 ⟨fun p hp => by
          rcases List.mem_cons.1 hp with rfl | hp
          · exact hx
          · exact klt_trans hx (h1 p hp), h⟩
theorem Srt.cut {k : List UInt8} {l : List Pair} (h : Srt l) : Srt (cutPair k l) := List.Pairwise.sublist List.filter_sublist h
namespace Tr
theorem put_leaves (k v : List UInt8) : ∀ t : Tr, Srt t.leaves → (t.put k v).leaves = putPair k v t.leaves
  | leaf a b, _ => by
    unfold put
    show _ = (if Op.bytesLess a k = true then _ else _)
    have := cmp_anti k a
    by_cases h1 : Lib.compareBytes k a < 0
    · rw [if_pos h1, if_neg (fun q => by have := less_t q; omega), if_neg (fun e => by subst e; exact klt_irr _ h1)]; rfl
    · rw [if_neg h1]
      by_cases h2 : 0 < Lib.compareBytes k a
      · rw [if_pos h2, if_pos (less_klt.2 (by unfold klt; omega))]; rfl
      · have e : k = a := cmp_zero.1 (by omega)
        rw [if_neg h2, if_neg (fun q => by have := less_t q; omega), if_pos e.symm]; rfl
  | node l r, h => by
    have hl : Srt l.leaves := (List.pairwise_append.1 h).1
    have hr : Srt r.leaves := (List.pairwise_append.1 h).2.1
    unfold put
    split
    · rename_i q
      rw [bal_leaves, put_leaves k v l hl]
      refine (putPair_left k v l.leaves r.leaves fun p hp => ?_).symm
      have h2 := right_of hr hp
      exact ⟨fun e => h2 (klt_trans e q), fun e => h2 (by rw [e]; exact q)⟩
    · rename_i q
      rw [bal_leaves, put_leaves k v r hr]
      refine (putPair_right k v l.leaves r.leaves fun p hp => ?_).symm
      have h2 := left_of h hp
      rcases kge q with e | e
      · rw [e]; exact h2
      · exact klt_trans h2 e
theorem cut_leaves (k : List UInt8) : ∀ t : Tr, Srt t.leaves → (t.cut k = none ∧ ∀ p ∈ t.leaves, p.key ≠ k) ∨ ∃ r, t.cut k = some r ∧ leavesO r = cutPair k t.leaves ∧ ∃ p ∈ t.leaves, p.key = k
  | leaf a b, _ => by
    unfold cut
    by_cases e : a = k
    · rw [if_pos e]; exact .inr ⟨none, rfl, by simp [leavesO, cutPair, leaves, e], _, List.mem_singleton_self _, e⟩
    · rw [if_neg e]; exact .inl ⟨rfl, fun p hp => by rw [List.mem_singleton.1 hp]; exact e⟩
  | node l r, h => by
    have hl : Srt l.leaves := (List.pairwise_append.1 h).1
    have hr : Srt r.leaves := (List.pairwise_append.1 h).2.1
    unfold cut
    by_cases q : Lib.compareBytes k r.least < 0
    · rw [if_pos q]
      have nr : ∀ p ∈ r.leaves, p.key ≠ k := fun p hp e => right_of hr hp (by rw [e]; exact q)
      have er : cutPair k r.leaves = r.leaves := List.filter_eq_self.2 fun p hp => decide_eq_true (nr p hp)
      rcases cut_leaves k l hl with ⟨e, hn⟩ | ⟨x, e, e2, p, hp, hk⟩
      · rw [e]; exact .inl ⟨rfl, fun p hp => by rcases List.mem_append.1 hp with hp | hp; exact hn p hp; exact nr p hp⟩
      · rw [e]
        refine .inr ?_
        have e3 : cutPair k (node l r).leaves = leavesO x ++ r.leaves := by
          show cutPair k (l.leaves ++ r.leaves) = _
          rw [e2, ← er]; simp [cutPair, List.filter_append]
        cases x with
        | none => exact ⟨some r, rfl, by rw [e3]; rfl, p, List.mem_append_left _ hp, hk⟩
        | some l' => exact ⟨some (l'.bal r), rfl, by rw [e3]; exact bal_leaves _ _, p, List.mem_append_left _ hp, hk⟩
    · rw [if_neg q]
      have nl : ∀ p ∈ l.leaves, p.key ≠ k := fun p hp e => q (by have := left_of h hp; rw [e] at this; exact this)
      have el : cutPair k l.leaves = l.leaves := List.filter_eq_self.2 fun p hp => decide_eq_true (nl p hp)
      rcases cut_leaves k r hr with ⟨e, hn⟩ | ⟨x, e, e2, p, hp, hk⟩
      · rw [e]; exact .inl ⟨rfl, fun p hp => by rcases List.mem_append.1 hp with hp | hp; exact nl p hp; exact hn p hp⟩
      · rw [e]
        refine .inr ?_
        have e3 : cutPair k (node l r).leaves = l.leaves ++ leavesO x := by
          show cutPair k (l.leaves ++ r.leaves) = _
          rw [e2, ← el]; simp [cutPair, List.filter_append]
        cases x with
        | none => exact ⟨some l, rfl, by rw [e3]; simp [leavesO], p, List.mem_append_right _ hp, hk⟩
        | some r' => exact ⟨some (l.bal r'), rfl, by rw [e3]; exact bal_leaves _ _, p, List.mem_append_right _ hp, hk⟩
end Tr
theorem putO_leaves {k v : List UInt8} {o : Option Tr} (h : Srt (leavesO o)) : leavesO (putO k v o) = putPair k v (leavesO o) := by
  cases o with
  | none => rfl
  | some t => exact Tr.put_leaves k v t h
theorem cutO_leaves {k : List UInt8} {o : Option Tr} (h : Srt (leavesO o)) : leavesO (cutO k o) = cutPair k (leavesO o) := by
  cases o with
  | none => rfl
  | some t =>
    rcases Tr.cut_leaves k t h with ⟨e, hn⟩ | ⟨r, e, e2, _⟩
    · rw [show cutO k (some t) = some t by simp [cutO, e]]
      exact (List.filter_eq_self.2 fun p hp => decide_eq_true (hn p hp)).symm
    · rw [show cutO k (some t) = r by simp [cutO, e]]; exact e2
theorem growG_ok : ∀ (n : Nat) (acts : List Act) (s : Option Tr × List Pair), Srt (leavesO s.1) → s.2 = leavesO s.1 → Srt (leavesO (growG n acts s).1) ∧ (growG n acts s).2 = leavesO (growG n acts s).1
  | 0, acts, s, h, e => by unfold growG; exact ⟨h, e⟩
  | n + 1, [], s, h, e => by unfold growG; exact ⟨h, e⟩
  | n + 1, a :: l, s, h, e => by
    unfold growG
    split
    · exact ⟨h, e⟩
    · refine growG_ok n l _ ?_ ?_ <;> unfold stepA <;> split
      · rw [putO_leaves h]; exact h.put
      · rw [cutO_leaves h]; exact h.cut
      · rw [putO_leaves h, e]
      · rw [cutO_leaves h, e]
theorem growT_ok (acts : List Act) (m : Nat) : Srt (leavesO (growT acts m).1) ∧ (growT acts m).2 = leavesO (growT acts m).1 := growG_ok m acts (none, []) List.Pairwise.nil rfl
end Go.Proofs.YtnicmjipbnhciaaDoor.X
set_option linter.unusedVariables false
set_option linter.unusedSimpArgs false
set_option maxRecDepth 100000
namespace Go.Proofs.YtnicmjipbnhciaaDoor.X
open Go Go.RowKit Go.Proofs Go.Proofs.YtnicmjipbnhciaaDoor.E
theorem findG_ge {k : List UInt8} : ∀ {l : List Pair} {i : Nat}, 0 ≤ findG k l i ↔ ∃ p ∈ l, p.key = k
  | [], i => by simp [findG]
  | x :: xs, i => by
    unfold findG
    split
    · rename_i h; exact ⟨fun _ => ⟨x, List.mem_cons_self .., h⟩, fun _ => by omega⟩
    · rename_i h
      rw [findG_ge (l := xs)]
      exact ⟨fun ⟨p, a, b⟩ => ⟨p, List.mem_cons_of_mem _ a, b⟩, fun ⟨p, a, b⟩ => by rcases List.mem_cons.1 a with rfl | a; exact absurd b h; exact ⟨p, a, b⟩⟩
theorem find_ge {k : List UInt8} {l : List Pair} : 0 ≤ findP l k ↔ ∃ p ∈ l, p.key = k := findG_ge
theorem cut_there {k : List UInt8} {o : Option Tr} (h : Srt (leavesO o)) (hf : 0 ≤ findP (leavesO o) k) : o.isNone = false ∧ ((gt o).cut k).isSome = true ∧ cutR k (gt o) = cutO k o := by
  obtain ⟨p, hp, hk⟩ := find_ge.1 hf
  cases o with
  | none => simp [leavesO] at hp
  | some t =>
    rcases Tr.cut_leaves k t h with ⟨e, hn⟩ | ⟨r, e, e2, _⟩
    · exact absurd hk (hn p hp)
    · exact ⟨rfl, by show (t.cut k).isSome = true; rw [e]; rfl, by show (t.cut k).getD none = _; rw [e, show cutO k (some t) = r by simp [cutO, e]]; rfl⟩
theorem cut_not {k : List UInt8} {o : Option Tr} (h : Srt (leavesO o)) (hf : ¬ 0 ≤ findP (leavesO o) k) : cutO k o = o := by
  cases o with
  | none => rfl
  | some t =>
    rcases Tr.cut_leaves k t h with ⟨e, hn⟩ | ⟨r, e, e2, p, hp, hk⟩
    · simp [cutO, e]
    · exact absurd (find_ge.2 ⟨p, hp, hk⟩) hf
def GrN (acts : List Act) (m : Nat) (q : Nat × Option Tr) : Prop := GrI acts m (q.1, q.2, leavesO q.2) ∧ Srt (leavesO q.2)
section
variable {acts : List Act} {m i : Nat} {o : Option Tr}
theorem GrN.start : GrN acts m (0, none) := ⟨GrI.start, List.Pairwise.nil⟩
theorem GrN.put (h : GrN acts m (i, o)) (hi : (i : Int) < acts.length) (hm : ¬ (m : Int) ≤ i) (hk : ¬ 90 < ((keyA (acts.getD i dA)).length : Int)) (h6 : (acts.getD i dA).kind % 6 < 4) : GrN acts m (i + 1, putO (keyA (acts.getD i dA)) (valA (acts.getD i dA)) o) ∧ acts.length - (i + 1) < acts.length - i := by
  have g := h.1.put hi hm hk h6
  have e : leavesO (putO (keyA (acts.getD i dA)) (valA (acts.getD i dA)) o) = putPair (keyA (acts.getD i dA)) (valA (acts.getD i dA)) (leavesO o) := putO_leaves h.2
  refine ⟨⟨by show GrI acts m (i + 1, _, leavesO (putO _ _ o)); rw [e]; exact g.1, by show Srt (leavesO (putO _ _ o)); rw [e]; exact h.2.put⟩, by omega⟩
theorem GrN.cutO (h : GrN acts m (i, o)) (hi : (i : Int) < acts.length) (hm : ¬ (m : Int) ≤ i) (hk : ¬ 90 < ((keyA (acts.getD i dA)).length : Int)) (h6 : ¬ (acts.getD i dA).kind % 6 < 4) : GrN acts m (i + 1, X.cutO (keyA (acts.getD i dA)) o) ∧ acts.length - (i + 1) < acts.length - i := by
  have g := h.1.cut hi hm hk h6
  have e : leavesO (X.cutO (keyA (acts.getD i dA)) o) = cutPair (keyA (acts.getD i dA)) (leavesO o) := cutO_leaves h.2
  refine ⟨⟨by show GrI acts m (i + 1, _, leavesO (X.cutO _ o)); rw [e]; exact g.1, by show Srt (leavesO (X.cutO _ o)); rw [e]; exact h.2.cut⟩, by omega⟩
theorem GrN.cut (h : GrN acts m (i, o)) (hi : (i : Int) < acts.length) (hm : ¬ (m : Int) ≤ i) (hk : ¬ 90 < ((keyA (acts.getD i dA)).length : Int)) (h6 : ¬ (acts.getD i dA).kind % 6 < 4) (hf : 0 ≤ findP (leavesO o) (keyA (acts.getD i dA))) : GrN acts m (i + 1, cutR (keyA (acts.getD i dA)) (gt o)) ∧ acts.length - (i + 1) < acts.length - i := by
  rw [(cut_there h.2 hf).2.2]; exact h.cutO hi hm hk h6
theorem GrN.skip (h : GrN acts m (i, o)) (hi : (i : Int) < acts.length) (hm : ¬ (m : Int) ≤ i) (hk : ¬ 90 < ((keyA (acts.getD i dA)).length : Int)) (h6 : ¬ (acts.getD i dA).kind % 6 < 4) (hf : ¬ 0 ≤ findP (leavesO o) (keyA (acts.getD i dA))) : GrN acts m (i + 1, o) ∧ acts.length - (i + 1) < acts.length - i := by
  have := h.cutO hi hm hk h6; rwa [cut_not h.2 hf] at this
theorem GrN.hh (h : GrN acts m (i, o)) (hm : m ≤ 100) : (gt o).height < 700 ∧ (leavesO o).length ≤ 100000 := by
  obtain ⟨⟨_, a2, _, a4, _⟩, _⟩ := h
  have a2 : i ≤ m := a2
  have l := a4.leaves
  have l : (leavesO o).length ≤ i := l
  refine ⟨?_, by omega⟩
  cases o with
  | none => decide
  | some t => have := (a4 t rfl).2; have := t.height_depth; show t.height < 700; have q : t.depth + 1 ≤ i := (a4 t rfl).2; omega
end
section
variable {acts : List Act} {m i : Nat} {o : Option Tr}
theorem GrN.s1 (h : GrN acts m (i, o)) (hi : ¬ (i : Int) < acts.length) : (growT acts m).1 = o := by rw [h.1.stop1 hi]
theorem GrN.s2 (h : GrN acts m (i, o)) (hi : (m : Int) ≤ i) : (growT acts m).1 = o := by rw [h.1.stop2 hi]
theorem GrN.s3 (h : GrN acts m (i, o)) (hi : (i : Int) < acts.length) (hm : ¬ (m : Int) ≤ i) (hk : 90 < ((keyA (acts.getD i dA)).length : Int)) : (growT acts m).1 = o := by rw [h.1.stop3 hi hm hk]
end
end Go.Proofs.YtnicmjipbnhciaaDoor.X
set_option linter.unusedVariables false
set_option linter.unusedSimpArgs false
set_option maxRecDepth 100000
namespace Go.Proofs.YtnicmjipbnhciaaDoor.X
open Go Go.RowKit Go.Proofs Go.Proofs.YtnicmjipbnhciaaDoor.E
namespace Tr
theorem fin_mem (k : List UInt8) : ∀ t : Tr, (⟨(t.fin k).key, (t.fin k).value⟩ : Pair) ∈ t.leaves
  | leaf a b => List.mem_singleton_self _
  | node l r => by
    unfold fin; split
    · exact List.mem_append_right _ (fin_mem k r)
    · exact List.mem_append_left _ (fin_mem k l)
end Tr
theorem ben_cons (x : Turn) (l : List Turn) (i : Nat) : ben (x :: l) (i + 1) = ben l i := by
  unfold ben
  by_cases h : (i : Int) < l.length
  · rw [if_pos h, if_pos (by simp; omega)]; simp
  · rw [if_neg h, if_neg (by simp; omega)]
theorem ben_zero (x : Turn) (l : List Turn) : ben (x :: l) 0 = x.height := by unfold ben; rw [if_pos (by simp)]; rfl
theorem bad_cons (x : Turn) (l : List Turn) (i : Nat) : bad (x :: l) (i + 1) ↔ bad l i := by unfold bad; rw [ben_cons]; simp
namespace Tr
theorem ben_turns (k : List UInt8) : ∀ t : Tr, ben (t.turns k) 0 = t.height
  | leaf a b => rfl
  | node l r => by unfold turns; rw [ben_zero]; rfl
theorem turns_good (k : List UInt8) : ∀ t : Tr, t.height ≤ 64 → ∀ i, i < (t.turns k).length → ¬ bad (t.turns k) i
  | leaf a b, _, i, hi => by simp [turns] at hi
  | node l r, h, i, hi => by
    have hh : (node l r).height = 1 + max l.height r.height := rfl
    have hc : ∀ j, j < (if (node l r).rt k then r.turns k else l.turns k).length → ¬ bad (if (node l r).rt k then r.turns k else l.turns k) j := by
      split
      · exact turns_good k r (by omega)
      · exact turns_good k l (by omega)
    have hb : ben (if (node l r).rt k then r.turns k else l.turns k) 0 < (node l r).height := by
      split <;> rw [ben_turns] <;> omega
    unfold turns at hi ⊢
    cases i with
    | zero =>
      unfold bad; rw [ben_cons]
      show ¬ ((node l r).height ≤ _ ∨ 64 < (node l r).height); omega
    | succ i => rw [bad_cons]; exact hc i (by simpa using hi)
theorem turns_len (k : List UInt8) : ∀ t : Tr, ((t.turns k).length : Int) ≤ t.height
  | leaf a b => Int.le_refl _
  | node l r => by
    have h1 := turns_len k l; have h2 := turns_len k r
    have hh : (node l r).height = 1 + max l.height r.height := rfl
    unfold turns; rw [List.length_cons]; split <;> omega
theorem turns_hash (k : List UInt8) : ∀ t : Tr, (t.turns k).foldr stepH (nsum 0 1 (t.fin k).key (t.fin k).value z32 z32) = t.hash
  | leaf a b => rfl
  | node l r => by
    unfold turns fin
    rw [List.foldr_cons]
    have hp : ¬ (node l r).height = 0 := by have := height_pos (l := l) (r := r); omega
    have ns : ∀ (x y : List UInt8), nsum (node l r).height (node l r).size [] [] x y = nsum (node l r).height (node l r).size r.least [] x y := fun x y => by
      unfold nsum; rw [if_neg hp, if_neg hp]
    have l1 : (mk32 (node l r).lh).l = l.hash := mk32_of l.hash_len
    have l2 : (mk32 (node l r).rh).l = r.hash := mk32_of r.hash_len
    cases e : (node l r).rt k
    · simp only [Bool.false_eq_true, if_false]
      rw [turns_hash k l]
      unfold stepH turn; rw [e]; simp only [Bool.false_eq_true, if_false]
      rw [l2, ns]; rfl
    · simp only [if_true]
      rw [turns_hash k r]
      unfold stepH turn; rw [e]; simp only [if_true]
      rw [l1, ns]; rfl
end Tr
/-- Leaves as they come from calls. -/
def lvOk (l : List Pair) : Prop := ∀ p ∈ l, (1 ≤ p.key.length ∧ p.key.length ≤ 90) ∧ p.value.length ≤ 100
theorem growG_lv : ∀ (n : Nat) (acts : List Act) (s : Option Tr × List Pair), lvOk s.2 → lvOk (growG n acts s).2
  | 0, acts, s, h => by unfold growG; exact h
  | n + 1, [], s, h => by unfold growG; exact h
  | n + 1, a :: l, s, h => by
    unfold growG
    split
    · exact h
    · rename_i hk
      refine growG_lv n l _ ?_
      unfold stepA; split
      · intro p hp
        rcases mem_putPair hp with rfl | hp
        · exact ⟨⟨keyA_pos a, by show (keyA a).length ≤ 90; omega⟩, valA_len a⟩
        · exact h p hp
      · intro p hp; exact h p (List.mem_filter.1 hp).1
theorem growT_lv (acts : List Act) (m : Nat) : lvOk (leavesO (growT acts m).1) := by rw [← (growT_ok acts m).2]; exact growG_lv m acts _ (fun p hp => by simp at hp)
theorem growG_okN : ∀ (n i : Nat) (acts : List Act) (s : Option Tr × List Pair), okN i s.1 → okN (n + i) (growG n acts s).1
  | 0, i, acts, s, h => by unfold growG; rw [Nat.zero_add]; exact h
  | n + 1, i, [], s, h => by unfold growG; exact fun t e => ⟨(h t e).1, by have := (h t e).2; omega⟩
  | n + 1, i, a :: l, s, h => by
    unfold growG
    split
    · exact fun t e => ⟨(h t e).1, by have := (h t e).2; omega⟩
    · rename_i hk
      rw [show n + 1 + i = n + (i + 1) by omega]
      refine growG_okN n (i + 1) l _ ?_
      unfold stepA; split
      · exact okN.put h (by omega) (by have := valA_len a; omega)
      · exact okN.cut h
theorem growT_okN (acts : List Act) (m : Nat) : okN m (growT acts m).1 := by have := growG_okN m 0 acts (none, []) (fun t e => by simp at e); exact this
/-- A tree as calls make it: sorted, small. -/
def fine (o : Option Tr) : Prop := Srt (leavesO o) ∧ lvOk (leavesO o) ∧ okN 64 o
theorem growT_fine (acts : List Act) (m : Nat) (hm : m ≤ 64) : fine (growT acts m).1 := ⟨(growT_ok acts m).1, growT_lv acts m, fun t e => ⟨(growT_okN acts m t e).1, by have := (growT_okN acts m t e).2; omega⟩⟩
theorem fine.O {o : Option Tr} (h : fine o) : okO o := h.2.2.O (by decide)
/-- What is made leads to the root. -/
theorem verify_make {o : Option Tr} {k : List UInt8} (h : fine o) (hk : mkB k o = true) : rootP (mkP k o) = (hashO o, none) := by
  cases o with
  | none => simp [mkB] at hk
  | some t =>
    simp only [mkB, decide_eq_true_eq] at hk
    have hl := h.2.1 _ (Tr.fin_mem k t)
    have hh : t.height ≤ 64 := by have := (h.2.2 t rfl).2; have := t.height_depth; omega
    have hg := Tr.turns_good k t hh
    have h1 : ¬ 64 < (t.turns k).length := by have := Tr.turns_len k t; omega
    have e2 := rootN_ok (t.turns k) hg _ (nsum 0 1 (t.fin k).key (t.fin k).value z32 z32) (Nat.le_refl _)
    rw [ben_end, List.take_length, Tr.turns_hash] at e2
    simp only [mkP, if_pos hk]
    unfold rootP
    simp only
    rw [if_neg h1, if_neg (by simp only at hl; omega)]; exact e2
theorem verP_make {o : Option Tr} {k : List UInt8} (h : fine o) (hk : mkB k o = true) : verP (hashO o) (mkP k o) = none := by
  unfold verP; rw [verify_make h hk]; simp
end Go.Proofs.YtnicmjipbnhciaaDoor.X
set_option linter.unusedVariables false
set_option linter.unusedSimpArgs false
set_option maxRecDepth 100000
namespace Go.Proofs.YtnicmjipbnhciaaDoor.X
open Go Go.RowKit Go.Proofs Go.Proofs.YtnicmjipbnhciaaDoor.E
noncomputable def ccW1_15 : Code := (Tryd.f15.body).getD .skip
theorem Awake9_aux (o0 : okO none) (o1 : okO (putO [97] [49] none)) (o2 : okO (putO [98] [50] (putO [97] [49] none))) (m1 : mkB [98] (putO [98] [50] (putO [97] [49] none)) = true) (n1 : (noneR [99] (putO [98] [50] (putO [97] [49] none))).isSome = true)
  (lv : (leavesO (putO [98] [50] (putO [97] [49] none))).length ≤ 900000) (tl : (mkP [98] (putO [98] [50] (putO [97] [49] none))).turns.length = 1) (tr : ((mkP [98] (putO [98] [50] (putO [97] [49] none))).turns.getD 0 ⟨0, 0, false, zero32⟩).right = true)
  (v1 : verP (hashO (putO [98] [50] (putO [97] [49] none))) (mkP [98] (putO [98] [50] (putO [97] [49] none))) = none) (v2 : codeO (verP (sum256 []) (mkP [98] (putO [98] [50] (putO [97] [49] none)))) = 21)
  (g1 : (gapL [99] (putO [98] [50] (putO [97] [49] none))).1.isNone = false) (g2 : (gapL [99] (putO [98] [50] (putO [97] [49] none))).2.isNone = true)
  (v3 : vgP (hashO (putO [98] [50] (putO [97] [49] none))) [99] (gapL [99] (putO [98] [50] (putO [97] [49] none))).1 (gapL [99] (putO [98] [50] (putO [97] [49] none))).2 = none)
  (l1 : (gp (gapL [99] (putO [98] [50] (putO [97] [49] none))).1).turns.length ≤ 1000000) (l2 : (gp (gapL [99] (putO [98] [50] (putO [97] [49] none))).2).turns.length ≤ 1000000) : FOk EN 15 ⟨[.pr wordsP, .pr etP], [], Unit, fun _ => ([.pr wordsP, .pr etP], .b true), fun _ => True⟩ := by
 refine v_fun Tryd.f15 ccW1_15 MX (fun ν F σ w => ?_) Tryd.func15
 refine v_nl ?_
 refine v_call _ [0] (new_ok) ((wordsP = wordsP)) rfl (fun g1 p2 => ?_)
 have p2 : True := p2
 refine v_call _ [0, 4, 5, 3] (Put_ok (none) ([97]) ([49]) (by assumption) (by decide) (by decide)) ((0 < 1) ∧ (0 < 1) ∧ (wordsP = wordsP) ∧ ([(97 : UInt8)] = [(97 : UInt8)]) ∧ ([(49 : UInt8)] = [(49 : UInt8)]) ∧ (PTO none = PTO none) ∧ (false = false)) ⟨(by decide), (by decide), rfl, rfl, rfl, rfl, rfl⟩ (fun g3 p4 => ?_)
 have p4 : True := p4
 refine v_call _ [0, 7, 8, 6] (Put_ok (putO [97] [49] none) ([98]) ([50]) (by assumption) (by decide) (by decide)) ((0 < 1) ∧ (0 < 1) ∧ (wordsP = wordsP) ∧ ([(98 : UInt8)] = [(98 : UInt8)]) ∧ ([(50 : UInt8)] = [(50 : UInt8)]) ∧ (PTO (putO [97] [49] none) = PTO (putO [97] [49] none)) ∧ (false = false)) ⟨(by decide), (by decide), rfl, rfl, rfl, rfl, rfl⟩ (fun g5 p6 => ?_)
 have p6 : True := p6
 refine v_call _ [10, 9] (Make_ok (putO [98] [50] (putO [97] [49] none)) ([98]) (by assumption)) ((0 < 1) ∧ ([(98 : UInt8)] = [(98 : UInt8)]) ∧ (PTO (putO [98] [50] (putO [97] [49] none)) = PTO (putO [98] [50] (putO [97] [49] none))) ∧ (false = false)) ⟨(by decide), rfl, rfl, rfl⟩ (fun g7 p8 => ?_)
 have p8 : True := p8
 refine v_call _ [15, 9] (None_ok (putO [98] [50] (putO [97] [49] none)) ([99]) (by assumption) (by decide)) ((0 < 1) ∧ ([(99 : UInt8)] = [(99 : UInt8)]) ∧ (PTO (putO [98] [50] (putO [97] [49] none)) = PTO (putO [98] [50] (putO [97] [49] none))) ∧ (false = false)) ⟨(by decide), rfl, rfl, rfl⟩ (fun g9 p10 => ?_)
 have p10 : True := p10
 refine v_join [39, 40, 41, 42, 43, 44, 45, 46, 47, 48, 49, 50, 51, 52, 53, 54, 55, 56, 57, 58, 59, 60, 61, 62, 63, 64, 65, 66, 67, 68, 69, 70, 71, 72, 73, 74, 75, 76, 77, 78, 79, 80, 81, 82, 83, 84, 85, 86, 87, 88, 0] [] (fun _ : Unit => ([(0, SV.b (vgP (hashO (putO [98] [50] (putO [97] [49] none))) [99] (gapL [99] (putO [98] [50] (putO [97] [49] none))).fst (gapL [99] (putO [98] [50] (putO [97] [49] none))).snd).isNone)], [])) (fun _ => True) ?_ (fun _ _ => ?_) True trivial
 ·skip
  refine v_plan (.fs [0, 1, 2, 3, 4, 5, 6, 7, 8, 9, 10, 11, 12, 13, 14, 15, 16, 17, 18, 20] (.o 19 (.o 21 (.fs [22, 23, 24, 26] (.o 25 (.o 27 (.o 28 (.fs [29, 30, 31, 32, 33, 34, 35, 36, 37, 38, 39, 40, 41, 42, 46] (.c 43 (.o 44 (.o 45 (.o 47 (.fs [48, 49, 50] .e)))) (.o 44 (.c 43 (.o 45 (.o 47 (.fs [48, 49, 50] .e))) (.o 45 (.o 43 (.o 47 (.fs [48, 49, 50] .e))))))))))))))) [14, 18] True trivial ?_
  refine v_guard 40 (mkB [98] (putO [98] [50] (putO [97] [49] none))) True trivial (fun h11 => ?_) (fun h11 => ?_)
  ·skip
   refine v_guard 43 ((noneR [99] (putO [98] [50] (putO [97] [49] none))).isSome) True trivial (fun h12 => ?_) (fun h12 => ?_)
   ·skip
    refine v_guard 49 (decide ((↑(mkP [98] (putO [98] [50] (putO [97] [49] none))).turns.length : Int) = 1)) True trivial (fun h13 => ?_) (fun h13 => ?_)
    ·have h13 := of_decide_eq_true h13
     refine v_guard 56 (((mkP [98] (putO [98] [50] (putO [97] [49] none))).turns.getD 0 (Turn.mk 0 0 false zero32)).right) (((0 : Int) ≤ (0 : Int) ∧ (0 : Int) < (↑(mkP [(98 : UInt8)] (putO [(98 : UInt8)] [(50 : UInt8)] (putO [(97 : UInt8)] [(49 : UInt8)] none))).turns.length : Int))) (by decide) (fun h14 => ?_) (fun h14 => ?_)
     ·skip
      refine v_call _ [0, 9] (Root_ok (putO [98] [50] (putO [97] [49] none))) ((wordsP = wordsP) ∧ (PTO (putO [98] [50] (putO [97] [49] none)) = PTO (putO [98] [50] (putO [97] [49] none))) ∧ (false = false)) ⟨rfl, rfl, rfl⟩ (fun g15 p16 => ?_)
      have p16 : True := p16
      refine v_call _ [0, 11, 12, 13] (Verify_ok (hashO (putO [98] [50] (putO [97] [49] none))) (mkP [98] (putO [98] [50] (putO [97] [49] none))) rfl) ((hashO (putO [98] [50] (putO [97] [49] none)) = hashO (putO [98] [50] (putO [97] [49] none))) ∧ (wordsP = wordsP) ∧ ((mkP [98] (putO [98] [50] (putO [97] [49] none))).key = (mkP [98] (putO [98] [50] (putO [97] [49] none))).key) ∧ ((mkP [98] (putO [98] [50] (putO [97] [49] none))).value = (mkP [98] (putO [98] [50] (putO [97] [49] none))).value) ∧ ((mkP [98] (putO [98] [50] (putO [97] [49] none))).turns = (mkP [98] (putO [98] [50] (putO [97] [49] none))).turns)) ⟨rfl, rfl, rfl, rfl, rfl⟩ (fun g17 p18 => ?_)
      have p18 : True := p18
      refine v_guard 63 ((verP (hashO (putO [98] [50] (putO [97] [49] none))) (mkP [98] (putO [98] [50] (putO [97] [49] none)))).isNone) True trivial (fun h19 => ?_) (fun h19 => ?_)
      ·skip
       refine v_call _ [0] (Empty_ok) ((wordsP = wordsP)) rfl (fun g20 p21 => ?_)
       have p21 : True := p21
       refine v_call _ [0, 11, 12, 13] (Verify_ok (sum256 []) (mkP [98] (putO [98] [50] (putO [97] [49] none))) rfl) ((sum256 [] = sum256 []) ∧ (wordsP = wordsP) ∧ ((mkP [98] (putO [98] [50] (putO [97] [49] none))).key = (mkP [98] (putO [98] [50] (putO [97] [49] none))).key) ∧ ((mkP [98] (putO [98] [50] (putO [97] [49] none))).value = (mkP [98] (putO [98] [50] (putO [97] [49] none))).value) ∧ ((mkP [98] (putO [98] [50] (putO [97] [49] none))).turns = (mkP [98] (putO [98] [50] (putO [97] [49] none))).turns)) ⟨rfl, rfl, rfl, rfl, rfl⟩ (fun g22 p23 => ?_)
       have p23 : True := p23
       refine v_call _ [1, 21] (Code_ok (verP (sum256 []) (mkP [98] (putO [98] [50] (putO [97] [49] none)))) (by exact Nat.le_trans (verP_dep _ _) (by decide))) ((etP = etP) ∧ (PE (verP (sum256 []) (mkP [98] (putO [98] [50] (putO [97] [49] none)))) = PE (verP (sum256 []) (mkP [98] (putO [98] [50] (putO [97] [49] none))))) ∧ ((verP (sum256 []) (mkP [98] (putO [98] [50] (putO [97] [49] none)))).isNone = (verP (sum256 []) (mkP [98] (putO [98] [50] (putO [97] [49] none)))).isNone)) ⟨rfl, rfl, rfl⟩ (fun g24 p25 => ?_)
       have p25 : True := p25
       refine v_guard 70 (decide (codeO (verP (sum256 []) (mkP [98] (putO [98] [50] (putO [97] [49] none)))) = 21)) True trivial (fun h26 => ?_) (fun h26 => ?_)
       ·have h26 := of_decide_eq_true h26
        refine v_guard 75 (!(gapL [99] (putO [98] [50] (putO [97] [49] none))).fst.isNone) True trivial (fun h27 => ?_) (fun h27 => ?_)
        ·have h27 := (nt h27)
         refine v_guard 80 ((gapL [99] (putO [98] [50] (putO [97] [49] none))).snd.isNone) True trivial (fun h28 => ?_) (fun h28 => ?_)
         ·skip
          refine v_pick True trivial ?_ ?_
          ·skip
           refine v_call _ [0, 9] (Root_ok (putO [98] [50] (putO [97] [49] none))) ((wordsP = wordsP) ∧ (PTO (putO [98] [50] (putO [97] [49] none)) = PTO (putO [98] [50] (putO [97] [49] none))) ∧ (false = false)) ⟨rfl, rfl, rfl⟩ (fun g29 p30 => ?_)
           have p30 : True := p30
           refine v_call _ [0, 22, 16, 17] (VerifyGap_ok (hashO (putO [98] [50] (putO [97] [49] none))) ([99]) ((gapL [99] (putO [98] [50] (putO [97] [49] none))).fst) ((gapL [99] (putO [98] [50] (putO [97] [49] none))).snd) rfl (by decide) (by decide)) ((0 < 1) ∧ (hashO (putO [98] [50] (putO [97] [49] none)) = hashO (putO [98] [50] (putO [97] [49] none))) ∧ (wordsP = wordsP) ∧ ([(99 : UInt8)] = [(99 : UInt8)]) ∧ ((gapL [99] (putO [98] [50] (putO [97] [49] none))).fst = (gapL [99] (putO [98] [50] (putO [97] [49] none))).fst) ∧ ((gapL [99] (putO [98] [50] (putO [97] [49] none))).snd = (gapL [99] (putO [98] [50] (putO [97] [49] none))).snd)) ⟨(by decide), rfl, rfl, rfl, rfl, rfl⟩ (fun g31 p32 => ?_)
           have p32 : True := p32
           exact v_back (()) [] (((vgP (hashO (putO [98] [50] (putO [97] [49] none))) [99] (gapL [99] (putO [98] [50] (putO [97] [49] none))).fst (gapL [99] (putO [98] [50] (putO [97] [49] none))).snd).isNone = (vgP (hashO (putO [98] [50] (putO [97] [49] none))) [99] (gapL [99] (putO [98] [50] (putO [97] [49] none))).fst (gapL [99] (putO [98] [50] (putO [97] [49] none))).snd).isNone)) rfl (show True from trivial)
          ·skip
           refine v_pick True trivial ?_ ?_
           ·skip
            refine v_call _ [0, 9] (Root_ok (putO [98] [50] (putO [97] [49] none))) ((wordsP = wordsP) ∧ (PTO (putO [98] [50] (putO [97] [49] none)) = PTO (putO [98] [50] (putO [97] [49] none))) ∧ (false = false)) ⟨rfl, rfl, rfl⟩ (fun g33 p34 => ?_)
            have p34 : True := p34
            refine v_call _ [0, 22, 16, 17] (VerifyGap_ok (hashO (putO [98] [50] (putO [97] [49] none))) ([99]) ((gapL [99] (putO [98] [50] (putO [97] [49] none))).fst) ((gapL [99] (putO [98] [50] (putO [97] [49] none))).snd) rfl (by decide) (by decide)) ((0 < 1) ∧ (hashO (putO [98] [50] (putO [97] [49] none)) = hashO (putO [98] [50] (putO [97] [49] none))) ∧ (wordsP = wordsP) ∧ ([(99 : UInt8)] = [(99 : UInt8)]) ∧ ((gapL [99] (putO [98] [50] (putO [97] [49] none))).fst = (gapL [99] (putO [98] [50] (putO [97] [49] none))).fst) ∧ ((gapL [99] (putO [98] [50] (putO [97] [49] none))).snd = (gapL [99] (putO [98] [50] (putO [97] [49] none))).snd)) ⟨(by decide), rfl, rfl, rfl, rfl, rfl⟩ (fun g35 p36 => ?_)
            have p36 : True := p36
            exact v_back (()) [] (((vgP (hashO (putO [98] [50] (putO [97] [49] none))) [99] (gapL [99] (putO [98] [50] (putO [97] [49] none))).fst (gapL [99] (putO [98] [50] (putO [97] [49] none))).snd).isNone = (vgP (hashO (putO [98] [50] (putO [97] [49] none))) [99] (gapL [99] (putO [98] [50] (putO [97] [49] none))).fst (gapL [99] (putO [98] [50] (putO [97] [49] none))).snd).isNone)) rfl (show True from trivial)
           ·skip
            refine v_call _ [0, 9] (Root_ok (putO [98] [50] (putO [97] [49] none))) ((0 < 1) ∧ (wordsP = wordsP) ∧ (PTO (putO [98] [50] (putO [97] [49] none)) = PTO (putO [98] [50] (putO [97] [49] none))) ∧ (false = false)) ⟨(by decide), rfl, rfl, rfl⟩ (fun g37 p38 => ?_)
            have p38 : True := p38
            refine v_call _ [0, 22, 16, 17] (VerifyGap_ok (hashO (putO [98] [50] (putO [97] [49] none))) ([99]) ((gapL [99] (putO [98] [50] (putO [97] [49] none))).fst) ((gapL [99] (putO [98] [50] (putO [97] [49] none))).snd) rfl (by decide) (by decide)) ((hashO (putO [98] [50] (putO [97] [49] none)) = hashO (putO [98] [50] (putO [97] [49] none))) ∧ (wordsP = wordsP) ∧ ([(99 : UInt8)] = [(99 : UInt8)]) ∧ ((gapL [99] (putO [98] [50] (putO [97] [49] none))).fst = (gapL [99] (putO [98] [50] (putO [97] [49] none))).fst) ∧ ((gapL [99] (putO [98] [50] (putO [97] [49] none))).snd = (gapL [99] (putO [98] [50] (putO [97] [49] none))).snd)) ⟨rfl, rfl, rfl, rfl, rfl⟩ (fun g39 p40 => ?_)
            have p40 : True := p40
            exact v_back (()) [] (((vgP (hashO (putO [98] [50] (putO [97] [49] none))) [99] (gapL [99] (putO [98] [50] (putO [97] [49] none))).fst (gapL [99] (putO [98] [50] (putO [97] [49] none))).snd).isNone = (vgP (hashO (putO [98] [50] (putO [97] [49] none))) [99] (gapL [99] (putO [98] [50] (putO [97] [49] none))).fst (gapL [99] (putO [98] [50] (putO [97] [49] none))).snd).isNone)) rfl (show True from trivial)
         ·skip
          exfalso; (simp_all; done)
        ·have h27 := (nf h27)
         exfalso; (simp_all; done)
       ·have h26 := of_decide_eq_false h26
        omega
      ·skip
       exfalso; (rw [v1] at *; simp at *; done)
     ·skip
      exfalso; (simp_all; done)
    ·have h13 := of_decide_eq_false h13
     omega
   ·skip
    exfalso; (simp_all; done)
  ·skip
   exfalso; (simp_all; done)
 ·skip
  exact v_ret () [] (((vgP (hashO (putO [98] [50] (putO [97] [49] none))) [99] (gapL [99] (putO [98] [50] (putO [97] [49] none))).fst (gapL [99] (putO [98] [50] (putO [97] [49] none))).snd).isNone = true) ∧ (wordsP = wordsP) ∧ (etP = etP)) ⟨(by (simp; omega)), rfl, rfl⟩ trivial
end Go.Proofs.YtnicmjipbnhciaaDoor.X
set_option linter.unusedVariables false
set_option linter.unusedSimpArgs false
set_option maxRecDepth 100000
namespace Go.Proofs.YtnicmjipbnhciaaDoor.X
open Go Go.RowKit Go.Proofs Go.Proofs.YtnicmjipbnhciaaDoor.E
theorem aw_fine : fine (putO [98] [50] (putO [97] [49] none)) := by
  refine ⟨?_, ?_, ?_⟩
  · show Srt [⟨[97], [49]⟩, ⟨[98], [50]⟩]
    exact List.pairwise_cons.2 ⟨fun p hp => by rw [List.mem_singleton.1 hp]; decide, List.pairwise_singleton ..⟩
  · show lvOk [⟨[97], [49]⟩, ⟨[98], [50]⟩]
    intro p hp
    rcases List.mem_cons.1 hp with rfl | hp
    · decide
    · rw [List.mem_singleton.1 hp]; decide
  · have h := okN.put (k := [98]) (v := [50]) (okN.put (k := [97]) (v := [49]) (n := 0) (o := none) (fun t e => by simp at e) (by decide) (by decide)) (by decide) (by decide)
    exact fun t e => ⟨(h t e).1, by have := (h t e).2; omega⟩
theorem aw_hash : hashO (putO [98] [50] (putO [97] [49] none)) ≠ sum256 [] := by
  intro h
  have h1 : ((hashO (putO [98] [50] (putO [97] [49] none))).getD 0 0 == (sum256 []).getD 0 0) = false := by decide +kernel
  rw [h] at h1; simp at h1
theorem aw_m : mkB [98] (putO [98] [50] (putO [97] [49] none)) = true := by decide
theorem aw_v1 : verP (hashO (putO [98] [50] (putO [97] [49] none))) (mkP [98] (putO [98] [50] (putO [97] [49] none))) = none := verP_make aw_fine aw_m
theorem aw_v2 : codeO (verP (sum256 []) (mkP [98] (putO [98] [50] (putO [97] [49] none)))) = 21 := by
  unfold verP; rw [verify_make aw_fine aw_m]
  show codeO (if hashO (putO [98] [50] (putO [97] [49] none)) = sum256 [] then none else some (.step ((#[114, 111, 111, 116] : Array UInt8).toList) 0 (.num 21))) = 21
  rw [if_neg aw_hash]; rfl
theorem aw_gap : gapL [99] (putO [98] [50] (putO [97] [49] none)) = (some (mkP [98] (putO [98] [50] (putO [97] [49] none))), none) := by rfl
theorem aw_v3 : vgP (hashO (putO [98] [50] (putO [97] [49] none))) [99] (some (mkP [98] (putO [98] [50] (putO [97] [49] none)))) none = none := by
  have hs : vgS (hashO (putO [98] [50] (putO [97] [49] none))) [99] 0 (some (mkP [98] (putO [98] [50] (putO [97] [49] none)))) = none :=
    vs4 rfl (by show (verP (hashO (putO [98] [50] (putO [97] [49] none))) (mkP [98] (putO [98] [50] (putO [97] [49] none)))).isNone = true; rw [aw_v1]; rfl) (by decide) (by decide)
  rw [vg_left (by decide) (by decide) rfl rfl (by decide)]
  unfold vgL; rw [hs]; rfl
theorem Awake9_ok : FOk EN 15 ⟨[.pr wordsP, .pr etP], [], Unit, fun _ => ([.pr wordsP, .pr etP], .b true), fun _ => True⟩ := by
  refine Awake9_aux (fun t e => by simp at e) ?_ aw_fine.O aw_m (by decide) (by decide) (by decide) (by decide) aw_v1 aw_v2 (by decide) (by decide) ?_ (by decide) (by decide)
  · have h := okN.put (k := [97]) (v := [49]) (n := 0) (o := none) (fun t e => by simp at e) (by decide) (by decide)
    exact h.O (by decide)
  · rw [aw_gap]; exact aw_v3
end Go.Proofs.YtnicmjipbnhciaaDoor.X
set_option linter.unusedVariables false
set_option linter.unusedSimpArgs false
set_option maxRecDepth 100000
namespace Go.Proofs.YtnicmjipbnhciaaDoor.X
open Go Go.RowKit Go.Proofs Go.Proofs.YtnicmjipbnhciaaDoor.E
section
variable {acts : List Act} {m i : Nat}
theorem turns_le (k : List UInt8) (hm : m ≤ 64) : (mkP k (growT acts m).1).turns.length ≤ 100 := by
  cases e : (growT acts m).1 with
  | none => exact Nat.zero_le _
  | some t =>
    have h := (growT_okN acts m) t e
    simp only [mkP]; split
    · have := t.turns_len k; have := t.height_depth; show (t.turns k).length ≤ 100; omega
    · exact Nat.zero_le _
end
end Go.Proofs.YtnicmjipbnhciaaDoor.X
set_option linter.unusedVariables false
set_option linter.unusedSimpArgs false
set_option maxRecDepth 100000
namespace Go.Proofs.YtnicmjipbnhciaaDoor.X
open Go Go.RowKit Go.Proofs Go.Proofs.YtnicmjipbnhciaaDoor.E
def cgk (a : UInt8) (n : Nat) : Nat := ((a.toNat : Int) % (n : Int)).toNat
def cgT (ts : List Turn) (w a : UInt8) (n : Int) (h : List UInt8) : List Turn :=
  if w % 9 = 0 then ts else if w % 9 = 1 then ts else if (ts.length : Int) = 0 then [⟨n, 0, false, mk32 h⟩] else
  if w % 9 = 2 then ts.set (cgk a ts.length) ⟨n, (ts.getD (cgk a ts.length) (Turn.mk 0 0 false zero32)).size, (ts.getD (cgk a ts.length) (Turn.mk 0 0 false zero32)).right, (ts.getD (cgk a ts.length) (Turn.mk 0 0 false zero32)).other⟩ else
  if w % 9 = 3 then ts.set (cgk a ts.length) ⟨(ts.getD (cgk a ts.length) (Turn.mk 0 0 false zero32)).height, ofI n, (ts.getD (cgk a ts.length) (Turn.mk 0 0 false zero32)).right, (ts.getD (cgk a ts.length) (Turn.mk 0 0 false zero32)).other⟩ else
  if w % 9 = 4 then ts.set (cgk a ts.length) ⟨(ts.getD (cgk a ts.length) (Turn.mk 0 0 false zero32)).height, (ts.getD (cgk a ts.length) (Turn.mk 0 0 false zero32)).size, !(ts.getD (cgk a ts.length) (Turn.mk 0 0 false zero32)).right, (ts.getD (cgk a ts.length) (Turn.mk 0 0 false zero32)).other⟩ else
  if w % 9 = 5 then ts.set (cgk a ts.length) ⟨(ts.getD (cgk a ts.length) (Turn.mk 0 0 false zero32)).height, (ts.getD (cgk a ts.length) (Turn.mk 0 0 false zero32)).size, (ts.getD (cgk a ts.length) (Turn.mk 0 0 false zero32)).right, mk32 h⟩ else
  if w % 9 = 6 then ts.drop 1 else if w % 9 = 7 then ts.take (ts.length - 1) else ts ++ [⟨n, 2, false, mk32 h⟩]
def cgP (p : Proof) (w a : UInt8) (n : Int) (h b : List UInt8) : Proof := ⟨if w % 9 = 0 then b else p.key, if w % 9 = 0 then p.value else if w % 9 = 1 then b else p.value, cgT p.turns w a n h⟩
section
variable {ts : List Turn} {w a : UInt8} {n : Int} {h b : List UInt8} {p : Proof}
abbrev gD (ts : List Turn) (a : UInt8) : Turn := ts.getD (cgk a ts.length) (Turn.mk 0 0 false zero32)
theorem cg1 (h : 0 < ((([] : List Turn) ++ ts).length : Int)) : 0 ≤ (a.toNat : Int) % ((([] : List Turn) ++ ts).length : Int) ∧ (a.toNat : Int) % ((([] : List Turn) ++ ts).length : Int) < ((([] : List Turn) ++ ts).length : Int) := ⟨Int.emod_nonneg _ (by omega), Int.emod_lt_of_pos _ h⟩
theorem cg2 (h : 0 < ((([] : List Turn) ++ ts).length : Int)) : ((a.toNat : Int) % ((([] : List Turn) ++ ts).length : Int)).toNat < (([] : List Turn) ++ ts).length := by have := cg1 (a := a) h; omega
theorem cgT2 (h0 : ¬ w % 9 = 0) (h1 : ¬ w % 9 = 1) (hl : ¬ ((([] : List Turn) ++ ts).length : Int) = 0) (h2 : w % 9 = 2) : ts.set (cgk a ts.length) ⟨n, (gD ts a).size, (gD ts a).right, mk32 (gD ts a).other.l⟩ = cgT ts w a n h := by
  rw [mk32_l]; unfold cgT; rw [if_neg h0, if_neg h1, if_neg (show ¬ ((ts.length : Nat) : Int) = 0 from hl), if_pos h2]
theorem cgT3 (h0 : ¬ w % 9 = 0) (h1 : ¬ w % 9 = 1) (hl : ¬ ((([] : List Turn) ++ ts).length : Int) = 0) (h2 : ¬ w % 9 = 2) (h3 : w % 9 = 3) : ts.set (cgk a ts.length) ⟨(gD ts a).height, ofI n, (gD ts a).right, mk32 (gD ts a).other.l⟩ = cgT ts w a n h := by
  rw [mk32_l]; unfold cgT; rw [if_neg h0, if_neg h1, if_neg (show ¬ ((ts.length : Nat) : Int) = 0 from hl), if_neg h2, if_pos h3]
theorem cgT4 (h0 : ¬ w % 9 = 0) (h1 : ¬ w % 9 = 1) (hl : ¬ ((([] : List Turn) ++ ts).length : Int) = 0) (h2 : ¬ w % 9 = 2) (h3 : ¬ w % 9 = 3) (h4 : w % 9 = 4) : ts.set (cgk a ts.length) ⟨(gD ts a).height, (gD ts a).size, !(gD ts a).right, mk32 (gD ts a).other.l⟩ = cgT ts w a n h := by
  rw [mk32_l]; unfold cgT; rw [if_neg h0, if_neg h1, if_neg (show ¬ ((ts.length : Nat) : Int) = 0 from hl), if_neg h2, if_neg h3, if_pos h4]
theorem cgT5 (h0 : ¬ w % 9 = 0) (h1 : ¬ w % 9 = 1) (hl : ¬ ((([] : List Turn) ++ ts).length : Int) = 0) (h2 : ¬ w % 9 = 2) (h3 : ¬ w % 9 = 3) (h4 : ¬ w % 9 = 4) (h5 : w % 9 = 5) : ts.set (cgk a ts.length) ⟨(gD ts a).height, (gD ts a).size, (gD ts a).right, mk32 h⟩ = cgT ts w a n h := by
  unfold cgT; rw [if_neg h0, if_neg h1, if_neg (show ¬ ((ts.length : Nat) : Int) = 0 from hl), if_neg h2, if_neg h3, if_neg h4, if_pos h5]
theorem cgL (hl : ts.length ≤ 100000) : I64 (((([] : List Turn) ++ ts).length : Int) - 1) := by show I64 ((ts.length : Int) - 1); unfold I64; omega
end
noncomputable def ccG1_31 : Code := (Tryd.f31.body).getD .skip
theorem Change_ok (p : Proof) (wh a : UInt8) (n : Int) (h b : List UInt8) (hn : I64 n) (hh : h.length = 32) (hl : p.turns.length ≤ 100000) : FOk EN 31 ⟨[.rd 5 (p.key), .rd 5 (p.value), .rd 121 p.turns, .rd 5 (b)], [.a [.n 0, .n 1, .n 2], .c wh, .c a, .i n, .a [.h 32 h], .n 3], Unit, fun _ => ([.rd 5 (p.key), .rd 5 (p.value), .rd 121 p.turns, .rd 5 (b), .rd 5 ((cgP p wh a n h b).key), .rd 5 ((cgP p wh a n h b).value), .rd 121 (cgP p wh a n h b).turns], .a [.n 4, .n 5, .n 6]), fun _ => True⟩ := by
 refine v_fun Tryd.f31 ccG1_31 MX (fun ν F σ w => ?_) Tryd.func31
 refine v_nl ?_
 refine v_mark 121 ?_
 refine v_if (decide (0 < (↑([] ++ p.turns).length : Int))) ((0 + p.turns.length ≤ 1000000)) (by omega) (fun h1 => ?_) (fun h1 => ?_)
 ·have h1 := of_decide_eq_true h1
  refine v_if (decide (wh % 9 = 0)) ((0 ≤ (↑a.toNat : Int) ∧ 0 < (↑([] ++ p.turns).length : Int)) ∧ ((9 : UInt8) ≠ (0 : UInt8))) ⟨(by omega), (by decide)⟩ (fun h2 => ?_) (fun h2 => ?_)
  ·have h2 := of_decide_eq_true h2
   refine v_stop 10 True trivial ?_
   exact v_ret () [3, 1, 10] ((p.key = p.key) ∧ (p.value = p.value) ∧ (p.turns = p.turns) ∧ (b = b) ∧ (b = (cgP p wh a n h b).key) ∧ (p.value = (cgP p wh a n h b).value) ∧ ([] ++ p.turns = (cgP p wh a n h b).turns)) ⟨rfl, rfl, rfl, rfl, (by (simp only [cgP, cgT]; (repeat first | rw [if_pos (by omega)] | rw [if_neg (by omega)]); done)), (by (simp only [cgP, cgT]; (repeat first | rw [if_pos (by omega)] | rw [if_neg (by omega)]); done)), (by (simp only [cgP, cgT]; (repeat first | rw [if_pos (by omega)] | rw [if_neg (by omega)]); first | rfl | omega | (simp; done) | (simp; omega)))⟩ trivial
  ·have h2 := of_decide_eq_false h2
   refine v_if (decide (wh % 9 = 1)) True trivial (fun h3 => ?_) (fun h3 => ?_)
   ·have h3 := of_decide_eq_true h3
    refine v_stop 10 True trivial ?_
    exact v_ret () [0, 3, 10] ((p.key = p.key) ∧ (p.value = p.value) ∧ (p.turns = p.turns) ∧ (b = b) ∧ (p.key = (cgP p wh a n h b).key) ∧ (b = (cgP p wh a n h b).value) ∧ ([] ++ p.turns = (cgP p wh a n h b).turns)) ⟨rfl, rfl, rfl, rfl, (by (simp only [cgP, cgT]; (repeat first | rw [if_pos (by omega)] | rw [if_neg (by omega)]); done)), (by (simp only [cgP, cgT]; (repeat first | rw [if_pos (by omega)] | rw [if_neg (by omega)]); done)), (by (simp only [cgP, cgT]; (repeat first | rw [if_pos (by omega)] | rw [if_neg (by omega)]); first | rfl | omega | (simp; done) | (simp; omega)))⟩ trivial
   ·have h3 := of_decide_eq_false h3
    refine v_if (decide ((↑([] ++ p.turns).length : Int) = 0)) True trivial (fun h4 => ?_) (fun h4 => ?_)
    ·have h4 := of_decide_eq_true h4
     omega
    ·have h4 := of_decide_eq_false h4
     refine v_if (decide (wh % 9 = 2)) True trivial (fun h5 => ?_) (fun h5 => ?_)
     ·have h5 := of_decide_eq_true h5
      refine v_stop 10 ((0 ≤ (↑a.toNat : Int) % (↑([] ++ p.turns).length : Int) ∧ (↑a.toNat : Int) % (↑([] ++ p.turns).length : Int) < (↑([] ++ p.turns).length : Int)) ∧ (((↑a.toNat : Int) % (↑([] ++ p.turns).length : Int)).toNat < ([] ++ p.turns).length) ∧ (((↑a.toNat : Int) % (↑([] ++ p.turns).length : Int)).toNat < ([] ++ p.turns).length)) ⟨(by exact cg1 (by assumption)), (by exact cg2 (by assumption)), (by exact cg2 (by assumption))⟩ ?_
      exact v_ret () [0, 1, 10] ((p.key = p.key) ∧ (p.value = p.value) ∧ (p.turns = p.turns) ∧ (b = b) ∧ (p.key = (cgP p wh a n h b).key) ∧ (p.value = (cgP p wh a n h b).value) ∧ (([] ++ p.turns).set ((↑a.toNat : Int) % (↑([] ++ p.turns).length : Int)).toNat (Turn.mk n (([] ++ p.turns).getD ((↑a.toNat : Int) % (↑([] ++ p.turns).length : Int)).toNat (Turn.mk 0 0 false zero32)).size (([] ++ p.turns).getD ((↑a.toNat : Int) % (↑([] ++ p.turns).length : Int)).toNat (Turn.mk 0 0 false zero32)).right (mk32 (([] ++ p.turns).getD ((↑a.toNat : Int) % (↑([] ++ p.turns).length : Int)).toNat (Turn.mk 0 0 false zero32)).other.l)) = (cgP p wh a n h b).turns)) ⟨rfl, rfl, rfl, rfl, (by (simp only [cgP, cgT]; (repeat first | rw [if_pos (by omega)] | rw [if_neg (by omega)]); done)), (by (simp only [cgP, cgT]; (repeat first | rw [if_pos (by omega)] | rw [if_neg (by omega)]); done)), (by exact cgT2 (by assumption) (by assumption) (by assumption) (by assumption))⟩ trivial
     ·have h5 := of_decide_eq_false h5
      refine v_if (decide (wh % 9 = 3)) True trivial (fun h6 => ?_) (fun h6 => ?_)
      ·have h6 := of_decide_eq_true h6
       refine v_stop 10 ((0 ≤ (↑a.toNat : Int) % (↑([] ++ p.turns).length : Int) ∧ (↑a.toNat : Int) % (↑([] ++ p.turns).length : Int) < (↑([] ++ p.turns).length : Int)) ∧ (((↑a.toNat : Int) % (↑([] ++ p.turns).length : Int)).toNat < ([] ++ p.turns).length) ∧ (((↑a.toNat : Int) % (↑([] ++ p.turns).length : Int)).toNat < ([] ++ p.turns).length)) ⟨(by exact cg1 (by assumption)), (by exact cg2 (by assumption)), (by exact cg2 (by assumption))⟩ ?_
       exact v_ret () [0, 1, 10] ((p.key = p.key) ∧ (p.value = p.value) ∧ (p.turns = p.turns) ∧ (b = b) ∧ (p.key = (cgP p wh a n h b).key) ∧ (p.value = (cgP p wh a n h b).value) ∧ (([] ++ p.turns).set ((↑a.toNat : Int) % (↑([] ++ p.turns).length : Int)).toNat (Turn.mk (([] ++ p.turns).getD ((↑a.toNat : Int) % (↑([] ++ p.turns).length : Int)).toNat (Turn.mk 0 0 false zero32)).height (ofI n) (([] ++ p.turns).getD ((↑a.toNat : Int) % (↑([] ++ p.turns).length : Int)).toNat (Turn.mk 0 0 false zero32)).right (mk32 (([] ++ p.turns).getD ((↑a.toNat : Int) % (↑([] ++ p.turns).length : Int)).toNat (Turn.mk 0 0 false zero32)).other.l)) = (cgP p wh a n h b).turns)) ⟨rfl, rfl, rfl, rfl, (by (simp only [cgP, cgT]; (repeat first | rw [if_pos (by omega)] | rw [if_neg (by omega)]); done)), (by (simp only [cgP, cgT]; (repeat first | rw [if_pos (by omega)] | rw [if_neg (by omega)]); done)), (by exact cgT3 (by assumption) (by assumption) (by assumption) (by assumption) (by assumption))⟩ trivial
      ·have h6 := of_decide_eq_false h6
       refine v_if (decide (wh % 9 = 4)) True trivial (fun h7 => ?_) (fun h7 => ?_)
       ·have h7 := of_decide_eq_true h7
        refine v_plan (.fs [0, 1, 2, 3, 4, 5, 6, 7] (.o 8 (.fs [9, 10, 11] (.o 12 .e)))) [5, 6, 7, 8] True trivial ?_
        refine v_stop 10 ((0 ≤ (↑a.toNat : Int) % (↑([] ++ p.turns).length : Int) ∧ (↑a.toNat : Int) % (↑([] ++ p.turns).length : Int) < (↑([] ++ p.turns).length : Int)) ∧ (((↑a.toNat : Int) % (↑([] ++ p.turns).length : Int)).toNat < ([] ++ p.turns).length) ∧ (((↑a.toNat : Int) % (↑([] ++ p.turns).length : Int)).toNat < ([] ++ p.turns).length) ∧ (0 ≤ (↑a.toNat : Int) % (↑([] ++ p.turns).length : Int) ∧ (↑a.toNat : Int) % (↑([] ++ p.turns).length : Int) < (↑([] ++ p.turns).length : Int)) ∧ (((↑a.toNat : Int) % (↑([] ++ p.turns).length : Int)).toNat < ([] ++ p.turns).length) ∧ (((↑a.toNat : Int) % (↑([] ++ p.turns).length : Int)).toNat < ([] ++ p.turns).length)) ⟨(by exact cg1 (by assumption)), (by exact cg2 (by assumption)), (by exact cg2 (by assumption)), (by exact cg1 (by assumption)), (by exact cg2 (by assumption)), (by exact cg2 (by assumption))⟩ ?_
        exact v_ret () [0, 1, 10] ((p.key = p.key) ∧ (p.value = p.value) ∧ (p.turns = p.turns) ∧ (b = b) ∧ (p.key = (cgP p wh a n h b).key) ∧ (p.value = (cgP p wh a n h b).value) ∧ (([] ++ p.turns).set ((↑a.toNat : Int) % (↑([] ++ p.turns).length : Int)).toNat (Turn.mk (([] ++ p.turns).getD ((↑a.toNat : Int) % (↑([] ++ p.turns).length : Int)).toNat (Turn.mk 0 0 false zero32)).height (([] ++ p.turns).getD ((↑a.toNat : Int) % (↑([] ++ p.turns).length : Int)).toNat (Turn.mk 0 0 false zero32)).size (!(([] ++ p.turns).getD ((↑a.toNat : Int) % (↑([] ++ p.turns).length : Int)).toNat (Turn.mk 0 0 false zero32)).right) (mk32 (([] ++ p.turns).getD ((↑a.toNat : Int) % (↑([] ++ p.turns).length : Int)).toNat (Turn.mk 0 0 false zero32)).other.l)) = (cgP p wh a n h b).turns)) ⟨rfl, rfl, rfl, rfl, (by (simp only [cgP, cgT]; (repeat first | rw [if_pos (by omega)] | rw [if_neg (by omega)]); done)), (by (simp only [cgP, cgT]; (repeat first | rw [if_pos (by omega)] | rw [if_neg (by omega)]); done)), (by exact cgT4 (by assumption) (by assumption) (by assumption) (by assumption) (by assumption) (by assumption))⟩ trivial
       ·have h7 := of_decide_eq_false h7
        refine v_if (decide (wh % 9 = 5)) True trivial (fun h8 => ?_) (fun h8 => ?_)
        ·have h8 := of_decide_eq_true h8
         refine v_stop 10 ((0 ≤ (↑a.toNat : Int) % (↑([] ++ p.turns).length : Int) ∧ (↑a.toNat : Int) % (↑([] ++ p.turns).length : Int) < (↑([] ++ p.turns).length : Int)) ∧ (((↑a.toNat : Int) % (↑([] ++ p.turns).length : Int)).toNat < ([] ++ p.turns).length) ∧ (((↑a.toNat : Int) % (↑([] ++ p.turns).length : Int)).toNat < ([] ++ p.turns).length)) ⟨(by exact cg1 (by assumption)), (by exact cg2 (by assumption)), (by exact cg2 (by assumption))⟩ ?_
         exact v_ret () [0, 1, 10] ((p.key = p.key) ∧ (p.value = p.value) ∧ (p.turns = p.turns) ∧ (b = b) ∧ (p.key = (cgP p wh a n h b).key) ∧ (p.value = (cgP p wh a n h b).value) ∧ (([] ++ p.turns).set ((↑a.toNat : Int) % (↑([] ++ p.turns).length : Int)).toNat (Turn.mk (([] ++ p.turns).getD ((↑a.toNat : Int) % (↑([] ++ p.turns).length : Int)).toNat (Turn.mk 0 0 false zero32)).height (([] ++ p.turns).getD ((↑a.toNat : Int) % (↑([] ++ p.turns).length : Int)).toNat (Turn.mk 0 0 false zero32)).size (([] ++ p.turns).getD ((↑a.toNat : Int) % (↑([] ++ p.turns).length : Int)).toNat (Turn.mk 0 0 false zero32)).right (mk32 h)) = (cgP p wh a n h b).turns)) ⟨rfl, rfl, rfl, rfl, (by (simp only [cgP, cgT]; (repeat first | rw [if_pos (by omega)] | rw [if_neg (by omega)]); done)), (by (simp only [cgP, cgT]; (repeat first | rw [if_pos (by omega)] | rw [if_neg (by omega)]); done)), (by exact cgT5 (by assumption) (by assumption) (by assumption) (by assumption) (by assumption) (by assumption) (by assumption))⟩ trivial
        ·have h8 := of_decide_eq_false h8
         refine v_if (decide (wh % 9 = 6)) True trivial (fun h9 => ?_) (fun h9 => ?_)
         ·have h9 := of_decide_eq_true h9
          refine v_stop 10 True trivial ?_
          exact v_ret () [0, 1, 11] (((0 : Int) ≤ (1 : Int) ∧ (1 : Int) ≤ (↑([] ++ p.turns).length : Int)) ∧ (p.key = p.key) ∧ (p.value = p.value) ∧ (p.turns = p.turns) ∧ (b = b) ∧ (p.key = (cgP p wh a n h b).key) ∧ (p.value = (cgP p wh a n h b).value) ∧ (List.drop 1 ([] ++ p.turns) = (cgP p wh a n h b).turns)) ⟨(by omega), rfl, rfl, rfl, rfl, (by (simp only [cgP, cgT]; (repeat first | rw [if_pos (by omega)] | rw [if_neg (by omega)]); done)), (by (simp only [cgP, cgT]; (repeat first | rw [if_pos (by omega)] | rw [if_neg (by omega)]); done)), (by (simp only [cgP, cgT] at *; (repeat first | rw [if_pos (by omega)] | rw [if_neg (by omega)]); first | done | rfl | omega | (simp; done) | (simp; omega) | simp_all))⟩ trivial
         ·have h9 := of_decide_eq_false h9
          refine v_if (decide (wh % 9 = 7)) True trivial (fun h10 => ?_) (fun h10 => ?_)
          ·have h10 := of_decide_eq_true h10
           refine v_stop 10 ((I64 (↑([] ++ p.turns).length - 1))) (by exact cgL (by assumption)) ?_
           exact v_ret () [0, 1, 11] ((0 ≤ (↑([] ++ p.turns).length : Int) - 1 ∧ (↑([] ++ p.turns).length : Int) - 1 ≤ (↑([] ++ p.turns).length : Int)) ∧ (p.key = p.key) ∧ (p.value = p.value) ∧ (p.turns = p.turns) ∧ (b = b) ∧ (p.key = (cgP p wh a n h b).key) ∧ (p.value = (cgP p wh a n h b).value) ∧ (List.take ((↑([] ++ p.turns).length : Int) - 1).toNat ([] ++ p.turns) = (cgP p wh a n h b).turns)) ⟨(by omega), rfl, rfl, rfl, rfl, (by (simp only [cgP, cgT]; (repeat first | rw [if_pos (by omega)] | rw [if_neg (by omega)]); done)), (by (simp only [cgP, cgT]; (repeat first | rw [if_pos (by omega)] | rw [if_neg (by omega)]); done)), (by (simp only [cgP, cgT] at *; (repeat first | rw [if_pos (by omega)] | rw [if_neg (by omega)]); first | done | rfl | omega | (simp; done) | (simp; omega) | simp_all))⟩ trivial
          ·have h10 := of_decide_eq_false h10
           refine v_stop 11 True trivial ?_
           refine v_stop 12 ((([] ++ p.turns).length + 1 ≤ 1000000)) (by (simp; omega)) ?_
           exact v_ret () [0, 1, 12] ((p.key = p.key) ∧ (p.value = p.value) ∧ (p.turns = p.turns) ∧ (b = b) ∧ (p.key = (cgP p wh a n h b).key) ∧ (p.value = (cgP p wh a n h b).value) ∧ ([] ++ p.turns ++ [Turn.mk n 2 false (mk32 h)] = (cgP p wh a n h b).turns)) ⟨rfl, rfl, rfl, rfl, (by (simp only [cgP, cgT]; (repeat first | rw [if_pos (by omega)] | rw [if_neg (by omega)]); done)), (by (simp only [cgP, cgT]; (repeat first | rw [if_pos (by omega)] | rw [if_neg (by omega)]); done)), (by (simp only [cgP, cgT] at *; (repeat first | rw [if_pos (by omega)] | rw [if_neg (by omega)]); first | done | rfl | omega | (simp; done) | (simp; omega) | simp_all))⟩ trivial
 ·have h1 := of_decide_eq_false h1
  refine v_if (decide (wh % 9 = 0)) (((9 : UInt8) ≠ (0 : UInt8))) (by decide) (fun h11 => ?_) (fun h11 => ?_)
  ·have h11 := of_decide_eq_true h11
   refine v_stop 10 True trivial ?_
   exact v_ret () [3, 1, 10] ((p.key = p.key) ∧ (p.value = p.value) ∧ (p.turns = p.turns) ∧ (b = b) ∧ (b = (cgP p wh a n h b).key) ∧ (p.value = (cgP p wh a n h b).value) ∧ ([] ++ p.turns = (cgP p wh a n h b).turns)) ⟨rfl, rfl, rfl, rfl, (by (simp only [cgP, cgT]; (repeat first | rw [if_pos (by omega)] | rw [if_neg (by omega)]); done)), (by (simp only [cgP, cgT]; (repeat first | rw [if_pos (by omega)] | rw [if_neg (by omega)]); done)), (by (simp only [cgP, cgT]; (repeat first | rw [if_pos (by omega)] | rw [if_neg (by omega)]); first | rfl | omega | (simp; done) | (simp; omega)))⟩ trivial
  ·have h11 := of_decide_eq_false h11
   refine v_if (decide (wh % 9 = 1)) True trivial (fun h12 => ?_) (fun h12 => ?_)
   ·have h12 := of_decide_eq_true h12
    refine v_stop 10 True trivial ?_
    exact v_ret () [0, 3, 10] ((p.key = p.key) ∧ (p.value = p.value) ∧ (p.turns = p.turns) ∧ (b = b) ∧ (p.key = (cgP p wh a n h b).key) ∧ (b = (cgP p wh a n h b).value) ∧ ([] ++ p.turns = (cgP p wh a n h b).turns)) ⟨rfl, rfl, rfl, rfl, (by (simp only [cgP, cgT]; (repeat first | rw [if_pos (by omega)] | rw [if_neg (by omega)]); done)), (by (simp only [cgP, cgT]; (repeat first | rw [if_pos (by omega)] | rw [if_neg (by omega)]); done)), (by (simp only [cgP, cgT]; (repeat first | rw [if_pos (by omega)] | rw [if_neg (by omega)]); first | rfl | omega | (simp; done) | (simp; omega)))⟩ trivial
   ·have h12 := of_decide_eq_false h12
    refine v_if (decide ((↑([] ++ p.turns).length : Int) = 0)) True trivial (fun h13 => ?_) (fun h13 => ?_)
    ·have h13 := of_decide_eq_true h13
     refine v_stop 11 True trivial ?_
     exact v_ret () [0, 1, 11] ((p.key = p.key) ∧ (p.value = p.value) ∧ (p.turns = p.turns) ∧ (b = b) ∧ (p.key = (cgP p wh a n h b).key) ∧ (p.value = (cgP p wh a n h b).value) ∧ ([Turn.mk n 0 false (mk32 h)] = (cgP p wh a n h b).turns)) ⟨rfl, rfl, rfl, rfl, (by (simp only [cgP, cgT]; (repeat first | rw [if_pos (by omega)] | rw [if_neg (by omega)]); done)), (by (simp only [cgP, cgT]; (repeat first | rw [if_pos (by omega)] | rw [if_neg (by omega)]); done)), (by (simp only [cgP, cgT] at *; (repeat first | rw [if_pos (by omega)] | rw [if_neg (by omega)]); first | done | rfl | omega | (simp; done) | (simp; omega) | simp_all))⟩ trivial
    ·have h13 := of_decide_eq_false h13
     omega
end Go.Proofs.YtnicmjipbnhciaaDoor.X
set_option linter.unusedVariables false
set_option linter.unusedSimpArgs false
set_option maxRecDepth 100000
namespace Go.Proofs.YtnicmjipbnhciaaDoor.X
open Go Go.RowKit Go.Proofs Go.Proofs.YtnicmjipbnhciaaDoor.E
theorem cgT_len (ts : List Turn) (w a : UInt8) (n : Int) (h : List UInt8) : (cgT ts w a n h).length ≤ ts.length + 1 := by
  unfold cgT
  repeat' split
  all_goals simp <;> omega
end Go.Proofs.YtnicmjipbnhciaaDoor.X
set_option linter.unusedVariables false
set_option linter.unusedSimpArgs false
namespace Go.Proofs.YtnicmjipbnhciaaDoor.X
open Go Go.RowKit Go.Proofs.YtnicmjipbnhciaaDoor.E
def OpF {α : Type} (P : Program) (t : TypeId) (fs : Array Go.Field) (off : Nat) (T : Ty α) : Prop :=
  ∀ (w : World) (cs : List Value), cs.length = P.cellsOf t → (∀ (i : Nat) (f : Go.Field), fs[i]? = some f → ∀ {β : Type} {U : Ty β}, E.Opens P f.type U → ∀ o sz, f.offset = o → P.cellsOf f.type = sz → ∃ a, U.rep (sig0 w) w a ((cs.drop o).take sz)) → ∃ a, T.rep (sig0 w) w a (cs.drop off)
section
variable {α β : Type} {P : Program} {t : TypeId} {fs : Array Go.Field} {off n : Nat} {A : Ty α} {B : Ty β} {f : Go.Field}
theorem opF_cons (i : Nat) (hf : fs[i]? = some f) (ho : f.offset = off) (O : E.Opens P f.type A) (hs : P.cellsOf f.type = n) (hB : OpF P t fs (off + n) B) : OpF P t fs off (tProd A B) := by
  intro w cs hl h
  obtain ⟨a, ha⟩ := h i f hf O off n ho hs
  obtain ⟨b, hb⟩ := hB w cs hl h
  exact ⟨(a, b), _, _, by rw [← List.drop_drop]; exact (List.take_append_drop n _).symm, ha, hb⟩
theorem opF_last (i : Nat) (hf : fs[i]? = some f) (ho : f.offset = off) (O : E.Opens P f.type A) (hs : P.cellsOf f.type = n) (tot : P.cellsOf t = off + n) : OpF P t fs off A := by
  intro w cs hl h
  obtain ⟨a, ha⟩ := h i f hf O off n ho hs
  rw [List.take_of_length_le (by rw [List.length_drop]; omega)] at ha
  exact ⟨a, ha⟩
theorem opens_rec (ht : P.underlying t = some (.struct fs)) (h : OpF P t fs 0 A) : E.Opens P t A := by
  intro H enc w sp held fuel cs x hx hw
  obtain ⟨hl, hf⟩ := opens_field ht hx hw
  obtain ⟨a, ha⟩ := h w cs hl (fun i f hi β U O o sz ho hs => hf i f hi O o sz ho hs)
  exact ⟨a, by simpa using ha⟩
theorem opens_by (n : Nat) (h : E.Opens P t A) : E.Opens P t (tBy A n) := h
theorem opens_iso {g : β → α} (k : α → β) (hg : ∀ b, g (k b) = b) (h : E.Opens P t A) : E.Opens P t (tIso g A) := by
  intro H enc w sp held fuel cs x hx hw
  obtain ⟨b, hb⟩ := h hx hw
  exact ⟨k b, by show A.rep _ _ (g (k b)) _; rw [hg]; exact hb⟩
end
def u8Of : Option Value → UInt8
  | some (.int .u8 n) => UInt8.ofNat n.toNat
  | _ => 0
theorem u8Of_bv (b : UInt8) : u8Of (some (bv b)) = b := by simp [u8Of, bv]
theorem opens_hash {P : Program} {t e : TypeId} (ht : P.underlying t = some (.array 32 e)) (he : P.underlying e = some (.int .u8)) (hc : P.cellsOf e = 1) (hct : P.cellsOf t = 32) : E.Opens P t tHash := by
  intro H enc w sp held fuel cs x hx hw
  obtain ⟨xs, m, rfl, rfl, hl, hn, hel⟩ := DataW.trod_array ht hx
  rw [hct] at hl
  have hb : ∀ i, i < 32 → ∃ b : UInt8, cs[i]? = some (bv b) := fun i hi => by
    have h := hel i hi
    rw [hc, Nat.mul_one, List.getElem?_eq_getElem (by omega)] at h
    obtain ⟨n, e1, _, hw⟩ := DataW.trod_int he h
    obtain ⟨b, rfl⟩ := wf_u8 hw
    refine ⟨b, ?_⟩
    have : ((cs.drop i).take 1)[0]? = some (.int .u8 (b.toNat : Int)) := by rw [e1]; rfl
    simpa using this
  refine ⟨mk32 ((List.range 32).map fun i => u8Of cs[i]?), ?_⟩
  show cs = hk 32 (mk32 _).l
  rw [mk32_hk]
  apply List.ext_getElem?
  intro i
  by_cases hi : i < 32
  · obtain ⟨b, e1⟩ := hb i hi
    rw [e1]
    simp [hk, hi, e1, List.getD_eq_getElem?_getD, u8Of_bv]
  · rw [List.getElem?_eq_none (by omega), List.getElem?_eq_none (by rw [hk_len]; omega)]
theorem opens_ptr {α : Type} {P : Program} {t e : TypeId} {T : Ty α} (ht : P.underlying t = some (.pointer e)) (hsz : P.cellsOf e = T.sz) (h0 : 0 < T.sz) (O : E.Opens P e T) : E.Opens P t (tPtr T) := by
  intro H enc w sp held fuel cs x hx hw
  rcases DataW.trod_pointer ht hx with ⟨rfl, rfl⟩ | ⟨a, cs', y, n, rfl, rfl, rfl, hc, hy⟩
  · exact ⟨none, _, rfl, rfl⟩
  · obtain ⟨hcl, hcc⟩ := cells_some hc
    have hp : 0 < cs'.length := by omega
    have h2 := hcc 0 _ (List.getElem?_eq_getElem hp)
    have h3 : a.add 0 = a := by simp [Addr.add]
    rw [h3] at h2
    have hplain : ∃ b o, a = ⟨b, o, none⟩ := by
      refine ⟨a.block, a.off, ?_⟩
      cases hs : a.spot with
      | none => cases a; simp_all
      | some s =>
        unfold World.cell? at h2
        rw [hs] at h2
        simp only [Option.isSome_some, if_true] at h2
        split at h2 <;> simp at h2
    obtain ⟨b, o, rfl⟩ := hplain
    obtain ⟨z, hz⟩ := O hy (fun m hm => hw m (by simp only [DataW.weights, ht]; first | exact hm | exact List.mem_cons_of_mem _ hm))
    refine ⟨some z, _, rfl, b, o, cs', rfl, ⟨.inr (World.block_lt_of_cell? w _ h2), fun j v hv => ?_⟩, hz⟩
    have := hcc j v hv
    rw [Addr.add_lit] at this
    exact ⟨sig0_lt this, this⟩
/-- An argument of any kind. -/
theorem arg_any {α : Type} {H : Type} {P : Program} {enc : TypeId × Value → H} {w : World} {sp : Nat → Bool} {held : Bool} {t : TypeId} {T : Ty α} {v : Value} {d : DataW H} {ps : List MemPlace} {ts : List TypeId} {ds : List (DataW H)} {j : Nat} (O : E.Opens P t T)
    (h : DataW.Trod enc P w 0 sp held t v d ps) (hsz : (DataW.weightsEach P ts ds).all (· ≤ reachBytes) = true) (ht : ts[j]? = some t) (hd : ds[j]? = some d) : ∃ x, T.rep (sig0 w) w x v.cells.toList := by
  obtain ⟨fuel, hf⟩ := h
  exact O hf (fun n hn => by
    have := List.all_eq_true.1 hsz n (DataW.weights_mem_each ht hd n hn)
    simpa using this)
theorem okWide_arr {P : Program} {w : World} {r : Reach} {base : Nat} {t n e : TypeId} {v : Value} (ht : P.underlying t = some (.array n e)) (h : Value.okWide P w r base t v) : ∃ cs, v = .agg cs ∧ cs.size = P.cellsOf t := by
  simp only [Value.okWide, ht] at h
  obtain ⟨cs, h1, h2, _⟩ := h
  exact ⟨cs, h1, h2⟩
theorem pt_one1 {α : Type} {T : Ty α} {σ : Nat → Nat} {w : World} {v : Value} {o : Option α} (h : Pt T σ w v o) : v.oneCell' = true := by
  cases o with
  | none => rw [show v = _ from h]; rfl
  | some x => obtain ⟨b, i, cs, e, _⟩ := h; rw [e]; rfl
theorem rd_u8_len {σ : Nat → Nat} {w : World} {v : Value} {xs : List UInt8} (h : Rd tU8 σ w v xs) : xs.length ≤ 140737488355328 := by
  have := h.bd; rwa [show tU8.by_ = 1 from rfl, Nat.mul_one] at this
theorem hash_rep {σ : Nat → Nat} {w : World} {x : Sum32} {cs : Array Value} (h : tHash.rep σ w x (Value.agg cs).cells.toList) : cs = (hk 32 x.l).toArray := by
  have h' : cs.toList = hk 32 x.l := h
  rw [← h']
end Go.Proofs.YtnicmjipbnhciaaDoor.X
