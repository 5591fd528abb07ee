/- What the law ProofNone needs: the engine, the walks of what it reaches, plain laws; part 6. -/
import Derived.Test.YtnicmjipbnhciaaDoorProofNoneM5
import Derived.OpenShut
set_option linter.unnecessarySimpa false
set_option linter.deprecated false
set_option linter.unusedVariables false
set_option linter.unusedSimpArgs false
set_option maxRecDepth 100000
namespace Go.Proofs.YtnicmjipbnhciaaDoor.X
open Go Go.RowKit Go.Proofs Go.Proofs.YtnicmjipbnhciaaDoor.E
def isGt (a b : List UInt8) : Bool := !(Op.bytesLess a b || decide (a = b))
def bsG (k : List UInt8) : List Pair → Nat → Int × Int → Int × Int
  | [], _, s => s
  | x :: xs, i, s => bsG k xs (i + 1) (if Op.bytesLess x.key k = true then (i : Int) else s.1, if isGt x.key k = true ∧ s.2 < 0 then (i : Int) else s.2)
def besideP (l : List Pair) (k : List UInt8) : Int × Int := bsG k l 0 (-1, -1)
def BI (l : List Pair) (k : List UInt8) (q : Nat × Int × Int) : Prop := bsG k (l.drop q.1) q.1 q.2 = besideP l k ∧ q.1 ≤ l.length
section
variable {l : List Pair} {k : List UInt8} {i : Nat} {a b : Int}
theorem BI.start : BI l k (0, -1, -1) := ⟨rfl, Nat.zero_le _⟩
theorem BI.next (h : BI l k (i, a, b)) (hi : (i : Int) < l.length) : BI l k (i + 1, (if Op.bytesLess (l.getD i dP).key k = true then (i : Int) else a), (if isGt (l.getD i dP).key k = true ∧ b < 0 then (i : Int) else b)) ∧ l.length - (i + 1) < l.length - i := by
  obtain ⟨h1, h2⟩ := h
  rw [drop_cons (d := dP) hi, bsG] at h1
  exact ⟨⟨h1, by omega⟩, by omega⟩
theorem BI.n1 (h : BI l k (i, a, b)) (hi : (i : Int) < l.length) (h1 : Op.bytesLess (l.getD i dP).key k = true) (h2 : isGt (l.getD i dP).key k = true) (h3 : b < 0) : BI l k (i + 1, (i : Int), (i : Int)) ∧ l.length - (i + 1) < l.length - i := by
  have := h.next hi; rwa [if_pos h1, if_pos ⟨h2, h3⟩] at this
theorem BI.n2 (h : BI l k (i, a, b)) (hi : (i : Int) < l.length) (h1 : Op.bytesLess (l.getD i dP).key k = true) (h2 : isGt (l.getD i dP).key k = false ∨ ¬ b < 0) : BI l k (i + 1, (i : Int), b) ∧ l.length - (i + 1) < l.length - i := by
  have := h.next hi; rwa [if_pos h1, if_neg (by rintro ⟨x, y⟩; rcases h2 with h2 | h2; rw [h2] at x; cases x; exact h2 y)] at this
theorem BI.n3 (h : BI l k (i, a, b)) (hi : (i : Int) < l.length) (h1 : Op.bytesLess (l.getD i dP).key k = false) (h2 : isGt (l.getD i dP).key k = true) (h3 : b < 0) : BI l k (i + 1, a, (i : Int)) ∧ l.length - (i + 1) < l.length - i := by
  have := h.next hi; rwa [if_neg (by rw [h1]; simp), if_pos ⟨h2, h3⟩] at this
theorem BI.n4 (h : BI l k (i, a, b)) (hi : (i : Int) < l.length) (h1 : Op.bytesLess (l.getD i dP).key k = false) (h2 : isGt (l.getD i dP).key k = false ∨ ¬ b < 0) : BI l k (i + 1, a, b) ∧ l.length - (i + 1) < l.length - i := by
  have := h.next hi; rwa [if_neg (by rw [h1]; simp), if_neg (by rintro ⟨x, y⟩; rcases h2 with h2 | h2; rw [h2] at x; cases x; exact h2 y)] at this
theorem BI.stop (h : BI l k (i, a, b)) (hi : ¬ (i : Int) < l.length) : a = (besideP l k).1 ∧ b = (besideP l k).2 := by
  have h1 := h.1; rw [List.drop_of_length_le (by omega), bsG] at h1; rw [← h1]; exact ⟨rfl, rfl⟩
theorem isGt_t {x y : List UInt8} (h : (Op.bytesLess x y || decide (x = y)) = false) : isGt x y = true := by unfold isGt; rw [h]; rfl
theorem isGt_f {x y : List UInt8} (h : (Op.bytesLess x y || decide (x = y)) = true) : isGt x y = false := by unfold isGt; rw [h]; rfl
end
noncomputable def ccR12_27 : Code := (Tryd.f27.body).getD .skip
theorem Beside_ok (l : List Pair) (k : List UInt8) (hl : l.length ≤ 100000) : FOk EN 27 ⟨[.rd 46 (l), .rd 5 (k)], [.n 0, .n 1], Unit, fun _ => ([.rd 46 (l), .rd 5 (k)], .t [.i (besideP l k).1, .i (besideP l k).2]), fun _ => True⟩ := by
 refine v_fun Tryd.f27 ccR12_27 MX (fun ν F σ w => ?_) Tryd.func27
 refine v_nl ?_
 refine v_loop (fun q : Nat × Int × Int => ([(8, .i q.1), (6, .i q.2.1), (7, .i q.2.2)], [])) (fun q => BI l k q) (fun q => l.length - q.1) (0, -1, -1) [] (((0 : Int) = (↑(0 : Nat) : Int)) ∧ (-1 = -1) ∧ (-1 = -1)) ⟨rfl, rfl, rfl⟩ (by exact ⟨rfl, Nat.zero_le _⟩) (fun q hk1 => ?_)
 have i1 := (‹BI l k q›).2
 refine v_if (decide ((↑q.fst : Int) < (↑l.length : Int))) True trivial (fun h2 => ?_) (fun h2 => ?_)
 ·have h2 := of_decide_eq_true h2
  refine v_plan (.fs [0, 1, 2, 3, 4, 5, 6, 7, 8] .e) [] True trivial ?_
  refine v_if (Op.bytesLess (l.getD (↑q.fst : Int).toNat (Pair.mk [] [])).key k) ((0 ≤ (↑q.fst : Int) ∧ (↑q.fst : Int) < (↑l.length : Int))) (by omega) (fun h3 => ?_) (fun h3 => ?_)
  ·skip
   refine v_plan (.fs [0, 1, 2, 3, 4, 5, 6, 7, 8, 9, 10, 11, 12] .e) [] True trivial ?_
   refine v_guard 34 (!(Op.bytesLess (l.getD (↑q.fst : Int).toNat (Pair.mk [] [])).key k || decide ((l.getD (↑q.fst : Int).toNat (Pair.mk [] [])).key = k))) ((0 ≤ (↑q.fst : Int) ∧ (↑q.fst : Int) < (↑l.length : Int))) (by omega) (fun h4 => ?_) (fun h4 => ?_)
   ·have h4 := (nt h4)
    refine v_if (decide (q.snd.snd < 0)) True trivial (fun h5 => ?_) (fun h5 => ?_)
    ·have h5 := of_decide_eq_true h5
     exact v_back ((q.fst + 1, ↑q.fst, ↑q.fst)) [] ((I64 (↑q.fst + 1)) ∧ ((↑q.fst : Int) + 1 = (↑(q.fst + 1) : Int)) ∧ ((↑q.fst : Int) = (↑q.fst : Int)) ∧ ((↑q.fst : Int) = (↑q.fst : Int))) ⟨(by (unfold I64; omega)), rfl, rfl, rfl⟩ (show BI l k (q.fst + 1, ↑q.fst, ↑q.fst) ∧ l.length - (q.fst + 1) < l.length - q.fst from (by exact BI.n1 (by assumption) (by assumption) (by assumption) (isGt_t (by assumption)) (by assumption)))
    ·have h5 := of_decide_eq_false h5
     exact v_back ((q.fst + 1, ↑q.fst, q.snd.snd)) [] ((I64 (↑q.fst + 1)) ∧ ((↑q.fst : Int) + 1 = (↑(q.fst + 1) : Int)) ∧ ((↑q.fst : Int) = (↑q.fst : Int)) ∧ (q.snd.snd = q.snd.snd)) ⟨(by (unfold I64; omega)), rfl, rfl, rfl⟩ (show BI l k (q.fst + 1, ↑q.fst, q.snd.snd) ∧ l.length - (q.fst + 1) < l.length - q.fst from (by exact BI.n2 (by assumption) (by assumption) (by assumption) (by first | exact .inl (isGt_f (by assumption)) | exact .inr (by assumption))))
   ·have h4 := (nf h4)
    exact v_back ((q.fst + 1, ↑q.fst, q.snd.snd)) [] ((I64 (↑q.fst + 1)) ∧ ((↑q.fst : Int) + 1 = (↑(q.fst + 1) : Int)) ∧ ((↑q.fst : Int) = (↑q.fst : Int)) ∧ (q.snd.snd = q.snd.snd)) ⟨(by (unfold I64; omega)), rfl, rfl, rfl⟩ (show BI l k (q.fst + 1, ↑q.fst, q.snd.snd) ∧ l.length - (q.fst + 1) < l.length - q.fst from (by exact BI.n2 (by assumption) (by assumption) (by assumption) (by first | exact .inl (isGt_f (by assumption)) | exact .inr (by assumption))))
  ·skip
   refine v_plan (.fs [0, 1, 2, 3, 4, 5, 6, 7, 8, 9, 10, 11, 12] .e) [] True trivial ?_
   refine v_guard 34 (!(Op.bytesLess (l.getD (↑q.fst : Int).toNat (Pair.mk [] [])).key k || decide ((l.getD (↑q.fst : Int).toNat (Pair.mk [] [])).key = k))) ((0 ≤ (↑q.fst : Int) ∧ (↑q.fst : Int) < (↑l.length : Int))) (by omega) (fun h6 => ?_) (fun h6 => ?_)
   ·have h6 := (nt h6)
    refine v_if (decide (q.snd.snd < 0)) True trivial (fun h7 => ?_) (fun h7 => ?_)
    ·have h7 := of_decide_eq_true h7
     exact v_back ((q.fst + 1, q.snd.fst, ↑q.fst)) [] ((I64 (↑q.fst + 1)) ∧ ((↑q.fst : Int) + 1 = (↑(q.fst + 1) : Int)) ∧ (q.snd.fst = q.snd.fst) ∧ ((↑q.fst : Int) = (↑q.fst : Int))) ⟨(by (unfold I64; omega)), rfl, rfl, rfl⟩ (show BI l k (q.fst + 1, q.snd.fst, ↑q.fst) ∧ l.length - (q.fst + 1) < l.length - q.fst from (by exact BI.n3 (by assumption) (by assumption) (by assumption) (isGt_t (by assumption)) (by assumption)))
    ·have h7 := of_decide_eq_false h7
     exact v_back ((q.fst + 1, q.snd.fst, q.snd.snd)) [] ((I64 (↑q.fst + 1)) ∧ ((↑q.fst : Int) + 1 = (↑(q.fst + 1) : Int)) ∧ (q.snd.fst = q.snd.fst) ∧ (q.snd.snd = q.snd.snd)) ⟨(by (unfold I64; omega)), rfl, rfl, rfl⟩ (show BI l k (q.fst + 1, q.snd.fst, q.snd.snd) ∧ l.length - (q.fst + 1) < l.length - q.fst from (by exact BI.n4 (by assumption) (by assumption) (by assumption) (by first | exact .inl (isGt_f (by assumption)) | exact .inr (by assumption))))
   ·have h6 := (nf h6)
    exact v_back ((q.fst + 1, q.snd.fst, q.snd.snd)) [] ((I64 (↑q.fst + 1)) ∧ ((↑q.fst : Int) + 1 = (↑(q.fst + 1) : Int)) ∧ (q.snd.fst = q.snd.fst) ∧ (q.snd.snd = q.snd.snd)) ⟨(by (unfold I64; omega)), rfl, rfl, rfl⟩ (show BI l k (q.fst + 1, q.snd.fst, q.snd.snd) ∧ l.length - (q.fst + 1) < l.length - q.fst from (by exact BI.n4 (by assumption) (by assumption) (by assumption) (by first | exact .inl (isGt_f (by assumption)) | exact .inr (by assumption))))
 ·have h2 := of_decide_eq_false h2
  refine v_leave (.ex 0) True trivial ?_
  exact v_ret () [] ((q.snd.fst = (besideP l k).fst) ∧ (q.snd.snd = (besideP l k).snd) ∧ (l = l) ∧ (k = k)) ⟨(by exact (BI.stop (by assumption) (by assumption)).1), (by exact (BI.stop (by assumption) (by assumption)).2), rfl, rfl⟩ trivial
theorem sg_m {a b : Option Proof} (h : (a.isNone != b.isNone) = true) : decide (a = b) = false := by cases a <;> cases b <;> simp at h ⊢
theorem sg_2 {y v : Proof} : decide (gp (some y) = gp (some v)) = (decide ((none : Option Proof) = none) && decide (some y = some v)) := by
  rw [Bool.eq_iff_iff]; simp only [Bool.and_eq_true, decide_eq_true_eq]; exact ⟨fun h => ⟨trivial, congrArg some h⟩, fun h => Option.some.inj h.2⟩
theorem sg_4 {x u y v : Proof} (h : gp (some x) = gp (some u)) : decide (gp (some y) = gp (some v)) = (decide (some x = some u) && decide (some y = some v)) := by
  rw [Bool.eq_iff_iff]; simp only [Bool.and_eq_true, decide_eq_true_eq]; exact ⟨fun q => ⟨congrArg some h, congrArg some q⟩, fun h => Option.some.inj h.2⟩
theorem sg_3t {x u : Proof} (h : gp (some x) = gp (some u)) : true = (decide (some x = some u) && decide ((none : Option Proof) = none)) := by
  have h : x = u := h
  subst h; simp
theorem sg_3f {x u : Proof} {c : Bool} (h : ¬ gp (some x) = gp (some u)) : false = (decide (some x = some u) && c) := by
  have : ¬ some x = some u := fun e => h (congrArg gp e)
  rw [decide_eq_false this]; rfl
noncomputable def ccR12_20 : Code := (Tryd.f20.body).getD .skip
theorem SameGap_m1 (al ar bl br : Option Proof)  (h : (al.isNone != bl.isNone) = true) : FOk EN 20 ⟨[.pt 26 al, .pt 26 ar, .pt 26 bl, .pt 26 br], [.a [.n 0, .n 1], .a [.n 2, .n 3]], Unit, fun _ => ([.pt 26 al, .pt 26 ar, .pt 26 bl, .pt 26 br], .b (decide (al = bl) && decide (ar = br))), fun _ => True⟩ := by
 refine v_fun Tryd.f20 ccR12_20 MX (fun ν F σ w => ?_) Tryd.func20
 refine v_nl ?_
 refine v_guard 12 (al.isNone != bl.isNone) True trivial (fun h1 => ?_) (fun h1 => ?_)
 ·skip
  exact v_ret () [] ((false = (decide (al = bl) && decide (ar = br))) ∧ (al = al) ∧ (ar = ar) ∧ (bl = bl) ∧ (br = br)) ⟨(by (rw [sg_m (by assumption)]; rfl)), rfl, rfl, rfl, rfl⟩ trivial
 ·skip
  exfalso; (simp_all; done)
theorem SameGap_m2 (al ar bl br : Option Proof)  (h : (ar.isNone != br.isNone) = true) : FOk EN 20 ⟨[.pt 26 al, .pt 26 ar, .pt 26 bl, .pt 26 br], [.a [.n 0, .n 1], .a [.n 2, .n 3]], Unit, fun _ => ([.pt 26 al, .pt 26 ar, .pt 26 bl, .pt 26 br], .b (decide (al = bl) && decide (ar = br))), fun _ => True⟩ := by
 refine v_fun Tryd.f20 ccR12_20 MX (fun ν F σ w => ?_) Tryd.func20
 refine v_nl ?_
 refine v_guard 12 (al.isNone != bl.isNone) True trivial (fun h1 => ?_) (fun h1 => ?_)
 ·skip
  exact v_ret () [] ((false = (decide (al = bl) && decide (ar = br))) ∧ (al = al) ∧ (ar = ar) ∧ (bl = bl) ∧ (br = br)) ⟨(by (rw [sg_m (by assumption)]; cases decide (al = bl) <;> rfl)), rfl, rfl, rfl, rfl⟩ trivial
 ·skip
  refine v_if (ar.isNone != br.isNone) True trivial (fun h2 => ?_) (fun h2 => ?_)
  ·skip
   exact v_ret () [] ((false = (decide (al = bl) && decide (ar = br))) ∧ (al = al) ∧ (ar = ar) ∧ (bl = bl) ∧ (br = br)) ⟨(by (rw [sg_m (a := ar) (b := br) h]; cases decide (al = bl) <;> rfl)), rfl, rfl, rfl, rfl⟩ trivial
  ·skip
   exfalso; (simp_all; done)
theorem SameGap_1  : FOk EN 20 ⟨[.pt 26 (none : Option Proof), .pt 26 (none : Option Proof), .pt 26 (none : Option Proof), .pt 26 (none : Option Proof)], [.a [.n 0, .n 1], .a [.n 2, .n 3]], Unit, fun _ => ([.pt 26 (none : Option Proof), .pt 26 (none : Option Proof), .pt 26 (none : Option Proof), .pt 26 (none : Option Proof)], .b (decide ((none : Option Proof) = (none : Option Proof)) && decide ((none : Option Proof) = (none : Option Proof)))), fun _ => True⟩ := by
 refine v_fun Tryd.f20 ccR12_20 MX (fun ν F σ w => ?_) Tryd.func20
 refine v_nl ?_
 refine v_guard 12 (true != true) True trivial (fun h1 => ?_) (fun h1 => ?_)
 ·skip
  contradiction
 ·skip
  refine v_if (true != true) True trivial (fun h2 => ?_) (fun h2 => ?_)
  ·skip
   contradiction
  ·skip
   refine v_plan (.fs [0, 1, 2, 3, 4, 5, 6, 7, 8, 9, 10, 11] (.o 12 (.fs [13, 14, 15, 16, 17, 18, 19, 20, 21, 22, 23, 24, 25, 26] (.o 27 (.fs [28, 29, 30] .e))))) [5, 6] True trivial ?_
   refine v_guard 24 (true) True trivial (fun h3 => ?_) (fun h3 => ?_)
   ·skip
    refine v_guard 39 (true) True trivial (fun h4 => ?_) (fun h4 => ?_)
    ·skip
     exact v_ret () [] ((true = (decide (Eq (α := Option Proof) none none) && decide (Eq (α := Option Proof) none none))) ∧ (Eq (α := Option Proof) none none) ∧ (Eq (α := Option Proof) none none) ∧ (Eq (α := Option Proof) none none) ∧ (Eq (α := Option Proof) none none)) ⟨rfl, rfl, rfl, rfl, rfl⟩ trivial
    ·skip
     contradiction
   ·skip
    contradiction
theorem SameGap_2 (y v : Proof)  (hy : y.turns.length ≤ 1000000) (hv : v.turns.length ≤ 1000000) : FOk EN 20 ⟨[.pt 26 (none : Option Proof), .pt 26 (some y), .pt 26 (none : Option Proof), .pt 26 (some v)], [.a [.n 0, .n 1], .a [.n 2, .n 3]], Unit, fun _ => ([.pt 26 (none : Option Proof), .pt 26 (some y), .pt 26 (none : Option Proof), .pt 26 (some v)], .b (decide ((none : Option Proof) = (none : Option Proof)) && decide ((some y) = (some v)))), fun _ => True⟩ := by
 refine v_fun Tryd.f20 ccR12_20 MX (fun ν F σ w => ?_) Tryd.func20
 refine v_nl ?_
 refine v_guard 12 (true != true) True trivial (fun h1 => ?_) (fun h1 => ?_)
 ·skip
  contradiction
 ·skip
  refine v_if (false != false) True trivial (fun h2 => ?_) (fun h2 => ?_)
  ·skip
   contradiction
  ·skip
   refine v_open 1 (open_pf (some y) rfl) ((@Eq PP (PPt GT (@OfNat.ofNat Nat (nat_lit 26) (instOfNatNat (nat_lit 26))) (@some Proof y)) (PPt GT (@OfNat.ofNat Nat (nat_lit 26) (instOfNatNat (nat_lit 26))) (@some Proof y)))) rfl ?_
   refine v_open 3 (open_pf (some v) rfl) ((@Eq PP (PPt GT (@OfNat.ofNat Nat (nat_lit 26) (instOfNatNat (nat_lit 26))) (@some Proof v)) (PPt GT (@OfNat.ofNat Nat (nat_lit 26) (instOfNatNat (nat_lit 26))) (@some Proof v)))) rfl ?_
   refine v_plan (.fs [0, 1, 2, 3, 4, 5, 6, 7, 8, 9, 10, 11] (.o 12 (.fs [13, 14, 15, 16, 17, 18, 19, 20, 21, 22, 23, 24, 25, 26] (.o 27 (.fs [28, 29, 30] .e))))) [5, 6] True trivial ?_
   refine v_guard 24 (true) True trivial (fun h3 => ?_) (fun h3 => ?_)
   ·skip
    refine v_call _ [7, 8, 9, 10, 11, 12] (SameProof_ok ((gp (some y)).key) ((gp (some y)).value) ((gp (some v)).key) ((gp (some v)).value) ((gp (some y)).turns) ((gp (some v)).turns) (by assumption) (by assumption)) (((gp (some y)).key = (gp (some y)).key) ∧ ((gp (some y)).value = (gp (some y)).value) ∧ ((gp (some y)).turns = (gp (some y)).turns) ∧ ((gp (some v)).key = (gp (some v)).key) ∧ ((gp (some v)).value = (gp (some v)).value) ∧ ((gp (some v)).turns = (gp (some v)).turns)) ⟨rfl, rfl, rfl, rfl, rfl, rfl⟩ (fun g4 p5 => ?_)
    have p5 : True := p5
    exact v_ret () [] ((decide (Proof.mk (gp (some y)).key (gp (some y)).value (gp (some y)).turns = Proof.mk (gp (some v)).key (gp (some v)).value (gp (some v)).turns) = (decide (Eq (α := Option Proof) none none) && decide (some y = some v))) ∧ (Eq (α := Option Proof) none none) ∧ (PLe (PPt GT (@OfNat.ofNat Nat (nat_lit 26) (instOfNatNat (nat_lit 26))) (@some Proof y)) (PPt GT (@OfNat.ofNat Nat (nat_lit 26) (instOfNatNat (nat_lit 26))) (@some Proof y))) ∧ (Eq (α := Option Proof) none none) ∧ (PLe (PPt GT (@OfNat.ofNat Nat (nat_lit 26) (instOfNatNat (nat_lit 26))) (@some Proof v)) (PPt GT (@OfNat.ofNat Nat (nat_lit 26) (instOfNatNat (nat_lit 26))) (@some Proof v)))) ⟨(by exact sg_2), rfl, fun _ _ _ h => h, rfl, fun _ _ _ h => h⟩ trivial
   ·skip
    contradiction
theorem SameGap_3 (x u : Proof)  (hx : x.turns.length ≤ 1000000) (hu : u.turns.length ≤ 1000000) : FOk EN 20 ⟨[.pt 26 (some x), .pt 26 (none : Option Proof), .pt 26 (some u), .pt 26 (none : Option Proof)], [.a [.n 0, .n 1], .a [.n 2, .n 3]], Unit, fun _ => ([.pt 26 (some x), .pt 26 (none : Option Proof), .pt 26 (some u), .pt 26 (none : Option Proof)], .b (decide ((some x) = (some u)) && decide ((none : Option Proof) = (none : Option Proof)))), fun _ => True⟩ := by
 refine v_fun Tryd.f20 ccR12_20 MX (fun ν F σ w => ?_) Tryd.func20
 refine v_nl ?_
 refine v_guard 12 (false != false) True trivial (fun h1 => ?_) (fun h1 => ?_)
 ·skip
  contradiction
 ·skip
  refine v_if (true != true) True trivial (fun h2 => ?_) (fun h2 => ?_)
  ·skip
   contradiction
  ·skip
   refine v_open 0 (open_pf (some x) rfl) ((@Eq PP (PPt GT (@OfNat.ofNat Nat (nat_lit 26) (instOfNatNat (nat_lit 26))) (@some Proof x)) (PPt GT (@OfNat.ofNat Nat (nat_lit 26) (instOfNatNat (nat_lit 26))) (@some Proof x)))) rfl ?_
   refine v_open 2 (open_pf (some u) rfl) ((@Eq PP (PPt GT (@OfNat.ofNat Nat (nat_lit 26) (instOfNatNat (nat_lit 26))) (@some Proof u)) (PPt GT (@OfNat.ofNat Nat (nat_lit 26) (instOfNatNat (nat_lit 26))) (@some Proof u)))) rfl ?_
   refine v_plan (.fs [0, 1, 2, 3, 4, 5, 6, 7, 8, 9, 10, 11] (.o 12 (.fs [13, 14, 15, 16, 17, 18, 19, 20, 21, 22, 23, 24, 25, 26] (.o 27 (.fs [28, 29, 30] .e))))) [5, 6] True trivial ?_
   refine v_call _ [7, 8, 9, 10, 11, 12] (SameProof_ok ((gp (some x)).key) ((gp (some x)).value) ((gp (some u)).key) ((gp (some u)).value) ((gp (some x)).turns) ((gp (some u)).turns) (by assumption) (by assumption)) (((gp (some x)).key = (gp (some x)).key) ∧ ((gp (some x)).value = (gp (some x)).value) ∧ ((gp (some x)).turns = (gp (some x)).turns) ∧ ((gp (some u)).key = (gp (some u)).key) ∧ ((gp (some u)).value = (gp (some u)).value) ∧ ((gp (some u)).turns = (gp (some u)).turns)) ⟨rfl, rfl, rfl, rfl, rfl, rfl⟩ (fun g3 p4 => ?_)
   have p4 : True := p4
   refine v_guard 35 (decide (Proof.mk (gp (some x)).key (gp (some x)).value (gp (some x)).turns = Proof.mk (gp (some u)).key (gp (some u)).value (gp (some u)).turns)) True trivial (fun h5 => ?_) (fun h5 => ?_)
   ·have h5 := of_decide_eq_true h5
    refine v_guard 39 (true) True trivial (fun h6 => ?_) (fun h6 => ?_)
    ·skip
     exact v_ret () [] ((true = (decide (some x = some u) && decide (Eq (α := Option Proof) none none))) ∧ (PLe (PPt GT (@OfNat.ofNat Nat (nat_lit 26) (instOfNatNat (nat_lit 26))) (@some Proof x)) (PPt GT (@OfNat.ofNat Nat (nat_lit 26) (instOfNatNat (nat_lit 26))) (@some Proof x))) ∧ (Eq (α := Option Proof) none none) ∧ (PLe (PPt GT (@OfNat.ofNat Nat (nat_lit 26) (instOfNatNat (nat_lit 26))) (@some Proof u)) (PPt GT (@OfNat.ofNat Nat (nat_lit 26) (instOfNatNat (nat_lit 26))) (@some Proof u))) ∧ (Eq (α := Option Proof) none none)) ⟨(by exact sg_3t (by assumption)), fun _ _ _ h => h, rfl, fun _ _ _ h => h, rfl⟩ trivial
    ·skip
     contradiction
   ·have h5 := of_decide_eq_false h5
    exact v_ret () [] ((false = (decide (some x = some u) && decide (Eq (α := Option Proof) none none))) ∧ (PLe (PPt GT (@OfNat.ofNat Nat (nat_lit 26) (instOfNatNat (nat_lit 26))) (@some Proof x)) (PPt GT (@OfNat.ofNat Nat (nat_lit 26) (instOfNatNat (nat_lit 26))) (@some Proof x))) ∧ (Eq (α := Option Proof) none none) ∧ (PLe (PPt GT (@OfNat.ofNat Nat (nat_lit 26) (instOfNatNat (nat_lit 26))) (@some Proof u)) (PPt GT (@OfNat.ofNat Nat (nat_lit 26) (instOfNatNat (nat_lit 26))) (@some Proof u))) ∧ (Eq (α := Option Proof) none none)) ⟨(by exact sg_3f (by assumption)), fun _ _ _ h => h, rfl, fun _ _ _ h => h, rfl⟩ trivial
theorem SameGap_4 (x y u v : Proof)  (hx : x.turns.length ≤ 1000000) (hu : u.turns.length ≤ 1000000) (hy : y.turns.length ≤ 1000000) (hv : v.turns.length ≤ 1000000) : FOk EN 20 ⟨[.pt 26 (some x), .pt 26 (some y), .pt 26 (some u), .pt 26 (some v)], [.a [.n 0, .n 1], .a [.n 2, .n 3]], Unit, fun _ => ([.pt 26 (some x), .pt 26 (some y), .pt 26 (some u), .pt 26 (some v)], .b (decide ((some x) = (some u)) && decide ((some y) = (some v)))), fun _ => True⟩ := by
 refine v_fun Tryd.f20 ccR12_20 MX (fun ν F σ w => ?_) Tryd.func20
 refine v_nl ?_
 refine v_guard 12 (false != false) True trivial (fun h1 => ?_) (fun h1 => ?_)
 ·skip
  contradiction
 ·skip
  refine v_if (false != false) True trivial (fun h2 => ?_) (fun h2 => ?_)
  ·skip
   contradiction
  ·skip
   refine v_open 0 (open_pf (some x) rfl) ((@Eq PP (PPt GT (@OfNat.ofNat Nat (nat_lit 26) (instOfNatNat (nat_lit 26))) (@some Proof x)) (PPt GT (@OfNat.ofNat Nat (nat_lit 26) (instOfNatNat (nat_lit 26))) (@some Proof x)))) rfl ?_
   refine v_open 2 (open_pf (some u) rfl) ((@Eq PP (PPt GT (@OfNat.ofNat Nat (nat_lit 26) (instOfNatNat (nat_lit 26))) (@some Proof u)) (PPt GT (@OfNat.ofNat Nat (nat_lit 26) (instOfNatNat (nat_lit 26))) (@some Proof u)))) rfl ?_
   refine v_open 1 (open_pf (some y) rfl) ((@Eq PP (PPt GT (@OfNat.ofNat Nat (nat_lit 26) (instOfNatNat (nat_lit 26))) (@some Proof y)) (PPt GT (@OfNat.ofNat Nat (nat_lit 26) (instOfNatNat (nat_lit 26))) (@some Proof y)))) rfl ?_
   refine v_open 3 (open_pf (some v) rfl) ((@Eq PP (PPt GT (@OfNat.ofNat Nat (nat_lit 26) (instOfNatNat (nat_lit 26))) (@some Proof v)) (PPt GT (@OfNat.ofNat Nat (nat_lit 26) (instOfNatNat (nat_lit 26))) (@some Proof v)))) rfl ?_
   refine v_plan (.fs [0, 1, 2, 3, 4, 5, 6, 7, 8, 9, 10, 11] (.o 12 (.fs [13, 14, 15, 16, 17, 18, 19, 20, 21, 22, 23, 24, 25, 26] (.o 27 (.fs [28, 29, 30] .e))))) [5, 6] True trivial ?_
   refine v_call _ [7, 8, 9, 10, 11, 12] (SameProof_ok ((gp (some x)).key) ((gp (some x)).value) ((gp (some u)).key) ((gp (some u)).value) ((gp (some x)).turns) ((gp (some u)).turns) (by assumption) (by assumption)) (((gp (some x)).key = (gp (some x)).key) ∧ ((gp (some x)).value = (gp (some x)).value) ∧ ((gp (some x)).turns = (gp (some x)).turns) ∧ ((gp (some u)).key = (gp (some u)).key) ∧ ((gp (some u)).value = (gp (some u)).value) ∧ ((gp (some u)).turns = (gp (some u)).turns)) ⟨rfl, rfl, rfl, rfl, rfl, rfl⟩ (fun g3 p4 => ?_)
   have p4 : True := p4
   refine v_guard 35 (decide (Proof.mk (gp (some x)).key (gp (some x)).value (gp (some x)).turns = Proof.mk (gp (some u)).key (gp (some u)).value (gp (some u)).turns)) True trivial (fun h5 => ?_) (fun h5 => ?_)
   ·have h5 := of_decide_eq_true h5
    refine v_call _ [13, 14, 15, 16, 17, 18] (SameProof_ok ((gp (some y)).key) ((gp (some y)).value) ((gp (some v)).key) ((gp (some v)).value) ((gp (some y)).turns) ((gp (some v)).turns) (by assumption) (by assumption)) (((gp (some y)).key = (gp (some y)).key) ∧ ((gp (some y)).value = (gp (some y)).value) ∧ ((gp (some y)).turns = (gp (some y)).turns) ∧ ((gp (some v)).key = (gp (some v)).key) ∧ ((gp (some v)).value = (gp (some v)).value) ∧ ((gp (some v)).turns = (gp (some v)).turns)) ⟨rfl, rfl, rfl, rfl, rfl, rfl⟩ (fun g6 p7 => ?_)
    have p7 : True := p7
    exact v_ret () [] ((decide (Proof.mk (gp (some y)).key (gp (some y)).value (gp (some y)).turns = Proof.mk (gp (some v)).key (gp (some v)).value (gp (some v)).turns) = (decide (some x = some u) && decide (some y = some v))) ∧ (PLe (PPt GT (@OfNat.ofNat Nat (nat_lit 26) (instOfNatNat (nat_lit 26))) (@some Proof x)) (PPt GT (@OfNat.ofNat Nat (nat_lit 26) (instOfNatNat (nat_lit 26))) (@some Proof x))) ∧ (PLe (PPt GT (@OfNat.ofNat Nat (nat_lit 26) (instOfNatNat (nat_lit 26))) (@some Proof y)) (PPt GT (@OfNat.ofNat Nat (nat_lit 26) (instOfNatNat (nat_lit 26))) (@some Proof y))) ∧ (PLe (PPt GT (@OfNat.ofNat Nat (nat_lit 26) (instOfNatNat (nat_lit 26))) (@some Proof u)) (PPt GT (@OfNat.ofNat Nat (nat_lit 26) (instOfNatNat (nat_lit 26))) (@some Proof u))) ∧ (PLe (PPt GT (@OfNat.ofNat Nat (nat_lit 26) (instOfNatNat (nat_lit 26))) (@some Proof v)) (PPt GT (@OfNat.ofNat Nat (nat_lit 26) (instOfNatNat (nat_lit 26))) (@some Proof v)))) ⟨(by exact sg_4 (by assumption)), fun _ _ _ h => h, fun _ _ _ h => h, fun _ _ _ h => h, fun _ _ _ h => h⟩ trivial
   ·have h5 := of_decide_eq_false h5
    exact v_ret () [] ((false = (decide (some x = some u) && decide (some y = some v))) ∧ (PLe (PPt GT (@OfNat.ofNat Nat (nat_lit 26) (instOfNatNat (nat_lit 26))) (@some Proof x)) (PPt GT (@OfNat.ofNat Nat (nat_lit 26) (instOfNatNat (nat_lit 26))) (@some Proof x))) ∧ (PLe (PPt GT (@OfNat.ofNat Nat (nat_lit 26) (instOfNatNat (nat_lit 26))) (@some Proof y)) (PPt GT (@OfNat.ofNat Nat (nat_lit 26) (instOfNatNat (nat_lit 26))) (@some Proof y))) ∧ (PLe (PPt GT (@OfNat.ofNat Nat (nat_lit 26) (instOfNatNat (nat_lit 26))) (@some Proof u)) (PPt GT (@OfNat.ofNat Nat (nat_lit 26) (instOfNatNat (nat_lit 26))) (@some Proof u))) ∧ (PLe (PPt GT (@OfNat.ofNat Nat (nat_lit 26) (instOfNatNat (nat_lit 26))) (@some Proof v)) (PPt GT (@OfNat.ofNat Nat (nat_lit 26) (instOfNatNat (nat_lit 26))) (@some Proof v)))) ⟨(by exact sg_3f (by assumption)), fun _ _ _ h => h, fun _ _ _ h => h, fun _ _ _ h => h, fun _ _ _ h => h⟩ trivial
theorem SameGap_ok (al ar bl br : Option Proof) (h1 : (gp al).turns.length ≤ 1000000) (h2 : (gp ar).turns.length ≤ 1000000) (h3 : (gp bl).turns.length ≤ 1000000) (h4 : (gp br).turns.length ≤ 1000000) : FOk EN 20 ⟨[.pt 26 al, .pt 26 ar, .pt 26 bl, .pt 26 br], [.a [.n 0, .n 1], .a [.n 2, .n 3]], Unit, fun _ => ([.pt 26 al, .pt 26 ar, .pt 26 bl, .pt 26 br], .b (decide (al = bl) && decide (ar = br))), fun _ => True⟩ := by
  by_cases m1 : (al.isNone != bl.isNone) = true
  · exact SameGap_m1 al ar bl br m1
  · by_cases m2 : (ar.isNone != br.isNone) = true
    · exact SameGap_m2 al ar bl br m2
    · cases al with
      | none => cases bl with
        | some _ => simp at m1
        | none => cases ar with
          | none => cases br with
            | some _ => simp at m2
            | none => exact SameGap_1
          | some y => cases br with
            | none => simp at m2
            | some v => exact SameGap_2 y v h2 h4
      | some x => cases bl with
        | none => simp at m1
        | some u => cases ar with
          | none => cases br with
            | some _ => simp at m2
            | none => exact SameGap_3 x u h1 h3
          | some y => cases br with
            | none => simp at m2
            | some v => exact SameGap_4 x y u v h1 h3 h2 h4
end Go.Proofs.YtnicmjipbnhciaaDoor.X
set_option linter.unusedVariables false
set_option linter.unusedSimpArgs false
set_option maxRecDepth 100000
namespace Go.Proofs.YtnicmjipbnhciaaDoor.X
open Go Go.RowKit Go.Proofs Go.Proofs.YtnicmjipbnhciaaDoor.E
namespace Tr
theorem bal_depth (l r : Tr) : (l.bal r).depth = l.depth + r.depth + 1 := by
  unfold bal
  split
  · cases l with
    | leaf a b => rfl
    | node a b =>
      dsimp only
      split
      · cases b with
        | leaf c d => rfl
        | node c d => simp only [depth]; omega
      · simp only [depth]; omega
  · split
    · cases r with
      | leaf a b => rfl
      | node a b =>
        dsimp only
        split
        · cases a with
          | leaf c d => rfl
          | node c d => simp only [depth]; omega
        · simp only [depth]; omega
    · rfl
theorem put_depth (k v : List UInt8) : ∀ t : Tr, (t.put k v).depth ≤ t.depth + 1
  | leaf a b => by unfold put; split; simp [depth]; split; simp [depth]; simp [depth]
  | node l r => by
    have h1 := put_depth k v l; have h2 := put_depth k v r
    unfold put; split <;> rw [bal_depth] <;> simp only [depth] <;> omega
theorem cut_depth {k : List UInt8} : ∀ {t t' : Tr}, t.cut k = some (some t') → t'.depth ≤ t.depth
  | leaf a b, t', e => by unfold cut at e; split at e <;> simp at e
  | node l r, t', e => by
    unfold cut at e
    split at e
    · split at e
      · simp at e
      · simp at e; subst e; simp only [depth]; omega
      · rename_i l' hl; simp at e; subst e; rw [bal_depth]; have := cut_depth hl; simp only [depth]; omega
    · split at e
      · simp at e
      · simp at e; subst e; simp only [depth]; omega
      · rename_i r' hr; simp at e; subst e; rw [bal_depth]; have := cut_depth hr; simp only [depth]; omega
theorem height_depth : ∀ t : Tr, t.height ≤ t.depth
  | leaf _ _ => Int.le_refl _
  | node l r => by have h1 := height_depth l; have h2 := height_depth r; simp only [height, depth]; omega
theorem leaves_len : ∀ t : Tr, t.leaves.length = t.depth + 1
  | leaf _ _ => rfl
  | node l r => by simp [leaves, leaves_len l, leaves_len r, depth]; omega
end Tr
/-- A tree of at most n keys, none too long. -/
def okN (n : Nat) (o : Option Tr) : Prop := ∀ t, o = some t → t.Ks ∧ t.depth + 1 ≤ n
theorem okN.O {n : Nat} {o : Option Tr} (h : okN n o) (hn : n ≤ 600) : okO o := fun t e => by
  obtain ⟨h1, h2⟩ := h t e
  have := t.height_depth
  exact ⟨h1, by omega, by omega⟩
theorem okN.leaves {n : Nat} {o : Option Tr} (h : okN n o) : (leavesO o).length ≤ n := by
  cases o with
  | none => exact Nat.zero_le _
  | some t => obtain ⟨_, h2⟩ := h t rfl; show t.leaves.length ≤ n; rw [t.leaves_len]; exact h2
theorem okN.put {n : Nat} {o : Option Tr} {k v : List UInt8} (h : okN n o) (hk : k.length ≤ 1000) (hv : v.length ≤ 1000) : okN (n + 1) (putO k v o) := fun t e => by
  cases o with
  | none => injection e with e; subst e; exact ⟨⟨hk, hv⟩, by simp [Tr.depth]⟩
  | some s =>
    injection e with e; subst e
    obtain ⟨h1, h2⟩ := h s rfl
    have := s.put_depth k v
    exact ⟨Tr.put_Ks ⟨hk, hv⟩ h1, by omega⟩
theorem okN.cut {n : Nat} {o : Option Tr} {k : List UInt8} (h : okN n o) : okN (n + 1) (cutO k o) := fun t e => by
  cases o with
  | none => simp [cutO] at e
  | some s =>
    obtain ⟨h1, h2⟩ := h s rfl
    have e : (match s.cut k with | none => some s | some r => r) = some t := e
    cases c : s.cut k with
    | none => rw [c] at e; injection e with e; subst e; exact ⟨h1, by omega⟩
    | some r => rw [c] at e; have e : r = some t := e; subst e; exact ⟨Tr.cut_Ks h1 c, by have := Tr.cut_depth c; omega⟩
theorem putPair_len (k v : List UInt8) : ∀ l : List Pair, (putPair k v l).length ≤ l.length + 1
  | [] => Nat.le_refl _
  | x :: xs => by have := putPair_len k v xs; unfold putPair; split; simpa using this; split <;> simp
def valA (a : Act) : List UInt8 := a.value.take (if 100 < (a.value.length : Int) then 100 else (a.value.length : Int)).toNat
def stepA (a : Act) (s : Option Tr × List Pair) : Option Tr × List Pair :=
  if a.kind % 6 < 4 then (putO (keyA a) (valA a) s.1, putPair (keyA a) (valA a) s.2) else (cutO (keyA a) s.1, cutPair (keyA a) s.2)
def growG : Nat → List Act → Option Tr × List Pair → Option Tr × List Pair
  | 0, _, s => s
  | _, [], s => s
  | n + 1, a :: l, s => if 90 < (keyA a).length then s else growG n l (stepA a s)
def growT (acts : List Act) (most : Nat) : Option Tr × List Pair := growG most acts (none, [])
abbrev dA : Act := ⟨0, 0, [], []⟩
def GrI (acts : List Act) (m : Nat) (q : Nat × Option Tr × List Pair) : Prop := growG (m - q.1) (acts.drop q.1) q.2 = growT acts m ∧ q.1 ≤ m ∧ q.1 ≤ acts.length ∧ okN q.1 q.2.1 ∧ q.2.2.length ≤ q.1
theorem keyA_pos (a : Act) : 1 ≤ (keyA a).length := by unfold keyA; split; assumption; simp
theorem valA_len (a : Act) : (valA a).length ≤ 100 := by unfold valA; rw [List.length_take]; split <;> omega
section
variable {acts : List Act} {m i : Nat} {o : Option Tr} {l : List Pair}
theorem GrI.start : GrI acts m (0, none, []) := ⟨rfl, Nat.zero_le _, Nat.zero_le _, fun t e => by simp at e, Nat.le_refl _⟩
theorem GrI.stop1 (h : GrI acts m (i, o, l)) (hi : ¬ (i : Int) < acts.length) : growT acts m = (o, l) := by
  have h := h.1; rw [List.drop_of_length_le (by omega)] at h; rw [← h]; cases (m - i) <;> rfl
theorem GrI.stop2 (h : GrI acts m (i, o, l)) (hi : (m : Int) ≤ i) : growT acts m = (o, l) := by
  have h := h.1; rw [show m - i = 0 by omega] at h; rw [← h]; rfl
theorem GrI.stop3 (h : GrI acts m (i, o, l)) (hi : (i : Int) < acts.length) (hm : ¬ (m : Int) ≤ i) (hk : 90 < ((keyA (acts.getD i dA)).length : Int)) : growT acts m = (o, l) := by
  have h := h.1; rw [show m - i = (m - i - 1) + 1 by omega, drop_cons (d := dA) hi, growG, if_pos (by omega)] at h; rw [← h]
theorem GrI.next (h : GrI acts m (i, o, l)) (hi : (i : Int) < acts.length) (hm : ¬ (m : Int) ≤ i) (hk : ¬ 90 < ((keyA (acts.getD i dA)).length : Int)) : growG (m - (i + 1)) (acts.drop (i + 1)) (stepA (acts.getD i dA) (o, l)) = growT acts m := by
  have h := h.1; rw [show m - i = (m - i - 1) + 1 by omega, drop_cons (d := dA) hi, growG, if_neg (by omega)] at h
  rw [← h, show m - (i + 1) = m - i - 1 by omega]
theorem GrI.put (h : GrI acts m (i, o, l)) (hi : (i : Int) < acts.length) (hm : ¬ (m : Int) ≤ i) (hk : ¬ 90 < ((keyA (acts.getD i dA)).length : Int)) (h6 : (acts.getD i dA).kind % 6 < 4) : GrI acts m (i + 1, putO (keyA (acts.getD i dA)) (valA (acts.getD i dA)) o, putPair (keyA (acts.getD i dA)) (valA (acts.getD i dA)) l) ∧ acts.length - (i + 1) < acts.length - i := by
  have hn := h.next hi hm hk
  obtain ⟨a1, a2, a3, a4, a5⟩ := h
  rw [stepA, if_pos h6] at hn
  have a5 : l.length ≤ i := a5
  have := putPair_len (keyA (acts.getD i dA)) (valA (acts.getD i dA)) l
  refine ⟨⟨hn, by show i + 1 ≤ m; omega, by show i + 1 ≤ acts.length; omega, okN.put a4 (by omega) (by have := valA_len (acts.getD i dA); omega), by show (putPair _ _ l).length ≤ i + 1; omega⟩, by omega⟩
theorem GrI.cut (h : GrI acts m (i, o, l)) (hi : (i : Int) < acts.length) (hm : ¬ (m : Int) ≤ i) (hk : ¬ 90 < ((keyA (acts.getD i dA)).length : Int)) (h6 : ¬ (acts.getD i dA).kind % 6 < 4) : GrI acts m (i + 1, cutO (keyA (acts.getD i dA)) o, cutPair (keyA (acts.getD i dA)) l) ∧ acts.length - (i + 1) < acts.length - i := by
  have hn := h.next hi hm hk
  obtain ⟨a1, a2, a3, a4, a5⟩ := h
  rw [stepA, if_neg h6] at hn
  have a5 : l.length ≤ i := a5
  have : (cutPair (keyA (acts.getD i dA)) l).length ≤ l.length := List.length_filter_le ..
  refine ⟨⟨hn, by show i + 1 ≤ m; omega, by show i + 1 ≤ acts.length; omega, okN.cut a4, by show (cutPair _ l).length ≤ i + 1; omega⟩, by omega⟩
end
noncomputable def ccR13_21 : Code := (Tryd.f21.body).getD .skip
theorem Grow_ok (acts : List Act) (m : Nat) (hm : m ≤ 100) : FOk EN 21 ⟨[.pr wordsP, .rd 133 acts], [.n 1, .i m], Unit, fun _ => ([.pr wordsP, .rd 133 acts, .pn (PTO (growT acts m).1) false false, .ow 46 ((growT acts m).2)], .t [.p 2 0, .n 3]), fun _ => True⟩ := by
 refine v_fun Tryd.f21 ccR13_21 MX (fun ν F σ w => ?_) Tryd.func21
 refine v_nl ?_
 refine v_call _ [0] (new_ok) ((wordsP = wordsP)) rfl (fun g1 p2 => ?_)
 have p2 : True := p2
 refine v_loop (fun q : Nat × Option Tr × List Pair => ([(15, .i q.1), (6, .p 4 0), (7, .n 5)], [.pn (PTO q.2.1) false false, .ow 46 q.2.2])) (fun q => GrI acts m q) (fun q => acts.length - q.1) (0, none, []) [3, 2] (((0 : Int) = (↑(0 : Nat) : Int)) ∧ (PTO none = PTO none) ∧ (false = false) ∧ (Eq (α := List Pair) [] [])) ⟨rfl, rfl, rfl, rfl⟩ (by exact GrI.start) (fun q hk3 => ?_)
 have i1 := (‹GrI acts m q›).2
 refine v_if (decide ((↑q.fst : Int) < (↑acts.length : Int))) True trivial (fun h4 => ?_) (fun h4 => ?_)
 ·have h4 := of_decide_eq_true h4
  refine v_plan (.fs [0, 2, 3, 4, 5, 6, 7, 8] (.o 1 (.fs [9, 10] .e))) [5, 9] ((0 ≤ (↑q.fst : Int) ∧ (↑q.fst : Int) < (↑acts.length : Int))) (by omega) ?_
  refine v_call _ [6, 7] (Key_ok (acts.getD (↑q.fst : Int).toNat (Act.mk 0 0 [] []))) (((0 ≤ if 100 < (↑(acts.getD (↑q.fst : Int).toNat (Act.mk 0 0 [] [])).value.length : Int) then 100 else (↑(acts.getD (↑q.fst : Int).toNat (Act.mk 0 0 [] [])).value.length : Int)) ∧ (if 100 < (↑(acts.getD (↑q.fst : Int).toNat (Act.mk 0 0 [] [])).value.length : Int) then 100 else (↑(acts.getD (↑q.fst : Int).toNat (Act.mk 0 0 [] [])).value.length : Int)) ≤ (↑(acts.getD (↑q.fst : Int).toNat (Act.mk 0 0 [] [])).value.length : Int)) ∧ ((acts.getD (↑q.fst : Int).toNat (Act.mk 0 0 [] [])).kind = (acts.getD (↑q.fst : Int).toNat (Act.mk 0 0 [] [])).kind) ∧ ((acts.getD (↑q.fst : Int).toNat (Act.mk 0 0 [] [])).k = (acts.getD (↑q.fst : Int).toNat (Act.mk 0 0 [] [])).k) ∧ ((acts.getD (↑q.fst : Int).toNat (Act.mk 0 0 [] [])).raw = (acts.getD (↑q.fst : Int).toNat (Act.mk 0 0 [] [])).raw) ∧ ((acts.getD (↑q.fst : Int).toNat (Act.mk 0 0 [] [])).value = (acts.getD (↑q.fst : Int).toNat (Act.mk 0 0 [] [])).value)) ⟨(by omega), rfl, rfl, rfl, rfl⟩ (fun g5 p6 => ?_)
  have p6 : True := p6
  refine v_guard 32 (decide ((↑m : Int) ≤ (↑q.fst : Int))) True trivial (fun h7 => ?_) (fun h7 => ?_)
  ·have h7 := of_decide_eq_true h7
   refine v_leave (.ex 0) True trivial ?_
   exact v_ret () [4, 5] ((wordsP = wordsP) ∧ (acts = acts) ∧ (PTO q.snd.fst = PTO (growT acts m).fst) ∧ (false = false) ∧ (q.snd.snd = (growT acts m).snd)) ⟨rfl, rfl, (by (rw [GrI.stop2 (by assumption) (by assumption)])), rfl, (by (rw [GrI.stop2 (by assumption) (by assumption)]))⟩ trivial
  ·have h7 := of_decide_eq_false h7
   refine v_if (decide (90 < (↑(keyA (acts.getD (↑q.fst : Int).toNat (Act.mk 0 0 [] []))).length : Int))) True trivial (fun h8 => ?_) (fun h8 => ?_)
   ·have h8 := of_decide_eq_true h8
    refine v_leave (.ex 0) True trivial ?_
    exact v_ret () [4, 5] ((wordsP = wordsP) ∧ (acts = acts) ∧ (PTO q.snd.fst = PTO (growT acts m).fst) ∧ (false = false) ∧ (q.snd.snd = (growT acts m).snd)) ⟨rfl, rfl, (by (rw [GrI.stop3 (by assumption) (by assumption) (by assumption) (by assumption)])), rfl, (by (rw [GrI.stop3 (by assumption) (by assumption) (by assumption) (by assumption)]))⟩ trivial
   ·have h8 := of_decide_eq_false h8
    refine v_if (decide ((acts.getD (↑q.fst : Int).toNat (Act.mk 0 0 [] [])).kind % 6 < 4)) (((6 : UInt8) ≠ (0 : UInt8))) (by decide) (fun h9 => ?_) (fun h9 => ?_)
    ·have h9 := of_decide_eq_true h9
     refine v_call _ [0, 11, 10, 4] (Put_ok (q.snd.fst) (keyA (acts.getD (↑q.fst : Int).toNat (Act.mk 0 0 [] []))) (List.take (if 100 < (↑(acts.getD (↑q.fst : Int).toNat (Act.mk 0 0 [] [])).value.length : Int) then 100 else (↑(acts.getD (↑q.fst : Int).toNat (Act.mk 0 0 [] [])).value.length : Int)).toNat (acts.getD (↑q.fst : Int).toNat (Act.mk 0 0 [] [])).value) (by exact i1.2.2.1.O (by omega)) (by exact ⟨keyA_pos _, by omega⟩) (by (simp; omega))) ((wordsP = wordsP) ∧ (keyA (acts.getD (↑q.fst : Int).toNat (Act.mk 0 0 [] [])) = keyA (acts.getD (↑q.fst : Int).toNat (Act.mk 0 0 [] []))) ∧ (List.take (if 100 < (↑(acts.getD (↑q.fst : Int).toNat (Act.mk 0 0 [] [])).value.length : Int) then 100 else (↑(acts.getD (↑q.fst : Int).toNat (Act.mk 0 0 [] [])).value.length : Int)).toNat (acts.getD (↑q.fst : Int).toNat (Act.mk 0 0 [] [])).value = List.take (if 100 < (↑(acts.getD (↑q.fst : Int).toNat (Act.mk 0 0 [] [])).value.length : Int) then 100 else (↑(acts.getD (↑q.fst : Int).toNat (Act.mk 0 0 [] [])).value.length : Int)).toNat (acts.getD (↑q.fst : Int).toNat (Act.mk 0 0 [] [])).value) ∧ (PTO q.snd.fst = PTO q.snd.fst) ∧ (false = false)) ⟨rfl, rfl, rfl, rfl, rfl⟩ (fun g10 p11 => ?_)
     have p11 : True := p11
     refine v_call _ [5, 11, 10] (PutPair_ok (q.snd.snd) (keyA (acts.getD (↑q.fst : Int).toNat (Act.mk 0 0 [] []))) (List.take (if 100 < (↑(acts.getD (↑q.fst : Int).toNat (Act.mk 0 0 [] [])).value.length : Int) then 100 else (↑(acts.getD (↑q.fst : Int).toNat (Act.mk 0 0 [] [])).value.length : Int)).toNat (acts.getD (↑q.fst : Int).toNat (Act.mk 0 0 [] [])).value) (by omega)) ((q.snd.snd = q.snd.snd) ∧ (keyA (acts.getD (↑q.fst : Int).toNat (Act.mk 0 0 [] [])) = keyA (acts.getD (↑q.fst : Int).toNat (Act.mk 0 0 [] []))) ∧ (List.take (if 100 < (↑(acts.getD (↑q.fst : Int).toNat (Act.mk 0 0 [] [])).value.length : Int) then 100 else (↑(acts.getD (↑q.fst : Int).toNat (Act.mk 0 0 [] [])).value.length : Int)).toNat (acts.getD (↑q.fst : Int).toNat (Act.mk 0 0 [] [])).value = List.take (if 100 < (↑(acts.getD (↑q.fst : Int).toNat (Act.mk 0 0 [] [])).value.length : Int) then 100 else (↑(acts.getD (↑q.fst : Int).toNat (Act.mk 0 0 [] [])).value.length : Int)).toNat (acts.getD (↑q.fst : Int).toNat (Act.mk 0 0 [] [])).value)) ⟨rfl, rfl, rfl⟩ (fun g12 p13 => ?_)
     have p13 : True := p13
     exact v_back ((q.fst + 1, putO (keyA (acts.getD (↑q.fst : Int).toNat (Act.mk 0 0 [] []))) (List.take (if 100 < (↑(acts.getD (↑q.fst : Int).toNat (Act.mk 0 0 [] [])).value.length : Int) then 100 else (↑(acts.getD (↑q.fst : Int).toNat (Act.mk 0 0 [] [])).value.length : Int)).toNat (acts.getD (↑q.fst : Int).toNat (Act.mk 0 0 [] [])).value) q.snd.fst, putPair (keyA (acts.getD (↑q.fst : Int).toNat (Act.mk 0 0 [] []))) (List.take (if 100 < (↑(acts.getD (↑q.fst : Int).toNat (Act.mk 0 0 [] [])).value.length : Int) then 100 else (↑(acts.getD (↑q.fst : Int).toNat (Act.mk 0 0 [] [])).value.length : Int)).toNat (acts.getD (↑q.fst : Int).toNat (Act.mk 0 0 [] [])).value) q.snd.snd)) [12, 13] ((I64 (↑q.fst + 1)) ∧ ((↑q.fst : Int) + 1 = (↑(q.fst + 1) : Int)) ∧ (PTO (putO (keyA (acts.getD (↑q.fst : Int).toNat (Act.mk 0 0 [] []))) (List.take (if 100 < (↑(acts.getD (↑q.fst : Int).toNat (Act.mk 0 0 [] [])).value.length : Int) then 100 else (↑(acts.getD (↑q.fst : Int).toNat (Act.mk 0 0 [] [])).value.length : Int)).toNat (acts.getD (↑q.fst : Int).toNat (Act.mk 0 0 [] [])).value) q.snd.fst) = PTO (putO (keyA (acts.getD (↑q.fst : Int).toNat (Act.mk 0 0 [] []))) (List.take (if 100 < (↑(acts.getD (↑q.fst : Int).toNat (Act.mk 0 0 [] [])).value.length : Int) then 100 else (↑(acts.getD (↑q.fst : Int).toNat (Act.mk 0 0 [] [])).value.length : Int)).toNat (acts.getD (↑q.fst : Int).toNat (Act.mk 0 0 [] [])).value) q.snd.fst)) ∧ (false = false) ∧ (putPair (keyA (acts.getD (↑q.fst : Int).toNat (Act.mk 0 0 [] []))) (List.take (if 100 < (↑(acts.getD (↑q.fst : Int).toNat (Act.mk 0 0 [] [])).value.length : Int) then 100 else (↑(acts.getD (↑q.fst : Int).toNat (Act.mk 0 0 [] [])).value.length : Int)).toNat (acts.getD (↑q.fst : Int).toNat (Act.mk 0 0 [] [])).value) q.snd.snd = putPair (keyA (acts.getD (↑q.fst : Int).toNat (Act.mk 0 0 [] []))) (List.take (if 100 < (↑(acts.getD (↑q.fst : Int).toNat (Act.mk 0 0 [] [])).value.length : Int) then 100 else (↑(acts.getD (↑q.fst : Int).toNat (Act.mk 0 0 [] [])).value.length : Int)).toNat (acts.getD (↑q.fst : Int).toNat (Act.mk 0 0 [] [])).value) q.snd.snd)) ⟨(by (unfold I64; omega)), rfl, rfl, rfl, rfl⟩ (show GrI acts m (q.fst + 1, putO (keyA (acts.getD (↑q.fst : Int).toNat (Act.mk 0 0 [] []))) (List.take (if 100 < (↑(acts.getD (↑q.fst : Int).toNat (Act.mk 0 0 [] [])).value.length : Int) then 100 else (↑(acts.getD (↑q.fst : Int).toNat (Act.mk 0 0 [] [])).value.length : Int)).toNat (acts.getD (↑q.fst : Int).toNat (Act.mk 0 0 [] [])).value) q.snd.fst, putPair (keyA (acts.getD (↑q.fst : Int).toNat (Act.mk 0 0 [] []))) (List.take (if 100 < (↑(acts.getD (↑q.fst : Int).toNat (Act.mk 0 0 [] [])).value.length : Int) then 100 else (↑(acts.getD (↑q.fst : Int).toNat (Act.mk 0 0 [] [])).value.length : Int)).toNat (acts.getD (↑q.fst : Int).toNat (Act.mk 0 0 [] [])).value) q.snd.snd) ∧ acts.length - (q.fst + 1) < acts.length - q.fst from (by exact GrI.put (by assumption) (by assumption) (by assumption) (by assumption) (by assumption)))
    ·have h9 := of_decide_eq_false h9
     refine v_call _ [0, 11, 4] (Cut_ok (q.snd.fst) (keyA (acts.getD (↑q.fst : Int).toNat (Act.mk 0 0 [] []))) (by exact i1.2.2.1.O (by omega))) ((wordsP = wordsP) ∧ (keyA (acts.getD (↑q.fst : Int).toNat (Act.mk 0 0 [] [])) = keyA (acts.getD (↑q.fst : Int).toNat (Act.mk 0 0 [] []))) ∧ (PTO q.snd.fst = PTO q.snd.fst) ∧ (false = false)) ⟨rfl, rfl, rfl, rfl⟩ (fun g14 p15 => ?_)
     have p15 : True := p15
     refine v_call _ [5, 11] (CutPair_ok (q.snd.snd) (keyA (acts.getD (↑q.fst : Int).toNat (Act.mk 0 0 [] []))) (by omega)) ((q.snd.snd = q.snd.snd) ∧ (keyA (acts.getD (↑q.fst : Int).toNat (Act.mk 0 0 [] [])) = keyA (acts.getD (↑q.fst : Int).toNat (Act.mk 0 0 [] [])))) ⟨rfl, rfl⟩ (fun g16 p17 => ?_)
     have p17 : True := p17
     exact v_back ((q.fst + 1, cutO (keyA (acts.getD (↑q.fst : Int).toNat (Act.mk 0 0 [] []))) q.snd.fst, cutPair (keyA (acts.getD (↑q.fst : Int).toNat (Act.mk 0 0 [] []))) q.snd.snd)) [12, 13] ((I64 (↑q.fst + 1)) ∧ ((↑q.fst : Int) + 1 = (↑(q.fst + 1) : Int)) ∧ (PTO (cutO (keyA (acts.getD (↑q.fst : Int).toNat (Act.mk 0 0 [] []))) q.snd.fst) = PTO (cutO (keyA (acts.getD (↑q.fst : Int).toNat (Act.mk 0 0 [] []))) q.snd.fst)) ∧ (false = false) ∧ (cutPair (keyA (acts.getD (↑q.fst : Int).toNat (Act.mk 0 0 [] []))) q.snd.snd = cutPair (keyA (acts.getD (↑q.fst : Int).toNat (Act.mk 0 0 [] []))) q.snd.snd)) ⟨(by (unfold I64; omega)), rfl, rfl, rfl, rfl⟩ (show GrI acts m (q.fst + 1, cutO (keyA (acts.getD (↑q.fst : Int).toNat (Act.mk 0 0 [] []))) q.snd.fst, cutPair (keyA (acts.getD (↑q.fst : Int).toNat (Act.mk 0 0 [] []))) q.snd.snd) ∧ acts.length - (q.fst + 1) < acts.length - q.fst from (by exact GrI.cut (by assumption) (by assumption) (by assumption) (by assumption) (by assumption)))
 ·have h4 := of_decide_eq_false h4
  refine v_leave (.ex 0) True trivial ?_
  exact v_ret () [4, 5] ((wordsP = wordsP) ∧ (acts = acts) ∧ (PTO q.snd.fst = PTO (growT acts m).fst) ∧ (false = false) ∧ (q.snd.snd = (growT acts m).snd)) ⟨rfl, rfl, (by (rw [GrI.stop1 (by assumption) (by assumption)])), rfl, (by (rw [GrI.stop1 (by assumption) (by assumption)]))⟩ trivial
end Go.Proofs.YtnicmjipbnhciaaDoor.X
set_option linter.unusedVariables false
set_option linter.unusedSimpArgs false
set_option maxRecDepth 100000
namespace Go.Proofs.YtnicmjipbnhciaaDoor.X
open Go Go.RowKit Go.Proofs Go.Proofs.YtnicmjipbnhciaaDoor.E
abbrev klt (a b : List UInt8) : Prop := Lib.compareBytes a b < 0
theorem cmp_anti : ∀ a b : List UInt8, Lib.compareBytes b a = - Lib.compareBytes a b
  | [], [] => rfl
  | [], _ :: _ => rfl
  | _ :: _, [] => rfl
  | a :: xs, b :: ys => by
    unfold Lib.compareBytes
    by_cases h1 : a < b
    · have h2 : ¬ b < a := fun h => absurd (UInt8.lt_trans h1 h) (UInt8.lt_irrefl _)
      simp [h1, h2]
    · by_cases h2 : b < a
      · simp [h1, h2]
      · simp only [if_neg h1, if_neg h2]; exact cmp_anti xs ys
theorem klt_trans : ∀ {a b c : List UInt8}, klt a b → klt b c → klt a c
  | [], [], _, h, _ => by simp [klt, Lib.compareBytes] at h
  | [], _ :: _, [], _, h => by simp [klt, Lib.compareBytes] at h
  | [], _ :: _, _ :: _, _, _ => by simp [klt, Lib.compareBytes]
  | _ :: _, [], _, h, _ => by simp [klt, Lib.compareBytes] at h
  | _ :: _, _ :: _, [], _, h => by simp [klt, Lib.compareBytes] at h
  | a :: xs, b :: ys, c :: zs, h1, h2 => by
    unfold klt at h1 h2 ⊢
    unfold Lib.compareBytes at h1 h2 ⊢
    by_cases p : a < b
    · by_cases q : b < c
      · rw [if_pos (UInt8.lt_trans p q)]; decide
      · rw [if_neg q] at h2
        by_cases q2 : c < b
        · rw [if_pos q2] at h2; exact absurd h2 (by decide)
        · have : b = c := UInt8.le_antisymm (UInt8.not_lt.1 q2) (UInt8.not_lt.1 q)
          subst this; rw [if_pos p]; decide
    · rw [if_neg p] at h1
      by_cases p2 : b < a
      · rw [if_pos p2] at h1; exact absurd h1 (by decide)
      · have : a = b := UInt8.le_antisymm (UInt8.not_lt.1 p2) (UInt8.not_lt.1 p)
        subst this
        rw [if_neg p2] at h1
        by_cases q : a < c
        · rw [if_pos q]; decide
        · rw [if_neg q] at h2 ⊢
          by_cases q2 : c < a
          · rw [if_pos q2] at h2; exact absurd h2 (by decide)
          · rw [if_neg q2] at h2 ⊢; exact klt_trans h1 h2
theorem klt_irr (a : List UInt8) : ¬ klt a a := by have := cmp_anti a a; unfold klt; omega
theorem klt_ne {a b : List UInt8} (h : klt a b) : a ≠ b := fun e => by subst e; exact klt_irr a h
theorem kge {a b : List UInt8} (h : ¬ klt a b) : a = b ∨ klt b a := by
  have := cmp_anti a b
  unfold klt at *
  by_cases e : Lib.compareBytes a b = 0
  · exact .inl (cmp_zero.1 e)
  · exact .inr (by omega)
def Srt (l : List Pair) : Prop := l.Pairwise fun p q => klt p.key q.key
namespace Tr
theorem leaves_ne : ∀ t : Tr, ∃ v l, t.leaves = ⟨t.least, v⟩ :: l
  | leaf k v => ⟨v, [], rfl⟩
  | node l r => by
    obtain ⟨v, x, e⟩ := leaves_ne l
    exact ⟨v, x ++ r.leaves, by simp [leaves, e, least]⟩
theorem bal_leaves (l r : Tr) : (l.bal r).leaves = l.leaves ++ r.leaves := by
  unfold bal
  split
  · cases l with
    | leaf a b => rfl
    | node a b =>
      dsimp only
      split
      · cases b with
        | leaf c d => rfl
        | node c d => simp [leaves]
      · simp [leaves]
  · split
    · cases r with
      | leaf a b => rfl
      | node a b =>
        dsimp only
        split
        · cases a with
          | leaf c d => rfl
          | node c d => simp [leaves]
        · simp [leaves]
    · rfl
/-- where a key belongs -/
theorem left_of {l r : Tr} (h : Srt (node l r).leaves) {p : Pair} (hp : p ∈ l.leaves) : klt p.key r.least := by
  obtain ⟨v, x, e⟩ := leaves_ne r
  have := (List.pairwise_append.1 h).2.2 p hp ⟨r.least, v⟩ (by rw [e]; exact List.mem_cons_self ..)
  exact this
theorem right_of {r : Tr} (h : Srt r.leaves) {p : Pair} (hp : p ∈ r.leaves) : ¬ klt p.key r.least := by
  obtain ⟨v, x, e⟩ := leaves_ne r
  rw [e] at h hp
  rcases List.mem_cons.1 hp with rfl | hp
  · exact klt_irr _
  · have := (List.pairwise_cons.1 h).1 p hp
    exact fun q => klt_irr _ (klt_trans this q)
end Tr
theorem less_klt {a b : List UInt8} : Op.bytesLess a b = true ↔ klt a b := by rw [less_cmp]; simp
theorem putPair_left (k v : List UInt8) : ∀ (l r : List Pair), (∀ p ∈ r, ¬ klt p.key k ∧ p.key ≠ k) → putPair k v (l ++ r) = putPair k v l ++ r
  | [], r, h => by
    cases r with
    | nil => rfl
    | cons x r =>
      have h1 := h x (List.mem_cons_self ..)
      show (if Op.bytesLess x.key k = true then _ else _) = _
      rw [if_neg (fun q => h1.1 (less_klt.1 q)), if_neg h1.2]; rfl
  | x :: l, r, h => by
    show (if Op.bytesLess x.key k = true then _ else _) = (if Op.bytesLess x.key k = true then _ else _) ++ r
    split
    · show x :: putPair k v (l ++ r) = x :: (putPair k v l ++ r)
      rw [putPair_left k v l r h]
    · split <;> simp
theorem putPair_right (k v : List UInt8) : ∀ (l r : List Pair), (∀ p ∈ l, klt p.key k) → putPair k v (l ++ r) = l ++ putPair k v r
  | [], r, h => rfl
  | x :: l, r, h => by
    show (if Op.bytesLess x.key k = true then _ else _) = _
    rw [if_pos (less_klt.2 (h x (List.mem_cons_self ..)))]
    show x :: putPair k v (l ++ r) = x :: (l ++ putPair k v r)
    rw [putPair_right k v l r (fun p hp => h p (List.mem_cons_of_mem _ hp))]
theorem mem_putPair {k v : List UInt8} : ∀ {l : List Pair} {p : Pair}, p ∈ putPair k v l → p = ⟨k, v⟩ ∨ p ∈ l
  | [], p, h => .inl (by simpa [putPair] using h)
  | x :: l, p, h => by
    unfold putPair at h
    split at h
    · rcases List.mem_cons.1 h with rfl | h
      · exact .inr (List.mem_cons_self ..)
      · rcases mem_putPair h with h | h
        · exact .inl h
        · exact .inr (List.mem_cons_of_mem _ h)
    · split at h
      · rcases List.mem_cons.1 h with h | h
        · exact .inl h
        · exact .inr (List.mem_cons_of_mem _ h)
      · rcases List.mem_cons.1 h with h | h
        · exact .inl h
        · exact .inr h
theorem Srt.put {k v : List UInt8} : ∀ {l : List Pair}, Srt l → Srt (putPair k v l)
  | [], h => List.pairwise_singleton ..
  | x :: l, h => by
    obtain ⟨h1, h2⟩ := List.pairwise_cons.1 h
    unfold putPair
    split
    · rename_i q
      have q := less_klt.1 q
      refine List.pairwise_cons.2 ⟨fun p hp => ?_, Srt.put h2⟩
      rcases mem_putPair hp with rfl | hp
      · exact q
      · exact h1 p hp
    · rename_i q
      have q : ¬ klt x.key k := fun e => q (less_klt.2 e)
      split
      · rename_i e
        exact List.pairwise_cons.2 ⟨fun p hp => by have := h1 p hp; rw [e] at this; exact this, h2⟩
      · rename_i e
        have hx : klt k x.key := (kge q).resolve_left e
        exact List.pairwise_cons.2 ⟨fun p hp => by
          rcases List.mem_cons.1 hp with rfl | hp
          · exact hx
          · exact klt_trans hx (h1 p hp), h⟩
theorem Srt.cut {k : List UInt8} {l : List Pair} (h : Srt l) : Srt (cutPair k l) := List.Pairwise.sublist List.filter_sublist h
namespace Tr
theorem put_leaves (k v : List UInt8) : ∀ t : Tr, Srt t.leaves → (t.put k v).leaves = putPair k v t.leaves
  | leaf a b, _ => by
    unfold put
    show _ = (if Op.bytesLess a k = true then _ else _)
    have := cmp_anti k a
    by_cases h1 : Lib.compareBytes k a < 0
    · rw [if_pos h1, if_neg (fun q => by have := less_t q; omega), if_neg (fun e => by subst e; exact klt_irr _ h1)]; rfl
    · rw [if_neg h1]
      by_cases h2 : 0 < Lib.compareBytes k a
      · rw [if_pos h2, if_pos (less_klt.2 (by unfold klt; omega))]; rfl
      · have e : k = a := cmp_zero.1 (by omega)
        rw [if_neg h2, if_neg (fun q => by have := less_t q; omega), if_pos e.symm]; rfl
  | node l r, h => by
    have hl : Srt l.leaves := (List.pairwise_append.1 h).1
    have hr : Srt r.leaves := (List.pairwise_append.1 h).2.1
    unfold put
    split
    · rename_i q
      rw [bal_leaves, put_leaves k v l hl]
      refine (putPair_left k v l.leaves r.leaves fun p hp => ?_).symm
      have h2 := right_of hr hp
      exact ⟨fun e => h2 (klt_trans e q), fun e => h2 (by rw [e]; exact q)⟩
    · rename_i q
      rw [bal_leaves, put_leaves k v r hr]
      refine (putPair_right k v l.leaves r.leaves fun p hp => ?_).symm
      have h2 := left_of h hp
      rcases kge q with e | e
      · rw [e]; exact h2
      · exact klt_trans h2 e
theorem cut_leaves (k : List UInt8) : ∀ t : Tr, Srt t.leaves → (t.cut k = none ∧ ∀ p ∈ t.leaves, p.key ≠ k) ∨ ∃ r, t.cut k = some r ∧ leavesO r = cutPair k t.leaves ∧ ∃ p ∈ t.leaves, p.key = k
  | leaf a b, _ => by
    unfold cut
    by_cases e : a = k
    · rw [if_pos e]; exact .inr ⟨none, rfl, by simp [leavesO, cutPair, leaves, e], _, List.mem_singleton_self _, e⟩
    · rw [if_neg e]; exact .inl ⟨rfl, fun p hp => by rw [List.mem_singleton.1 hp]; exact e⟩
  | node l r, h => by
    have hl : Srt l.leaves := (List.pairwise_append.1 h).1
    have hr : Srt r.leaves := (List.pairwise_append.1 h).2.1
    unfold cut
    by_cases q : Lib.compareBytes k r.least < 0
    · rw [if_pos q]
      have nr : ∀ p ∈ r.leaves, p.key ≠ k := fun p hp e => right_of hr hp (by rw [e]; exact q)
      have er : cutPair k r.leaves = r.leaves := List.filter_eq_self.2 fun p hp => decide_eq_true (nr p hp)
      rcases cut_leaves k l hl with ⟨e, hn⟩ | ⟨x, e, e2, p, hp, hk⟩
      · rw [e]; exact .inl ⟨rfl, fun p hp => by rcases List.mem_append.1 hp with hp | hp; exact hn p hp; exact nr p hp⟩
      · rw [e]
        refine .inr ?_
        have e3 : cutPair k (node l r).leaves = leavesO x ++ r.leaves := by
          show cutPair k (l.leaves ++ r.leaves) = _
          rw [e2, ← er]; simp [cutPair, List.filter_append]
        cases x with
        | none => exact ⟨some r, rfl, by rw [e3]; rfl, p, List.mem_append_left _ hp, hk⟩
        | some l' => exact ⟨some (l'.bal r), rfl, by rw [e3]; exact bal_leaves _ _, p, List.mem_append_left _ hp, hk⟩
    · rw [if_neg q]
      have nl : ∀ p ∈ l.leaves, p.key ≠ k := fun p hp e => q (by have := left_of h hp; rw [e] at this; exact this)
      have el : cutPair k l.leaves = l.leaves := List.filter_eq_self.2 fun p hp => decide_eq_true (nl p hp)
      rcases cut_leaves k r hr with ⟨e, hn⟩ | ⟨x, e, e2, p, hp, hk⟩
      · rw [e]; exact .inl ⟨rfl, fun p hp => by rcases List.mem_append.1 hp with hp | hp; exact nl p hp; exact hn p hp⟩
      · rw [e]
        refine .inr ?_
        have e3 : cutPair k (node l r).leaves = l.leaves ++ leavesO x := by
          show cutPair k (l.leaves ++ r.leaves) = _
          rw [e2, ← el]; simp [cutPair, List.filter_append]
        cases x with
        | none => exact ⟨some l, rfl, by rw [e3]; simp [leavesO], p, List.mem_append_right _ hp, hk⟩
        | some r' => exact ⟨some (l.bal r'), rfl, by rw [e3]; exact bal_leaves _ _, p, List.mem_append_right _ hp, hk⟩
end Tr
theorem putO_leaves {k v : List UInt8} {o : Option Tr} (h : Srt (leavesO o)) : leavesO (putO k v o) = putPair k v (leavesO o) := by
  cases o with
  | none => rfl
  | some t => exact Tr.put_leaves k v t h
theorem cutO_leaves {k : List UInt8} {o : Option Tr} (h : Srt (leavesO o)) : leavesO (cutO k o) = cutPair k (leavesO o) := by
  cases o with
  | none => rfl
  | some t =>
    rcases Tr.cut_leaves k t h with ⟨e, hn⟩ | ⟨r, e, e2, _⟩
    · rw [show cutO k (some t) = some t by simp [cutO, e]]
      exact (List.filter_eq_self.2 fun p hp => decide_eq_true (hn p hp)).symm
    · rw [show cutO k (some t) = r by simp [cutO, e]]; exact e2
theorem growG_ok : ∀ (n : Nat) (acts : List Act) (s : Option Tr × List Pair), Srt (leavesO s.1) → s.2 = leavesO s.1 → Srt (leavesO (growG n acts s).1) ∧ (growG n acts s).2 = leavesO (growG n acts s).1
  | 0, acts, s, h, e => by unfold growG; exact ⟨h, e⟩
  | n + 1, [], s, h, e => by unfold growG; exact ⟨h, e⟩
  | n + 1, a :: l, s, h, e => by
    unfold growG
    split
    · exact ⟨h, e⟩
    · refine growG_ok n l _ ?_ ?_ <;> unfold stepA <;> split
      · rw [putO_leaves h]; exact h.put
      · rw [cutO_leaves h]; exact h.cut
      · rw [putO_leaves h, e]
      · rw [cutO_leaves h, e]
theorem growT_ok (acts : List Act) (m : Nat) : Srt (leavesO (growT acts m).1) ∧ (growT acts m).2 = leavesO (growT acts m).1 := growG_ok m acts (none, []) List.Pairwise.nil rfl
end Go.Proofs.YtnicmjipbnhciaaDoor.X
set_option linter.unusedVariables false
set_option linter.unusedSimpArgs false
set_option maxRecDepth 100000
namespace Go.Proofs.YtnicmjipbnhciaaDoor.X
open Go Go.RowKit Go.Proofs Go.Proofs.YtnicmjipbnhciaaDoor.E
theorem putO_nn {k v : List UInt8} {o : Option Tr} : false = (putO k v o).isNone := by cases o <;> rfl
noncomputable def ccR14_67 : Code := (Tryd.f67.body).getD .skip
theorem Grown_ok : FOk EN 67 ⟨[], [.v (.slice none 0 0)], Unit, fun _ => ([], .v (.pointer none)), fun _ => True⟩ := by
 refine v_fun Tryd.f67 ccR14_67 MX (fun ν F σ w => ?_) Tryd.func67
 refine v_nl ?_
 refine v_loop (fun u : Unit => ([(4, .i 0), (3, .v (.pointer none))], [])) (fun _ => True) (fun _ => 0) () [] (((0 : Int) = (0 : Int)) ∧ (Value.pointer none = Value.pointer none)) ⟨rfl, rfl⟩ trivial (fun u hk1 => ?_)
 refine v_if (decide ((0 : Int) < (↑(0 : Nat) : Int))) True trivial (fun h2 => ?_) (fun h2 => ?_)
 ·have h2 := of_decide_eq_true h2
  omega
 ·have h2 := of_decide_eq_false h2
  refine v_leave (.ex 0) True trivial ?_
  exact v_ret () [] ((Value.pointer none = Value.pointer none)) rfl trivial
theorem findG_ge {k : List UInt8} : ∀ {l : List Pair} {i : Nat}, 0 ≤ findG k l i ↔ ∃ p ∈ l, p.key = k
  | [], i => by simp [findG]
  | x :: xs, i => by
    unfold findG
    split
    · rename_i h; exact ⟨fun _ => ⟨x, List.mem_cons_self .., h⟩, fun _ => by omega⟩
    · rename_i h
      rw [findG_ge (l := xs)]
      exact ⟨fun ⟨p, a, b⟩ => ⟨p, List.mem_cons_of_mem _ a, b⟩, fun ⟨p, a, b⟩ => by rcases List.mem_cons.1 a with rfl | a; exact absurd b h; exact ⟨p, a, b⟩⟩
theorem find_ge {k : List UInt8} {l : List Pair} : 0 ≤ findP l k ↔ ∃ p ∈ l, p.key = k := findG_ge
theorem cut_there {k : List UInt8} {o : Option Tr} (h : Srt (leavesO o)) (hf : 0 ≤ findP (leavesO o) k) : o.isNone = false ∧ ((gt o).cut k).isSome = true ∧ cutR k (gt o) = cutO k o := by
  obtain ⟨p, hp, hk⟩ := find_ge.1 hf
  cases o with
  | none => simp [leavesO] at hp
  | some t =>
    rcases Tr.cut_leaves k t h with ⟨e, hn⟩ | ⟨r, e, e2, _⟩
    · exact absurd hk (hn p hp)
    · exact ⟨rfl, by show (t.cut k).isSome = true; rw [e]; rfl, by show (t.cut k).getD none = _; rw [e, show cutO k (some t) = r by simp [cutO, e]]; rfl⟩
theorem cut_not {k : List UInt8} {o : Option Tr} (h : Srt (leavesO o)) (hf : ¬ 0 ≤ findP (leavesO o) k) : cutO k o = o := by
  cases o with
  | none => rfl
  | some t =>
    rcases Tr.cut_leaves k t h with ⟨e, hn⟩ | ⟨r, e, e2, p, hp, hk⟩
    · simp [cutO, e]
    · exact absurd (find_ge.2 ⟨p, hp, hk⟩) hf
def GrN (acts : List Act) (m : Nat) (q : Nat × Option Tr) : Prop := GrI acts m (q.1, q.2, leavesO q.2) ∧ Srt (leavesO q.2)
section
variable {acts : List Act} {m i : Nat} {o : Option Tr}
theorem GrN.start : GrN acts m (0, none) := ⟨GrI.start, List.Pairwise.nil⟩
theorem GrN.put (h : GrN acts m (i, o)) (hi : (i : Int) < acts.length) (hm : ¬ (m : Int) ≤ i) (hk : ¬ 90 < ((keyA (acts.getD i dA)).length : Int)) (h6 : (acts.getD i dA).kind % 6 < 4) : GrN acts m (i + 1, putO (keyA (acts.getD i dA)) (valA (acts.getD i dA)) o) ∧ acts.length - (i + 1) < acts.length - i := by
  have g := h.1.put hi hm hk h6
  have e : leavesO (putO (keyA (acts.getD i dA)) (valA (acts.getD i dA)) o) = putPair (keyA (acts.getD i dA)) (valA (acts.getD i dA)) (leavesO o) := putO_leaves h.2
  refine ⟨⟨by show GrI acts m (i + 1, _, leavesO (putO _ _ o)); rw [e]; exact g.1, by show Srt (leavesO (putO _ _ o)); rw [e]; exact h.2.put⟩, by omega⟩
theorem GrN.cutO (h : GrN acts m (i, o)) (hi : (i : Int) < acts.length) (hm : ¬ (m : Int) ≤ i) (hk : ¬ 90 < ((keyA (acts.getD i dA)).length : Int)) (h6 : ¬ (acts.getD i dA).kind % 6 < 4) : GrN acts m (i + 1, X.cutO (keyA (acts.getD i dA)) o) ∧ acts.length - (i + 1) < acts.length - i := by
  have g := h.1.cut hi hm hk h6
  have e : leavesO (X.cutO (keyA (acts.getD i dA)) o) = cutPair (keyA (acts.getD i dA)) (leavesO o) := cutO_leaves h.2
  refine ⟨⟨by show GrI acts m (i + 1, _, leavesO (X.cutO _ o)); rw [e]; exact g.1, by show Srt (leavesO (X.cutO _ o)); rw [e]; exact h.2.cut⟩, by omega⟩
theorem GrN.cut (h : GrN acts m (i, o)) (hi : (i : Int) < acts.length) (hm : ¬ (m : Int) ≤ i) (hk : ¬ 90 < ((keyA (acts.getD i dA)).length : Int)) (h6 : ¬ (acts.getD i dA).kind % 6 < 4) (hf : 0 ≤ findP (leavesO o) (keyA (acts.getD i dA))) : GrN acts m (i + 1, cutR (keyA (acts.getD i dA)) (gt o)) ∧ acts.length - (i + 1) < acts.length - i := by
  rw [(cut_there h.2 hf).2.2]; exact h.cutO hi hm hk h6
theorem GrN.skip (h : GrN acts m (i, o)) (hi : (i : Int) < acts.length) (hm : ¬ (m : Int) ≤ i) (hk : ¬ 90 < ((keyA (acts.getD i dA)).length : Int)) (h6 : ¬ (acts.getD i dA).kind % 6 < 4) (hf : ¬ 0 ≤ findP (leavesO o) (keyA (acts.getD i dA))) : GrN acts m (i + 1, o) ∧ acts.length - (i + 1) < acts.length - i := by
  have := h.cutO hi hm hk h6; rwa [cut_not h.2 hf] at this
theorem GrN.hh (h : GrN acts m (i, o)) (hm : m ≤ 100) : (gt o).height < 700 ∧ (leavesO o).length ≤ 100000 := by
  obtain ⟨⟨_, a2, _, a4, _⟩, _⟩ := h
  have a2 : i ≤ m := a2
  have l := a4.leaves
  have l : (leavesO o).length ≤ i := l
  refine ⟨?_, by omega⟩
  cases o with
  | none => decide
  | some t => have := (a4 t rfl).2; have := t.height_depth; show t.height < 700; have q : t.depth + 1 ≤ i := (a4 t rfl).2; omega
end
section
variable {acts : List Act} {m i : Nat} {o : Option Tr}
theorem GrN.s1 (h : GrN acts m (i, o)) (hi : ¬ (i : Int) < acts.length) : (growT acts m).1 = o := by rw [h.1.stop1 hi]
theorem GrN.s2 (h : GrN acts m (i, o)) (hi : (m : Int) ≤ i) : (growT acts m).1 = o := by rw [h.1.stop2 hi]
theorem GrN.s3 (h : GrN acts m (i, o)) (hi : (i : Int) < acts.length) (hm : ¬ (m : Int) ≤ i) (hk : 90 < ((keyA (acts.getD i dA)).length : Int)) : (growT acts m).1 = o := by rw [h.1.stop3 hi hm hk]
end
noncomputable def ccR14_22 : Code := (Tryd.f22.body).getD .skip
theorem grown9_ok (acts : List Act) (m : Nat) (hm : m ≤ 100) : FOk EN 22 ⟨[.rd 133 acts], [.n 0, .i m], Unit, fun _ => ([.rd 133 acts, .pn (PR (growT acts m).1) false (growT acts m).1.isNone], .n 1), fun _ => True⟩ := by
 refine v_fun Tryd.f22 ccR14_22 MX (fun ν F σ w => ?_) Tryd.func22
 refine v_nl ?_
 refine v_call _ [] (Grown_ok) ((Value.slice none 0 0 = Value.slice none 0 0)) rfl (fun g1 p2 => ?_)
 have p2 : True := p2
 refine v_al [] (al_pr0) True trivial ?_
 refine v_loop (fun q : Nat × Option Tr => ([(12, .i q.1), (5, .n 3)], [.pn (PR q.2) false q.2.isNone])) (fun q => GrN acts m q) (fun q => acts.length - q.1) (0, none) [2] (((0 : Int) = (↑(0 : Nat) : Int)) ∧ (PR none = PR none) ∧ (true = true)) ⟨rfl, rfl, rfl⟩ (by exact GrN.start) (fun q hk3 => ?_)
 have i1 := (‹GrN acts m q›).1.2
 have i2 := GrN.hh ‹GrN acts m q› hm
 have i3 := (‹GrN acts m q›).2
 refine v_if (decide ((↑q.fst : Int) < (↑acts.length : Int))) True trivial (fun h4 => ?_) (fun h4 => ?_)
 ·have h4 := of_decide_eq_true h4
  refine v_guard 20 (decide ((↑m : Int) ≤ (↑q.fst : Int))) ((0 ≤ (↑q.fst : Int) ∧ (↑q.fst : Int) < (↑acts.length : Int))) (by omega) (fun h5 => ?_) (fun h5 => ?_)
  ·have h5 := of_decide_eq_true h5
   refine v_leave (.ex 0) True trivial ?_
   exact v_ret () [3] ((acts = acts) ∧ (PR q.snd = PR (growT acts m).fst) ∧ (q.snd.isNone = (growT acts m).fst.isNone)) ⟨rfl, (by (rw [GrN.s2 (by assumption) (by assumption)])), (by (rw [GrN.s2 (by assumption) (by assumption)]))⟩ trivial
  ·have h5 := of_decide_eq_false h5
   refine v_call _ [4, 5] (Key_ok (acts.getD (↑q.fst : Int).toNat (Act.mk 0 0 [] []))) (((acts.getD (↑q.fst : Int).toNat (Act.mk 0 0 [] [])).kind = (acts.getD (↑q.fst : Int).toNat (Act.mk 0 0 [] [])).kind) ∧ ((acts.getD (↑q.fst : Int).toNat (Act.mk 0 0 [] [])).k = (acts.getD (↑q.fst : Int).toNat (Act.mk 0 0 [] [])).k) ∧ ((acts.getD (↑q.fst : Int).toNat (Act.mk 0 0 [] [])).raw = (acts.getD (↑q.fst : Int).toNat (Act.mk 0 0 [] [])).raw) ∧ ((acts.getD (↑q.fst : Int).toNat (Act.mk 0 0 [] [])).value = (acts.getD (↑q.fst : Int).toNat (Act.mk 0 0 [] [])).value)) ⟨rfl, rfl, rfl, rfl⟩ (fun g6 p7 => ?_)
   have p7 : True := p7
   refine v_if (decide (90 < (↑(keyA (acts.getD (↑q.fst : Int).toNat (Act.mk 0 0 [] []))).length : Int))) True trivial (fun h8 => ?_) (fun h8 => ?_)
   ·have h8 := of_decide_eq_true h8
    refine v_leave (.ex 0) True trivial ?_
    exact v_ret () [3] ((acts = acts) ∧ (PR q.snd = PR (growT acts m).fst) ∧ (q.snd.isNone = (growT acts m).fst.isNone)) ⟨rfl, (by (rw [GrN.s3 (by assumption) (by assumption) (by assumption) (by assumption)])), (by (rw [GrN.s3 (by assumption) (by assumption) (by assumption) (by assumption)]))⟩ trivial
   ·have h8 := of_decide_eq_false h8
    refine v_if (decide ((acts.getD (↑q.fst : Int).toNat (Act.mk 0 0 [] [])).kind % 6 < 4)) (((0 ≤ if 100 < (↑(acts.getD (↑q.fst : Int).toNat (Act.mk 0 0 [] [])).value.length : Int) then 100 else (↑(acts.getD (↑q.fst : Int).toNat (Act.mk 0 0 [] [])).value.length : Int)) ∧ (if 100 < (↑(acts.getD (↑q.fst : Int).toNat (Act.mk 0 0 [] [])).value.length : Int) then 100 else (↑(acts.getD (↑q.fst : Int).toNat (Act.mk 0 0 [] [])).value.length : Int)) ≤ (↑(acts.getD (↑q.fst : Int).toNat (Act.mk 0 0 [] [])).value.length : Int)) ∧ ((6 : UInt8) ≠ (0 : UInt8))) ⟨(by omega), (by decide)⟩ (fun h9 => ?_) (fun h9 => ?_)
    ·have h9 := of_decide_eq_true h9
     refine v_call _ [4, 5] (Key_ok (acts.getD (↑q.fst : Int).toNat (Act.mk 0 0 [] []))) (((acts.getD (↑q.fst : Int).toNat (Act.mk 0 0 [] [])).kind = (acts.getD (↑q.fst : Int).toNat (Act.mk 0 0 [] [])).kind) ∧ ((acts.getD (↑q.fst : Int).toNat (Act.mk 0 0 [] [])).k = (acts.getD (↑q.fst : Int).toNat (Act.mk 0 0 [] [])).k) ∧ ((acts.getD (↑q.fst : Int).toNat (Act.mk 0 0 [] [])).raw = (acts.getD (↑q.fst : Int).toNat (Act.mk 0 0 [] [])).raw) ∧ ((acts.getD (↑q.fst : Int).toNat (Act.mk 0 0 [] [])).value = (acts.getD (↑q.fst : Int).toNat (Act.mk 0 0 [] [])).value)) ⟨rfl, rfl, rfl, rfl⟩ (fun g10 p11 => ?_)
     have p11 : True := p11
     refine v_call _ [10, 9, 3] (rput_ok (q.snd) (keyA (acts.getD (↑q.fst : Int).toNat (Act.mk 0 0 [] []))) (List.take (if 100 < (↑(acts.getD (↑q.fst : Int).toNat (Act.mk 0 0 [] [])).value.length : Int) then 100 else (↑(acts.getD (↑q.fst : Int).toNat (Act.mk 0 0 [] [])).value.length : Int)).toNat (acts.getD (↑q.fst : Int).toNat (Act.mk 0 0 [] [])).value) (by omega)) ((keyA (acts.getD (↑q.fst : Int).toNat (Act.mk 0 0 [] [])) = keyA (acts.getD (↑q.fst : Int).toNat (Act.mk 0 0 [] []))) ∧ (List.take (if 100 < (↑(acts.getD (↑q.fst : Int).toNat (Act.mk 0 0 [] [])).value.length : Int) then 100 else (↑(acts.getD (↑q.fst : Int).toNat (Act.mk 0 0 [] [])).value.length : Int)).toNat (acts.getD (↑q.fst : Int).toNat (Act.mk 0 0 [] [])).value = List.take (if 100 < (↑(acts.getD (↑q.fst : Int).toNat (Act.mk 0 0 [] [])).value.length : Int) then 100 else (↑(acts.getD (↑q.fst : Int).toNat (Act.mk 0 0 [] [])).value.length : Int)).toNat (acts.getD (↑q.fst : Int).toNat (Act.mk 0 0 [] [])).value) ∧ (PR q.snd = PR q.snd) ∧ (q.snd.isNone = q.snd.isNone)) ⟨rfl, rfl, rfl, rfl⟩ (fun g12 p13 => ?_)
     have p13 : True := p13
     exact v_back ((q.fst + 1, putO (keyA (acts.getD (↑q.fst : Int).toNat (Act.mk 0 0 [] []))) (List.take (if 100 < (↑(acts.getD (↑q.fst : Int).toNat (Act.mk 0 0 [] [])).value.length : Int) then 100 else (↑(acts.getD (↑q.fst : Int).toNat (Act.mk 0 0 [] [])).value.length : Int)).toNat (acts.getD (↑q.fst : Int).toNat (Act.mk 0 0 [] [])).value) q.snd)) [11] ((I64 (↑q.fst + 1)) ∧ ((↑q.fst : Int) + 1 = (↑(q.fst + 1) : Int)) ∧ (PR (putO (keyA (acts.getD (↑q.fst : Int).toNat (Act.mk 0 0 [] []))) (List.take (if 100 < (↑(acts.getD (↑q.fst : Int).toNat (Act.mk 0 0 [] [])).value.length : Int) then 100 else (↑(acts.getD (↑q.fst : Int).toNat (Act.mk 0 0 [] [])).value.length : Int)).toNat (acts.getD (↑q.fst : Int).toNat (Act.mk 0 0 [] [])).value) q.snd) = PR (putO (keyA (acts.getD (↑q.fst : Int).toNat (Act.mk 0 0 [] []))) (List.take (if 100 < (↑(acts.getD (↑q.fst : Int).toNat (Act.mk 0 0 [] [])).value.length : Int) then 100 else (↑(acts.getD (↑q.fst : Int).toNat (Act.mk 0 0 [] [])).value.length : Int)).toNat (acts.getD (↑q.fst : Int).toNat (Act.mk 0 0 [] [])).value) q.snd)) ∧ (false = (putO (keyA (acts.getD (↑q.fst : Int).toNat (Act.mk 0 0 [] []))) (List.take (if 100 < (↑(acts.getD (↑q.fst : Int).toNat (Act.mk 0 0 [] [])).value.length : Int) then 100 else (↑(acts.getD (↑q.fst : Int).toNat (Act.mk 0 0 [] [])).value.length : Int)).toNat (acts.getD (↑q.fst : Int).toNat (Act.mk 0 0 [] [])).value) q.snd).isNone)) ⟨(by (unfold I64; omega)), rfl, rfl, (by exact putO_nn)⟩ (show GrN acts m (q.fst + 1, putO (keyA (acts.getD (↑q.fst : Int).toNat (Act.mk 0 0 [] []))) (List.take (if 100 < (↑(acts.getD (↑q.fst : Int).toNat (Act.mk 0 0 [] [])).value.length : Int) then 100 else (↑(acts.getD (↑q.fst : Int).toNat (Act.mk 0 0 [] [])).value.length : Int)).toNat (acts.getD (↑q.fst : Int).toNat (Act.mk 0 0 [] [])).value) q.snd) ∧ acts.length - (q.fst + 1) < acts.length - q.fst from (by exact GrN.put (by assumption) (by assumption) (by assumption) (by assumption) (by assumption)))
    ·have h9 := of_decide_eq_false h9
     refine v_run True trivial ?_
     refine v_nl ?_
     refine v_plan (.fs [0, 2] (.o 1 (.o 3 (.o 4 (.fs [5] .e))))) [7] True trivial ?_
     refine v_call _ [3, 10] (rlv_ok (q.snd) ([]) (by (simp; omega))) ((PR q.snd = PR q.snd) ∧ (q.snd.isNone = q.snd.isNone) ∧ (Eq (α := List Pair) [] [])) ⟨rfl, rfl, rfl⟩ (fun g14 p15 => ?_)
     have p15 : True := p15
     refine v_call _ [4, 5] (Key_ok (acts.getD (↑q.fst : Int).toNat (Act.mk 0 0 [] []))) (((acts.getD (↑q.fst : Int).toNat (Act.mk 0 0 [] [])).kind = (acts.getD (↑q.fst : Int).toNat (Act.mk 0 0 [] [])).kind) ∧ ((acts.getD (↑q.fst : Int).toNat (Act.mk 0 0 [] [])).k = (acts.getD (↑q.fst : Int).toNat (Act.mk 0 0 [] [])).k) ∧ ((acts.getD (↑q.fst : Int).toNat (Act.mk 0 0 [] [])).raw = (acts.getD (↑q.fst : Int).toNat (Act.mk 0 0 [] [])).raw) ∧ ((acts.getD (↑q.fst : Int).toNat (Act.mk 0 0 [] [])).value = (acts.getD (↑q.fst : Int).toNat (Act.mk 0 0 [] [])).value)) ⟨rfl, rfl, rfl, rfl⟩ (fun g16 p17 => ?_)
     have p17 : True := p17
     refine v_call _ [11, 12] (Find_ok ([] ++ leavesO q.snd) (keyA (acts.getD (↑q.fst : Int).toNat (Act.mk 0 0 [] []))) (by (simp; omega))) (([] ++ leavesO q.snd = [] ++ leavesO q.snd) ∧ (keyA (acts.getD (↑q.fst : Int).toNat (Act.mk 0 0 [] [])) = keyA (acts.getD (↑q.fst : Int).toNat (Act.mk 0 0 [] [])))) ⟨rfl, rfl⟩ (fun g18 p19 => ?_)
     have p19 : True := p19
     refine v_if (decide (0 ≤ findP ([] ++ leavesO q.snd) (keyA (acts.getD (↑q.fst : Int).toNat (Act.mk 0 0 [] []))))) True trivial (fun h20 => ?_) (fun h20 => ?_)
     ·have h20 := of_decide_eq_true h20
      refine v_call _ [4, 5] (Key_ok (acts.getD (↑q.fst : Int).toNat (Act.mk 0 0 [] []))) (((acts.getD (↑q.fst : Int).toNat (Act.mk 0 0 [] [])).kind = (acts.getD (↑q.fst : Int).toNat (Act.mk 0 0 [] [])).kind) ∧ ((acts.getD (↑q.fst : Int).toNat (Act.mk 0 0 [] [])).k = (acts.getD (↑q.fst : Int).toNat (Act.mk 0 0 [] [])).k) ∧ ((acts.getD (↑q.fst : Int).toNat (Act.mk 0 0 [] [])).raw = (acts.getD (↑q.fst : Int).toNat (Act.mk 0 0 [] [])).raw) ∧ ((acts.getD (↑q.fst : Int).toNat (Act.mk 0 0 [] [])).value = (acts.getD (↑q.fst : Int).toNat (Act.mk 0 0 [] [])).value)) ⟨rfl, rfl, rfl, rfl⟩ (fun g21 p22 => ?_)
      have p22 : True := p22
      refine v_call _ [13, 3] (rcut_ok (q.snd) (keyA (acts.getD (↑q.fst : Int).toNat (Act.mk 0 0 [] []))) (by exact (cut_there i3 (by assumption)).1) (by exact (cut_there i3 (by assumption)).2.1) (by omega)) ((keyA (acts.getD (↑q.fst : Int).toNat (Act.mk 0 0 [] [])) = keyA (acts.getD (↑q.fst : Int).toNat (Act.mk 0 0 [] []))) ∧ (PR q.snd = PR q.snd) ∧ (q.snd.isNone = q.snd.isNone)) ⟨rfl, rfl, rfl⟩ (fun g23 p24 => ?_)
      have p24 : True := p24
      exact v_back ((q.fst + 1, cutR (keyA (acts.getD (↑q.fst : Int).toNat (Act.mk 0 0 [] []))) (gt q.snd))) [14] ((I64 (↑q.fst + 1)) ∧ ((↑q.fst : Int) + 1 = (↑(q.fst + 1) : Int)) ∧ (PR (cutR (keyA (acts.getD (↑q.fst : Int).toNat (Act.mk 0 0 [] []))) (gt q.snd)) = PR (cutR (keyA (acts.getD (↑q.fst : Int).toNat (Act.mk 0 0 [] []))) (gt q.snd))) ∧ ((cutR (keyA (acts.getD (↑q.fst : Int).toNat (Act.mk 0 0 [] []))) (gt q.snd)).isNone = (cutR (keyA (acts.getD (↑q.fst : Int).toNat (Act.mk 0 0 [] []))) (gt q.snd)).isNone)) ⟨(by (unfold I64; omega)), rfl, rfl, rfl⟩ (show GrN acts m (q.fst + 1, cutR (keyA (acts.getD (↑q.fst : Int).toNat (Act.mk 0 0 [] []))) (gt q.snd)) ∧ acts.length - (q.fst + 1) < acts.length - q.fst from (by exact GrN.cut (by assumption) (by assumption) (by assumption) (by assumption) (by assumption) (by assumption)))
     ·have h20 := of_decide_eq_false h20
      exact v_back ((q.fst + 1, q.snd)) [3] ((I64 (↑q.fst + 1)) ∧ ((↑q.fst : Int) + 1 = (↑(q.fst + 1) : Int)) ∧ (PR q.snd = PR q.snd) ∧ (q.snd.isNone = q.snd.isNone)) ⟨(by (unfold I64; omega)), rfl, rfl, rfl⟩ (show GrN acts m (q.fst + 1, q.snd) ∧ acts.length - (q.fst + 1) < acts.length - q.fst from (by exact GrN.skip (by assumption) (by assumption) (by assumption) (by assumption) (by assumption) (by assumption)))
 ·have h4 := of_decide_eq_false h4
  refine v_leave (.ex 0) True trivial ?_
  exact v_ret () [3] ((acts = acts) ∧ (PR q.snd = PR (growT acts m).fst) ∧ (q.snd.isNone = (growT acts m).fst.isNone)) ⟨rfl, (by (rw [GrN.s1 (by assumption) (by assumption)])), (by (rw [GrN.s1 (by assumption) (by assumption)]))⟩ trivial
end Go.Proofs.YtnicmjipbnhciaaDoor.X
set_option linter.unusedVariables false
set_option linter.unusedSimpArgs false
set_option maxRecDepth 100000
namespace Go.Proofs.YtnicmjipbnhciaaDoor.X
open Go Go.RowKit Go.Proofs Go.Proofs.YtnicmjipbnhciaaDoor.E
namespace Tr
theorem fin_mem (k : List UInt8) : ∀ t : Tr, (⟨(t.fin k).key, (t.fin k).value⟩ : Pair) ∈ t.leaves
  | leaf a b => List.mem_singleton_self _
  | node l r => by
    unfold fin; split
    · exact List.mem_append_right _ (fin_mem k r)
    · exact List.mem_append_left _ (fin_mem k l)
theorem fin_pair : ∀ {t : Tr}, Srt t.leaves → ∀ {p : Pair}, p ∈ t.leaves → (⟨(t.fin p.key).key, (t.fin p.key).value⟩ : Pair) = p
  | leaf a b, _, p, hp => (List.mem_singleton.1 hp).symm
  | node l r, h, p, hp => by
    have hl : Srt l.leaves := (List.pairwise_append.1 h).1
    have hr : Srt r.leaves := (List.pairwise_append.1 h).2.1
    unfold fin rt
    rcases List.mem_append.1 hp with hp | hp
    · have : klt p.key r.least := left_of h hp
      rw [if_neg (by show ¬ (decide (0 ≤ Lib.compareBytes p.key r.least) = true); rw [decide_eq_true_eq]; unfold klt at this; omega)]; exact fin_pair hl hp
    · have : ¬ klt p.key r.least := right_of hr hp
      rw [if_pos (by show decide (0 ≤ Lib.compareBytes p.key r.least) = true; rw [decide_eq_true_eq]; unfold klt at this; omega)]; exact fin_pair hr hp
theorem fin_key_iff {t : Tr} {k : List UInt8} (h : Srt t.leaves) : (t.fin k).key = k ↔ ∃ p ∈ t.leaves, p.key = k := by
  constructor
  · intro e; exact ⟨_, fin_mem k t, e⟩
  · rintro ⟨p, hp, rfl⟩; have := fin_pair h hp; exact congrArg Pair.key this
end Tr
theorem ben_cons (x : Turn) (l : List Turn) (i : Nat) : ben (x :: l) (i + 1) = ben l i := by
  unfold ben
  by_cases h : (i : Int) < l.length
  · rw [if_pos h, if_pos (by simp; omega)]; simp
  · rw [if_neg h, if_neg (by simp; omega)]
theorem ben_zero (x : Turn) (l : List Turn) : ben (x :: l) 0 = x.height := by unfold ben; rw [if_pos (by simp)]; rfl
theorem bad_cons (x : Turn) (l : List Turn) (i : Nat) : bad (x :: l) (i + 1) ↔ bad l i := by unfold bad; rw [ben_cons]; simp
namespace Tr
theorem ben_turns (k : List UInt8) : ∀ t : Tr, ben (t.turns k) 0 = t.height
  | leaf a b => rfl
  | node l r => by unfold turns; rw [ben_zero]; rfl
theorem turns_good (k : List UInt8) : ∀ t : Tr, t.height ≤ 64 → ∀ i, i < (t.turns k).length → ¬ bad (t.turns k) i
  | leaf a b, _, i, hi => by simp [turns] at hi
  | node l r, h, i, hi => by
    have hh : (node l r).height = 1 + max l.height r.height := rfl
    have hc : ∀ j, j < (if (node l r).rt k then r.turns k else l.turns k).length → ¬ bad (if (node l r).rt k then r.turns k else l.turns k) j := by
      split
      · exact turns_good k r (by omega)
      · exact turns_good k l (by omega)
    have hb : ben (if (node l r).rt k then r.turns k else l.turns k) 0 < (node l r).height := by
      split <;> rw [ben_turns] <;> omega
    unfold turns at hi ⊢
    cases i with
    | zero =>
      unfold bad; rw [ben_cons]
      show ¬ ((node l r).height ≤ _ ∨ 64 < (node l r).height); omega
    | succ i => rw [bad_cons]; exact hc i (by simpa using hi)
theorem turns_len (k : List UInt8) : ∀ t : Tr, ((t.turns k).length : Int) ≤ t.height
  | leaf a b => Int.le_refl _
  | node l r => by
    have h1 := turns_len k l; have h2 := turns_len k r
    have hh : (node l r).height = 1 + max l.height r.height := rfl
    unfold turns; rw [List.length_cons]; split <;> omega
theorem turns_hash (k : List UInt8) : ∀ t : Tr, (t.turns k).foldr stepH (nsum 0 1 (t.fin k).key (t.fin k).value z32 z32) = t.hash
  | leaf a b => rfl
  | node l r => by
    unfold turns fin
    rw [List.foldr_cons]
    have hp : ¬ (node l r).height = 0 := by have := height_pos (l := l) (r := r); omega
    have ns : ∀ (x y : List UInt8), nsum (node l r).height (node l r).size [] [] x y = nsum (node l r).height (node l r).size r.least [] x y := fun x y => by
      unfold nsum; rw [if_neg hp, if_neg hp]
    have l1 : (mk32 (node l r).lh).l = l.hash := mk32_of l.hash_len
    have l2 : (mk32 (node l r).rh).l = r.hash := mk32_of r.hash_len
    cases e : (node l r).rt k
    · simp only [Bool.false_eq_true, if_false]
      rw [turns_hash k l]
      unfold stepH turn; rw [e]; simp only [Bool.false_eq_true, if_false]
      rw [l2, ns]; rfl
    · simp only [if_true]
      rw [turns_hash k r]
      unfold stepH turn; rw [e]; simp only [if_true]
      rw [l1, ns]; rfl
end Tr
/-- Leaves as they come from calls. -/
def lvOk (l : List Pair) : Prop := ∀ p ∈ l, (1 ≤ p.key.length ∧ p.key.length ≤ 90) ∧ p.value.length ≤ 100
theorem growG_lv : ∀ (n : Nat) (acts : List Act) (s : Option Tr × List Pair), lvOk s.2 → lvOk (growG n acts s).2
  | 0, acts, s, h => by unfold growG; exact h
  | n + 1, [], s, h => by unfold growG; exact h
  | n + 1, a :: l, s, h => by
    unfold growG
    split
    · exact h
    · rename_i hk
      refine growG_lv n l _ ?_
      unfold stepA; split
      · intro p hp
        rcases mem_putPair hp with rfl | hp
        · exact ⟨⟨keyA_pos a, by show (keyA a).length ≤ 90; omega⟩, valA_len a⟩
        · exact h p hp
      · intro p hp; exact h p (List.mem_filter.1 hp).1
theorem growT_lv (acts : List Act) (m : Nat) : lvOk (leavesO (growT acts m).1) := by rw [← (growT_ok acts m).2]; exact growG_lv m acts _ (fun p hp => by simp at hp)
theorem growG_okN : ∀ (n i : Nat) (acts : List Act) (s : Option Tr × List Pair), okN i s.1 → okN (n + i) (growG n acts s).1
  | 0, i, acts, s, h => by unfold growG; rw [Nat.zero_add]; exact h
  | n + 1, i, [], s, h => by unfold growG; exact fun t e => ⟨(h t e).1, by have := (h t e).2; omega⟩
  | n + 1, i, a :: l, s, h => by
    unfold growG
    split
    · exact fun t e => ⟨(h t e).1, by have := (h t e).2; omega⟩
    · rename_i hk
      rw [show n + 1 + i = n + (i + 1) by omega]
      refine growG_okN n (i + 1) l _ ?_
      unfold stepA; split
      · exact okN.put h (by omega) (by have := valA_len a; omega)
      · exact okN.cut h
theorem growT_okN (acts : List Act) (m : Nat) : okN m (growT acts m).1 := by have := growG_okN m 0 acts (none, []) (fun t e => by simp at e); exact this
/-- A tree as calls make it: sorted, small. -/
def fine (o : Option Tr) : Prop := Srt (leavesO o) ∧ lvOk (leavesO o) ∧ okN 64 o
theorem growT_fine (acts : List Act) (m : Nat) (hm : m ≤ 64) : fine (growT acts m).1 := ⟨(growT_ok acts m).1, growT_lv acts m, fun t e => ⟨(growT_okN acts m t e).1, by have := (growT_okN acts m t e).2; omega⟩⟩
theorem fine.O {o : Option Tr} (h : fine o) : okO o := h.2.2.O (by decide)
theorem mkB_iff {o : Option Tr} {k : List UInt8} (h : fine o) : mkB k o = true ↔ ∃ p ∈ leavesO o, p.key = k := by
  cases o with
  | none => simp [mkB, leavesO]
  | some t => simp only [mkB, decide_eq_true_eq]; exact Tr.fin_key_iff h.1
theorem mkP_leaf {o : Option Tr} {p : Pair} (h : fine o) (hp : p ∈ leavesO o) : (mkP p.key o).key = p.key ∧ (mkP p.key o).value = p.value := by
  cases o with
  | none => simp [leavesO] at hp
  | some t =>
    have := Tr.fin_pair h.1 hp
    have hk : (t.fin p.key).key = p.key := congrArg Pair.key this
    have hv : (t.fin p.key).value = p.value := congrArg Pair.value this
    simp only [mkP, if_pos hk]; exact ⟨hk, hv⟩
/-- What is made leads to the root. -/
theorem verify_make {o : Option Tr} {k : List UInt8} (h : fine o) (hk : mkB k o = true) : rootP (mkP k o) = (hashO o, none) := by
  cases o with
  | none => simp [mkB] at hk
  | some t =>
    simp only [mkB, decide_eq_true_eq] at hk
    have hl := h.2.1 _ (Tr.fin_mem k t)
    have hh : t.height ≤ 64 := by have := (h.2.2 t rfl).2; have := t.height_depth; omega
    have hg := Tr.turns_good k t hh
    have h1 : ¬ 64 < (t.turns k).length := by have := Tr.turns_len k t; omega
    have e2 := rootN_ok (t.turns k) hg _ (nsum 0 1 (t.fin k).key (t.fin k).value z32 z32) (Nat.le_refl _)
    rw [ben_end, List.take_length, Tr.turns_hash] at e2
    simp only [mkP, if_pos hk]
    unfold rootP
    simp only
    rw [if_neg h1, if_neg (by simp only at hl; omega)]; exact e2
theorem verP_make {o : Option Tr} {k : List UInt8} (h : fine o) (hk : mkB k o = true) : verP (hashO o) (mkP k o) = none := by
  unfold verP; rw [verify_make h hk]; simp
end Go.Proofs.YtnicmjipbnhciaaDoor.X
set_option linter.unusedVariables false
set_option linter.unusedSimpArgs false
set_option maxRecDepth 100000
namespace Go.Proofs.YtnicmjipbnhciaaDoor.X
open Go Go.RowKit Go.Proofs Go.Proofs.YtnicmjipbnhciaaDoor.E
noncomputable def ccW1_15 : Code := (Tryd.f15.body).getD .skip
theorem Awake9_aux (o0 : okO none) (o1 : okO (putO [97] [49] none)) (o2 : okO (putO [98] [50] (putO [97] [49] none))) (m1 : mkB [98] (putO [98] [50] (putO [97] [49] none)) = true) (n1 : (noneR [99] (putO [98] [50] (putO [97] [49] none))).isSome = true)
  (lv : (leavesO (putO [98] [50] (putO [97] [49] none))).length ≤ 900000) (tl : (mkP [98] (putO [98] [50] (putO [97] [49] none))).turns.length = 1) (tr : ((mkP [98] (putO [98] [50] (putO [97] [49] none))).turns.getD 0 ⟨0, 0, false, zero32⟩).right = true)
  (v1 : verP (hashO (putO [98] [50] (putO [97] [49] none))) (mkP [98] (putO [98] [50] (putO [97] [49] none))) = none) (v2 : codeO (verP (sum256 []) (mkP [98] (putO [98] [50] (putO [97] [49] none)))) = 21)
  (g1 : (gapL [99] (putO [98] [50] (putO [97] [49] none))).1.isNone = false) (g2 : (gapL [99] (putO [98] [50] (putO [97] [49] none))).2.isNone = true)
  (v3 : vgP (hashO (putO [98] [50] (putO [97] [49] none))) [99] (gapL [99] (putO [98] [50] (putO [97] [49] none))).1 (gapL [99] (putO [98] [50] (putO [97] [49] none))).2 = none)
  (l1 : (gp (gapL [99] (putO [98] [50] (putO [97] [49] none))).1).turns.length ≤ 1000000) (l2 : (gp (gapL [99] (putO [98] [50] (putO [97] [49] none))).2).turns.length ≤ 1000000) : FOk EN 15 ⟨[.pr wordsP, .pr etP], [], Unit, fun _ => ([.pr wordsP, .pr etP], .b true), fun _ => True⟩ := by
 refine v_fun Tryd.f15 ccW1_15 MX (fun ν F σ w => ?_) Tryd.func15
 refine v_nl ?_
 refine v_call _ [0] (new_ok) ((wordsP = wordsP)) rfl (fun g1 p2 => ?_)
 have p2 : True := p2
 refine v_call _ [0, 4, 5, 3] (Put_ok (none) ([97]) ([49]) (by assumption) (by decide) (by decide)) ((0 < 1) ∧ (0 < 1) ∧ (wordsP = wordsP) ∧ ([(97 : UInt8)] = [(97 : UInt8)]) ∧ ([(49 : UInt8)] = [(49 : UInt8)]) ∧ (PTO none = PTO none) ∧ (false = false)) ⟨(by decide), (by decide), rfl, rfl, rfl, rfl, rfl⟩ (fun g3 p4 => ?_)
 have p4 : True := p4
 refine v_call _ [0, 7, 8, 6] (Put_ok (putO [97] [49] none) ([98]) ([50]) (by assumption) (by decide) (by decide)) ((0 < 1) ∧ (0 < 1) ∧ (wordsP = wordsP) ∧ ([(98 : UInt8)] = [(98 : UInt8)]) ∧ ([(50 : UInt8)] = [(50 : UInt8)]) ∧ (PTO (putO [97] [49] none) = PTO (putO [97] [49] none)) ∧ (false = false)) ⟨(by decide), (by decide), rfl, rfl, rfl, rfl, rfl⟩ (fun g5 p6 => ?_)
 have p6 : True := p6
 refine v_call _ [10, 9] (Make_ok (putO [98] [50] (putO [97] [49] none)) ([98]) (by assumption)) ((0 < 1) ∧ ([(98 : UInt8)] = [(98 : UInt8)]) ∧ (PTO (putO [98] [50] (putO [97] [49] none)) = PTO (putO [98] [50] (putO [97] [49] none))) ∧ (false = false)) ⟨(by decide), rfl, rfl, rfl⟩ (fun g7 p8 => ?_)
 have p8 : True := p8
 refine v_call _ [15, 9] (None_ok (putO [98] [50] (putO [97] [49] none)) ([99]) (by assumption) (by decide)) ((0 < 1) ∧ ([(99 : UInt8)] = [(99 : UInt8)]) ∧ (PTO (putO [98] [50] (putO [97] [49] none)) = PTO (putO [98] [50] (putO [97] [49] none))) ∧ (false = false)) ⟨(by decide), rfl, rfl, rfl⟩ (fun g9 p10 => ?_)
 have p10 : True := p10
 refine v_join [39, 40, 41, 42, 43, 44, 45, 46, 47, 48, 49, 50, 51, 52, 53, 54, 55, 56, 57, 58, 59, 60, 61, 62, 63, 64, 65, 66, 67, 68, 69, 70, 71, 72, 73, 74, 75, 76, 77, 78, 79, 80, 81, 82, 83, 84, 85, 86, 87, 88, 0] [] (fun _ : Unit => ([(0, SV.b (vgP (hashO (putO [98] [50] (putO [97] [49] none))) [99] (gapL [99] (putO [98] [50] (putO [97] [49] none))).fst (gapL [99] (putO [98] [50] (putO [97] [49] none))).snd).isNone)], [])) (fun _ => True) ?_ (fun _ _ => ?_) True trivial
 ·skip
  refine v_plan (.fs [0, 1, 2, 3, 4, 5, 6, 7, 8, 9, 10, 11, 12, 13, 14, 15, 16, 17, 18, 20] (.o 19 (.o 21 (.fs [22, 23, 24, 26] (.o 25 (.o 27 (.o 28 (.fs [29, 30, 31, 32, 33, 34, 35, 36, 37, 38, 39, 40, 41, 42, 46] (.c 43 (.o 44 (.o 45 (.o 47 (.fs [48, 49, 50] .e)))) (.o 44 (.c 43 (.o 45 (.o 47 (.fs [48, 49, 50] .e))) (.o 45 (.o 43 (.o 47 (.fs [48, 49, 50] .e))))))))))))))) [14, 18] True trivial ?_
  refine v_guard 40 (mkB [98] (putO [98] [50] (putO [97] [49] none))) True trivial (fun h11 => ?_) (fun h11 => ?_)
  ·skip
   refine v_guard 43 ((noneR [99] (putO [98] [50] (putO [97] [49] none))).isSome) True trivial (fun h12 => ?_) (fun h12 => ?_)
   ·skip
    refine v_guard 49 (decide ((↑(mkP [98] (putO [98] [50] (putO [97] [49] none))).turns.length : Int) = 1)) True trivial (fun h13 => ?_) (fun h13 => ?_)
    ·have h13 := of_decide_eq_true h13
     refine v_guard 56 (((mkP [98] (putO [98] [50] (putO [97] [49] none))).turns.getD 0 (Turn.mk 0 0 false zero32)).right) (((0 : Int) ≤ (0 : Int) ∧ (0 : Int) < (↑(mkP [(98 : UInt8)] (putO [(98 : UInt8)] [(50 : UInt8)] (putO [(97 : UInt8)] [(49 : UInt8)] none))).turns.length : Int))) (by decide) (fun h14 => ?_) (fun h14 => ?_)
     ·skip
      refine v_call _ [0, 9] (Root_ok (putO [98] [50] (putO [97] [49] none))) ((wordsP = wordsP) ∧ (PTO (putO [98] [50] (putO [97] [49] none)) = PTO (putO [98] [50] (putO [97] [49] none))) ∧ (false = false)) ⟨rfl, rfl, rfl⟩ (fun g15 p16 => ?_)
      have p16 : True := p16
      refine v_call _ [0, 11, 12, 13] (Verify_ok (hashO (putO [98] [50] (putO [97] [49] none))) (mkP [98] (putO [98] [50] (putO [97] [49] none))) rfl) ((hashO (putO [98] [50] (putO [97] [49] none)) = hashO (putO [98] [50] (putO [97] [49] none))) ∧ (wordsP = wordsP) ∧ ((mkP [98] (putO [98] [50] (putO [97] [49] none))).key = (mkP [98] (putO [98] [50] (putO [97] [49] none))).key) ∧ ((mkP [98] (putO [98] [50] (putO [97] [49] none))).value = (mkP [98] (putO [98] [50] (putO [97] [49] none))).value) ∧ ((mkP [98] (putO [98] [50] (putO [97] [49] none))).turns = (mkP [98] (putO [98] [50] (putO [97] [49] none))).turns)) ⟨rfl, rfl, rfl, rfl, rfl⟩ (fun g17 p18 => ?_)
      have p18 : True := p18
      refine v_guard 63 ((verP (hashO (putO [98] [50] (putO [97] [49] none))) (mkP [98] (putO [98] [50] (putO [97] [49] none)))).isNone) True trivial (fun h19 => ?_) (fun h19 => ?_)
      ·skip
       refine v_call _ [0] (Empty_ok) ((wordsP = wordsP)) rfl (fun g20 p21 => ?_)
       have p21 : True := p21
       refine v_call _ [0, 11, 12, 13] (Verify_ok (sum256 []) (mkP [98] (putO [98] [50] (putO [97] [49] none))) rfl) ((sum256 [] = sum256 []) ∧ (wordsP = wordsP) ∧ ((mkP [98] (putO [98] [50] (putO [97] [49] none))).key = (mkP [98] (putO [98] [50] (putO [97] [49] none))).key) ∧ ((mkP [98] (putO [98] [50] (putO [97] [49] none))).value = (mkP [98] (putO [98] [50] (putO [97] [49] none))).value) ∧ ((mkP [98] (putO [98] [50] (putO [97] [49] none))).turns = (mkP [98] (putO [98] [50] (putO [97] [49] none))).turns)) ⟨rfl, rfl, rfl, rfl, rfl⟩ (fun g22 p23 => ?_)
       have p23 : True := p23
       refine v_call _ [1, 21] (Code_ok (verP (sum256 []) (mkP [98] (putO [98] [50] (putO [97] [49] none)))) (by exact Nat.le_trans (verP_dep _ _) (by decide))) ((etP = etP) ∧ (PE (verP (sum256 []) (mkP [98] (putO [98] [50] (putO [97] [49] none)))) = PE (verP (sum256 []) (mkP [98] (putO [98] [50] (putO [97] [49] none))))) ∧ ((verP (sum256 []) (mkP [98] (putO [98] [50] (putO [97] [49] none)))).isNone = (verP (sum256 []) (mkP [98] (putO [98] [50] (putO [97] [49] none)))).isNone)) ⟨rfl, rfl, rfl⟩ (fun g24 p25 => ?_)
       have p25 : True := p25
       refine v_guard 70 (decide (codeO (verP (sum256 []) (mkP [98] (putO [98] [50] (putO [97] [49] none)))) = 21)) True trivial (fun h26 => ?_) (fun h26 => ?_)
       ·have h26 := of_decide_eq_true h26
        refine v_guard 75 (!(gapL [99] (putO [98] [50] (putO [97] [49] none))).fst.isNone) True trivial (fun h27 => ?_) (fun h27 => ?_)
        ·have h27 := (nt h27)
         refine v_guard 80 ((gapL [99] (putO [98] [50] (putO [97] [49] none))).snd.isNone) True trivial (fun h28 => ?_) (fun h28 => ?_)
         ·skip
          refine v_pick True trivial ?_ ?_
          ·skip
           refine v_call _ [0, 9] (Root_ok (putO [98] [50] (putO [97] [49] none))) ((wordsP = wordsP) ∧ (PTO (putO [98] [50] (putO [97] [49] none)) = PTO (putO [98] [50] (putO [97] [49] none))) ∧ (false = false)) ⟨rfl, rfl, rfl⟩ (fun g29 p30 => ?_)
           have p30 : True := p30
           refine v_call _ [0, 22, 16, 17] (VerifyGap_ok (hashO (putO [98] [50] (putO [97] [49] none))) ([99]) ((gapL [99] (putO [98] [50] (putO [97] [49] none))).fst) ((gapL [99] (putO [98] [50] (putO [97] [49] none))).snd) rfl (by decide) (by decide)) ((0 < 1) ∧ (hashO (putO [98] [50] (putO [97] [49] none)) = hashO (putO [98] [50] (putO [97] [49] none))) ∧ (wordsP = wordsP) ∧ ([(99 : UInt8)] = [(99 : UInt8)]) ∧ ((gapL [99] (putO [98] [50] (putO [97] [49] none))).fst = (gapL [99] (putO [98] [50] (putO [97] [49] none))).fst) ∧ ((gapL [99] (putO [98] [50] (putO [97] [49] none))).snd = (gapL [99] (putO [98] [50] (putO [97] [49] none))).snd)) ⟨(by decide), rfl, rfl, rfl, rfl, rfl⟩ (fun g31 p32 => ?_)
           have p32 : True := p32
           exact v_back (()) [] (((vgP (hashO (putO [98] [50] (putO [97] [49] none))) [99] (gapL [99] (putO [98] [50] (putO [97] [49] none))).fst (gapL [99] (putO [98] [50] (putO [97] [49] none))).snd).isNone = (vgP (hashO (putO [98] [50] (putO [97] [49] none))) [99] (gapL [99] (putO [98] [50] (putO [97] [49] none))).fst (gapL [99] (putO [98] [50] (putO [97] [49] none))).snd).isNone)) rfl (show True from trivial)
          ·skip
           refine v_pick True trivial ?_ ?_
           ·skip
            refine v_call _ [0, 9] (Root_ok (putO [98] [50] (putO [97] [49] none))) ((wordsP = wordsP) ∧ (PTO (putO [98] [50] (putO [97] [49] none)) = PTO (putO [98] [50] (putO [97] [49] none))) ∧ (false = false)) ⟨rfl, rfl, rfl⟩ (fun g33 p34 => ?_)
            have p34 : True := p34
            refine v_call _ [0, 22, 16, 17] (VerifyGap_ok (hashO (putO [98] [50] (putO [97] [49] none))) ([99]) ((gapL [99] (putO [98] [50] (putO [97] [49] none))).fst) ((gapL [99] (putO [98] [50] (putO [97] [49] none))).snd) rfl (by decide) (by decide)) ((0 < 1) ∧ (hashO (putO [98] [50] (putO [97] [49] none)) = hashO (putO [98] [50] (putO [97] [49] none))) ∧ (wordsP = wordsP) ∧ ([(99 : UInt8)] = [(99 : UInt8)]) ∧ ((gapL [99] (putO [98] [50] (putO [97] [49] none))).fst = (gapL [99] (putO [98] [50] (putO [97] [49] none))).fst) ∧ ((gapL [99] (putO [98] [50] (putO [97] [49] none))).snd = (gapL [99] (putO [98] [50] (putO [97] [49] none))).snd)) ⟨(by decide), rfl, rfl, rfl, rfl, rfl⟩ (fun g35 p36 => ?_)
            have p36 : True := p36
            exact v_back (()) [] (((vgP (hashO (putO [98] [50] (putO [97] [49] none))) [99] (gapL [99] (putO [98] [50] (putO [97] [49] none))).fst (gapL [99] (putO [98] [50] (putO [97] [49] none))).snd).isNone = (vgP (hashO (putO [98] [50] (putO [97] [49] none))) [99] (gapL [99] (putO [98] [50] (putO [97] [49] none))).fst (gapL [99] (putO [98] [50] (putO [97] [49] none))).snd).isNone)) rfl (show True from trivial)
           ·skip
            refine v_call _ [0, 9] (Root_ok (putO [98] [50] (putO [97] [49] none))) ((0 < 1) ∧ (wordsP = wordsP) ∧ (PTO (putO [98] [50] (putO [97] [49] none)) = PTO (putO [98] [50] (putO [97] [49] none))) ∧ (false = false)) ⟨(by decide), rfl, rfl, rfl⟩ (fun g37 p38 => ?_)
            have p38 : True := p38
            refine v_call _ [0, 22, 16, 17] (VerifyGap_ok (hashO (putO [98] [50] (putO [97] [49] none))) ([99]) ((gapL [99] (putO [98] [50] (putO [97] [49] none))).fst) ((gapL [99] (putO [98] [50] (putO [97] [49] none))).snd) rfl (by decide) (by decide)) ((hashO (putO [98] [50] (putO [97] [49] none)) = hashO (putO [98] [50] (putO [97] [49] none))) ∧ (wordsP = wordsP) ∧ ([(99 : UInt8)] = [(99 : UInt8)]) ∧ ((gapL [99] (putO [98] [50] (putO [97] [49] none))).fst = (gapL [99] (putO [98] [50] (putO [97] [49] none))).fst) ∧ ((gapL [99] (putO [98] [50] (putO [97] [49] none))).snd = (gapL [99] (putO [98] [50] (putO [97] [49] none))).snd)) ⟨rfl, rfl, rfl, rfl, rfl⟩ (fun g39 p40 => ?_)
            have p40 : True := p40
            exact v_back (()) [] (((vgP (hashO (putO [98] [50] (putO [97] [49] none))) [99] (gapL [99] (putO [98] [50] (putO [97] [49] none))).fst (gapL [99] (putO [98] [50] (putO [97] [49] none))).snd).isNone = (vgP (hashO (putO [98] [50] (putO [97] [49] none))) [99] (gapL [99] (putO [98] [50] (putO [97] [49] none))).fst (gapL [99] (putO [98] [50] (putO [97] [49] none))).snd).isNone)) rfl (show True from trivial)
         ·skip
          exfalso; (simp_all; done)
        ·have h27 := (nf h27)
         exfalso; (simp_all; done)
       ·have h26 := of_decide_eq_false h26
        omega
      ·skip
       exfalso; (rw [v1] at *; simp at *; done)
     ·skip
      exfalso; (simp_all; done)
    ·have h13 := of_decide_eq_false h13
     omega
   ·skip
    exfalso; (simp_all; done)
  ·skip
   exfalso; (simp_all; done)
 ·skip
  exact v_ret () [] (((vgP (hashO (putO [98] [50] (putO [97] [49] none))) [99] (gapL [99] (putO [98] [50] (putO [97] [49] none))).fst (gapL [99] (putO [98] [50] (putO [97] [49] none))).snd).isNone = true) ∧ (wordsP = wordsP) ∧ (etP = etP)) ⟨(by (simp; omega)), rfl, rfl⟩ trivial
end Go.Proofs.YtnicmjipbnhciaaDoor.X
set_option linter.unusedVariables false
set_option linter.unusedSimpArgs false
set_option maxRecDepth 100000
namespace Go.Proofs.YtnicmjipbnhciaaDoor.X
open Go Go.RowKit Go.Proofs Go.Proofs.YtnicmjipbnhciaaDoor.E
theorem aw_fine : fine (putO [98] [50] (putO [97] [49] none)) := by
  refine ⟨?_, ?_, ?_⟩
  · show Srt [⟨[97], [49]⟩, ⟨[98], [50]⟩]
    exact List.pairwise_cons.2 ⟨fun p hp => by rw [List.mem_singleton.1 hp]; decide, List.pairwise_singleton ..⟩
  · show lvOk [⟨[97], [49]⟩, ⟨[98], [50]⟩]
    intro p hp
    rcases List.mem_cons.1 hp with rfl | hp
    · decide
    · rw [List.mem_singleton.1 hp]; decide
  · have h := okN.put (k := [98]) (v := [50]) (okN.put (k := [97]) (v := [49]) (n := 0) (o := none) (fun t e => by simp at e) (by decide) (by decide)) (by decide) (by decide)
    exact fun t e => ⟨(h t e).1, by have := (h t e).2; omega⟩
theorem aw_hash : hashO (putO [98] [50] (putO [97] [49] none)) ≠ sum256 [] := by
  intro h
  have h1 : ((hashO (putO [98] [50] (putO [97] [49] none))).getD 0 0 == (sum256 []).getD 0 0) = false := by decide +kernel
  rw [h] at h1; simp at h1
theorem aw_m : mkB [98] (putO [98] [50] (putO [97] [49] none)) = true := by decide
theorem aw_v1 : verP (hashO (putO [98] [50] (putO [97] [49] none))) (mkP [98] (putO [98] [50] (putO [97] [49] none))) = none := verP_make aw_fine aw_m
theorem aw_v2 : codeO (verP (sum256 []) (mkP [98] (putO [98] [50] (putO [97] [49] none)))) = 21 := by
  unfold verP; rw [verify_make aw_fine aw_m]
  show codeO (if hashO (putO [98] [50] (putO [97] [49] none)) = sum256 [] then none else some (.step ((#[114, 111, 111, 116] : Array UInt8).toList) 0 (.num 21))) = 21
  rw [if_neg aw_hash]; rfl
theorem aw_gap : gapL [99] (putO [98] [50] (putO [97] [49] none)) = (some (mkP [98] (putO [98] [50] (putO [97] [49] none))), none) := by rfl
theorem aw_v3 : vgP (hashO (putO [98] [50] (putO [97] [49] none))) [99] (some (mkP [98] (putO [98] [50] (putO [97] [49] none)))) none = none := by
  have hs : vgS (hashO (putO [98] [50] (putO [97] [49] none))) [99] 0 (some (mkP [98] (putO [98] [50] (putO [97] [49] none)))) = none :=
    vs4 rfl (by show (verP (hashO (putO [98] [50] (putO [97] [49] none))) (mkP [98] (putO [98] [50] (putO [97] [49] none)))).isNone = true; rw [aw_v1]; rfl) (by decide) (by decide)
  rw [vg_left (by decide) (by decide) rfl rfl (by decide)]
  unfold vgL; rw [hs]; rfl
theorem Awake9_ok : FOk EN 15 ⟨[.pr wordsP, .pr etP], [], Unit, fun _ => ([.pr wordsP, .pr etP], .b true), fun _ => True⟩ := by
  refine Awake9_aux (fun t e => by simp at e) ?_ aw_fine.O aw_m (by decide) (by decide) (by decide) (by decide) aw_v1 aw_v2 (by decide) (by decide) ?_ (by decide) (by decide)
  · have h := okN.put (k := [97]) (v := [49]) (n := 0) (o := none) (fun t e => by simp at e) (by decide) (by decide)
    exact h.O (by decide)
  · rw [aw_gap]; exact aw_v3
end Go.Proofs.YtnicmjipbnhciaaDoor.X
set_option linter.unusedVariables false
set_option linter.unusedSimpArgs false
set_option maxRecDepth 100000
namespace Go.Proofs.YtnicmjipbnhciaaDoor.X
open Go Go.RowKit Go.Proofs Go.Proofs.YtnicmjipbnhciaaDoor.E
theorem grow_lv (acts : List Act) (m : Nat) : (growT acts m).2 = leavesO (growT acts m).1 := (growT_ok acts m).2
theorem growT_le (acts : List Act) {m : Nat} : (growT acts m).2.length ≤ m := by rw [grow_lv]; exact (growT_okN acts m).leaves
section
variable {acts : List Act} {m i : Nat}
theorem gat (hi : (i : Int) < (growT acts m).2.length) : (growT acts m).2.getD i dP ∈ leavesO (growT acts m).1 := by
  rw [← grow_lv]
  have h : i < (growT acts m).2.length := by omega
  rw [List.getD_eq_getElem?_getD, List.getElem?_eq_getElem h]; exact List.getElem_mem h
theorem gat_m (hm : m ≤ 64) (hi : (i : Int) < (growT acts m).2.length) : mkB ((growT acts m).2.getD i dP).key (growT acts m).1 = true := (mkB_iff (growT_fine acts m hm)).2 ⟨_, gat hi, rfl⟩
theorem gat_n (hi : (i : Int) < (growT acts m).2.length) : (growT acts m).1.isNone = false := by
  have := gat hi
  cases h : (growT acts m).1 with
  | none => rw [h] at this; simp [leavesO] at this
  | some t => rfl
theorem gat_p (hm : m ≤ 64) (hi : (i : Int) < (growT acts m).2.length) : mkP ((growT acts m).2.getD i dP).key (growT acts m).1 = ⟨((gt (growT acts m).1).fin ((growT acts m).2.getD i dP).key).key, ((gt (growT acts m).1).fin ((growT acts m).2.getD i dP).key).value, (gt (growT acts m).1).turns ((growT acts m).2.getD i dP).key⟩ := by
  have h := gat_m hm hi
  cases e : (growT acts m).1 with
  | none => rw [e] at h; simp [mkB] at h
  | some t => rw [e] at h; simp only [mkB, decide_eq_true_eq] at h; show mkP _ (some t) = _; simp only [mkP, if_pos h]; rfl
theorem gtk (hm : m ≤ 64) : (gt (growT acts m).1).Ks ∧ (gt (growT acts m).1).height < 900 ∧ (gt (growT acts m).1).depth ≤ 100000 := by
  have h := (growT_okN acts m)
  cases e : (growT acts m).1 with
  | none => exact ⟨⟨Nat.zero_le _, Nat.zero_le _⟩, by decide, by decide⟩
  | some t => have := h t e; have q := t.height_depth; refine ⟨this.1, ?_, ?_⟩ <;> (show (_ : _)) <;> simp only [gt, Option.getD_some] <;> omega
theorem turns_le (k : List UInt8) (hm : m ≤ 64) : (mkP k (growT acts m).1).turns.length ≤ 100 := by
  cases e : (growT acts m).1 with
  | none => exact Nat.zero_le _
  | some t =>
    have h := (growT_okN acts m) t e
    simp only [mkP]; split
    · have := t.turns_len k; have := t.height_depth; show (t.turns k).length ≤ 100; omega
    · exact Nat.zero_le _
theorem gtt (k : List UInt8) (hm : m ≤ 64) : ((gt (growT acts m).1).turns k).length ≤ 1000000 := by
  have h := (gt (growT acts m).1).turns_len k; have := (gtk (acts := acts) hm).2.1; omega
end
end Go.Proofs.YtnicmjipbnhciaaDoor.X
set_option linter.unusedVariables false
set_option linter.unusedSimpArgs false
set_option maxRecDepth 100000
namespace Go.Proofs.YtnicmjipbnhciaaDoor.X
open Go Go.RowKit Go.Proofs Go.Proofs.YtnicmjipbnhciaaDoor.E
theorem cmp_self (a : List UInt8) : Lib.compareBytes a a = 0 := by have := cmp_anti a a; omega
theorem cmp_pos {a b : List UInt8} (h : klt a b) : ¬ Lib.compareBytes b a = 0 ∧ ¬ Lib.compareBytes b a < 0 := by have := cmp_anti a b; unfold klt at h; omega
/-- The gap of a key that isn't there, of sorted leaves. -/
theorem noneG_below (k : List UInt8) (o : Option Tr) : ∀ (A B : List Pair) (g : Option Proof × Option Proof), (∀ p ∈ A, klt p.key k) → noneG k o (A ++ B) g = noneG k o B ((A.getLast?.map fun p => mkP p.key o).or g.1, g.2)
  | [], B, g, _ => rfl
  | x :: A, B, g, h => by
    have hx := h x (List.mem_cons_self ..)
    unfold klt at hx
    rw [List.cons_append, noneG, if_neg (by omega), if_pos hx, noneG_below k o A B _ (fun p hp => h p (List.mem_cons_of_mem _ hp))]
    cases A with
    | nil => rfl
    | cons y A => rw [List.getLast?_cons_cons]; cases e : (y :: A).getLast? with
      | none => simp at e
      | some z => rfl
theorem noneG_above (k : List UInt8) (o : Option Tr) : ∀ (B : List Pair) (g : Option Proof × Option Proof), (∀ p ∈ B, klt k p.key) → noneG k o B g = some (g.1, g.2.or (B.head?.map fun p => mkP p.key o))
  | [], g, _ => by simp [noneG]
  | x :: B, g, h => by
    have hx := cmp_pos (h x (List.mem_cons_self ..))
    rw [noneG, if_neg hx.1, if_neg hx.2]
    split
    · rename_i hn
      rw [noneG_above k o B _ (fun p hp => h p (List.mem_cons_of_mem _ hp))]
      cases e : g.2 with
      | none => rfl
      | some _ => rw [e] at hn; simp at hn
    · rename_i hn
      rw [noneG_above k o B _ (fun p hp => h p (List.mem_cons_of_mem _ hp))]
      cases e : g.2 with
      | none => rw [e] at hn; simp at hn
      | some _ => rfl
theorem noneG_hit (k : List UInt8) (o : Option Tr) : ∀ (l : List Pair) (g : Option Proof × Option Proof), (∃ p ∈ l, p.key = k) → noneG k o l g = none
  | [], g, ⟨p, h, _⟩ => by simp at h
  | x :: l, g, ⟨p, h, e⟩ => by
    rcases List.mem_cons.1 h with rfl | h
    · rw [noneG, if_pos (by rw [e]; exact cmp_self k)]
    · rw [noneG]
      split
      · rfl
      · split
        · exact noneG_hit k o l _ ⟨p, h, e⟩
        · split <;> exact noneG_hit k o l _ ⟨p, h, e⟩
theorem srt_split (k : List UInt8) : ∀ (l : List Pair), Srt l → (∀ p ∈ l, p.key ≠ k) → ∃ A B, l = A ++ B ∧ (∀ p ∈ A, klt p.key k) ∧ (∀ p ∈ B, klt k p.key)
  | [], _, _ => ⟨[], [], rfl, fun p h => by simp at h, fun p h => by simp at h⟩
  | x :: l, h, hn => by
    obtain ⟨hx, hl⟩ := List.pairwise_cons.1 h
    by_cases c : klt x.key k
    · obtain ⟨A, B, e, a, b⟩ := srt_split k l hl (fun p hp => hn p (List.mem_cons_of_mem _ hp))
      exact ⟨x :: A, B, by rw [e]; rfl, fun p hp => by rcases List.mem_cons.1 hp with rfl | hp; exact c; exact a p hp, b⟩
    · refine ⟨[], x :: l, rfl, fun p hp => by simp at hp, fun p hp => ?_⟩
      have c' : klt k x.key := (kge c).resolve_left (hn x (List.mem_cons_self ..))
      rcases List.mem_cons.1 hp with rfl | hp
      · exact c'
      · exact klt_trans c' (hx p hp)
theorem gap_of {k : List UInt8} {o : Option Tr} {A B : List Pair} (e : leavesO o = A ++ B) (ha : ∀ p ∈ A, klt p.key k) (hb : ∀ p ∈ B, klt k p.key) : noneR k o = some (A.getLast?.map (fun p => mkP p.key o), B.head?.map fun p => mkP p.key o) := by
  unfold noneR; rw [e, noneG_below k o A B _ ha, noneG_above k o B _ hb]; simp
theorem none_there {k : List UInt8} {o : Option Tr} (h : ∃ p ∈ leavesO o, p.key = k) : noneR k o = none := noneG_hit k o _ _ h
theorem rt_l {l r : Tr} (h : Srt (Tr.node l r).leaves) {p : Pair} (hp : p ∈ l.leaves) : (Tr.node l r).rt p.key = false := by
  have := Tr.left_of h hp
  show decide (0 ≤ Lib.compareBytes p.key r.least) = false
  unfold klt at this; simp; omega
theorem rt_r {l r : Tr} (h : Srt (Tr.node l r).leaves) {p : Pair} (hp : p ∈ r.leaves) : (Tr.node l r).rt p.key = true := by
  have := Tr.right_of (List.pairwise_append.1 h).2.1 hp
  show decide (0 ≤ Lib.compareBytes p.key r.least) = true
  unfold klt at this; simp; omega
theorem turns_l {l r : Tr} (h : Srt (Tr.node l r).leaves) {p : Pair} (hp : p ∈ l.leaves) : (Tr.node l r).turns p.key = ⟨(Tr.node l r).height, (Tr.node l r).size, false, mk32 (Tr.node l r).rh⟩ :: l.turns p.key := by
  show (Tr.node l r).turn p.key :: (if (Tr.node l r).rt p.key then r.turns p.key else l.turns p.key) = _
  unfold Tr.turn; rw [rt_l h hp]; rfl
theorem turns_r {l r : Tr} (h : Srt (Tr.node l r).leaves) {p : Pair} (hp : p ∈ r.leaves) : (Tr.node l r).turns p.key = ⟨(Tr.node l r).height, (Tr.node l r).size, true, mk32 (Tr.node l r).lh⟩ :: r.turns p.key := by
  show (Tr.node l r).turn p.key :: (if (Tr.node l r).rt p.key then r.turns p.key else l.turns p.key) = _
  unfold Tr.turn; rw [rt_r h hp]; rfl
theorem srt_l {l r : Tr} (h : Srt (Tr.node l r).leaves) : Srt l.leaves := (List.pairwise_append.1 h).1
theorem srt_r {l r : Tr} (h : Srt (Tr.node l r).leaves) : Srt r.leaves := (List.pairwise_append.1 h).2.1
theorem turns_first : ∀ {t : Tr}, Srt t.leaves → ∀ {p : Pair}, t.leaves.head? = some p → sideP false (t.turns p.key) = true
  | .leaf a b, _, p, _ => rfl
  | .node l r, h, p, hp => by
    obtain ⟨v, m, e⟩ := Tr.leaves_ne l
    have hp' : l.leaves.head? = some p := by
      have : (l.leaves ++ r.leaves).head? = some p := hp
      rw [e] at this ⊢; exact this
    have hm : p ∈ l.leaves := List.mem_of_head? hp'
    rw [turns_l h hm]
    show ((false == false) && sideP false (l.turns p.key)) = true
    rw [turns_first (srt_l h) hp']; rfl
theorem turns_last : ∀ {t : Tr}, Srt t.leaves → ∀ {p : Pair}, t.leaves.getLast? = some p → sideP true (t.turns p.key) = true
  | .leaf a b, _, p, _ => rfl
  | .node l r, h, p, hp => by
    obtain ⟨v, m, e⟩ := Tr.leaves_ne r
    have hp' : r.leaves.getLast? = some p := by
      have : (l.leaves ++ r.leaves).getLast? = some p := hp
      rw [List.getLast?_append] at this
      cases c : r.leaves.getLast? with
      | none => rw [List.getLast?_eq_none_iff, e] at c; simp at c
      | some z => rw [c] at this; exact this
    have hm : p ∈ r.leaves := List.mem_of_getLast? hp'
    rw [turns_r h hm]
    show ((true == true) && sideP true (r.turns p.key)) = true
    rw [turns_last (srt_r h) hp']; rfl
theorem next_cons (x : Turn) (l r : List Turn) : nextP (x :: l) (x :: r) = nextP l r := by
  unfold nextP
  rw [show cpl (x :: l) (x :: r) = cpl l r + 1 by rw [cpl, if_pos rfl]]
  unfold nextQ
  simp
theorem next_here {h : Int} {s : UInt64} {x y : Sum32} {l r : List Turn} (hl : sideP true l = true) (hr : sideP false r = true) : nextP (⟨h, s, false, x⟩ :: l) (⟨h, s, true, y⟩ :: r) = true := by
  unfold nextP
  rw [show cpl (⟨h, s, false, x⟩ :: l) (⟨h, s, true, y⟩ :: r) = 0 by rw [cpl, if_neg (by simp)]]
  unfold nextQ
  simp [hl, hr]
/-- Two leaves that stand side by side. -/
def adj (l : List Pair) (p q : Pair) : Prop := ∃ a b, l = a ++ p :: q :: b
theorem adj_append {l r : List Pair} {p q : Pair} (h : adj (l ++ r) p q) : adj l p q ∨ adj r p q ∨ (l.getLast? = some p ∧ r.head? = some q) := by
  obtain ⟨a, b, e⟩ := h
  rcases List.append_eq_append_iff.1 e with ⟨c, e1, e2⟩ | ⟨c, e1, e2⟩
  · exact .inr (.inl ⟨c, b, e2⟩)
  · cases c with
    | nil => simp at e1 e2; exact .inr (.inl ⟨[], b, by simp [e2]⟩)
    | cons x c =>
      injection e2 with e2 e3
      subst e2
      cases c with
      | nil => refine .inr (.inr ⟨by rw [e1]; simp, ?_⟩); simp at e3; rw [← e3]; rfl
      | cons y c => injection e3 with e3 e4; subst e3; exact .inl ⟨a, c, e1⟩
theorem adj_mem {l : List Pair} {p q : Pair} (h : adj l p q) : p ∈ l ∧ q ∈ l := by obtain ⟨a, b, rfl⟩ := h; simp
theorem turns_next : ∀ {t : Tr}, Srt t.leaves → ∀ {p q : Pair}, adj t.leaves p q → nextP (t.turns p.key) (t.turns q.key) = true
  | .leaf a b, _, p, q, ⟨x, y, e⟩ => by
    have : [(⟨a, b⟩ : Pair)].length = (x ++ p :: q :: y).length := congrArg List.length e
    simp at this; omega
  | .node l r, h, p, q, ha => by
    rcases adj_append (show adj (l.leaves ++ r.leaves) p q from ha) with c | c | ⟨c1, c2⟩
    · obtain ⟨m1, m2⟩ := adj_mem c
      rw [turns_l h m1, turns_l h m2, next_cons]; exact turns_next (srt_l h) c
    · obtain ⟨m1, m2⟩ := adj_mem c
      rw [turns_r h m1, turns_r h m2, next_cons]; exact turns_next (srt_r h) c
    · rw [turns_l h (List.mem_of_getLast? c1), turns_r h (List.mem_of_head? c2)]
      exact next_here (turns_last (srt_l h) c1) (turns_first (srt_r h) c2)
theorem mk_turns {t : Tr} {p : Pair} (h : fine (some t)) (hp : p ∈ t.leaves) : (mkP p.key (some t)).turns = t.turns p.key := by
  have h1 : (t.fin p.key).key = p.key := congrArg Pair.key (Tr.fin_pair h.1 hp)
  simp only [mkP, if_pos h1]
theorem vs_ok {o : Option Tr} {k : List UInt8} {p : Pair} {i : Int} (h : fine o) (hp : p ∈ leavesO o) (hc : (i = 0 ∧ klt p.key k) ∨ (¬ i = 0 ∧ klt k p.key)) : vgS (hashO o) k i (some (mkP p.key o)) = none := by
  have hk : (gp (some (mkP p.key o))).key = p.key := (mkP_leaf h hp).1
  refine vs4 rfl (by show (verP (hashO o) (mkP p.key o)).isNone = true; rw [verP_make h ((mkB_iff h).2 ⟨p, hp, rfl⟩)]; rfl) ?_ ?_
  · rw [hk]; rcases hc with ⟨_, c⟩ | ⟨_, c⟩
    · unfold klt at c; omega
    · exact (cmp_pos c).1
  · rw [hk]; rcases hc with ⟨e, c⟩ | ⟨e, c⟩
    · unfold klt at c; rw [decide_eq_true c, decide_eq_true e]; rfl
    · rw [decide_eq_false (cmp_pos c).2, decide_eq_false e]; rfl
theorem vgL_ok {want k : List UInt8} {l r : Option Proof} (h1 : vgS want k 0 l = none) (h2 : vgS want k 1 r = none) : vgL want k l r = none := by unfold vgL; rw [if_pos (by rw [h1]; rfl)]; exact h2
theorem gap_taken {k : List UInt8} {o : Option Tr} (h : fine o) (hn : ∀ p ∈ leavesO o, p.key ≠ k) (h1 : ¬ (k.length = 0 ∨ 96 < k.length)) : vgP (hashO o) k (gapL k o).1 (gapL k o).2 = none := by
  obtain ⟨A, B, e, ha, hb⟩ := srt_split k _ h.1 hn
  have g : gapL k o = (A.getLast?.map (fun p => mkP p.key o), B.head?.map fun p => mkP p.key o) := by unfold gapL; rw [gap_of e ha hb]; rfl
  rw [g]
  have h1' : ¬ ((k.length : Int) = 0) := by omega
  have h3' : ¬ ((k.length : Int) < 1) := by omega
  have h2' : ¬ ((96 : Int) < k.length) := by omega
  cases o with
  | none =>
    have : A = [] ∧ B = [] := by have e : [] = A ++ B := e; simpa using e.symm
    obtain ⟨rfl, rfl⟩ := this
    unfold vgP; rw [if_neg h1, if_pos ⟨rfl, rfl⟩]; rfl
  | some t =>
    have e : t.leaves = A ++ B := e
    have hs : Srt t.leaves := h.1
    cases ea : A.getLast? with
    | none =>
      have hA : A = [] := by simpa using ea
      subst hA
      cases eb : B.head? with
      | none =>
        have hB : B = [] := by simpa using eb
        subst hB
        obtain ⟨v, m, e2⟩ := Tr.leaves_ne t
        rw [e2] at e; simp at e
      | some q =>
        have hq : q ∈ t.leaves := by rw [e]; exact List.mem_of_head? eb
        have s1 : sideP false (mkP q.key (some t)).turns = true := by rw [mk_turns h hq]; exact turns_first hs (by rw [e]; exact eb)
        show vgP (hashO (some t)) k none (some (mkP q.key (some t))) = none
        exact (vg_right (l := none) (r := some (mkP q.key (some t))) h3' h2' rfl rfl s1).trans <| vgL_ok (vs1 rfl) (vs_ok h hq (.inr ⟨by decide, hb q (List.mem_of_head? eb)⟩))
    | some p =>
      have mp : p ∈ A := List.mem_of_getLast? ea
      have hp : p ∈ t.leaves := by rw [e]; exact List.mem_append_left _ mp
      have sp : vgS (hashO (some t)) k 0 (some (mkP p.key (some t))) = none := vs_ok h hp (.inl ⟨rfl, ha p mp⟩)
      cases eb : B.head? with
      | none =>
        have hB : B = [] := by simpa using eb
        subst hB
        have s1 : sideP true (mkP p.key (some t)).turns = true := by rw [mk_turns h hp]; exact turns_last hs (by rw [e, List.append_nil]; exact ea)
        show vgP (hashO (some t)) k (some (mkP p.key (some t))) none = none
        exact (vg_left (l := some (mkP p.key (some t))) (r := none) h3' h2' rfl rfl s1).trans <| vgL_ok sp (vs1 rfl)
      | some q =>
        have mq : q ∈ B := List.mem_of_head? eb
        have hq : q ∈ t.leaves := by rw [e]; exact List.mem_append_right _ mq
        have hadj : adj t.leaves p q := by
          obtain ⟨A', rfl⟩ := List.getLast?_eq_some_iff.1 ea
          obtain ⟨B', rfl⟩ := List.head?_eq_some_iff.1 eb
          exact ⟨A', B', by rw [e]; simp⟩
        show vgP (hashO (some t)) k (some (mkP p.key (some t))) (some (mkP q.key (some t))) = none
        exact (vg_both (l := some (mkP p.key (some t))) (r := some (mkP q.key (some t))) h1' h2' rfl rfl (by show nextP (mkP p.key (some t)).turns (mkP q.key (some t)).turns = true; rw [mk_turns h hp, mk_turns h hq]; exact turns_next hs hadj)).trans <| vgL_ok sp (vs_ok h hq (.inr ⟨by decide, hb q mq⟩))
end Go.Proofs.YtnicmjipbnhciaaDoor.X
set_option linter.unusedVariables false
set_option linter.unusedSimpArgs false
set_option maxRecDepth 100000
namespace Go.Proofs.YtnicmjipbnhciaaDoor.X
open Go Go.RowKit Go.Proofs Go.Proofs.YtnicmjipbnhciaaDoor.E
theorem bsG_below (k : List UInt8) : ∀ (A B : List Pair) (i : Nat) (s : Int × Int), (∀ p ∈ A, klt p.key k) → bsG k (A ++ B) i s = bsG k B (i + A.length) (if A = [] then s.1 else ((i + A.length : Nat) : Int) - 1, s.2)
  | [], B, i, s, _ => by simp
  | x :: A, B, i, s, h => by
    have hx := h x (List.mem_cons_self ..)
    have h1 : Op.bytesLess x.key k = true := less_klt.2 hx
    have h2 : isGt x.key k = false := isGt_f (by rw [h1]; rfl)
    have e : bsG k (x :: (A ++ B)) i s = bsG k (A ++ B) (i + 1) ((i : Int), s.2) := by rw [bsG, h1, h2]; simp
    rw [List.cons_append, e, bsG_below k A B (i + 1) _ (fun p hp => h p (List.mem_cons_of_mem _ hp)), if_neg (show ¬ (x :: A = []) by simp), show i + 1 + A.length = i + (x :: A).length by simp; omega]
    congr 1
    refine Prod.ext ?_ rfl
    show (if A = [] then (i : Int) else _) = _
    split
    · rename_i e; subst e; simp
    · rfl
theorem bsG_above (k : List UInt8) : ∀ (B : List Pair) (i : Nat) (s : Int × Int), (∀ p ∈ B, klt k p.key) → bsG k B i s = (s.1, if B = [] then s.2 else if s.2 < 0 then (i : Int) else s.2)
  | [], i, s, _ => by simp [bsG]
  | x :: B, i, s, h => by
    have hx := h x (List.mem_cons_self ..)
    have h1 : Op.bytesLess x.key k = false := by cases c : Op.bytesLess x.key k with
      | false => rfl
      | true => exact absurd (less_klt.1 c) (cmp_pos hx).2
    have h2 : isGt x.key k = true := isGt_t (by rw [h1, decide_eq_false (fun e => klt_ne hx e.symm)]; rfl)
    have e : bsG k (x :: B) i s = bsG k B (i + 1) (s.1, if s.2 < 0 then (i : Int) else s.2) := by rw [bsG, h1, h2]; simp
    rw [e, bsG_above k B (i + 1) _ (fun p hp => h p (List.mem_cons_of_mem _ hp))]
    rw [if_neg (show ¬ (x :: B = []) by simp)]
    refine Prod.ext rfl ?_
    show (if B = [] then (if s.2 < 0 then (i : Int) else s.2) else if (if s.2 < 0 then (i : Int) else s.2) < 0 then ((i + 1 : Nat) : Int) else (if s.2 < 0 then (i : Int) else s.2)) = _
    (repeat' split) <;> first | rfl | omega
theorem beside_of {k : List UInt8} {A B : List Pair} (ha : ∀ p ∈ A, klt p.key k) (hb : ∀ p ∈ B, klt k p.key) : besideP (A ++ B) k = ((A.length : Int) - 1, if B = [] then -1 else (A.length : Int)) := by
  unfold besideP
  rw [bsG_below k A B 0 _ ha, bsG_above k B _ _ hb]
  simp only [Nat.zero_add]
  refine Prod.ext ?_ ?_
  · show (if A = [] then (-1 : Int) else _) = _
    split
    · rename_i e; subst e; rfl
    · rfl
  · show (if B = [] then (-1 : Int) else if (-1 : Int) < 0 then _ else _) = _
    rw [if_pos (show (-1 : Int) < 0 by decide)]
section
variable {acts : List Act} {m : Nat} {k : List UInt8}
theorem bes (hm : m ≤ 64) (hf : ¬ 0 ≤ findP (growT acts m).2 k) : (noneR k (growT acts m).1).isSome = true ∧
    (0 ≤ (besideP (growT acts m).2 k).1 → (besideP (growT acts m).2 k).1 < (growT acts m).2.length ∧ (gapL k (growT acts m).1).1 = some (mkP ((growT acts m).2.getD (besideP (growT acts m).2 k).1.toNat dP).key (growT acts m).1)) ∧ (¬ 0 ≤ (besideP (growT acts m).2 k).1 → (gapL k (growT acts m).1).1 = none) ∧
    (0 ≤ (besideP (growT acts m).2 k).2 → (besideP (growT acts m).2 k).2 < (growT acts m).2.length ∧ (gapL k (growT acts m).1).2 = some (mkP ((growT acts m).2.getD (besideP (growT acts m).2 k).2.toNat dP).key (growT acts m).1)) ∧ (¬ 0 ≤ (besideP (growT acts m).2 k).2 → (gapL k (growT acts m).1).2 = none) := by
  have h := growT_fine acts m hm
  have hn : ∀ p ∈ leavesO (growT acts m).1, p.key ≠ k := fun p hp e => hf (find_ge.2 ⟨p, by rw [grow_lv]; exact hp, e⟩)
  obtain ⟨A, B, e, ha, hb⟩ := srt_split k _ h.1 hn
  have g := gap_of e ha hb
  have e2 : (growT acts m).2 = A ++ B := by rw [grow_lv]; exact e
  refine ⟨by rw [g]; rfl, ?_⟩
  unfold gapL
  rw [g, e2, beside_of ha hb]
  simp only [Option.getD_some]
  refine ⟨fun q => ⟨by simp; omega, ?_⟩, fun q => ?_, fun q => ?_, fun q => ?_⟩
  · obtain ⟨x, A', rfl⟩ : ∃ x A', A = A' ++ [x] := by
      rcases List.eq_nil_or_concat A with rfl | ⟨A', x, rfl⟩
      · simp at q
      · exact ⟨x, A', by simp⟩
    simp
  · have : A = [] := by cases A with
      | nil => rfl
      | cons x A => simp at q
    subst this; rfl
  · cases B with
    | nil => simp at q
    | cons y B => simp; omega
  · cases B with
    | nil => rfl
    | cons y B => simp at q
end
end Go.Proofs.YtnicmjipbnhciaaDoor.X
set_option linter.unusedVariables false
set_option linter.unusedSimpArgs false
set_option maxRecDepth 100000
namespace Go.Proofs.YtnicmjipbnhciaaDoor.X
open Go Go.RowKit Go.Proofs Go.Proofs.YtnicmjipbnhciaaDoor.E
section
variable {acts : List Act} {m : Nat} {k : List UInt8}
theorem bes_t (hm : m ≤ 64) (hf : ¬ 0 ≤ findP (growT acts m).2 k) (h1 : 1 ≤ (k.length : Int)) (h2 : (k.length : Int) ≤ 96) : vgP (hashO (growT acts m).1) k (gapL k (growT acts m).1).1 (gapL k (growT acts m).1).2 = none :=
  gap_taken (growT_fine acts m hm) (fun p hp e => hf (find_ge.2 ⟨p, by rw [grow_lv]; exact hp, e⟩)) (by omega)
theorem vg_key {want k : List UInt8} {l r : Option Proof} (h : ¬ 1 ≤ (k.length : Int) ∨ ¬ (k.length : Int) ≤ 96) : (vgP want k l r).isNone = false := by unfold vgP; rw [if_pos (by omega)]; rfl
theorem gap_in {o : Option Tr} : ∀ (l : List Pair) (g r : Option Proof × Option Proof), noneG k o l g = some r → ∀ n, (∀ q, (mkP q o).turns.length ≤ n) → (gp g.1).turns.length ≤ n → (gp g.2).turns.length ≤ n → (gp r.1).turns.length ≤ n ∧ (gp r.2).turns.length ≤ n
  | [], g, r, e, n, hq, h1, h2 => by simp only [noneG, Option.some.injEq] at e; subst e; exact ⟨h1, h2⟩
  | x :: l, g, r, e, n, hq, h1, h2 => by
    rw [noneG] at e
    split at e
    · cases e
    · split at e
      · exact gap_in l _ r e n hq (hq x.key) h2
      · split at e
        · exact gap_in l _ r e n hq h1 (hq x.key)
        · exact gap_in l _ r e n hq h1 h2
theorem gapl (hm : m ≤ 64) : (gp (gapL k (growT acts m).1).1).turns.length ≤ 1000000 ∧ (gp (gapL k (growT acts m).1).2).turns.length ≤ 1000000 := by
  unfold gapL
  cases e : noneR k (growT acts m).1 with
  | none => exact ⟨Nat.zero_le _, Nat.zero_le _⟩
  | some r => exact gap_in _ _ r e 1000000 (fun q => Nat.le_trans (turns_le q hm) (by decide)) (Nat.zero_le _) (Nat.zero_le _)
theorem gapl1 (hm : m ≤ 64) : (gp (gapL k (growT acts m).1).1).turns.length ≤ 1000000 := (gapl hm).1
theorem gapl2 (hm : m ≤ 64) : (gp (gapL k (growT acts m).1).2).turns.length ≤ 1000000 := (gapl hm).2
theorem bes_n (hm : m ≤ 64) (hf : ¬ 0 ≤ findP (growT acts m).2 k) (h : 0 ≤ (besideP (growT acts m).2 k).1 ∨ 0 ≤ (besideP (growT acts m).2 k).2) : (growT acts m).1.isNone = false := by
  obtain ⟨_, b1, _, b2, _⟩ := bes hm hf
  rcases h with h | h
  · exact gat_n (i := (besideP (growT acts m).2 k).1.toNat) (by have := (b1 h).1; omega)
  · exact gat_n (i := (besideP (growT acts m).2 k).2.toNat) (by have := (b2 h).1; omega)
theorem hit0 (hm : m ≤ 64) (hf : 0 ≤ findP (growT acts m).2 k) : noneR k (growT acts m).1 = none := none_there (by obtain ⟨p, hp, e⟩ := find_ge.1 hf; exact ⟨p, by rw [← grow_lv]; exact hp, e⟩)
theorem hit1 (hm : m ≤ 64) (hf : 0 ≤ findP (growT acts m).2 k) (h : (noneR k (growT acts m).1).isSome = true) : False := by rw [hit0 hm hf] at h; cases h
theorem hit2 (hm : m ≤ 64) (hf : 0 ≤ findP (growT acts m).2 k) (h : (decide ((gapL k (growT acts m).1).1 = none) && decide ((gapL k (growT acts m).1).2 = none)) = false) : False := by unfold gapL at h; rw [hit0 hm hf] at h; simp at h
theorem nhit (hm : m ≤ 64) (hf : ¬ 0 ≤ findP (growT acts m).2 k) (h : (noneR k (growT acts m).1).isSome = false) : False := by rw [(bes hm hf).1] at h; cases h
theorem bl (hm : m ≤ 64) (hf : ¬ 0 ≤ findP (growT acts m).2 k) (h : 0 ≤ (besideP (growT acts m).2 k).1) : (besideP (growT acts m).2 k).1 < (growT acts m).2.length ∧ (gapL k (growT acts m).1).1 = some ⟨((gt (growT acts m).1).fin ((growT acts m).2.getD (besideP (growT acts m).2 k).1.toNat dP).key).key, ((gt (growT acts m).1).fin ((growT acts m).2.getD (besideP (growT acts m).2 k).1.toNat dP).key).value, (gt (growT acts m).1).turns ((growT acts m).2.getD (besideP (growT acts m).2 k).1.toNat dP).key⟩ := by
  obtain ⟨a, b⟩ := (bes hm hf).2.1 h
  exact ⟨a, by rw [b, gat_p hm (i := (besideP (growT acts m).2 k).1.toNat) (by omega)]⟩
theorem bh (hm : m ≤ 64) (hf : ¬ 0 ≤ findP (growT acts m).2 k) (h : 0 ≤ (besideP (growT acts m).2 k).2) : (besideP (growT acts m).2 k).2 < (growT acts m).2.length ∧ (gapL k (growT acts m).1).2 = some ⟨((gt (growT acts m).1).fin ((growT acts m).2.getD (besideP (growT acts m).2 k).2.toNat dP).key).key, ((gt (growT acts m).1).fin ((growT acts m).2.getD (besideP (growT acts m).2 k).2.toNat dP).key).value, (gt (growT acts m).1).turns ((growT acts m).2.getD (besideP (growT acts m).2 k).2.toNat dP).key⟩ := by
  obtain ⟨a, b⟩ := (bes hm hf).2.2.2.1 h
  exact ⟨a, by rw [b, gat_p hm (i := (besideP (growT acts m).2 k).2.toNat) (by omega)]⟩
theorem bl0 (hm : m ≤ 64) (hf : ¬ 0 ≤ findP (growT acts m).2 k) (h : ¬ 0 ≤ (besideP (growT acts m).2 k).1) : (gapL k (growT acts m).1).1 = none := (bes hm hf).2.2.1 h
theorem bh0 (hm : m ≤ 64) (hf : ¬ 0 ≤ findP (growT acts m).2 k) (h : ¬ 0 ≤ (besideP (growT acts m).2 k).2) : (gapL k (growT acts m).1).2 = none := (bes hm hf).2.2.2.2 h
theorem sgF {X Y : Option Proof} (h : (decide ((gapL k (growT acts m).1).1 = X) && decide ((gapL k (growT acts m).1).2 = Y)) = false) (h1 : (gapL k (growT acts m).1).1 = X) (h2 : (gapL k (growT acts m).1).2 = Y) : False := by rw [decide_eq_true h1, decide_eq_true h2] at h; cases h
theorem vT1 (hm : m ≤ 64) (hf : ¬ 0 ≤ findP (growT acts m).2 k) (h1 : 1 ≤ (k.length : Int)) (h : ((vgP (hashO (growT acts m).1) k (gapL k (growT acts m).1).1 (gapL k (growT acts m).1).2).isNone != decide ((k.length : Int) ≤ 96)) = true) : False := by
  by_cases c : (k.length : Int) ≤ 96
  · rw [bes_t hm hf h1 c, decide_eq_true c] at h; cases h
  · rw [vg_key (.inr c), decide_eq_false c] at h; cases h
theorem vT2 {want k : List UInt8} {l r : Option Proof} (h1 : ¬ 1 ≤ (k.length : Int)) (h : ((vgP want k l r).isNone != false) = true) : False := by rw [vg_key (.inl h1)] at h; cases h
end
abbrev gL (acts : List Act) := (growT acts (nat_lit 30)).snd
abbrev gO (acts : List Act) := (growT acts (nat_lit 30)).fst
abbrev gK (ks : List (List UInt8)) (i : Nat) := ks.getD (i : Int).toNat []
abbrev pK (acts : List Act) (j : Int) := ((gL acts).getD j.toNat (Pair.mk [] [])).key
abbrev pL (acts : List Act) (k : List UInt8) := Proof.mk (Tr.fin (pK acts (besideP (gL acts) k).fst) (gt (gO acts))).key (Tr.fin (pK acts (besideP (gL acts) k).fst) (gt (gO acts))).value (Tr.turns (pK acts (besideP (gL acts) k).fst) (gt (gO acts)))
abbrev pR (acts : List Act) (k : List UInt8) := Proof.mk (Tr.fin (pK acts (besideP (gL acts) k).snd) (gt (gO acts))).key (Tr.fin (pK acts (besideP (gL acts) k).snd) (gt (gO acts))).value (Tr.turns (pK acts (besideP (gL acts) k).snd) (gt (gO acts)))
abbrev fL (acts : List Act) (k : List UInt8) := Tr.fin (pK acts (besideP (gL acts) k).fst) (gt (gO acts))
abbrev fR (acts : List Act) (k : List UInt8) := Tr.fin (pK acts (besideP (gL acts) k).snd) (gt (gO acts))
abbrev gP (acts : List Act) (k : List UInt8) := gapL k (gO acts)
noncomputable def ccD3_5 : Code := (Tryd.f5.body).getD .skip
theorem ProofNone_ok (acts : List Act) (ks : List (List UInt8)) : FOk EN 5 ⟨[.pr wordsP, .pr rootsP, .pr etP, .rd 133 acts, .rd 22 ks], [.n 3, .n 4], Unit, fun _ => ([.pr wordsP, .pr rootsP, .pr etP, .rd 133 acts, .rd 22 ks], .b true), fun _ => True⟩ := by
 refine v_fun Tryd.f5 ccD3_5 MX (fun ν F σ w => ?_) Tryd.func5
 refine v_nl ?_
 refine v_call _ [0, 2] (Awake9_ok) ((wordsP = wordsP) ∧ (etP = etP)) ⟨rfl, rfl⟩ (fun g1 p2 => ?_)
 have p2 : True := p2
 refine v_if (!true) True trivial (fun h3 => ?_) (fun h3 => ?_)
 ·have h3 := (nt h3)
  contradiction
 ·have h3 := (nf h3)
  refine v_call _ [0, 3] (Grow_ok (acts) (nat_lit 30) (by decide)) (((30 : Int) = (↑(nat_lit 30) : Int)) ∧ (wordsP = wordsP) ∧ (acts = acts)) ⟨rfl, rfl, rfl⟩ (fun g4 p5 => ?_)
  have p5 : True := p5
  refine v_call _ [3] (grown9_ok (acts) (nat_lit 30) (by decide)) (((30 : Int) = (↑(nat_lit 30) : Int)) ∧ (acts = acts)) ⟨rfl, rfl⟩ (fun g6 p7 => ?_)
  have p7 : True := p7
  refine v_loop (fun i : Nat => ([(30, .i i)], [])) (fun i => i ≤ ks.length) (fun i => ks.length - i) 0 [] (((0 : Int) = (↑(0 : Nat) : Int))) rfl (by omega) (fun i hk8 => ?_)
  refine v_if (decide ((↑i : Int) < (↑ks.length : Int))) True trivial (fun h9 => ?_) (fun h9 => ?_)
  ·have h9 := of_decide_eq_true h9
   refine v_guard 37 (decide (10 < (↑i : Int))) ((0 ≤ (↑i : Int) ∧ (↑i : Int) < (↑ks.length : Int))) (by omega) (fun h10 => ?_) (fun h10 => ?_)
   ·have h10 := of_decide_eq_true h10
    refine v_leave (.ex 0) True trivial ?_
    exact v_ret () [] ((true = true) ∧ (wordsP = wordsP) ∧ (rootsP = rootsP) ∧ (etP = etP) ∧ (acts = acts) ∧ (ks = ks)) ⟨rfl, rfl, rfl, rfl, rfl, rfl⟩ trivial
   ·have h10 := of_decide_eq_false h10
    refine v_if (decide (300 < (↑(gK ks i).length : Int))) True trivial (fun h11 => ?_) (fun h11 => ?_)
    ·have h11 := of_decide_eq_true h11
     refine v_leave (.ex 0) True trivial ?_
     exact v_ret () [] ((true = true) ∧ (wordsP = wordsP) ∧ (rootsP = rootsP) ∧ (etP = etP) ∧ (acts = acts) ∧ (ks = ks)) ⟨rfl, rfl, rfl, rfl, rfl, rfl⟩ trivial
    ·have h11 := of_decide_eq_false h11
     refine v_call _ [9, 6] (None_ok ((gO acts)) (gK ks i) (by exact (growT_fine acts 30 (by decide)).O) (by (rw [← grow_lv]; exact Nat.le_trans (growT_le acts) (by decide)))) ((ks.getD (↑i : Int).toNat [] = ks.getD (↑i : Int).toNat []) ∧ (PTO (gO acts) = PTO (gO acts)) ∧ (false = false)) ⟨rfl, rfl, rfl⟩ (fun g12 p13 => ?_)
     have p13 : True := p13
     refine v_call _ [7, 9] (Find_ok ((gL acts)) (gK ks i) (by exact Nat.le_trans (growT_le acts) (by decide))) (((gL acts) = (gL acts)) ∧ (ks.getD (↑i : Int).toNat [] = ks.getD (↑i : Int).toNat [])) ⟨rfl, rfl⟩ (fun g14 p15 => ?_)
     have p15 : True := p15
     refine v_if (decide ((0 : Int) ≤ findP (gL acts) (gK ks i))) True trivial (fun h16 => ?_) (fun h16 => ?_)
     ·have h16 := of_decide_eq_true h16
      refine v_guard 53 ((noneR (gK ks i) (gO acts)).isSome) True trivial (fun h17 => ?_) (fun h17 => ?_)
      ·skip
       exfalso; exact hit1 (acts := acts) (m := 30) (by decide) (by assumption) (by assumption)
      ·skip
       refine v_al [] (al_pt0 (26)) True trivial ?_
       refine v_call _ [11, 12, 14, 14] (SameGap_ok ((gP acts (gK ks i)).fst) ((gP acts (gK ks i)).snd) (none) (none) (by exact gapl1 (by decide)) (by exact gapl2 (by decide)) (by decide) (by decide)) (((gP acts (gK ks i)).fst = (gP acts (gK ks i)).fst) ∧ ((gP acts (gK ks i)).snd = (gP acts (gK ks i)).snd) ∧ (@Eq PP (PPt GT 26 (@none Proof)) (PPt GT 26 (@none Proof))) ∧ (@Eq PP (PPt GT 26 (@none Proof)) (PPt GT 26 (@none Proof)))) ⟨rfl, rfl, rfl, rfl⟩ (fun g18 p19 => ?_)
       have p19 : True := p19
       refine v_if (!(decide ((gP acts (gK ks i)).fst = none) && decide ((gP acts (gK ks i)).snd = none))) True trivial (fun h20 => ?_) (fun h20 => ?_)
       ·have h20 := (nt h20)
        exfalso; exact hit2 (acts := acts) (m := 30) (by decide) (by assumption) (by assumption)
       ·have h20 := (nf h20)
        exact v_back (i + 1) [] ((I64 (↑i + 1)) ∧ ((↑i : Int) + 1 = (↑(i + 1) : Int))) ⟨(by (unfold I64; omega)), rfl⟩ (show i + 1 ≤ ks.length ∧ ks.length - (i + 1) < ks.length - i from (by omega))
     ·have h16 := of_decide_eq_false h16
      refine v_call _ [7, 9] (Beside_ok ((gL acts)) (gK ks i) (by exact Nat.le_trans (growT_le acts) (by decide))) (((gL acts) = (gL acts)) ∧ (ks.getD (↑i : Int).toNat [] = ks.getD (↑i : Int).toNat [])) ⟨rfl, rfl⟩ (fun g21 p22 => ?_)
      have p22 : True := p22
      refine v_if (decide ((0 : Int) ≤ (besideP (gL acts) (gK ks i)).fst)) True trivial (fun h23 => ?_) (fun h23 => ?_)
      ·have h23 := of_decide_eq_true h23
       refine v_call _ [1, 15, 8] (Prove_ok ((gO acts)) ((pK acts (besideP (gL acts) (gK ks i)).fst)) (by exact bes_n (by decide) (by assumption) (.inl (by assumption))) (by exact (gtk (m := 30) (by decide)).1) (by exact (gtk (m := 30) (by decide)).2.1) (by exact (gtk (m := 30) (by decide)).2.2)) (((0 : Int) ≤ (besideP (gL acts) (gK ks i)).fst ∧ (besideP (gL acts) (gK ks i)).fst < (↑(gL acts).length : Int)) ∧ (rootsP = rootsP) ∧ ((pK acts (besideP (gL acts) (gK ks i)).fst) = (pK acts (besideP (gL acts) (gK ks i)).fst)) ∧ (PR (gO acts) = PR (gO acts)) ∧ ((gO acts).isNone = (gO acts).isNone)) ⟨(by exact ⟨by assumption, (bl (acts := acts) (m := 30) (by decide) (by assumption) (by assumption)).1⟩), rfl, rfl, rfl, rfl⟩ (fun g24 p25 => ?_)
       have p25 : True := p25
       refine v_if (decide ((0 : Int) ≤ (besideP (gL acts) (gK ks i)).snd)) True trivial (fun h26 => ?_) (fun h26 => ?_)
       ·have h26 := of_decide_eq_true h26
        refine v_call _ [1, 22, 8] (Prove_ok ((gO acts)) ((pK acts (besideP (gL acts) (gK ks i)).snd)) (by exact bes_n (by decide) (by assumption) (.inl (by assumption))) (by exact (gtk (m := 30) (by decide)).1) (by exact (gtk (m := 30) (by decide)).2.1) (by exact (gtk (m := 30) (by decide)).2.2)) (((0 : Int) ≤ (besideP (gL acts) (gK ks i)).snd ∧ (besideP (gL acts) (gK ks i)).snd < (↑(gL acts).length : Int)) ∧ (rootsP = rootsP) ∧ ((pK acts (besideP (gL acts) (gK ks i)).snd) = (pK acts (besideP (gL acts) (gK ks i)).snd)) ∧ (PR (gO acts) = PR (gO acts)) ∧ ((gO acts).isNone = (gO acts).isNone)) ⟨(by exact ⟨by assumption, (bh (acts := acts) (m := 30) (by decide) (by assumption) (by assumption)).1⟩), rfl, rfl, rfl, rfl⟩ (fun g27 p28 => ?_)
        have p28 : True := p28
        refine v_guard 88 (decide (1 ≤ (↑(gK ks i).length : Int))) True trivial (fun h29 => ?_) (fun h29 => ?_)
        ·have h29 := of_decide_eq_true h29
         refine v_plan (.fs [0, 2, 3] (.o 1 (.o 4 (.fs [5] .e)))) [7, 13, 14, 20, 21, 27, 28] True trivial ?_
         refine v_call _ [0, 6] (Root_ok ((gO acts))) ((wordsP = wordsP) ∧ (PTO (gO acts) = PTO (gO acts)) ∧ (false = false)) ⟨rfl, rfl, rfl⟩ (fun g30 p31 => ?_)
         have p31 : True := p31
         refine v_call _ [0, 9, 11, 12] (VerifyGap_ok (hashO (gO acts)) (gK ks i) ((gP acts (gK ks i)).fst) ((gP acts (gK ks i)).snd) (by exact hashO_len _) (by exact gapl1 (by decide)) (by exact gapl2 (by decide))) ((hashO (gO acts) = hashO (gO acts)) ∧ (wordsP = wordsP) ∧ (ks.getD (↑i : Int).toNat [] = ks.getD (↑i : Int).toNat []) ∧ ((gP acts (gK ks i)).fst = (gP acts (gK ks i)).fst) ∧ ((gP acts (gK ks i)).snd = (gP acts (gK ks i)).snd)) ⟨rfl, rfl, rfl, rfl, rfl⟩ (fun g32 p33 => ?_)
         have p33 : True := p33
         refine v_guard 100 (!(noneR (gK ks i) (gO acts)).isSome) True trivial (fun h34 => ?_) (fun h34 => ?_)
         ·have h34 := (nt h34)
          exfalso; exact nhit (acts := acts) (m := 30) (by decide) (by assumption) (by assumption)
         ·have h34 := (nf h34)
          refine v_close 21 [18, 19, 20] (close_pf ((fL acts (gK ks i)).key) ((fL acts (gK ks i)).value) (Tr.turns (pK acts (besideP (gL acts) (gK ks i)).fst) (gt (gO acts)))) (((fL acts (gK ks i)).key = (fL acts (gK ks i)).key) ∧ ((fL acts (gK ks i)).value = (fL acts (gK ks i)).value) ∧ (Tr.turns (pK acts (besideP (gL acts) (gK ks i)).fst) (gt (gO acts)) = Tr.turns (pK acts (besideP (gL acts) (gK ks i)).fst) (gt (gO acts)))) ⟨rfl, rfl, rfl⟩ ?_
          refine v_al [21] (al_ptr (PPt GT (26 : Nat) (some (pL acts (gK ks i))))) ((PLe (PPt GT (26 : Nat) (some (pL acts (gK ks i)))) (PPt GT (26 : Nat) (some (pL acts (gK ks i))))) ∧ (false = false)) ⟨fun _ _ _ h => h, rfl⟩ ?_
          refine v_close 28 [25, 26, 27] (close_pf ((fR acts (gK ks i)).key) ((fR acts (gK ks i)).value) (Tr.turns (pK acts (besideP (gL acts) (gK ks i)).snd) (gt (gO acts)))) (((fR acts (gK ks i)).key = (fR acts (gK ks i)).key) ∧ ((fR acts (gK ks i)).value = (fR acts (gK ks i)).value) ∧ (Tr.turns (pK acts (besideP (gL acts) (gK ks i)).snd) (gt (gO acts)) = Tr.turns (pK acts (besideP (gL acts) (gK ks i)).snd) (gt (gO acts)))) ⟨rfl, rfl, rfl⟩ ?_
          refine v_al [28] (al_ptr (PPt GT (26 : Nat) (some (pR acts (gK ks i))))) ((PLe (PPt GT (26 : Nat) (some (pR acts (gK ks i)))) (PPt GT (26 : Nat) (some (pR acts (gK ks i))))) ∧ (false = false)) ⟨fun _ _ _ h => h, rfl⟩ ?_
          refine v_call _ [11, 12, 30, 31] (SameGap_ok ((gP acts (gK ks i)).fst) ((gP acts (gK ks i)).snd) (some (pL acts (gK ks i))) (some (pR acts (gK ks i))) (by exact gapl1 (by decide)) (by exact gapl2 (by decide)) (by exact gtt _ (by decide)) (by exact gtt _ (by decide))) (((gP acts (gK ks i)).fst = (gP acts (gK ks i)).fst) ∧ ((gP acts (gK ks i)).snd = (gP acts (gK ks i)).snd) ∧ (PPt GT (26 : Nat) (some (pL acts (gK ks i))) = PPt GT (26 : Nat) (some (pL acts (gK ks i)))) ∧ (PPt GT (26 : Nat) (some (pR acts (gK ks i))) = PPt GT (26 : Nat) (some (pR acts (gK ks i))))) ⟨rfl, rfl, rfl, rfl⟩ (fun g35 p36 => ?_)
          have p36 : True := p36
          refine v_guard 106 (!(decide ((gP acts (gK ks i)).fst = some (pL acts (gK ks i))) && decide ((gP acts (gK ks i)).snd = some (pR acts (gK ks i))))) True trivial (fun h37 => ?_) (fun h37 => ?_)
          ·have h37 := (nt h37)
           exfalso; exact sgF (acts := acts) (m := 30) (by assumption) (by first | exact (bl (acts := acts) (m := 30) (by decide) (by assumption) (by assumption)).2 | exact bl0 (acts := acts) (m := 30) (by decide) (by assumption) (by assumption)) (by first | exact (bh (acts := acts) (m := 30) (by decide) (by assumption) (by assumption)).2 | exact bh0 (acts := acts) (m := 30) (by decide) (by assumption) (by assumption))
          ·have h37 := (nf h37)
           refine v_if ((vgP (hashO (gO acts)) (gK ks i) (gP acts (gK ks i)).fst (gP acts (gK ks i)).snd).isNone != decide ((↑(gK ks i).length : Int) ≤ (96 : Int))) True trivial (fun h38 => ?_) (fun h38 => ?_)
           ·skip
            exfalso; exact vT1 (acts := acts) (m := 30) (by decide) (by assumption) (by assumption) (by assumption)
           ·skip
            exact v_back (i + 1) [] ((I64 (↑i + 1)) ∧ ((↑i : Int) + 1 = (↑(i + 1) : Int))) ⟨(by (unfold I64; omega)), rfl⟩ (show i + 1 ≤ ks.length ∧ ks.length - (i + 1) < ks.length - i from (by omega))
        ·have h29 := of_decide_eq_false h29
         refine v_plan (.fs [0, 2, 3] (.o 1 (.o 4 (.fs [5] .e)))) [7, 13, 14, 20, 21, 27, 28] True trivial ?_
         refine v_call _ [0, 6] (Root_ok ((gO acts))) ((wordsP = wordsP) ∧ (PTO (gO acts) = PTO (gO acts)) ∧ (false = false)) ⟨rfl, rfl, rfl⟩ (fun g39 p40 => ?_)
         have p40 : True := p40
         refine v_call _ [0, 9, 11, 12] (VerifyGap_ok (hashO (gO acts)) (gK ks i) ((gP acts (gK ks i)).fst) ((gP acts (gK ks i)).snd) (by exact hashO_len _) (by exact gapl1 (by decide)) (by exact gapl2 (by decide))) ((hashO (gO acts) = hashO (gO acts)) ∧ (wordsP = wordsP) ∧ (ks.getD (↑i : Int).toNat [] = ks.getD (↑i : Int).toNat []) ∧ ((gP acts (gK ks i)).fst = (gP acts (gK ks i)).fst) ∧ ((gP acts (gK ks i)).snd = (gP acts (gK ks i)).snd)) ⟨rfl, rfl, rfl, rfl, rfl⟩ (fun g41 p42 => ?_)
         have p42 : True := p42
         refine v_guard 100 (!(noneR (gK ks i) (gO acts)).isSome) True trivial (fun h43 => ?_) (fun h43 => ?_)
         ·have h43 := (nt h43)
          exfalso; exact nhit (acts := acts) (m := 30) (by decide) (by assumption) (by assumption)
         ·have h43 := (nf h43)
          refine v_close 21 [18, 19, 20] (close_pf ((fL acts (gK ks i)).key) ((fL acts (gK ks i)).value) (Tr.turns (pK acts (besideP (gL acts) (gK ks i)).fst) (gt (gO acts)))) (((fL acts (gK ks i)).key = (fL acts (gK ks i)).key) ∧ ((fL acts (gK ks i)).value = (fL acts (gK ks i)).value) ∧ (Tr.turns (pK acts (besideP (gL acts) (gK ks i)).fst) (gt (gO acts)) = Tr.turns (pK acts (besideP (gL acts) (gK ks i)).fst) (gt (gO acts)))) ⟨rfl, rfl, rfl⟩ ?_
          refine v_al [21] (al_ptr (PPt GT (26 : Nat) (some (pL acts (gK ks i))))) ((PLe (PPt GT (26 : Nat) (some (pL acts (gK ks i)))) (PPt GT (26 : Nat) (some (pL acts (gK ks i))))) ∧ (false = false)) ⟨fun _ _ _ h => h, rfl⟩ ?_
          refine v_close 28 [25, 26, 27] (close_pf ((fR acts (gK ks i)).key) ((fR acts (gK ks i)).value) (Tr.turns (pK acts (besideP (gL acts) (gK ks i)).snd) (gt (gO acts)))) (((fR acts (gK ks i)).key = (fR acts (gK ks i)).key) ∧ ((fR acts (gK ks i)).value = (fR acts (gK ks i)).value) ∧ (Tr.turns (pK acts (besideP (gL acts) (gK ks i)).snd) (gt (gO acts)) = Tr.turns (pK acts (besideP (gL acts) (gK ks i)).snd) (gt (gO acts)))) ⟨rfl, rfl, rfl⟩ ?_
          refine v_al [28] (al_ptr (PPt GT (26 : Nat) (some (pR acts (gK ks i))))) ((PLe (PPt GT (26 : Nat) (some (pR acts (gK ks i)))) (PPt GT (26 : Nat) (some (pR acts (gK ks i))))) ∧ (false = false)) ⟨fun _ _ _ h => h, rfl⟩ ?_
          refine v_call _ [11, 12, 30, 31] (SameGap_ok ((gP acts (gK ks i)).fst) ((gP acts (gK ks i)).snd) (some (pL acts (gK ks i))) (some (pR acts (gK ks i))) (by exact gapl1 (by decide)) (by exact gapl2 (by decide)) (by exact gtt _ (by decide)) (by exact gtt _ (by decide))) (((gP acts (gK ks i)).fst = (gP acts (gK ks i)).fst) ∧ ((gP acts (gK ks i)).snd = (gP acts (gK ks i)).snd) ∧ (PPt GT (26 : Nat) (some (pL acts (gK ks i))) = PPt GT (26 : Nat) (some (pL acts (gK ks i)))) ∧ (PPt GT (26 : Nat) (some (pR acts (gK ks i))) = PPt GT (26 : Nat) (some (pR acts (gK ks i))))) ⟨rfl, rfl, rfl, rfl⟩ (fun g44 p45 => ?_)
          have p45 : True := p45
          refine v_guard 106 (!(decide ((gP acts (gK ks i)).fst = some (pL acts (gK ks i))) && decide ((gP acts (gK ks i)).snd = some (pR acts (gK ks i))))) True trivial (fun h46 => ?_) (fun h46 => ?_)
          ·have h46 := (nt h46)
           exfalso; exact sgF (acts := acts) (m := 30) (by assumption) (by first | exact (bl (acts := acts) (m := 30) (by decide) (by assumption) (by assumption)).2 | exact bl0 (acts := acts) (m := 30) (by decide) (by assumption) (by assumption)) (by first | exact (bh (acts := acts) (m := 30) (by decide) (by assumption) (by assumption)).2 | exact bh0 (acts := acts) (m := 30) (by decide) (by assumption) (by assumption))
          ·have h46 := (nf h46)
           refine v_if ((vgP (hashO (gO acts)) (gK ks i) (gP acts (gK ks i)).fst (gP acts (gK ks i)).snd).isNone != false) True trivial (fun h47 => ?_) (fun h47 => ?_)
           ·skip
            exfalso; exact vT2 (by assumption) (by assumption)
           ·skip
            exact v_back (i + 1) [] ((I64 (↑i + 1)) ∧ ((↑i : Int) + 1 = (↑(i + 1) : Int))) ⟨(by (unfold I64; omega)), rfl⟩ (show i + 1 ≤ ks.length ∧ ks.length - (i + 1) < ks.length - i from (by omega))
       ·have h26 := of_decide_eq_false h26
        refine v_guard 88 (decide (1 ≤ (↑(gK ks i).length : Int))) True trivial (fun h48 => ?_) (fun h48 => ?_)
        ·have h48 := of_decide_eq_true h48
         refine v_plan (.fs [0, 2, 3] (.o 1 (.o 4 (.fs [5] .e)))) [7, 13, 14, 20, 21] True trivial ?_
         refine v_call _ [0, 6] (Root_ok ((gO acts))) ((wordsP = wordsP) ∧ (PTO (gO acts) = PTO (gO acts)) ∧ (false = false)) ⟨rfl, rfl, rfl⟩ (fun g49 p50 => ?_)
         have p50 : True := p50
         refine v_call _ [0, 9, 11, 12] (VerifyGap_ok (hashO (gO acts)) (gK ks i) ((gP acts (gK ks i)).fst) ((gP acts (gK ks i)).snd) (by exact hashO_len _) (by exact gapl1 (by decide)) (by exact gapl2 (by decide))) ((hashO (gO acts) = hashO (gO acts)) ∧ (wordsP = wordsP) ∧ (ks.getD (↑i : Int).toNat [] = ks.getD (↑i : Int).toNat []) ∧ ((gP acts (gK ks i)).fst = (gP acts (gK ks i)).fst) ∧ ((gP acts (gK ks i)).snd = (gP acts (gK ks i)).snd)) ⟨rfl, rfl, rfl, rfl, rfl⟩ (fun g51 p52 => ?_)
         have p52 : True := p52
         refine v_guard 100 (!(noneR (gK ks i) (gO acts)).isSome) True trivial (fun h53 => ?_) (fun h53 => ?_)
         ·have h53 := (nt h53)
          exfalso; exact nhit (acts := acts) (m := 30) (by decide) (by assumption) (by assumption)
         ·have h53 := (nf h53)
          refine v_close 21 [18, 19, 20] (close_pf ((fL acts (gK ks i)).key) ((fL acts (gK ks i)).value) (Tr.turns (pK acts (besideP (gL acts) (gK ks i)).fst) (gt (gO acts)))) (((fL acts (gK ks i)).key = (fL acts (gK ks i)).key) ∧ ((fL acts (gK ks i)).value = (fL acts (gK ks i)).value) ∧ (Tr.turns (pK acts (besideP (gL acts) (gK ks i)).fst) (gt (gO acts)) = Tr.turns (pK acts (besideP (gL acts) (gK ks i)).fst) (gt (gO acts)))) ⟨rfl, rfl, rfl⟩ ?_
          refine v_al [21] (al_ptr (PPt GT (26 : Nat) (some (pL acts (gK ks i))))) ((PLe (PPt GT (26 : Nat) (some (pL acts (gK ks i)))) (PPt GT (26 : Nat) (some (pL acts (gK ks i))))) ∧ (false = false)) ⟨fun _ _ _ h => h, rfl⟩ ?_
          refine v_al [] (al_pt0 (26)) True trivial ?_
          refine v_call _ [11, 12, 23, 24] (SameGap_ok ((gP acts (gK ks i)).fst) ((gP acts (gK ks i)).snd) (some (pL acts (gK ks i))) (none) (by exact gapl1 (by decide)) (by exact gapl2 (by decide)) (by exact gtt _ (by decide)) (by decide)) (((gP acts (gK ks i)).fst = (gP acts (gK ks i)).fst) ∧ ((gP acts (gK ks i)).snd = (gP acts (gK ks i)).snd) ∧ (PPt GT (26 : Nat) (some (pL acts (gK ks i))) = PPt GT (26 : Nat) (some (pL acts (gK ks i)))) ∧ (@Eq PP (PPt GT 26 (@none Proof)) (PPt GT 26 (@none Proof)))) ⟨rfl, rfl, rfl, rfl⟩ (fun g54 p55 => ?_)
          have p55 : True := p55
          refine v_guard 106 (!(decide ((gP acts (gK ks i)).fst = some (pL acts (gK ks i))) && decide ((gP acts (gK ks i)).snd = none))) True trivial (fun h56 => ?_) (fun h56 => ?_)
          ·have h56 := (nt h56)
           exfalso; exact sgF (acts := acts) (m := 30) (by assumption) (by first | exact (bl (acts := acts) (m := 30) (by decide) (by assumption) (by assumption)).2 | exact bl0 (acts := acts) (m := 30) (by decide) (by assumption) (by assumption)) (by first | exact (bh (acts := acts) (m := 30) (by decide) (by assumption) (by assumption)).2 | exact bh0 (acts := acts) (m := 30) (by decide) (by assumption) (by assumption))
          ·have h56 := (nf h56)
           refine v_if ((vgP (hashO (gO acts)) (gK ks i) (gP acts (gK ks i)).fst (gP acts (gK ks i)).snd).isNone != decide ((↑(gK ks i).length : Int) ≤ (96 : Int))) True trivial (fun h57 => ?_) (fun h57 => ?_)
           ·skip
            exfalso; exact vT1 (acts := acts) (m := 30) (by decide) (by assumption) (by assumption) (by assumption)
           ·skip
            exact v_back (i + 1) [] ((I64 (↑i + 1)) ∧ ((↑i : Int) + 1 = (↑(i + 1) : Int))) ⟨(by (unfold I64; omega)), rfl⟩ (show i + 1 ≤ ks.length ∧ ks.length - (i + 1) < ks.length - i from (by omega))
        ·have h48 := of_decide_eq_false h48
         refine v_plan (.fs [0, 2, 3] (.o 1 (.o 4 (.fs [5] .e)))) [7, 13, 14, 20, 21] True trivial ?_
         refine v_call _ [0, 6] (Root_ok ((gO acts))) ((wordsP = wordsP) ∧ (PTO (gO acts) = PTO (gO acts)) ∧ (false = false)) ⟨rfl, rfl, rfl⟩ (fun g58 p59 => ?_)
         have p59 : True := p59
         refine v_call _ [0, 9, 11, 12] (VerifyGap_ok (hashO (gO acts)) (gK ks i) ((gP acts (gK ks i)).fst) ((gP acts (gK ks i)).snd) (by exact hashO_len _) (by exact gapl1 (by decide)) (by exact gapl2 (by decide))) ((hashO (gO acts) = hashO (gO acts)) ∧ (wordsP = wordsP) ∧ (ks.getD (↑i : Int).toNat [] = ks.getD (↑i : Int).toNat []) ∧ ((gP acts (gK ks i)).fst = (gP acts (gK ks i)).fst) ∧ ((gP acts (gK ks i)).snd = (gP acts (gK ks i)).snd)) ⟨rfl, rfl, rfl, rfl, rfl⟩ (fun g60 p61 => ?_)
         have p61 : True := p61
         refine v_guard 100 (!(noneR (gK ks i) (gO acts)).isSome) True trivial (fun h62 => ?_) (fun h62 => ?_)
         ·have h62 := (nt h62)
          exfalso; exact nhit (acts := acts) (m := 30) (by decide) (by assumption) (by assumption)
         ·have h62 := (nf h62)
          refine v_close 21 [18, 19, 20] (close_pf ((fL acts (gK ks i)).key) ((fL acts (gK ks i)).value) (Tr.turns (pK acts (besideP (gL acts) (gK ks i)).fst) (gt (gO acts)))) (((fL acts (gK ks i)).key = (fL acts (gK ks i)).key) ∧ ((fL acts (gK ks i)).value = (fL acts (gK ks i)).value) ∧ (Tr.turns (pK acts (besideP (gL acts) (gK ks i)).fst) (gt (gO acts)) = Tr.turns (pK acts (besideP (gL acts) (gK ks i)).fst) (gt (gO acts)))) ⟨rfl, rfl, rfl⟩ ?_
          refine v_al [21] (al_ptr (PPt GT (26 : Nat) (some (pL acts (gK ks i))))) ((PLe (PPt GT (26 : Nat) (some (pL acts (gK ks i)))) (PPt GT (26 : Nat) (some (pL acts (gK ks i))))) ∧ (false = false)) ⟨fun _ _ _ h => h, rfl⟩ ?_
          refine v_al [] (al_pt0 (26)) True trivial ?_
          refine v_call _ [11, 12, 23, 24] (SameGap_ok ((gP acts (gK ks i)).fst) ((gP acts (gK ks i)).snd) (some (pL acts (gK ks i))) (none) (by exact gapl1 (by decide)) (by exact gapl2 (by decide)) (by exact gtt _ (by decide)) (by decide)) (((gP acts (gK ks i)).fst = (gP acts (gK ks i)).fst) ∧ ((gP acts (gK ks i)).snd = (gP acts (gK ks i)).snd) ∧ (PPt GT (26 : Nat) (some (pL acts (gK ks i))) = PPt GT (26 : Nat) (some (pL acts (gK ks i)))) ∧ (@Eq PP (PPt GT 26 (@none Proof)) (PPt GT 26 (@none Proof)))) ⟨rfl, rfl, rfl, rfl⟩ (fun g63 p64 => ?_)
          have p64 : True := p64
          refine v_guard 106 (!(decide ((gP acts (gK ks i)).fst = some (pL acts (gK ks i))) && decide ((gP acts (gK ks i)).snd = none))) True trivial (fun h65 => ?_) (fun h65 => ?_)
          ·have h65 := (nt h65)
           exfalso; exact sgF (acts := acts) (m := 30) (by assumption) (by first | exact (bl (acts := acts) (m := 30) (by decide) (by assumption) (by assumption)).2 | exact bl0 (acts := acts) (m := 30) (by decide) (by assumption) (by assumption)) (by first | exact (bh (acts := acts) (m := 30) (by decide) (by assumption) (by assumption)).2 | exact bh0 (acts := acts) (m := 30) (by decide) (by assumption) (by assumption))
          ·have h65 := (nf h65)
           refine v_if ((vgP (hashO (gO acts)) (gK ks i) (gP acts (gK ks i)).fst (gP acts (gK ks i)).snd).isNone != false) True trivial (fun h66 => ?_) (fun h66 => ?_)
           ·skip
            exfalso; exact vT2 (by assumption) (by assumption)
           ·skip
            exact v_back (i + 1) [] ((I64 (↑i + 1)) ∧ ((↑i : Int) + 1 = (↑(i + 1) : Int))) ⟨(by (unfold I64; omega)), rfl⟩ (show i + 1 ≤ ks.length ∧ ks.length - (i + 1) < ks.length - i from (by omega))
      ·have h23 := of_decide_eq_false h23
       refine v_if (decide ((0 : Int) ≤ (besideP (gL acts) (gK ks i)).snd)) True trivial (fun h67 => ?_) (fun h67 => ?_)
       ·have h67 := of_decide_eq_true h67
        refine v_call _ [1, 15, 8] (Prove_ok ((gO acts)) ((pK acts (besideP (gL acts) (gK ks i)).snd)) (by exact bes_n (by decide) (by assumption) (.inr (by assumption))) (by exact (gtk (m := 30) (by decide)).1) (by exact (gtk (m := 30) (by decide)).2.1) (by exact (gtk (m := 30) (by decide)).2.2)) (((0 : Int) ≤ (besideP (gL acts) (gK ks i)).snd ∧ (besideP (gL acts) (gK ks i)).snd < (↑(gL acts).length : Int)) ∧ (rootsP = rootsP) ∧ ((pK acts (besideP (gL acts) (gK ks i)).snd) = (pK acts (besideP (gL acts) (gK ks i)).snd)) ∧ (PR (gO acts) = PR (gO acts)) ∧ ((gO acts).isNone = (gO acts).isNone)) ⟨(by exact ⟨by assumption, (bh (acts := acts) (m := 30) (by decide) (by assumption) (by assumption)).1⟩), rfl, rfl, rfl, rfl⟩ (fun g68 p69 => ?_)
        have p69 : True := p69
        refine v_guard 88 (decide (1 ≤ (↑(gK ks i).length : Int))) True trivial (fun h70 => ?_) (fun h70 => ?_)
        ·have h70 := of_decide_eq_true h70
         refine v_plan (.fs [0, 2, 3] (.o 1 (.o 4 (.fs [5] .e)))) [7, 13, 14, 20, 21] True trivial ?_
         refine v_call _ [0, 6] (Root_ok ((gO acts))) ((wordsP = wordsP) ∧ (PTO (gO acts) = PTO (gO acts)) ∧ (false = false)) ⟨rfl, rfl, rfl⟩ (fun g71 p72 => ?_)
         have p72 : True := p72
         refine v_call _ [0, 9, 11, 12] (VerifyGap_ok (hashO (gO acts)) (gK ks i) ((gP acts (gK ks i)).fst) ((gP acts (gK ks i)).snd) (by exact hashO_len _) (by exact gapl1 (by decide)) (by exact gapl2 (by decide))) ((hashO (gO acts) = hashO (gO acts)) ∧ (wordsP = wordsP) ∧ (ks.getD (↑i : Int).toNat [] = ks.getD (↑i : Int).toNat []) ∧ ((gP acts (gK ks i)).fst = (gP acts (gK ks i)).fst) ∧ ((gP acts (gK ks i)).snd = (gP acts (gK ks i)).snd)) ⟨rfl, rfl, rfl, rfl, rfl⟩ (fun g73 p74 => ?_)
         have p74 : True := p74
         refine v_guard 100 (!(noneR (gK ks i) (gO acts)).isSome) True trivial (fun h75 => ?_) (fun h75 => ?_)
         ·have h75 := (nt h75)
          exfalso; exact nhit (acts := acts) (m := 30) (by decide) (by assumption) (by assumption)
         ·have h75 := (nf h75)
          refine v_al [] (al_pt0 (26)) True trivial ?_
          refine v_close 21 [18, 19, 20] (close_pf ((fR acts (gK ks i)).key) ((fR acts (gK ks i)).value) (Tr.turns (pK acts (besideP (gL acts) (gK ks i)).snd) (gt (gO acts)))) (((fR acts (gK ks i)).key = (fR acts (gK ks i)).key) ∧ ((fR acts (gK ks i)).value = (fR acts (gK ks i)).value) ∧ (Tr.turns (pK acts (besideP (gL acts) (gK ks i)).snd) (gt (gO acts)) = Tr.turns (pK acts (besideP (gL acts) (gK ks i)).snd) (gt (gO acts)))) ⟨rfl, rfl, rfl⟩ ?_
          refine v_al [21] (al_ptr (PPt GT (26 : Nat) (some (pR acts (gK ks i))))) ((PLe (PPt GT (26 : Nat) (some (pR acts (gK ks i)))) (PPt GT (26 : Nat) (some (pR acts (gK ks i))))) ∧ (false = false)) ⟨fun _ _ _ h => h, rfl⟩ ?_
          refine v_call _ [11, 12, 23, 24] (SameGap_ok ((gP acts (gK ks i)).fst) ((gP acts (gK ks i)).snd) (none) (some (pR acts (gK ks i))) (by exact gapl1 (by decide)) (by exact gapl2 (by decide)) (by decide) (by exact gtt _ (by decide))) (((gP acts (gK ks i)).fst = (gP acts (gK ks i)).fst) ∧ ((gP acts (gK ks i)).snd = (gP acts (gK ks i)).snd) ∧ (@Eq PP (PPt GT 26 (@none Proof)) (PPt GT 26 (@none Proof))) ∧ (PPt GT (26 : Nat) (some (pR acts (gK ks i))) = PPt GT (26 : Nat) (some (pR acts (gK ks i))))) ⟨rfl, rfl, rfl, rfl⟩ (fun g76 p77 => ?_)
          have p77 : True := p77
          refine v_guard 106 (!(decide ((gP acts (gK ks i)).fst = none) && decide ((gP acts (gK ks i)).snd = some (pR acts (gK ks i))))) True trivial (fun h78 => ?_) (fun h78 => ?_)
          ·have h78 := (nt h78)
           exfalso; exact sgF (acts := acts) (m := 30) (by assumption) (by first | exact (bl (acts := acts) (m := 30) (by decide) (by assumption) (by assumption)).2 | exact bl0 (acts := acts) (m := 30) (by decide) (by assumption) (by assumption)) (by first | exact (bh (acts := acts) (m := 30) (by decide) (by assumption) (by assumption)).2 | exact bh0 (acts := acts) (m := 30) (by decide) (by assumption) (by assumption))
          ·have h78 := (nf h78)
           refine v_if ((vgP (hashO (gO acts)) (gK ks i) (gP acts (gK ks i)).fst (gP acts (gK ks i)).snd).isNone != decide ((↑(gK ks i).length : Int) ≤ (96 : Int))) True trivial (fun h79 => ?_) (fun h79 => ?_)
           ·skip
            exfalso; exact vT1 (acts := acts) (m := 30) (by decide) (by assumption) (by assumption) (by assumption)
           ·skip
            exact v_back (i + 1) [] ((I64 (↑i + 1)) ∧ ((↑i : Int) + 1 = (↑(i + 1) : Int))) ⟨(by (unfold I64; omega)), rfl⟩ (show i + 1 ≤ ks.length ∧ ks.length - (i + 1) < ks.length - i from (by omega))
        ·have h70 := of_decide_eq_false h70
         refine v_plan (.fs [0, 2, 3] (.o 1 (.o 4 (.fs [5] .e)))) [7, 13, 14, 20, 21] True trivial ?_
         refine v_call _ [0, 6] (Root_ok ((gO acts))) ((wordsP = wordsP) ∧ (PTO (gO acts) = PTO (gO acts)) ∧ (false = false)) ⟨rfl, rfl, rfl⟩ (fun g80 p81 => ?_)
         have p81 : True := p81
         refine v_call _ [0, 9, 11, 12] (VerifyGap_ok (hashO (gO acts)) (gK ks i) ((gP acts (gK ks i)).fst) ((gP acts (gK ks i)).snd) (by exact hashO_len _) (by exact gapl1 (by decide)) (by exact gapl2 (by decide))) ((hashO (gO acts) = hashO (gO acts)) ∧ (wordsP = wordsP) ∧ (ks.getD (↑i : Int).toNat [] = ks.getD (↑i : Int).toNat []) ∧ ((gP acts (gK ks i)).fst = (gP acts (gK ks i)).fst) ∧ ((gP acts (gK ks i)).snd = (gP acts (gK ks i)).snd)) ⟨rfl, rfl, rfl, rfl, rfl⟩ (fun g82 p83 => ?_)
         have p83 : True := p83
         refine v_guard 100 (!(noneR (gK ks i) (gO acts)).isSome) True trivial (fun h84 => ?_) (fun h84 => ?_)
         ·have h84 := (nt h84)
          exfalso; exact nhit (acts := acts) (m := 30) (by decide) (by assumption) (by assumption)
         ·have h84 := (nf h84)
          refine v_al [] (al_pt0 (26)) True trivial ?_
          refine v_close 21 [18, 19, 20] (close_pf ((fR acts (gK ks i)).key) ((fR acts (gK ks i)).value) (Tr.turns (pK acts (besideP (gL acts) (gK ks i)).snd) (gt (gO acts)))) (((fR acts (gK ks i)).key = (fR acts (gK ks i)).key) ∧ ((fR acts (gK ks i)).value = (fR acts (gK ks i)).value) ∧ (Tr.turns (pK acts (besideP (gL acts) (gK ks i)).snd) (gt (gO acts)) = Tr.turns (pK acts (besideP (gL acts) (gK ks i)).snd) (gt (gO acts)))) ⟨rfl, rfl, rfl⟩ ?_
          refine v_al [21] (al_ptr (PPt GT (26 : Nat) (some (pR acts (gK ks i))))) ((PLe (PPt GT (26 : Nat) (some (pR acts (gK ks i)))) (PPt GT (26 : Nat) (some (pR acts (gK ks i))))) ∧ (false = false)) ⟨fun _ _ _ h => h, rfl⟩ ?_
          refine v_call _ [11, 12, 23, 24] (SameGap_ok ((gP acts (gK ks i)).fst) ((gP acts (gK ks i)).snd) (none) (some (pR acts (gK ks i))) (by exact gapl1 (by decide)) (by exact gapl2 (by decide)) (by decide) (by exact gtt _ (by decide))) (((gP acts (gK ks i)).fst = (gP acts (gK ks i)).fst) ∧ ((gP acts (gK ks i)).snd = (gP acts (gK ks i)).snd) ∧ (@Eq PP (PPt GT 26 (@none Proof)) (PPt GT 26 (@none Proof))) ∧ (PPt GT (26 : Nat) (some (pR acts (gK ks i))) = PPt GT (26 : Nat) (some (pR acts (gK ks i))))) ⟨rfl, rfl, rfl, rfl⟩ (fun g85 p86 => ?_)
          have p86 : True := p86
          refine v_guard 106 (!(decide ((gP acts (gK ks i)).fst = none) && decide ((gP acts (gK ks i)).snd = some (pR acts (gK ks i))))) True trivial (fun h87 => ?_) (fun h87 => ?_)
          ·have h87 := (nt h87)
           exfalso; exact sgF (acts := acts) (m := 30) (by assumption) (by first | exact (bl (acts := acts) (m := 30) (by decide) (by assumption) (by assumption)).2 | exact bl0 (acts := acts) (m := 30) (by decide) (by assumption) (by assumption)) (by first | exact (bh (acts := acts) (m := 30) (by decide) (by assumption) (by assumption)).2 | exact bh0 (acts := acts) (m := 30) (by decide) (by assumption) (by assumption))
          ·have h87 := (nf h87)
           refine v_if ((vgP (hashO (gO acts)) (gK ks i) (gP acts (gK ks i)).fst (gP acts (gK ks i)).snd).isNone != false) True trivial (fun h88 => ?_) (fun h88 => ?_)
           ·skip
            exfalso; exact vT2 (by assumption) (by assumption)
           ·skip
            exact v_back (i + 1) [] ((I64 (↑i + 1)) ∧ ((↑i : Int) + 1 = (↑(i + 1) : Int))) ⟨(by (unfold I64; omega)), rfl⟩ (show i + 1 ≤ ks.length ∧ ks.length - (i + 1) < ks.length - i from (by omega))
       ·have h67 := of_decide_eq_false h67
        refine v_guard 88 (decide (1 ≤ (↑(gK ks i).length : Int))) True trivial (fun h89 => ?_) (fun h89 => ?_)
        ·have h89 := of_decide_eq_true h89
         refine v_plan (.fs [0, 2, 3] (.o 1 (.o 4 (.fs [5] .e)))) [7, 13, 14] True trivial ?_
         refine v_call _ [0, 6] (Root_ok ((gO acts))) ((wordsP = wordsP) ∧ (PTO (gO acts) = PTO (gO acts)) ∧ (false = false)) ⟨rfl, rfl, rfl⟩ (fun g90 p91 => ?_)
         have p91 : True := p91
         refine v_call _ [0, 9, 11, 12] (VerifyGap_ok (hashO (gO acts)) (gK ks i) ((gP acts (gK ks i)).fst) ((gP acts (gK ks i)).snd) (by exact hashO_len _) (by exact gapl1 (by decide)) (by exact gapl2 (by decide))) ((hashO (gO acts) = hashO (gO acts)) ∧ (wordsP = wordsP) ∧ (ks.getD (↑i : Int).toNat [] = ks.getD (↑i : Int).toNat []) ∧ ((gP acts (gK ks i)).fst = (gP acts (gK ks i)).fst) ∧ ((gP acts (gK ks i)).snd = (gP acts (gK ks i)).snd)) ⟨rfl, rfl, rfl, rfl, rfl⟩ (fun g92 p93 => ?_)
         have p93 : True := p93
         refine v_guard 100 (!(noneR (gK ks i) (gO acts)).isSome) True trivial (fun h94 => ?_) (fun h94 => ?_)
         ·have h94 := (nt h94)
          exfalso; exact nhit (acts := acts) (m := 30) (by decide) (by assumption) (by assumption)
         ·have h94 := (nf h94)
          refine v_al [] (al_pt0 (26)) True trivial ?_
          refine v_call _ [11, 12, 16, 16] (SameGap_ok ((gP acts (gK ks i)).fst) ((gP acts (gK ks i)).snd) (none) (none) (by exact gapl1 (by decide)) (by exact gapl2 (by decide)) (by decide) (by decide)) (((gP acts (gK ks i)).fst = (gP acts (gK ks i)).fst) ∧ ((gP acts (gK ks i)).snd = (gP acts (gK ks i)).snd) ∧ (@Eq PP (PPt GT 26 (@none Proof)) (PPt GT 26 (@none Proof))) ∧ (@Eq PP (PPt GT 26 (@none Proof)) (PPt GT 26 (@none Proof)))) ⟨rfl, rfl, rfl, rfl⟩ (fun g95 p96 => ?_)
          have p96 : True := p96
          refine v_guard 106 (!(decide ((gP acts (gK ks i)).fst = none) && decide ((gP acts (gK ks i)).snd = none))) True trivial (fun h97 => ?_) (fun h97 => ?_)
          ·have h97 := (nt h97)
           exfalso; exact sgF (acts := acts) (m := 30) (by assumption) (by first | exact (bl (acts := acts) (m := 30) (by decide) (by assumption) (by assumption)).2 | exact bl0 (acts := acts) (m := 30) (by decide) (by assumption) (by assumption)) (by first | exact (bh (acts := acts) (m := 30) (by decide) (by assumption) (by assumption)).2 | exact bh0 (acts := acts) (m := 30) (by decide) (by assumption) (by assumption))
          ·have h97 := (nf h97)
           refine v_if ((vgP (hashO (gO acts)) (gK ks i) (gP acts (gK ks i)).fst (gP acts (gK ks i)).snd).isNone != decide ((↑(gK ks i).length : Int) ≤ (96 : Int))) True trivial (fun h98 => ?_) (fun h98 => ?_)
           ·skip
            exfalso; exact vT1 (acts := acts) (m := 30) (by decide) (by assumption) (by assumption) (by assumption)
           ·skip
            exact v_back (i + 1) [] ((I64 (↑i + 1)) ∧ ((↑i : Int) + 1 = (↑(i + 1) : Int))) ⟨(by (unfold I64; omega)), rfl⟩ (show i + 1 ≤ ks.length ∧ ks.length - (i + 1) < ks.length - i from (by omega))
        ·have h89 := of_decide_eq_false h89
         refine v_plan (.fs [0, 2, 3] (.o 1 (.o 4 (.fs [5] .e)))) [7, 13, 14] True trivial ?_
         refine v_call _ [0, 6] (Root_ok ((gO acts))) ((wordsP = wordsP) ∧ (PTO (gO acts) = PTO (gO acts)) ∧ (false = false)) ⟨rfl, rfl, rfl⟩ (fun g99 p100 => ?_)
         have p100 : True := p100
         refine v_call _ [0, 9, 11, 12] (VerifyGap_ok (hashO (gO acts)) (gK ks i) ((gP acts (gK ks i)).fst) ((gP acts (gK ks i)).snd) (by exact hashO_len _) (by exact gapl1 (by decide)) (by exact gapl2 (by decide))) ((hashO (gO acts) = hashO (gO acts)) ∧ (wordsP = wordsP) ∧ (ks.getD (↑i : Int).toNat [] = ks.getD (↑i : Int).toNat []) ∧ ((gP acts (gK ks i)).fst = (gP acts (gK ks i)).fst) ∧ ((gP acts (gK ks i)).snd = (gP acts (gK ks i)).snd)) ⟨rfl, rfl, rfl, rfl, rfl⟩ (fun g101 p102 => ?_)
         have p102 : True := p102
         refine v_guard 100 (!(noneR (gK ks i) (gO acts)).isSome) True trivial (fun h103 => ?_) (fun h103 => ?_)
         ·have h103 := (nt h103)
          exfalso; exact nhit (acts := acts) (m := 30) (by decide) (by assumption) (by assumption)
         ·have h103 := (nf h103)
          refine v_al [] (al_pt0 (26)) True trivial ?_
          refine v_call _ [11, 12, 16, 16] (SameGap_ok ((gP acts (gK ks i)).fst) ((gP acts (gK ks i)).snd) (none) (none) (by exact gapl1 (by decide)) (by exact gapl2 (by decide)) (by decide) (by decide)) (((gP acts (gK ks i)).fst = (gP acts (gK ks i)).fst) ∧ ((gP acts (gK ks i)).snd = (gP acts (gK ks i)).snd) ∧ (@Eq PP (PPt GT 26 (@none Proof)) (PPt GT 26 (@none Proof))) ∧ (@Eq PP (PPt GT 26 (@none Proof)) (PPt GT 26 (@none Proof)))) ⟨rfl, rfl, rfl, rfl⟩ (fun g104 p105 => ?_)
          have p105 : True := p105
          refine v_guard 106 (!(decide ((gP acts (gK ks i)).fst = none) && decide ((gP acts (gK ks i)).snd = none))) True trivial (fun h106 => ?_) (fun h106 => ?_)
          ·have h106 := (nt h106)
           exfalso; exact sgF (acts := acts) (m := 30) (by assumption) (by first | exact (bl (acts := acts) (m := 30) (by decide) (by assumption) (by assumption)).2 | exact bl0 (acts := acts) (m := 30) (by decide) (by assumption) (by assumption)) (by first | exact (bh (acts := acts) (m := 30) (by decide) (by assumption) (by assumption)).2 | exact bh0 (acts := acts) (m := 30) (by decide) (by assumption) (by assumption))
          ·have h106 := (nf h106)
           refine v_if ((vgP (hashO (gO acts)) (gK ks i) (gP acts (gK ks i)).fst (gP acts (gK ks i)).snd).isNone != false) True trivial (fun h107 => ?_) (fun h107 => ?_)
           ·skip
            exfalso; exact vT2 (by assumption) (by assumption)
           ·skip
            exact v_back (i + 1) [] ((I64 (↑i + 1)) ∧ ((↑i : Int) + 1 = (↑(i + 1) : Int))) ⟨(by (unfold I64; omega)), rfl⟩ (show i + 1 ≤ ks.length ∧ ks.length - (i + 1) < ks.length - i from (by omega))
  ·have h9 := of_decide_eq_false h9
   refine v_leave (.ex 0) True trivial ?_
   exact v_ret () [] ((true = true) ∧ (wordsP = wordsP) ∧ (rootsP = rootsP) ∧ (etP = etP) ∧ (acts = acts) ∧ (ks = ks)) ⟨rfl, rfl, rfl, rfl, rfl, rfl⟩ trivial
end Go.Proofs.YtnicmjipbnhciaaDoor.X
set_option linter.unusedVariables false
set_option linter.unusedSimpArgs false
namespace Go.Proofs.YtnicmjipbnhciaaDoor.X
open Go Go.RowKit Go.Proofs.YtnicmjipbnhciaaDoor.E
def OpF {α : Type} (P : Program) (t : TypeId) (fs : Array Go.Field) (off : Nat) (T : Ty α) : Prop :=
  ∀ (w : World) (cs : List Value), cs.length = P.cellsOf t → (∀ (i : Nat) (f : Go.Field), fs[i]? = some f → ∀ {β : Type} {U : Ty β}, E.Opens P f.type U → ∀ o sz, f.offset = o → P.cellsOf f.type = sz → ∃ a, U.rep (sig0 w) w a ((cs.drop o).take sz)) → ∃ a, T.rep (sig0 w) w a (cs.drop off)
section
variable {α β : Type} {P : Program} {t : TypeId} {fs : Array Go.Field} {off n : Nat} {A : Ty α} {B : Ty β} {f : Go.Field}
theorem opF_cons (i : Nat) (hf : fs[i]? = some f) (ho : f.offset = off) (O : E.Opens P f.type A) (hs : P.cellsOf f.type = n) (hB : OpF P t fs (off + n) B) : OpF P t fs off (tProd A B) := by
  intro w cs hl h
  obtain ⟨a, ha⟩ := h i f hf O off n ho hs
  obtain ⟨b, hb⟩ := hB w cs hl h
  exact ⟨(a, b), _, _, by rw [← List.drop_drop]; exact (List.take_append_drop n _).symm, ha, hb⟩
theorem opF_last (i : Nat) (hf : fs[i]? = some f) (ho : f.offset = off) (O : E.Opens P f.type A) (hs : P.cellsOf f.type = n) (tot : P.cellsOf t = off + n) : OpF P t fs off A := by
  intro w cs hl h
  obtain ⟨a, ha⟩ := h i f hf O off n ho hs
  rw [List.take_of_length_le (by rw [List.length_drop]; omega)] at ha
  exact ⟨a, ha⟩
theorem opens_rec (ht : P.underlying t = some (.struct fs)) (h : OpF P t fs 0 A) : E.Opens P t A := by
  intro H enc w sp held fuel cs x hx hw
  obtain ⟨hl, hf⟩ := opens_field ht hx hw
  obtain ⟨a, ha⟩ := h w cs hl (fun i f hi β U O o sz ho hs => hf i f hi O o sz ho hs)
  exact ⟨a, by simpa using ha⟩
theorem opens_by (n : Nat) (h : E.Opens P t A) : E.Opens P t (tBy A n) := h
theorem opens_iso {g : β → α} (k : α → β) (hg : ∀ b, g (k b) = b) (h : E.Opens P t A) : E.Opens P t (tIso g A) := by
  intro H enc w sp held fuel cs x hx hw
  obtain ⟨b, hb⟩ := h hx hw
  exact ⟨k b, by show A.rep _ _ (g (k b)) _; rw [hg]; exact hb⟩
end
end Go.Proofs.YtnicmjipbnhciaaDoor.X
set_option linter.unusedVariables false
set_option maxRecDepth 100000
namespace Go.Proofs.YtnicmjipbnhciaaDoor.X
open Go Go.RowKit Go.Proofs.YtnicmjipbnhciaaDoor.E
theorem opAct : E.Opens Tryd.prog 133 tAct := opens_by 56 (opens_iso (fun p => ⟨p.1, p.2.1, p.2.2.1, p.2.2.2⟩) (fun _ => rfl) (opens_rec Tryd.underlying133 (opF_cons (n := 1) 0 rfl rfl (opens_u8 Tryd.underlying5) (by kernel_rfl) (opF_cons (n := 1) 1 rfl rfl (opens_u8 Tryd.underlying5) (by kernel_rfl) (opF_cons (n := 1) 2 rfl rfl (opens_slice (T := tU8) Tryd.underlying22 (by kernel_rfl) (by kernel_rfl) (by decide) (opens_u8 Tryd.underlying5)) (by kernel_rfl) (opF_last (n := 1) 3 rfl rfl (opens_slice (T := tU8) Tryd.underlying22 (by kernel_rfl) (by kernel_rfl) (by decide) (opens_u8 Tryd.underlying5)) (by kernel_rfl) (by kernel_rfl)))))))
end Go.Proofs.YtnicmjipbnhciaaDoor.X
