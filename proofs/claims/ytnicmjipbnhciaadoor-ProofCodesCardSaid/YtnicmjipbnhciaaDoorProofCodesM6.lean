/- What the law ProofCodes needs: the engine, the walks of what it reaches, plain laws; part 6. -/
import Derived.Test.YtnicmjipbnhciaaDoorProofCodesM5
set_option linter.unnecessarySimpa false
set_option linter.deprecated false
set_option linter.unusedVariables false
set_option linter.unusedSimpArgs false
set_option maxRecDepth 100000
namespace Go.Proofs.YtnicmjipbnhciaaDoor.X
open Go Go.RowKit Go.Proofs Go.Proofs.YtnicmjipbnhciaaDoor.E
theorem hR1 {v : List UInt8} (h : valRV v < 1048576) : ((valRV v).toNat : Int) = hMin (valV v) := by rw [valRV_eq] at *; unfold hMin; rw [if_pos h]
theorem hR2 {v : List UInt8} (h : ¬ valRV v < 1048576) : (1048576 : Int) = hMin (valV v) := by rw [valRV_eq] at *; unfold hMin; rw [if_neg h]
theorem hR3 {v : List UInt8} (h : valRV v < 1048576) : valRV v < 9223372036854775808 := by
  apply UInt64.lt_iff_toNat_lt.2
  have := UInt64.lt_iff_toNat_lt.1 h
  have e2 : (1048576 : UInt64).toNat = 1048576 := rfl
  have e3 : (9223372036854775808 : UInt64).toNat = 9223372036854775808 := rfl
  omega
theorem sumR_len (v : List UInt8) : (sumR v).length = 32 := by unfold sumR; split <;> simp_all
theorem sm32 {v : List UInt8} (h : v.length = 32) : sumR v = (mk32 v).l := by unfold sumR; rw [if_pos h]; exact (mk32_of h).symm
theorem valE7 {v : List UInt8} (h : valE v ≠ 0) : valE v = 7 := by unfold valE at *; split <;> simp_all
theorem vB0 {v : List UInt8} (h : valB v = false) : valE v = 7 := by rw [valB_eq] at h; exact valE7 (of_decide_eq_false h)
theorem vB1 {v : List UInt8} (h : valB v = true) : valE v = 0 := by rw [valB_eq] at h; exact of_decide_eq_true h
def fSetR (t : Turn) (f : Field) : Turn :=
  if f.tag = 1 then ⟨hMin (valV f.value), t.size, t.right, t.other⟩ else if f.tag = 2 then ⟨t.height, valV f.value, t.right, t.other⟩
  else if f.tag = 3 then ⟨t.height, t.size, true, t.other⟩ else if f.tag = 4 then ⟨t.height, t.size, t.right, mk32 (sumR f.value)⟩ else t
def fRun : List Field → Turn → Turn
  | [], t => t
  | f :: l, t => if fErr f ≠ 0 then fSetR t f else fRun l (fSet t f)
theorem fRun_ok : ∀ (l : List Field) (t : Turn), fFirst l = 0 → fRun l t = l.foldl fSet t
  | [], _, _ => rfl
  | f :: l, t, h => by
    unfold fFirst at h; unfold fRun
    split at h
    · rename_i h1; exact absurd h h1
    · rename_i h1; rw [if_neg h1, List.foldl_cons]; exact fRun_ok l _ h
def tnW (b : List UInt8) : Turn := if (parse [] b).2 ≠ 0 then kT else fRun (parse [] b).1 kT
theorem tnW_eq {b : List UInt8} (h : tnE b = 0) : tnW b = tnV b := by
  unfold tnE at h; unfold tnW tnV
  split at h
  · rename_i h1; exact absurd h h1
  · rename_i h1
    rw [if_neg h1, if_neg h1]
    split at h
    · rename_i h2; exact absurd h h2
    · rename_i h2
      rw [if_neg h2]
      split at h
      · rename_i h3; rw [if_pos h3, fRun_ok _ _ (Decidable.not_not.1 h2)]; unfold fTo; rw [List.take_length]
      · cases h
def FR (l : List Field) (k : Nat) : Prop := fRun l kT = fRun (l.drop k) (fTo l k)
section
variable {b : List UInt8} {l : List Field} {k : Nat} {f : Field}
theorem FR.start : FJ l 0 ∧ FR l 0 := ⟨FJ.start, rfl⟩
theorem FR.at (h : FR l k) (hk : (k : Int) < l.length) : fRun l kT = if fErr (l.getD (k : Int).toNat kF) ≠ 0 then fSetR (fTo l k) (l.getD (k : Int).toNat kF) else fRun (l.drop (k + 1)) (fSet (fTo l k) (l.getD (k : Int).toNat kF)) := by
  rw [h, List.drop_eq_getElem_cons (by omega), fRun, Int.toNat_natCast, List.getD_eq_getElem?_getD, List.getElem?_eq_getElem (by omega)]; rfl
theorem FR.next (h : FJ l k ∧ FR l k) (hk : (k : Int) < l.length) (he : fErr (l.getD (k : Int).toNat kF) = 0) : (FJ l (k + 1) ∧ FR l (k + 1)) ∧ l.length - (k + 1) < l.length - k := by
  have := h.1.next hk he
  refine ⟨⟨this.1, ?_⟩, this.2⟩
  unfold FR
  rw [h.2.at hk, if_neg (by rw [he]; decide), fTo_succ hk]
theorem FR.hit (hp : ¬ (parse [] b).2 ≠ 0) (h : FR (parse [] b).1 k) (hk : (k : Int) < (parse [] b).1.length) (he : fErr ((parse [] b).1.getD (k : Int).toNat kF) ≠ 0) : tnW b = fSetR (fTo (parse [] b).1 k) ((parse [] b).1.getD (k : Int).toNat kF) := by
  unfold tnW; rw [if_neg hp, h.at hk, if_pos he]
theorem v3 {v : List UInt8} (h : valB v = false) : valV v ≠ 1 := by
  have e := vB0 h
  intro q
  unfold valE at e; unfold valV at q
  split at e
  · rename_i h1; rw [if_pos h1] at q; exact absurd q (by decide)
  · rename_i h1
    rw [if_neg h1] at q
    split at e
    · rename_i h2; rw [if_pos h2] at q; exact absurd q (by decide)
    · cases e
theorem w0 (h : (parse [] b).2 ≠ 0) : tnW b = kT := by unfold tnW; rw [if_pos h]
theorem w1 (hp : ¬ (parse [] b).2 ≠ 0) (hR : FR (parse [] b).1 k) (hk : (k : Int) < (parse [] b).1.length) (h1 : ((parse [] b).1.getD (k : Int).toNat kF).tag = 1) (hv : valB ((parse [] b).1.getD (k : Int).toNat kF).value = false) : tnW b = ⟨hMin (valV ((parse [] b).1.getD (k : Int).toNat kF).value), (fTo (parse [] b).1 k).size, (fTo (parse [] b).1 k).right, (fTo (parse [] b).1 k).other⟩ := by
  rw [FR.hit hp hR hk (by rw [fe1 h1, vB0 hv]; decide)]; unfold fSetR; rw [if_pos h1]
theorem w2 (hp : ¬ (parse [] b).2 ≠ 0) (hR : FR (parse [] b).1 k) (hk : (k : Int) < (parse [] b).1.length) (h1 : ¬ ((parse [] b).1.getD (k : Int).toNat kF).tag = 1) (h2 : ((parse [] b).1.getD (k : Int).toNat kF).tag = 2) (hv : valB ((parse [] b).1.getD (k : Int).toNat kF).value = false) : tnW b = ⟨(fTo (parse [] b).1 k).height, valV ((parse [] b).1.getD (k : Int).toNat kF).value, (fTo (parse [] b).1 k).right, (fTo (parse [] b).1 k).other⟩ := by
  rw [FR.hit hp hR hk (by rw [fe2 h1 h2, vB0 hv]; decide)]; unfold fSetR; rw [if_neg h1, if_pos h2]
theorem w3 (hp : ¬ (parse [] b).2 ≠ 0) (hR : FR (parse [] b).1 k) (hk : (k : Int) < (parse [] b).1.length) (h1 : ¬ ((parse [] b).1.getD (k : Int).toNat kF).tag = 1) (h2 : ¬ ((parse [] b).1.getD (k : Int).toNat kF).tag = 2) (h3 : ((parse [] b).1.getD (k : Int).toNat kF).tag = 3) (hv : valB ((parse [] b).1.getD (k : Int).toNat kF).value = false) : tnW b = ⟨(fTo (parse [] b).1 k).height, (fTo (parse [] b).1 k).size, true, (fTo (parse [] b).1 k).other⟩ := by
  rw [FR.hit hp hR hk (by rw [fe3 h1 h2 h3 (v3 hv)]; decide)]; unfold fSetR; rw [if_neg h1, if_neg h2, if_pos h3]
theorem w3a (hp : ¬ (parse [] b).2 ≠ 0) (hR : FR (parse [] b).1 k) (hk : (k : Int) < (parse [] b).1.length) (h1 : ¬ ((parse [] b).1.getD (k : Int).toNat kF).tag = 1) (h2 : ¬ ((parse [] b).1.getD (k : Int).toNat kF).tag = 2) (h3 : ((parse [] b).1.getD (k : Int).toNat kF).tag = 3) (hv : ¬ valRV ((parse [] b).1.getD (k : Int).toNat kF).value = 1) : tnW b = ⟨(fTo (parse [] b).1 k).height, (fTo (parse [] b).1 k).size, true, (fTo (parse [] b).1 k).other⟩ := by
  rw [FR.hit hp hR hk (by rw [fe3 h1 h2 h3 (fun q => hv (by rw [valRV_eq]; exact q))]; decide)]; unfold fSetR; rw [if_neg h1, if_neg h2, if_pos h3]
theorem w4 (hp : ¬ (parse [] b).2 ≠ 0) (hR : FR (parse [] b).1 k) (hk : (k : Int) < (parse [] b).1.length) (h1 : ¬ ((parse [] b).1.getD (k : Int).toNat kF).tag = 1) (h2 : ¬ ((parse [] b).1.getD (k : Int).toNat kF).tag = 2) (h3 : ¬ ((parse [] b).1.getD (k : Int).toNat kF).tag = 3) (h4 : ((parse [] b).1.getD (k : Int).toNat kF).tag = 4) (hv : ¬ ((parse [] b).1.getD (k : Int).toNat kF).value.length = 32) : tnW b = ⟨(fTo (parse [] b).1 k).height, (fTo (parse [] b).1 k).size, (fTo (parse [] b).1 k).right, mk32 (sumR ((parse [] b).1.getD (k : Int).toNat kF).value)⟩ := by
  rw [FR.hit hp hR hk (by rw [fe4 h1 h2 h3 h4 (by omega)]; decide)]; unfold fSetR; rw [if_neg h1, if_neg h2, if_neg h3, if_pos h4]
theorem w5 (hp : ¬ (parse [] b).2 ≠ 0) (hR : FR (parse [] b).1 k) (hk : (k : Int) < (parse [] b).1.length) (h1 : ¬ ((parse [] b).1.getD (k : Int).toNat kF).tag = 1) (h2 : ¬ ((parse [] b).1.getD (k : Int).toNat kF).tag = 2) (h3 : ¬ ((parse [] b).1.getD (k : Int).toNat kF).tag = 3) (h4 : ¬ ((parse [] b).1.getD (k : Int).toNat kF).tag = 4) : tnW b = (fTo (parse [] b).1 k) := by
  rw [FR.hit hp hR hk (by rw [fe5 h1 h2 h3 h4]; decide)]; unfold fSetR; rw [if_neg h1, if_neg h2, if_neg h3, if_neg h4]
theorem w6 (hp : ¬ (parse [] b).2 ≠ 0) (hR : FR (parse [] b).1 k) (hk : ¬ (k : Int) < (parse [] b).1.length) : tnW b = (fTo (parse [] b).1 k) := by unfold tnW; rw [if_neg hp, hR, List.drop_of_length_le (by omega)]; rfl
theorem ee1 (hp : ¬ (parse [] b).2 ≠ 0) (hF : FJ (parse [] b).1 k) (hk : (k : Int) < (parse [] b).1.length) (h1 : ((parse [] b).1.getD (k : Int).toNat kF).tag = 1) (hv : valB ((parse [] b).1.getD (k : Int).toNat kF).value = false) : 7 = tnE b := (er hp hF hk ((fe1 h1).trans (vB0 hv)) (by decide)).2
theorem ee2 (hp : ¬ (parse [] b).2 ≠ 0) (hF : FJ (parse [] b).1 k) (hk : (k : Int) < (parse [] b).1.length) (h1 : ¬ ((parse [] b).1.getD (k : Int).toNat kF).tag = 1) (h2 : ((parse [] b).1.getD (k : Int).toNat kF).tag = 2) (hv : valB ((parse [] b).1.getD (k : Int).toNat kF).value = false) : 7 = tnE b := (er hp hF hk ((fe2 h1 h2).trans (vB0 hv)) (by decide)).2
theorem ee3 (hp : ¬ (parse [] b).2 ≠ 0) (hF : FJ (parse [] b).1 k) (hk : (k : Int) < (parse [] b).1.length) (h1 : ¬ ((parse [] b).1.getD (k : Int).toNat kF).tag = 1) (h2 : ¬ ((parse [] b).1.getD (k : Int).toNat kF).tag = 2) (h3 : ((parse [] b).1.getD (k : Int).toNat kF).tag = 3) (hv : valB ((parse [] b).1.getD (k : Int).toNat kF).value = false) : 7 = tnE b := (er hp hF hk (fe3 h1 h2 h3 (v3 hv)) (by decide)).2
theorem ee3a (hp : ¬ (parse [] b).2 ≠ 0) (hF : FJ (parse [] b).1 k) (hk : (k : Int) < (parse [] b).1.length) (h1 : ¬ ((parse [] b).1.getD (k : Int).toNat kF).tag = 1) (h2 : ¬ ((parse [] b).1.getD (k : Int).toNat kF).tag = 2) (h3 : ((parse [] b).1.getD (k : Int).toNat kF).tag = 3) (hv : ¬ valRV ((parse [] b).1.getD (k : Int).toNat kF).value = 1) : 7 = tnE b := (er hp hF hk (fe3 h1 h2 h3 (fun q => hv (by rw [valRV_eq]; exact q))) (by decide)).2
theorem ee4 (hp : ¬ (parse [] b).2 ≠ 0) (hF : FJ (parse [] b).1 k) (hk : (k : Int) < (parse [] b).1.length) (h1 : ¬ ((parse [] b).1.getD (k : Int).toNat kF).tag = 1) (h2 : ¬ ((parse [] b).1.getD (k : Int).toNat kF).tag = 2) (h3 : ¬ ((parse [] b).1.getD (k : Int).toNat kF).tag = 3) (h4 : ((parse [] b).1.getD (k : Int).toNat kF).tag = 4) (hv : ¬ ((parse [] b).1.getD (k : Int).toNat kF).value.length = 32) : 7 = tnE b := (er hp hF hk (fe4 h1 h2 h3 h4 (by omega)) (by decide)).2
theorem ee5 (hp : ¬ (parse [] b).2 ≠ 0) (hF : FJ (parse [] b).1 k) (hk : (k : Int) < (parse [] b).1.length) (h1 : ¬ ((parse [] b).1.getD (k : Int).toNat kF).tag = 1) (h2 : ¬ ((parse [] b).1.getD (k : Int).toNat kF).tag = 2) (h3 : ¬ ((parse [] b).1.getD (k : Int).toNat kF).tag = 3) (h4 : ¬ ((parse [] b).1.getD (k : Int).toNat kF).tag = 4) : 8 = tnE b := (er hp hF hk (fe5 h1 h2 h3 h4) (by decide)).2
theorem s4n (hk : (k : Int) < l.length) (h1 : ¬ (l.getD (k : Int).toNat kF).tag = 1) (h2 : ¬ (l.getD (k : Int).toNat kF).tag = 2) (h3 : ¬ (l.getD (k : Int).toNat kF).tag = 3) (h : (l.getD (k : Int).toNat kF).tag = 4) (hv : (l.getD (k : Int).toNat kF).value.length = 32) : fTo l (k + 1) = ⟨(fTo l k).height, (fTo l k).size, (fTo l k).right, mk32 (l.getD (k : Int).toNat kF).value⟩ := s4 hk h1 h2 h3 h (by omega)
theorem n1 (h1 : f.tag = 1) (hv : valB f.value = true) : fErr f = 0 := (fe1 h1).trans (vB1 hv)
theorem n2 (h1 : ¬ f.tag = 1) (h2 : f.tag = 2) (hv : valB f.value = true) : fErr f = 0 := (fe2 h1 h2).trans (vB1 hv)
theorem n3 (h1 : ¬ f.tag = 1) (h2 : ¬ f.tag = 2) (h3 : f.tag = 3) (hv : valB f.value = true) (h : valRV f.value = 1) : fErr f = 0 := (fe3a h1 h2 h3 (fun q => q (by rw [← valRV_eq]; exact h))).trans (vB1 hv)
theorem n4 (h1 : ¬ f.tag = 1) (h2 : ¬ f.tag = 2) (h3 : ¬ f.tag = 3) (h4 : f.tag = 4) (hv : f.value.length = 32) : fErr f = 0 := fe4a h1 h2 h3 h4 (by omega)
theorem tnG5 (hp : ¬ (parse [] b).2 ≠ 0) (hF : FJ (parse [] b).1 k) (hk : ¬ (k : Int) < (parse [] b).1.length) (h0 : ((parse [] b).1.length : Int) = 0) : 8 = tnE b := (tn3 hp (hF.stop hk) (by unfold fEnd; rw [decide_eq_false (by omega)]; rfl)).2
end
noncomputable def ccK8_92 : Code := (Tryd.f92.body).getD .skip
theorem turn5_ok (b : List UInt8) (hlb : b.length ≤ 900000) : FOk EN 92 ⟨[.rd 5 (b)], [.n 0], Unit, fun _ => ([.rd 5 (b)], .t [.a [.i (tnW b).height, .u (tnW b).size, .b (tnW b).right, .h 32 (tnW b).other.l], .i (tnE b)]), fun _ => True⟩ := by
 refine v_fun Tryd.f92 ccK8_92 MX (fun ν F σ w => ?_) Tryd.func92
 refine v_nl ?_
 refine v_call _ [0] (rparse_ok (b) ‹_›) ((b = b)) rfl (fun g1 p2 => ?_)
 have p2 : True := p2
 refine v_if (decide ((parse [] b).snd ≠ 0)) True trivial (fun h3 => ?_) (fun h3 => ?_)
 ·have h3 := of_decide_eq_true h3
  exact v_ret () [] ((0 = (tnW b).height) ∧ (0 = (tnW b).size) ∧ (false = (tnW b).right) ∧ (List.replicate 32 0 = (tnW b).other.l) ∧ ((parse [] b).snd = tnE b) ∧ (b = b)) ⟨(by ((first | rw [w0 ‹_›] | rw [w1 ‹_› ‹_› ‹_› ‹_› ‹_›] | rw [w2 ‹_› ‹_› ‹_› ‹_› ‹_› ‹_›] | rw [w3 ‹_› ‹_› ‹_› ‹_› ‹_› ‹_› ‹_›] | rw [w3a ‹_› ‹_› ‹_› ‹_› ‹_› ‹_› ‹_›] | rw [w4 ‹_› ‹_› ‹_› ‹_› ‹_› ‹_› ‹_› ‹_›] | rw [w5 ‹_› ‹_› ‹_› ‹_› ‹_› ‹_› ‹_›] | rw [w6 ‹_› ‹_› ‹_›]) <;> (first | rfl | exact (hR1 ‹_›) | exact (hR2 ‹_›) | exact (valRV_eq _) | exact (mk32_of (sumR_len _)).symm | exact sm32 ‹_›))), (by ((first | rw [w0 ‹_›] | rw [w1 ‹_› ‹_› ‹_› ‹_› ‹_›] | rw [w2 ‹_› ‹_› ‹_› ‹_› ‹_› ‹_›] | rw [w3 ‹_› ‹_› ‹_› ‹_› ‹_› ‹_› ‹_›] | rw [w3a ‹_› ‹_› ‹_› ‹_› ‹_› ‹_› ‹_›] | rw [w4 ‹_› ‹_› ‹_› ‹_› ‹_› ‹_› ‹_› ‹_›] | rw [w5 ‹_› ‹_› ‹_› ‹_› ‹_› ‹_› ‹_›] | rw [w6 ‹_› ‹_› ‹_›]) <;> (first | rfl | exact (hR1 ‹_›) | exact (hR2 ‹_›) | exact (valRV_eq _) | exact (mk32_of (sumR_len _)).symm | exact sm32 ‹_›))), (by ((first | rw [w0 ‹_›] | rw [w1 ‹_› ‹_› ‹_› ‹_› ‹_›] | rw [w2 ‹_› ‹_› ‹_› ‹_› ‹_› ‹_›] | rw [w3 ‹_› ‹_› ‹_› ‹_› ‹_› ‹_› ‹_›] | rw [w3a ‹_› ‹_› ‹_› ‹_› ‹_› ‹_› ‹_›] | rw [w4 ‹_› ‹_› ‹_› ‹_› ‹_› ‹_› ‹_› ‹_›] | rw [w5 ‹_› ‹_› ‹_› ‹_› ‹_› ‹_› ‹_›] | rw [w6 ‹_› ‹_› ‹_›]) <;> (first | rfl | exact (hR1 ‹_›) | exact (hR2 ‹_›) | exact (valRV_eq _) | exact (mk32_of (sumR_len _)).symm | exact sm32 ‹_›))), (by ((first | rw [w0 ‹_›] | rw [w1 ‹_› ‹_› ‹_› ‹_› ‹_›] | rw [w2 ‹_› ‹_› ‹_› ‹_› ‹_› ‹_›] | rw [w3 ‹_› ‹_› ‹_› ‹_› ‹_› ‹_› ‹_›] | rw [w3a ‹_› ‹_› ‹_› ‹_› ‹_› ‹_› ‹_›] | rw [w4 ‹_› ‹_› ‹_› ‹_› ‹_› ‹_› ‹_› ‹_›] | rw [w5 ‹_› ‹_› ‹_› ‹_› ‹_› ‹_› ‹_›] | rw [w6 ‹_› ‹_› ‹_›]) <;> (first | rfl | exact (hR1 ‹_›) | exact (hR2 ‹_›) | exact (valRV_eq _) | exact (mk32_of (sumR_len _)).symm | exact sm32 ‹_›))), (by exact (tn1 ‹_›).2), rfl⟩ trivial
 ·have h3 := of_decide_eq_false h3
  refine v_loop (fun k : Nat => ([(7, .i k), (4, .p 5 0)], [.bx 121 [.i (fTo (parse [] b).1 k).height, .u (fTo (parse [] b).1 k).size, .b (fTo (parse [] b).1 k).right, .h 32 (fTo (parse [] b).1 k).other.l]])) (fun k => FJ (parse [] b).1 k ∧ FR (parse [] b).1 k) (fun k => (parse [] b).1.length - k) 0 [3] (((0 : Int) = (↑(0 : Nat) : Int)) ∧ (0 = (fTo (parse [] b).fst 0).height) ∧ (0 = (fTo (parse [] b).fst 0).size) ∧ (false = (fTo (parse [] b).fst 0).right) ∧ (List.replicate 32 0 = (fTo (parse [] b).fst 0).other.l)) ⟨rfl, rfl, rfl, rfl, rfl⟩ (by exact FR.start) (fun k hk4 => ?_)
  have i1 := (‹FJ (parse [] b).1 k ∧ FR (parse [] b).1 k›).1
  have i2 := (‹FJ (parse [] b).1 k ∧ FR (parse [] b).1 k›).2
  refine v_if (decide ((↑k : Int) < (↑(parse [] b).fst.length : Int))) True trivial (fun h5 => ?_) (fun h5 => ?_)
  ·have h5 := of_decide_eq_true h5
   refine v_call _ [6] (valuer_ok (((parse [] b).fst.getD (↑k : Int).toNat (Field.mk 0 [])).value)) ((0 ≤ (↑k : Int) ∧ (↑k : Int) < (↑(parse [] b).fst.length : Int)) ∧ (((parse [] b).fst.getD (↑k : Int).toNat (Field.mk 0 [])).value = ((parse [] b).fst.getD (↑k : Int).toNat (Field.mk 0 [])).value)) ⟨(by omega), rfl⟩ (fun g6 p7 => ?_)
   have p7 : True := p7
   refine v_if (decide (((parse [] b).fst.getD (↑k : Int).toNat (Field.mk 0 [])).tag = 1)) ((0 ≤ (↑k : Int) ∧ (↑k : Int) < (↑(parse [] b).fst.length : Int))) (by omega) (fun h8 => ?_) (fun h8 => ?_)
   ·have h8 := of_decide_eq_true h8
    refine v_if (decide (valRV ((parse [] b).fst.getD (↑k : Int).toNat (Field.mk 0 [])).value < 1048576)) True trivial (fun h9 => ?_) (fun h9 => ?_)
    ·have h9 := of_decide_eq_true h9
     refine v_if (!valB ((parse [] b).fst.getD (↑k : Int).toNat (Field.mk 0 [])).value) ((valRV ((parse [] b).fst.getD (↑k : Int).toNat (Field.mk 0 [])).value < 9223372036854775808)) (by exact hR3 ‹_›) (fun h10 => ?_) (fun h10 => ?_)
     ·have h10 := (nt h10)
      refine v_leave .rt True trivial ?_
      exact v_ret () [] (((↑(valRV ((parse [] b).fst.getD (↑k : Int).toNat (Field.mk 0 [])).value).toNat : Int) = (tnW b).height) ∧ ((fTo (parse [] b).fst k).size = (tnW b).size) ∧ ((fTo (parse [] b).fst k).right = (tnW b).right) ∧ ((fTo (parse [] b).fst k).other.l = (tnW b).other.l) ∧ (7 = tnE b) ∧ (b = b)) ⟨(by ((first | rw [w0 ‹_›] | rw [w1 ‹_› ‹_› ‹_› ‹_› ‹_›] | rw [w2 ‹_› ‹_› ‹_› ‹_› ‹_› ‹_›] | rw [w3 ‹_› ‹_› ‹_› ‹_› ‹_› ‹_› ‹_›] | rw [w3a ‹_› ‹_› ‹_› ‹_› ‹_› ‹_› ‹_›] | rw [w4 ‹_› ‹_› ‹_› ‹_› ‹_› ‹_› ‹_› ‹_›] | rw [w5 ‹_› ‹_› ‹_› ‹_› ‹_› ‹_› ‹_›] | rw [w6 ‹_› ‹_› ‹_›]) <;> (first | rfl | exact (hR1 ‹_›) | exact (hR2 ‹_›) | exact (valRV_eq _) | exact (mk32_of (sumR_len _)).symm | exact sm32 ‹_›))), (by ((first | rw [w0 ‹_›] | rw [w1 ‹_› ‹_› ‹_› ‹_› ‹_›] | rw [w2 ‹_› ‹_› ‹_› ‹_› ‹_› ‹_›] | rw [w3 ‹_› ‹_› ‹_› ‹_› ‹_› ‹_› ‹_›] | rw [w3a ‹_› ‹_› ‹_› ‹_› ‹_› ‹_› ‹_›] | rw [w4 ‹_› ‹_› ‹_› ‹_› ‹_› ‹_› ‹_› ‹_›] | rw [w5 ‹_› ‹_› ‹_› ‹_› ‹_› ‹_› ‹_›] | rw [w6 ‹_› ‹_› ‹_›]) <;> (first | rfl | exact (hR1 ‹_›) | exact (hR2 ‹_›) | exact (valRV_eq _) | exact (mk32_of (sumR_len _)).symm | exact sm32 ‹_›))), (by ((first | rw [w0 ‹_›] | rw [w1 ‹_› ‹_› ‹_› ‹_› ‹_›] | rw [w2 ‹_› ‹_› ‹_› ‹_› ‹_› ‹_›] | rw [w3 ‹_› ‹_› ‹_› ‹_› ‹_› ‹_› ‹_›] | rw [w3a ‹_› ‹_› ‹_› ‹_› ‹_› ‹_› ‹_›] | rw [w4 ‹_› ‹_› ‹_› ‹_› ‹_› ‹_› ‹_› ‹_›] | rw [w5 ‹_› ‹_› ‹_› ‹_› ‹_› ‹_› ‹_›] | rw [w6 ‹_› ‹_› ‹_›]) <;> (first | rfl | exact (hR1 ‹_›) | exact (hR2 ‹_›) | exact (valRV_eq _) | exact (mk32_of (sumR_len _)).symm | exact sm32 ‹_›))), (by ((first | rw [w0 ‹_›] | rw [w1 ‹_› ‹_› ‹_› ‹_› ‹_›] | rw [w2 ‹_› ‹_› ‹_› ‹_› ‹_› ‹_›] | rw [w3 ‹_› ‹_› ‹_› ‹_› ‹_› ‹_› ‹_›] | rw [w3a ‹_› ‹_› ‹_› ‹_› ‹_› ‹_› ‹_›] | rw [w4 ‹_› ‹_› ‹_› ‹_› ‹_› ‹_› ‹_› ‹_›] | rw [w5 ‹_› ‹_› ‹_› ‹_› ‹_› ‹_› ‹_›] | rw [w6 ‹_› ‹_› ‹_›]) <;> (first | rfl | exact (hR1 ‹_›) | exact (hR2 ‹_›) | exact (valRV_eq _) | exact (mk32_of (sumR_len _)).symm | exact sm32 ‹_›))), (by (first | exact ee1 ‹_› ‹_› ‹_› ‹_› ‹_› | exact ee2 ‹_› ‹_› ‹_› ‹_› ‹_› ‹_› | exact ee3 ‹_› ‹_› ‹_› ‹_› ‹_› ‹_› ‹_› | exact ee3a ‹_› ‹_› ‹_› ‹_› ‹_› ‹_› ‹_› | exact ee4 ‹_› ‹_› ‹_› ‹_› ‹_› ‹_› ‹_› ‹_› | exact ee5 ‹_› ‹_› ‹_› ‹_› ‹_› ‹_› ‹_›)), rfl⟩ trivial
     ·have h10 := (nf h10)
      exact v_back (k + 1) [5] ((I64 (↑k + 1)) ∧ ((↑k : Int) + 1 = (↑(k + 1) : Int)) ∧ ((↑(valRV ((parse [] b).fst.getD (↑k : Int).toNat (Field.mk 0 [])).value).toNat : Int) = (fTo (parse [] b).fst (k + 1)).height) ∧ ((fTo (parse [] b).fst k).size = (fTo (parse [] b).fst (k + 1)).size) ∧ ((fTo (parse [] b).fst k).right = (fTo (parse [] b).fst (k + 1)).right) ∧ ((fTo (parse [] b).fst k).other.l = (fTo (parse [] b).fst (k + 1)).other.l)) ⟨(by exact FJ.i64 ‹_› ‹_›), rfl, (by ((first | rw [s1 ‹_› ‹_›] | rw [s2 ‹_› ‹_› ‹_›] | rw [s3 ‹_› ‹_› ‹_› ‹_›] | rw [s4n ‹_› ‹_› ‹_› ‹_› ‹_› ‹_›]) <;> (first | rfl | exact (hR1 ‹_›) | exact (hR2 ‹_›) | exact (valRV_eq _) | exact (mk32_of (sumR_len _)).symm | exact sm32 ‹_›))), (by ((first | rw [s1 ‹_› ‹_›] | rw [s2 ‹_› ‹_› ‹_›] | rw [s3 ‹_› ‹_› ‹_› ‹_›] | rw [s4n ‹_› ‹_› ‹_› ‹_› ‹_› ‹_›]) <;> (first | rfl | exact (hR1 ‹_›) | exact (hR2 ‹_›) | exact (valRV_eq _) | exact (mk32_of (sumR_len _)).symm | exact sm32 ‹_›))), (by ((first | rw [s1 ‹_› ‹_›] | rw [s2 ‹_› ‹_› ‹_›] | rw [s3 ‹_› ‹_› ‹_› ‹_›] | rw [s4n ‹_› ‹_› ‹_› ‹_› ‹_› ‹_›]) <;> (first | rfl | exact (hR1 ‹_›) | exact (hR2 ‹_›) | exact (valRV_eq _) | exact (mk32_of (sumR_len _)).symm | exact sm32 ‹_›))), (by ((first | rw [s1 ‹_› ‹_›] | rw [s2 ‹_› ‹_› ‹_›] | rw [s3 ‹_› ‹_› ‹_› ‹_›] | rw [s4n ‹_› ‹_› ‹_› ‹_› ‹_› ‹_›]) <;> (first | rfl | exact (hR1 ‹_›) | exact (hR2 ‹_›) | exact (valRV_eq _) | exact (mk32_of (sumR_len _)).symm | exact sm32 ‹_›)))⟩ (show (FJ (parse [] b).fst (k + 1) ∧ FR (parse [] b).fst (k + 1)) ∧ (parse [] b).fst.length - (k + 1) < (parse [] b).fst.length - k from (by exact FR.next ‹_› ‹_› (by first | exact n1 ‹_› ‹_› | exact n2 ‹_› ‹_› ‹_› | exact n3 ‹_› ‹_› ‹_› ‹_› ‹_› | exact n4 ‹_› ‹_› ‹_› ‹_› ‹_›)))
    ·have h9 := of_decide_eq_false h9
     refine v_if (!valB ((parse [] b).fst.getD (↑k : Int).toNat (Field.mk 0 [])).value) True trivial (fun h11 => ?_) (fun h11 => ?_)
     ·have h11 := (nt h11)
      refine v_leave .rt True trivial ?_
      exact v_ret () [] ((1048576 = (tnW b).height) ∧ ((fTo (parse [] b).fst k).size = (tnW b).size) ∧ ((fTo (parse [] b).fst k).right = (tnW b).right) ∧ ((fTo (parse [] b).fst k).other.l = (tnW b).other.l) ∧ (7 = tnE b) ∧ (b = b)) ⟨(by ((first | rw [w0 ‹_›] | rw [w1 ‹_› ‹_› ‹_› ‹_› ‹_›] | rw [w2 ‹_› ‹_› ‹_› ‹_› ‹_› ‹_›] | rw [w3 ‹_› ‹_› ‹_› ‹_› ‹_› ‹_› ‹_›] | rw [w3a ‹_› ‹_› ‹_› ‹_› ‹_› ‹_› ‹_›] | rw [w4 ‹_› ‹_› ‹_› ‹_› ‹_› ‹_› ‹_› ‹_›] | rw [w5 ‹_› ‹_› ‹_› ‹_› ‹_› ‹_› ‹_›] | rw [w6 ‹_› ‹_› ‹_›]) <;> (first | rfl | exact (hR1 ‹_›) | exact (hR2 ‹_›) | exact (valRV_eq _) | exact (mk32_of (sumR_len _)).symm | exact sm32 ‹_›))), (by ((first | rw [w0 ‹_›] | rw [w1 ‹_› ‹_› ‹_› ‹_› ‹_›] | rw [w2 ‹_› ‹_› ‹_› ‹_› ‹_› ‹_›] | rw [w3 ‹_› ‹_› ‹_› ‹_› ‹_› ‹_› ‹_›] | rw [w3a ‹_› ‹_› ‹_› ‹_› ‹_› ‹_› ‹_›] | rw [w4 ‹_› ‹_› ‹_› ‹_› ‹_› ‹_› ‹_› ‹_›] | rw [w5 ‹_› ‹_› ‹_› ‹_› ‹_› ‹_› ‹_›] | rw [w6 ‹_› ‹_› ‹_›]) <;> (first | rfl | exact (hR1 ‹_›) | exact (hR2 ‹_›) | exact (valRV_eq _) | exact (mk32_of (sumR_len _)).symm | exact sm32 ‹_›))), (by ((first | rw [w0 ‹_›] | rw [w1 ‹_› ‹_› ‹_› ‹_› ‹_›] | rw [w2 ‹_› ‹_› ‹_› ‹_› ‹_› ‹_›] | rw [w3 ‹_› ‹_› ‹_› ‹_› ‹_› ‹_› ‹_›] | rw [w3a ‹_› ‹_› ‹_› ‹_› ‹_› ‹_› ‹_›] | rw [w4 ‹_› ‹_› ‹_› ‹_› ‹_› ‹_› ‹_› ‹_›] | rw [w5 ‹_› ‹_› ‹_› ‹_› ‹_› ‹_› ‹_›] | rw [w6 ‹_› ‹_› ‹_›]) <;> (first | rfl | exact (hR1 ‹_›) | exact (hR2 ‹_›) | exact (valRV_eq _) | exact (mk32_of (sumR_len _)).symm | exact sm32 ‹_›))), (by ((first | rw [w0 ‹_›] | rw [w1 ‹_› ‹_› ‹_› ‹_› ‹_›] | rw [w2 ‹_› ‹_› ‹_› ‹_› ‹_› ‹_›] | rw [w3 ‹_› ‹_› ‹_› ‹_› ‹_› ‹_› ‹_›] | rw [w3a ‹_› ‹_› ‹_› ‹_› ‹_› ‹_› ‹_›] | rw [w4 ‹_› ‹_› ‹_› ‹_› ‹_› ‹_› ‹_› ‹_›] | rw [w5 ‹_› ‹_› ‹_› ‹_› ‹_› ‹_› ‹_›] | rw [w6 ‹_› ‹_› ‹_›]) <;> (first | rfl | exact (hR1 ‹_›) | exact (hR2 ‹_›) | exact (valRV_eq _) | exact (mk32_of (sumR_len _)).symm | exact sm32 ‹_›))), (by (first | exact ee1 ‹_› ‹_› ‹_› ‹_› ‹_› | exact ee2 ‹_› ‹_› ‹_› ‹_› ‹_› ‹_› | exact ee3 ‹_› ‹_› ‹_› ‹_› ‹_› ‹_› ‹_› | exact ee3a ‹_› ‹_› ‹_› ‹_› ‹_› ‹_› ‹_› | exact ee4 ‹_› ‹_› ‹_› ‹_› ‹_› ‹_› ‹_› ‹_› | exact ee5 ‹_› ‹_› ‹_› ‹_› ‹_› ‹_› ‹_›)), rfl⟩ trivial
     ·have h11 := (nf h11)
      exact v_back (k + 1) [5] ((I64 (↑k + 1)) ∧ ((↑k : Int) + 1 = (↑(k + 1) : Int)) ∧ (1048576 = (fTo (parse [] b).fst (k + 1)).height) ∧ ((fTo (parse [] b).fst k).size = (fTo (parse [] b).fst (k + 1)).size) ∧ ((fTo (parse [] b).fst k).right = (fTo (parse [] b).fst (k + 1)).right) ∧ ((fTo (parse [] b).fst k).other.l = (fTo (parse [] b).fst (k + 1)).other.l)) ⟨(by exact FJ.i64 ‹_› ‹_›), rfl, (by ((first | rw [s1 ‹_› ‹_›] | rw [s2 ‹_› ‹_› ‹_›] | rw [s3 ‹_› ‹_› ‹_› ‹_›] | rw [s4n ‹_› ‹_› ‹_› ‹_› ‹_› ‹_›]) <;> (first | rfl | exact (hR1 ‹_›) | exact (hR2 ‹_›) | exact (valRV_eq _) | exact (mk32_of (sumR_len _)).symm | exact sm32 ‹_›))), (by ((first | rw [s1 ‹_› ‹_›] | rw [s2 ‹_› ‹_› ‹_›] | rw [s3 ‹_› ‹_› ‹_› ‹_›] | rw [s4n ‹_› ‹_› ‹_› ‹_› ‹_› ‹_›]) <;> (first | rfl | exact (hR1 ‹_›) | exact (hR2 ‹_›) | exact (valRV_eq _) | exact (mk32_of (sumR_len _)).symm | exact sm32 ‹_›))), (by ((first | rw [s1 ‹_› ‹_›] | rw [s2 ‹_› ‹_› ‹_›] | rw [s3 ‹_› ‹_› ‹_› ‹_›] | rw [s4n ‹_› ‹_› ‹_› ‹_› ‹_› ‹_›]) <;> (first | rfl | exact (hR1 ‹_›) | exact (hR2 ‹_›) | exact (valRV_eq _) | exact (mk32_of (sumR_len _)).symm | exact sm32 ‹_›))), (by ((first | rw [s1 ‹_› ‹_›] | rw [s2 ‹_› ‹_› ‹_›] | rw [s3 ‹_› ‹_› ‹_› ‹_›] | rw [s4n ‹_› ‹_› ‹_› ‹_› ‹_› ‹_›]) <;> (first | rfl | exact (hR1 ‹_›) | exact (hR2 ‹_›) | exact (valRV_eq _) | exact (mk32_of (sumR_len _)).symm | exact sm32 ‹_›)))⟩ (show (FJ (parse [] b).fst (k + 1) ∧ FR (parse [] b).fst (k + 1)) ∧ (parse [] b).fst.length - (k + 1) < (parse [] b).fst.length - k from (by exact FR.next ‹_› ‹_› (by first | exact n1 ‹_› ‹_› | exact n2 ‹_› ‹_› ‹_› | exact n3 ‹_› ‹_› ‹_› ‹_› ‹_› | exact n4 ‹_› ‹_› ‹_› ‹_› ‹_›)))
   ·have h8 := of_decide_eq_false h8
    refine v_if (decide (((parse [] b).fst.getD (↑k : Int).toNat (Field.mk 0 [])).tag = 2)) True trivial (fun h12 => ?_) (fun h12 => ?_)
    ·have h12 := of_decide_eq_true h12
     refine v_if (!valB ((parse [] b).fst.getD (↑k : Int).toNat (Field.mk 0 [])).value) True trivial (fun h13 => ?_) (fun h13 => ?_)
     ·have h13 := (nt h13)
      refine v_leave .rt True trivial ?_
      exact v_ret () [] (((fTo (parse [] b).fst k).height = (tnW b).height) ∧ (valRV ((parse [] b).fst.getD (↑k : Int).toNat (Field.mk 0 [])).value = (tnW b).size) ∧ ((fTo (parse [] b).fst k).right = (tnW b).right) ∧ ((fTo (parse [] b).fst k).other.l = (tnW b).other.l) ∧ (7 = tnE b) ∧ (b = b)) ⟨(by ((first | rw [w0 ‹_›] | rw [w1 ‹_› ‹_› ‹_› ‹_› ‹_›] | rw [w2 ‹_› ‹_› ‹_› ‹_› ‹_› ‹_›] | rw [w3 ‹_› ‹_› ‹_› ‹_› ‹_› ‹_› ‹_›] | rw [w3a ‹_› ‹_› ‹_› ‹_› ‹_› ‹_› ‹_›] | rw [w4 ‹_› ‹_› ‹_› ‹_› ‹_› ‹_› ‹_› ‹_›] | rw [w5 ‹_› ‹_› ‹_› ‹_› ‹_› ‹_› ‹_›] | rw [w6 ‹_› ‹_› ‹_›]) <;> (first | rfl | exact (hR1 ‹_›) | exact (hR2 ‹_›) | exact (valRV_eq _) | exact (mk32_of (sumR_len _)).symm | exact sm32 ‹_›))), (by ((first | rw [w0 ‹_›] | rw [w1 ‹_› ‹_› ‹_› ‹_› ‹_›] | rw [w2 ‹_› ‹_› ‹_› ‹_› ‹_› ‹_›] | rw [w3 ‹_› ‹_› ‹_› ‹_› ‹_› ‹_› ‹_›] | rw [w3a ‹_› ‹_› ‹_› ‹_› ‹_› ‹_› ‹_›] | rw [w4 ‹_› ‹_› ‹_› ‹_› ‹_› ‹_› ‹_› ‹_›] | rw [w5 ‹_› ‹_› ‹_› ‹_› ‹_› ‹_› ‹_›] | rw [w6 ‹_› ‹_› ‹_›]) <;> (first | rfl | exact (hR1 ‹_›) | exact (hR2 ‹_›) | exact (valRV_eq _) | exact (mk32_of (sumR_len _)).symm | exact sm32 ‹_›))), (by ((first | rw [w0 ‹_›] | rw [w1 ‹_› ‹_› ‹_› ‹_› ‹_›] | rw [w2 ‹_› ‹_› ‹_› ‹_› ‹_› ‹_›] | rw [w3 ‹_› ‹_› ‹_› ‹_› ‹_› ‹_› ‹_›] | rw [w3a ‹_› ‹_› ‹_› ‹_› ‹_› ‹_› ‹_›] | rw [w4 ‹_› ‹_› ‹_› ‹_› ‹_› ‹_› ‹_› ‹_›] | rw [w5 ‹_› ‹_› ‹_› ‹_› ‹_› ‹_› ‹_›] | rw [w6 ‹_› ‹_› ‹_›]) <;> (first | rfl | exact (hR1 ‹_›) | exact (hR2 ‹_›) | exact (valRV_eq _) | exact (mk32_of (sumR_len _)).symm | exact sm32 ‹_›))), (by ((first | rw [w0 ‹_›] | rw [w1 ‹_› ‹_› ‹_› ‹_› ‹_›] | rw [w2 ‹_› ‹_› ‹_› ‹_› ‹_› ‹_›] | rw [w3 ‹_› ‹_› ‹_› ‹_› ‹_› ‹_› ‹_›] | rw [w3a ‹_› ‹_› ‹_› ‹_› ‹_› ‹_› ‹_›] | rw [w4 ‹_› ‹_› ‹_› ‹_› ‹_› ‹_› ‹_› ‹_›] | rw [w5 ‹_› ‹_› ‹_› ‹_› ‹_› ‹_› ‹_›] | rw [w6 ‹_› ‹_› ‹_›]) <;> (first | rfl | exact (hR1 ‹_›) | exact (hR2 ‹_›) | exact (valRV_eq _) | exact (mk32_of (sumR_len _)).symm | exact sm32 ‹_›))), (by (first | exact ee1 ‹_› ‹_› ‹_› ‹_› ‹_› | exact ee2 ‹_› ‹_› ‹_› ‹_› ‹_› ‹_› | exact ee3 ‹_› ‹_› ‹_› ‹_› ‹_› ‹_› ‹_› | exact ee3a ‹_› ‹_› ‹_› ‹_› ‹_› ‹_› ‹_› | exact ee4 ‹_› ‹_› ‹_› ‹_› ‹_› ‹_› ‹_› ‹_› | exact ee5 ‹_› ‹_› ‹_› ‹_› ‹_› ‹_› ‹_›)), rfl⟩ trivial
     ·have h13 := (nf h13)
      exact v_back (k + 1) [5] ((I64 (↑k + 1)) ∧ ((↑k : Int) + 1 = (↑(k + 1) : Int)) ∧ ((fTo (parse [] b).fst k).height = (fTo (parse [] b).fst (k + 1)).height) ∧ (valRV ((parse [] b).fst.getD (↑k : Int).toNat (Field.mk 0 [])).value = (fTo (parse [] b).fst (k + 1)).size) ∧ ((fTo (parse [] b).fst k).right = (fTo (parse [] b).fst (k + 1)).right) ∧ ((fTo (parse [] b).fst k).other.l = (fTo (parse [] b).fst (k + 1)).other.l)) ⟨(by exact FJ.i64 ‹_› ‹_›), rfl, (by ((first | rw [s1 ‹_› ‹_›] | rw [s2 ‹_› ‹_› ‹_›] | rw [s3 ‹_› ‹_› ‹_› ‹_›] | rw [s4n ‹_› ‹_› ‹_› ‹_› ‹_› ‹_›]) <;> (first | rfl | exact (hR1 ‹_›) | exact (hR2 ‹_›) | exact (valRV_eq _) | exact (mk32_of (sumR_len _)).symm | exact sm32 ‹_›))), (by ((first | rw [s1 ‹_› ‹_›] | rw [s2 ‹_› ‹_› ‹_›] | rw [s3 ‹_› ‹_› ‹_› ‹_›] | rw [s4n ‹_› ‹_› ‹_› ‹_› ‹_› ‹_›]) <;> (first | rfl | exact (hR1 ‹_›) | exact (hR2 ‹_›) | exact (valRV_eq _) | exact (mk32_of (sumR_len _)).symm | exact sm32 ‹_›))), (by ((first | rw [s1 ‹_› ‹_›] | rw [s2 ‹_› ‹_› ‹_›] | rw [s3 ‹_› ‹_› ‹_› ‹_›] | rw [s4n ‹_› ‹_› ‹_› ‹_› ‹_› ‹_›]) <;> (first | rfl | exact (hR1 ‹_›) | exact (hR2 ‹_›) | exact (valRV_eq _) | exact (mk32_of (sumR_len _)).symm | exact sm32 ‹_›))), (by ((first | rw [s1 ‹_› ‹_›] | rw [s2 ‹_› ‹_› ‹_›] | rw [s3 ‹_› ‹_› ‹_› ‹_›] | rw [s4n ‹_› ‹_› ‹_› ‹_› ‹_› ‹_›]) <;> (first | rfl | exact (hR1 ‹_›) | exact (hR2 ‹_›) | exact (valRV_eq _) | exact (mk32_of (sumR_len _)).symm | exact sm32 ‹_›)))⟩ (show (FJ (parse [] b).fst (k + 1) ∧ FR (parse [] b).fst (k + 1)) ∧ (parse [] b).fst.length - (k + 1) < (parse [] b).fst.length - k from (by exact FR.next ‹_› ‹_› (by first | exact n1 ‹_› ‹_› | exact n2 ‹_› ‹_› ‹_› | exact n3 ‹_› ‹_› ‹_› ‹_› ‹_› | exact n4 ‹_› ‹_› ‹_› ‹_› ‹_›)))
    ·have h12 := of_decide_eq_false h12
     refine v_if (decide (((parse [] b).fst.getD (↑k : Int).toNat (Field.mk 0 [])).tag = 3)) True trivial (fun h14 => ?_) (fun h14 => ?_)
     ·have h14 := of_decide_eq_true h14
      refine v_guard 55 (valB ((parse [] b).fst.getD (↑k : Int).toNat (Field.mk 0 [])).value) True trivial (fun h15 => ?_) (fun h15 => ?_)
      ·skip
       refine v_if (!decide (valRV ((parse [] b).fst.getD (↑k : Int).toNat (Field.mk 0 [])).value = 1)) True trivial (fun h16 => ?_) (fun h16 => ?_)
       ·have h16 := of_decide_eq_false (nt h16)
        refine v_leave .rt True trivial ?_
        exact v_ret () [] (((fTo (parse [] b).fst k).height = (tnW b).height) ∧ ((fTo (parse [] b).fst k).size = (tnW b).size) ∧ (true = (tnW b).right) ∧ ((fTo (parse [] b).fst k).other.l = (tnW b).other.l) ∧ (7 = tnE b) ∧ (b = b)) ⟨(by ((first | rw [w0 ‹_›] | rw [w1 ‹_› ‹_› ‹_› ‹_› ‹_›] | rw [w2 ‹_› ‹_› ‹_› ‹_› ‹_› ‹_›] | rw [w3 ‹_› ‹_› ‹_› ‹_› ‹_› ‹_› ‹_›] | rw [w3a ‹_› ‹_› ‹_› ‹_› ‹_› ‹_› ‹_›] | rw [w4 ‹_› ‹_› ‹_› ‹_› ‹_› ‹_› ‹_› ‹_›] | rw [w5 ‹_› ‹_› ‹_› ‹_› ‹_› ‹_› ‹_›] | rw [w6 ‹_› ‹_› ‹_›]) <;> (first | rfl | exact (hR1 ‹_›) | exact (hR2 ‹_›) | exact (valRV_eq _) | exact (mk32_of (sumR_len _)).symm | exact sm32 ‹_›))), (by ((first | rw [w0 ‹_›] | rw [w1 ‹_› ‹_› ‹_› ‹_› ‹_›] | rw [w2 ‹_› ‹_› ‹_› ‹_› ‹_› ‹_›] | rw [w3 ‹_› ‹_› ‹_› ‹_› ‹_› ‹_› ‹_›] | rw [w3a ‹_› ‹_› ‹_› ‹_› ‹_› ‹_› ‹_›] | rw [w4 ‹_› ‹_› ‹_› ‹_› ‹_› ‹_› ‹_› ‹_›] | rw [w5 ‹_› ‹_› ‹_› ‹_› ‹_› ‹_› ‹_›] | rw [w6 ‹_› ‹_› ‹_›]) <;> (first | rfl | exact (hR1 ‹_›) | exact (hR2 ‹_›) | exact (valRV_eq _) | exact (mk32_of (sumR_len _)).symm | exact sm32 ‹_›))), (by ((first | rw [w0 ‹_›] | rw [w1 ‹_› ‹_› ‹_› ‹_› ‹_›] | rw [w2 ‹_› ‹_› ‹_› ‹_› ‹_› ‹_›] | rw [w3 ‹_› ‹_› ‹_› ‹_› ‹_› ‹_› ‹_›] | rw [w3a ‹_› ‹_› ‹_› ‹_› ‹_› ‹_› ‹_›] | rw [w4 ‹_› ‹_› ‹_› ‹_› ‹_› ‹_› ‹_› ‹_›] | rw [w5 ‹_› ‹_› ‹_› ‹_› ‹_› ‹_› ‹_›] | rw [w6 ‹_› ‹_› ‹_›]) <;> (first | rfl | exact (hR1 ‹_›) | exact (hR2 ‹_›) | exact (valRV_eq _) | exact (mk32_of (sumR_len _)).symm | exact sm32 ‹_›))), (by ((first | rw [w0 ‹_›] | rw [w1 ‹_› ‹_› ‹_› ‹_› ‹_›] | rw [w2 ‹_› ‹_› ‹_› ‹_› ‹_› ‹_›] | rw [w3 ‹_› ‹_› ‹_› ‹_› ‹_› ‹_› ‹_›] | rw [w3a ‹_› ‹_› ‹_› ‹_› ‹_› ‹_› ‹_›] | rw [w4 ‹_› ‹_› ‹_› ‹_› ‹_› ‹_› ‹_› ‹_›] | rw [w5 ‹_› ‹_› ‹_› ‹_› ‹_› ‹_› ‹_›] | rw [w6 ‹_› ‹_› ‹_›]) <;> (first | rfl | exact (hR1 ‹_›) | exact (hR2 ‹_›) | exact (valRV_eq _) | exact (mk32_of (sumR_len _)).symm | exact sm32 ‹_›))), (by (first | exact ee1 ‹_› ‹_› ‹_› ‹_› ‹_› | exact ee2 ‹_› ‹_› ‹_› ‹_› ‹_› ‹_› | exact ee3 ‹_› ‹_› ‹_› ‹_› ‹_› ‹_› ‹_› | exact ee3a ‹_› ‹_› ‹_› ‹_› ‹_› ‹_› ‹_› | exact ee4 ‹_› ‹_› ‹_› ‹_› ‹_› ‹_› ‹_› ‹_› | exact ee5 ‹_› ‹_› ‹_› ‹_› ‹_› ‹_› ‹_›)), rfl⟩ trivial
       ·have h16 := of_decide_eq_true (nf h16)
        exact v_back (k + 1) [5] ((I64 (↑k + 1)) ∧ ((↑k : Int) + 1 = (↑(k + 1) : Int)) ∧ ((fTo (parse [] b).fst k).height = (fTo (parse [] b).fst (k + 1)).height) ∧ ((fTo (parse [] b).fst k).size = (fTo (parse [] b).fst (k + 1)).size) ∧ (true = (fTo (parse [] b).fst (k + 1)).right) ∧ ((fTo (parse [] b).fst k).other.l = (fTo (parse [] b).fst (k + 1)).other.l)) ⟨(by exact FJ.i64 ‹_› ‹_›), rfl, (by ((first | rw [s1 ‹_› ‹_›] | rw [s2 ‹_› ‹_› ‹_›] | rw [s3 ‹_› ‹_› ‹_› ‹_›] | rw [s4n ‹_› ‹_› ‹_› ‹_› ‹_› ‹_›]) <;> (first | rfl | exact (hR1 ‹_›) | exact (hR2 ‹_›) | exact (valRV_eq _) | exact (mk32_of (sumR_len _)).symm | exact sm32 ‹_›))), (by ((first | rw [s1 ‹_› ‹_›] | rw [s2 ‹_› ‹_› ‹_›] | rw [s3 ‹_› ‹_› ‹_› ‹_›] | rw [s4n ‹_› ‹_› ‹_› ‹_› ‹_› ‹_›]) <;> (first | rfl | exact (hR1 ‹_›) | exact (hR2 ‹_›) | exact (valRV_eq _) | exact (mk32_of (sumR_len _)).symm | exact sm32 ‹_›))), (by ((first | rw [s1 ‹_› ‹_›] | rw [s2 ‹_› ‹_› ‹_›] | rw [s3 ‹_› ‹_› ‹_› ‹_›] | rw [s4n ‹_› ‹_› ‹_› ‹_› ‹_› ‹_›]) <;> (first | rfl | exact (hR1 ‹_›) | exact (hR2 ‹_›) | exact (valRV_eq _) | exact (mk32_of (sumR_len _)).symm | exact sm32 ‹_›))), (by ((first | rw [s1 ‹_› ‹_›] | rw [s2 ‹_› ‹_› ‹_›] | rw [s3 ‹_› ‹_› ‹_› ‹_›] | rw [s4n ‹_› ‹_› ‹_› ‹_› ‹_› ‹_›]) <;> (first | rfl | exact (hR1 ‹_›) | exact (hR2 ‹_›) | exact (valRV_eq _) | exact (mk32_of (sumR_len _)).symm | exact sm32 ‹_›)))⟩ (show (FJ (parse [] b).fst (k + 1) ∧ FR (parse [] b).fst (k + 1)) ∧ (parse [] b).fst.length - (k + 1) < (parse [] b).fst.length - k from (by exact FR.next ‹_› ‹_› (by first | exact n1 ‹_› ‹_› | exact n2 ‹_› ‹_› ‹_› | exact n3 ‹_› ‹_› ‹_› ‹_› ‹_› | exact n4 ‹_› ‹_› ‹_› ‹_› ‹_›)))
      ·skip
       refine v_if (!false) True trivial (fun h17 => ?_) (fun h17 => ?_)
       ·have h17 := (nt h17)
        refine v_leave .rt True trivial ?_
        exact v_ret () [] (((fTo (parse [] b).fst k).height = (tnW b).height) ∧ ((fTo (parse [] b).fst k).size = (tnW b).size) ∧ (true = (tnW b).right) ∧ ((fTo (parse [] b).fst k).other.l = (tnW b).other.l) ∧ (7 = tnE b) ∧ (b = b)) ⟨(by ((first | rw [w0 ‹_›] | rw [w1 ‹_› ‹_› ‹_› ‹_› ‹_›] | rw [w2 ‹_› ‹_› ‹_› ‹_› ‹_› ‹_›] | rw [w3 ‹_› ‹_› ‹_› ‹_› ‹_› ‹_› ‹_›] | rw [w3a ‹_› ‹_› ‹_› ‹_› ‹_› ‹_› ‹_›] | rw [w4 ‹_› ‹_› ‹_› ‹_› ‹_› ‹_› ‹_› ‹_›] | rw [w5 ‹_› ‹_› ‹_› ‹_› ‹_› ‹_› ‹_›] | rw [w6 ‹_› ‹_› ‹_›]) <;> (first | rfl | exact (hR1 ‹_›) | exact (hR2 ‹_›) | exact (valRV_eq _) | exact (mk32_of (sumR_len _)).symm | exact sm32 ‹_›))), (by ((first | rw [w0 ‹_›] | rw [w1 ‹_› ‹_› ‹_› ‹_› ‹_›] | rw [w2 ‹_› ‹_› ‹_› ‹_› ‹_› ‹_›] | rw [w3 ‹_› ‹_› ‹_› ‹_› ‹_› ‹_› ‹_›] | rw [w3a ‹_› ‹_› ‹_› ‹_› ‹_› ‹_› ‹_›] | rw [w4 ‹_› ‹_› ‹_› ‹_› ‹_› ‹_› ‹_› ‹_›] | rw [w5 ‹_› ‹_› ‹_› ‹_› ‹_› ‹_› ‹_›] | rw [w6 ‹_› ‹_› ‹_›]) <;> (first | rfl | exact (hR1 ‹_›) | exact (hR2 ‹_›) | exact (valRV_eq _) | exact (mk32_of (sumR_len _)).symm | exact sm32 ‹_›))), (by ((first | rw [w0 ‹_›] | rw [w1 ‹_› ‹_› ‹_› ‹_› ‹_›] | rw [w2 ‹_› ‹_› ‹_› ‹_› ‹_› ‹_›] | rw [w3 ‹_› ‹_› ‹_› ‹_› ‹_› ‹_› ‹_›] | rw [w3a ‹_› ‹_› ‹_› ‹_› ‹_› ‹_› ‹_›] | rw [w4 ‹_› ‹_› ‹_› ‹_› ‹_› ‹_› ‹_› ‹_›] | rw [w5 ‹_› ‹_› ‹_› ‹_› ‹_› ‹_› ‹_›] | rw [w6 ‹_› ‹_› ‹_›]) <;> (first | rfl | exact (hR1 ‹_›) | exact (hR2 ‹_›) | exact (valRV_eq _) | exact (mk32_of (sumR_len _)).symm | exact sm32 ‹_›))), (by ((first | rw [w0 ‹_›] | rw [w1 ‹_› ‹_› ‹_› ‹_› ‹_›] | rw [w2 ‹_› ‹_› ‹_› ‹_› ‹_› ‹_›] | rw [w3 ‹_› ‹_› ‹_› ‹_› ‹_› ‹_› ‹_›] | rw [w3a ‹_› ‹_› ‹_› ‹_› ‹_› ‹_› ‹_›] | rw [w4 ‹_› ‹_› ‹_› ‹_› ‹_› ‹_› ‹_› ‹_›] | rw [w5 ‹_› ‹_› ‹_› ‹_› ‹_› ‹_› ‹_›] | rw [w6 ‹_› ‹_› ‹_›]) <;> (first | rfl | exact (hR1 ‹_›) | exact (hR2 ‹_›) | exact (valRV_eq _) | exact (mk32_of (sumR_len _)).symm | exact sm32 ‹_›))), (by (first | exact ee1 ‹_› ‹_› ‹_› ‹_› ‹_› | exact ee2 ‹_› ‹_› ‹_› ‹_› ‹_› ‹_› | exact ee3 ‹_› ‹_› ‹_› ‹_› ‹_› ‹_› ‹_› | exact ee3a ‹_› ‹_› ‹_› ‹_› ‹_› ‹_› ‹_› | exact ee4 ‹_› ‹_› ‹_› ‹_› ‹_› ‹_› ‹_› ‹_› | exact ee5 ‹_› ‹_› ‹_› ‹_› ‹_› ‹_› ‹_›)), rfl⟩ trivial
       ·have h17 := (nf h17)
        contradiction
     ·have h14 := of_decide_eq_false h14
      refine v_if (decide (((parse [] b).fst.getD (↑k : Int).toNat (Field.mk 0 [])).tag = 4)) True trivial (fun h18 => ?_) (fun h18 => ?_)
      ·have h18 := of_decide_eq_true h18
       refine v_call _ [10] (sum5_ok (((parse [] b).fst.getD (↑k : Int).toNat (Field.mk 0 [])).value)) ((0 ≤ (↑k : Int) ∧ (↑k : Int) < (↑(parse [] b).fst.length : Int)) ∧ (((parse [] b).fst.getD (↑k : Int).toNat (Field.mk 0 [])).value = ((parse [] b).fst.getD (↑k : Int).toNat (Field.mk 0 [])).value)) ⟨(by omega), rfl⟩ (fun g19 p20 => ?_)
       have p20 : True := p20
       refine v_if (!decide (((parse [] b).fst.getD (↑k : Int).toNat (Field.mk 0 [])).value.length = 32)) True trivial (fun h21 => ?_) (fun h21 => ?_)
       ·have h21 := of_decide_eq_false (nt h21)
        refine v_leave .rt True trivial ?_
        exact v_ret () [] (((fTo (parse [] b).fst k).height = (tnW b).height) ∧ ((fTo (parse [] b).fst k).size = (tnW b).size) ∧ ((fTo (parse [] b).fst k).right = (tnW b).right) ∧ (sumR ((parse [] b).fst.getD (↑k : Int).toNat (Field.mk 0 [])).value = (tnW b).other.l) ∧ (7 = tnE b) ∧ (b = b)) ⟨(by ((first | rw [w0 ‹_›] | rw [w1 ‹_› ‹_› ‹_› ‹_› ‹_›] | rw [w2 ‹_› ‹_› ‹_› ‹_› ‹_› ‹_›] | rw [w3 ‹_› ‹_› ‹_› ‹_› ‹_› ‹_› ‹_›] | rw [w3a ‹_› ‹_› ‹_› ‹_› ‹_› ‹_› ‹_›] | rw [w4 ‹_› ‹_› ‹_› ‹_› ‹_› ‹_› ‹_› ‹_›] | rw [w5 ‹_› ‹_› ‹_› ‹_› ‹_› ‹_› ‹_›] | rw [w6 ‹_› ‹_› ‹_›]) <;> (first | rfl | exact (hR1 ‹_›) | exact (hR2 ‹_›) | exact (valRV_eq _) | exact (mk32_of (sumR_len _)).symm | exact sm32 ‹_›))), (by ((first | rw [w0 ‹_›] | rw [w1 ‹_› ‹_› ‹_› ‹_› ‹_›] | rw [w2 ‹_› ‹_› ‹_› ‹_› ‹_› ‹_›] | rw [w3 ‹_› ‹_› ‹_› ‹_› ‹_› ‹_› ‹_›] | rw [w3a ‹_› ‹_› ‹_› ‹_› ‹_› ‹_› ‹_›] | rw [w4 ‹_› ‹_› ‹_› ‹_› ‹_› ‹_› ‹_› ‹_›] | rw [w5 ‹_› ‹_› ‹_› ‹_› ‹_› ‹_› ‹_›] | rw [w6 ‹_› ‹_› ‹_›]) <;> (first | rfl | exact (hR1 ‹_›) | exact (hR2 ‹_›) | exact (valRV_eq _) | exact (mk32_of (sumR_len _)).symm | exact sm32 ‹_›))), (by ((first | rw [w0 ‹_›] | rw [w1 ‹_› ‹_› ‹_› ‹_› ‹_›] | rw [w2 ‹_› ‹_› ‹_› ‹_› ‹_› ‹_›] | rw [w3 ‹_› ‹_› ‹_› ‹_› ‹_› ‹_› ‹_›] | rw [w3a ‹_› ‹_› ‹_› ‹_› ‹_› ‹_› ‹_›] | rw [w4 ‹_› ‹_› ‹_› ‹_› ‹_› ‹_› ‹_› ‹_›] | rw [w5 ‹_› ‹_› ‹_› ‹_› ‹_› ‹_› ‹_›] | rw [w6 ‹_› ‹_› ‹_›]) <;> (first | rfl | exact (hR1 ‹_›) | exact (hR2 ‹_›) | exact (valRV_eq _) | exact (mk32_of (sumR_len _)).symm | exact sm32 ‹_›))), (by ((first | rw [w0 ‹_›] | rw [w1 ‹_› ‹_› ‹_› ‹_› ‹_›] | rw [w2 ‹_› ‹_› ‹_› ‹_› ‹_› ‹_›] | rw [w3 ‹_› ‹_› ‹_› ‹_› ‹_› ‹_› ‹_›] | rw [w3a ‹_› ‹_› ‹_› ‹_› ‹_› ‹_› ‹_›] | rw [w4 ‹_› ‹_› ‹_› ‹_› ‹_› ‹_› ‹_› ‹_›] | rw [w5 ‹_› ‹_› ‹_› ‹_› ‹_› ‹_› ‹_›] | rw [w6 ‹_› ‹_› ‹_›]) <;> (first | rfl | exact (hR1 ‹_›) | exact (hR2 ‹_›) | exact (valRV_eq _) | exact (mk32_of (sumR_len _)).symm | exact sm32 ‹_›))), (by (first | exact ee1 ‹_› ‹_› ‹_› ‹_› ‹_› | exact ee2 ‹_› ‹_› ‹_› ‹_› ‹_› ‹_› | exact ee3 ‹_› ‹_› ‹_› ‹_› ‹_› ‹_› ‹_› | exact ee3a ‹_› ‹_› ‹_› ‹_› ‹_› ‹_› ‹_› | exact ee4 ‹_› ‹_› ‹_› ‹_› ‹_› ‹_› ‹_› ‹_› | exact ee5 ‹_› ‹_› ‹_› ‹_› ‹_› ‹_› ‹_›)), rfl⟩ trivial
       ·have h21 := of_decide_eq_true (nf h21)
        exact v_back (k + 1) [5] ((I64 (↑k + 1)) ∧ ((↑k : Int) + 1 = (↑(k + 1) : Int)) ∧ ((fTo (parse [] b).fst k).height = (fTo (parse [] b).fst (k + 1)).height) ∧ ((fTo (parse [] b).fst k).size = (fTo (parse [] b).fst (k + 1)).size) ∧ ((fTo (parse [] b).fst k).right = (fTo (parse [] b).fst (k + 1)).right) ∧ (sumR ((parse [] b).fst.getD (↑k : Int).toNat (Field.mk 0 [])).value = (fTo (parse [] b).fst (k + 1)).other.l)) ⟨(by exact FJ.i64 ‹_› ‹_›), rfl, (by ((first | rw [s1 ‹_› ‹_›] | rw [s2 ‹_› ‹_› ‹_›] | rw [s3 ‹_› ‹_› ‹_› ‹_›] | rw [s4n ‹_› ‹_› ‹_› ‹_› ‹_› ‹_›]) <;> (first | rfl | exact (hR1 ‹_›) | exact (hR2 ‹_›) | exact (valRV_eq _) | exact (mk32_of (sumR_len _)).symm | exact sm32 ‹_›))), (by ((first | rw [s1 ‹_› ‹_›] | rw [s2 ‹_› ‹_› ‹_›] | rw [s3 ‹_› ‹_› ‹_› ‹_›] | rw [s4n ‹_› ‹_› ‹_› ‹_› ‹_› ‹_›]) <;> (first | rfl | exact (hR1 ‹_›) | exact (hR2 ‹_›) | exact (valRV_eq _) | exact (mk32_of (sumR_len _)).symm | exact sm32 ‹_›))), (by ((first | rw [s1 ‹_› ‹_›] | rw [s2 ‹_› ‹_› ‹_›] | rw [s3 ‹_› ‹_› ‹_› ‹_›] | rw [s4n ‹_› ‹_› ‹_› ‹_› ‹_› ‹_›]) <;> (first | rfl | exact (hR1 ‹_›) | exact (hR2 ‹_›) | exact (valRV_eq _) | exact (mk32_of (sumR_len _)).symm | exact sm32 ‹_›))), (by ((first | rw [s1 ‹_› ‹_›] | rw [s2 ‹_› ‹_› ‹_›] | rw [s3 ‹_› ‹_› ‹_› ‹_›] | rw [s4n ‹_› ‹_› ‹_› ‹_› ‹_› ‹_›]) <;> (first | rfl | exact (hR1 ‹_›) | exact (hR2 ‹_›) | exact (valRV_eq _) | exact (mk32_of (sumR_len _)).symm | exact sm32 ‹_›)))⟩ (show (FJ (parse [] b).fst (k + 1) ∧ FR (parse [] b).fst (k + 1)) ∧ (parse [] b).fst.length - (k + 1) < (parse [] b).fst.length - k from (by exact FR.next ‹_› ‹_› (by first | exact n1 ‹_› ‹_› | exact n2 ‹_› ‹_› ‹_› | exact n3 ‹_› ‹_› ‹_› ‹_› ‹_› | exact n4 ‹_› ‹_› ‹_› ‹_› ‹_›)))
      ·have h18 := of_decide_eq_false h18
       refine v_leave .rt True trivial ?_
       exact v_ret () [] (((fTo (parse [] b).fst k).height = (tnW b).height) ∧ ((fTo (parse [] b).fst k).size = (tnW b).size) ∧ ((fTo (parse [] b).fst k).right = (tnW b).right) ∧ ((fTo (parse [] b).fst k).other.l = (tnW b).other.l) ∧ (8 = tnE b) ∧ (b = b)) ⟨(by ((first | rw [w0 ‹_›] | rw [w1 ‹_› ‹_› ‹_› ‹_› ‹_›] | rw [w2 ‹_› ‹_› ‹_› ‹_› ‹_› ‹_›] | rw [w3 ‹_› ‹_› ‹_› ‹_› ‹_› ‹_› ‹_›] | rw [w3a ‹_› ‹_› ‹_› ‹_› ‹_› ‹_› ‹_›] | rw [w4 ‹_› ‹_› ‹_› ‹_› ‹_› ‹_› ‹_› ‹_›] | rw [w5 ‹_› ‹_› ‹_› ‹_› ‹_› ‹_› ‹_›] | rw [w6 ‹_› ‹_› ‹_›]) <;> (first | rfl | exact (hR1 ‹_›) | exact (hR2 ‹_›) | exact (valRV_eq _) | exact (mk32_of (sumR_len _)).symm | exact sm32 ‹_›))), (by ((first | rw [w0 ‹_›] | rw [w1 ‹_› ‹_› ‹_› ‹_› ‹_›] | rw [w2 ‹_› ‹_› ‹_› ‹_› ‹_› ‹_›] | rw [w3 ‹_› ‹_› ‹_› ‹_› ‹_› ‹_› ‹_›] | rw [w3a ‹_› ‹_› ‹_› ‹_› ‹_› ‹_› ‹_›] | rw [w4 ‹_› ‹_› ‹_› ‹_› ‹_› ‹_› ‹_› ‹_›] | rw [w5 ‹_› ‹_› ‹_› ‹_› ‹_› ‹_› ‹_›] | rw [w6 ‹_› ‹_› ‹_›]) <;> (first | rfl | exact (hR1 ‹_›) | exact (hR2 ‹_›) | exact (valRV_eq _) | exact (mk32_of (sumR_len _)).symm | exact sm32 ‹_›))), (by ((first | rw [w0 ‹_›] | rw [w1 ‹_› ‹_› ‹_› ‹_› ‹_›] | rw [w2 ‹_› ‹_› ‹_› ‹_› ‹_› ‹_›] | rw [w3 ‹_› ‹_› ‹_› ‹_› ‹_› ‹_› ‹_›] | rw [w3a ‹_› ‹_› ‹_› ‹_› ‹_› ‹_› ‹_›] | rw [w4 ‹_› ‹_› ‹_› ‹_› ‹_› ‹_› ‹_› ‹_›] | rw [w5 ‹_› ‹_› ‹_› ‹_› ‹_› ‹_› ‹_›] | rw [w6 ‹_› ‹_› ‹_›]) <;> (first | rfl | exact (hR1 ‹_›) | exact (hR2 ‹_›) | exact (valRV_eq _) | exact (mk32_of (sumR_len _)).symm | exact sm32 ‹_›))), (by ((first | rw [w0 ‹_›] | rw [w1 ‹_› ‹_› ‹_› ‹_› ‹_›] | rw [w2 ‹_› ‹_› ‹_› ‹_› ‹_› ‹_›] | rw [w3 ‹_› ‹_› ‹_› ‹_› ‹_› ‹_› ‹_›] | rw [w3a ‹_› ‹_› ‹_› ‹_› ‹_› ‹_› ‹_›] | rw [w4 ‹_› ‹_› ‹_› ‹_› ‹_› ‹_› ‹_› ‹_›] | rw [w5 ‹_› ‹_› ‹_› ‹_› ‹_› ‹_› ‹_›] | rw [w6 ‹_› ‹_› ‹_›]) <;> (first | rfl | exact (hR1 ‹_›) | exact (hR2 ‹_›) | exact (valRV_eq _) | exact (mk32_of (sumR_len _)).symm | exact sm32 ‹_›))), (by (first | exact ee1 ‹_› ‹_› ‹_› ‹_› ‹_› | exact ee2 ‹_› ‹_› ‹_› ‹_› ‹_› ‹_› | exact ee3 ‹_› ‹_› ‹_› ‹_› ‹_› ‹_› ‹_› | exact ee3a ‹_› ‹_› ‹_› ‹_› ‹_› ‹_› ‹_› | exact ee4 ‹_› ‹_› ‹_› ‹_› ‹_› ‹_› ‹_› ‹_› | exact ee5 ‹_› ‹_› ‹_› ‹_› ‹_› ‹_› ‹_›)), rfl⟩ trivial
  ·have h5 := of_decide_eq_false h5
   refine v_leave (.ex 0) True trivial ?_
   refine v_guard 78 (decide ((↑(parse [] b).fst.length : Int) = 0)) True trivial (fun h22 => ?_) (fun h22 => ?_)
   ·have h22 := of_decide_eq_true h22
    exact v_ret () [] (((fTo (parse [] b).fst k).height = (tnW b).height) ∧ ((fTo (parse [] b).fst k).size = (tnW b).size) ∧ ((fTo (parse [] b).fst k).right = (tnW b).right) ∧ ((fTo (parse [] b).fst k).other.l = (tnW b).other.l) ∧ (8 = tnE b) ∧ (b = b)) ⟨(by ((first | rw [w0 ‹_›] | rw [w1 ‹_› ‹_› ‹_› ‹_› ‹_›] | rw [w2 ‹_› ‹_› ‹_› ‹_› ‹_› ‹_›] | rw [w3 ‹_› ‹_› ‹_› ‹_› ‹_› ‹_› ‹_›] | rw [w3a ‹_› ‹_› ‹_› ‹_› ‹_› ‹_› ‹_›] | rw [w4 ‹_› ‹_› ‹_› ‹_› ‹_› ‹_› ‹_› ‹_›] | rw [w5 ‹_› ‹_› ‹_› ‹_› ‹_› ‹_› ‹_›] | rw [w6 ‹_› ‹_› ‹_›]) <;> (first | rfl | exact (hR1 ‹_›) | exact (hR2 ‹_›) | exact (valRV_eq _) | exact (mk32_of (sumR_len _)).symm | exact sm32 ‹_›))), (by ((first | rw [w0 ‹_›] | rw [w1 ‹_› ‹_› ‹_› ‹_› ‹_›] | rw [w2 ‹_› ‹_› ‹_› ‹_› ‹_› ‹_›] | rw [w3 ‹_› ‹_› ‹_› ‹_› ‹_› ‹_› ‹_›] | rw [w3a ‹_› ‹_› ‹_› ‹_› ‹_› ‹_› ‹_›] | rw [w4 ‹_› ‹_› ‹_› ‹_› ‹_› ‹_› ‹_› ‹_›] | rw [w5 ‹_› ‹_› ‹_› ‹_› ‹_› ‹_› ‹_›] | rw [w6 ‹_› ‹_› ‹_›]) <;> (first | rfl | exact (hR1 ‹_›) | exact (hR2 ‹_›) | exact (valRV_eq _) | exact (mk32_of (sumR_len _)).symm | exact sm32 ‹_›))), (by ((first | rw [w0 ‹_›] | rw [w1 ‹_› ‹_› ‹_› ‹_› ‹_›] | rw [w2 ‹_› ‹_› ‹_› ‹_› ‹_› ‹_›] | rw [w3 ‹_› ‹_› ‹_› ‹_› ‹_› ‹_› ‹_›] | rw [w3a ‹_› ‹_› ‹_› ‹_› ‹_› ‹_› ‹_›] | rw [w4 ‹_› ‹_› ‹_› ‹_› ‹_› ‹_› ‹_› ‹_›] | rw [w5 ‹_› ‹_› ‹_› ‹_› ‹_› ‹_› ‹_›] | rw [w6 ‹_› ‹_› ‹_›]) <;> (first | rfl | exact (hR1 ‹_›) | exact (hR2 ‹_›) | exact (valRV_eq _) | exact (mk32_of (sumR_len _)).symm | exact sm32 ‹_›))), (by ((first | rw [w0 ‹_›] | rw [w1 ‹_› ‹_› ‹_› ‹_› ‹_›] | rw [w2 ‹_› ‹_› ‹_› ‹_› ‹_› ‹_›] | rw [w3 ‹_› ‹_› ‹_› ‹_› ‹_› ‹_› ‹_›] | rw [w3a ‹_› ‹_› ‹_› ‹_› ‹_› ‹_› ‹_›] | rw [w4 ‹_› ‹_› ‹_› ‹_› ‹_› ‹_› ‹_› ‹_›] | rw [w5 ‹_› ‹_› ‹_› ‹_› ‹_› ‹_› ‹_›] | rw [w6 ‹_› ‹_› ‹_›]) <;> (first | rfl | exact (hR1 ‹_›) | exact (hR2 ‹_›) | exact (valRV_eq _) | exact (mk32_of (sumR_len _)).symm | exact sm32 ‹_›))), (by exact tnG5 ‹_› ‹_› ‹_› ‹_›), rfl⟩ trivial
   ·have h22 := of_decide_eq_false h22
    refine v_if (decide (((parse [] b).fst.getD ((↑(parse [] b).fst.length : Int) - 1).toNat (Field.mk 0 [])).tag ≠ 4)) ((I64 (↑(parse [] b).fst.length - 1)) ∧ (0 ≤ (↑(parse [] b).fst.length : Int) - 1 ∧ (↑(parse [] b).fst.length : Int) - 1 < (↑(parse [] b).fst.length : Int))) ⟨(by (have hy := parse_len b; unfold I64; omega)), (by omega)⟩ (fun h23 => ?_) (fun h23 => ?_)
    ·have h23 := of_decide_eq_true h23
     exact v_ret () [] (((fTo (parse [] b).fst k).height = (tnW b).height) ∧ ((fTo (parse [] b).fst k).size = (tnW b).size) ∧ ((fTo (parse [] b).fst k).right = (tnW b).right) ∧ ((fTo (parse [] b).fst k).other.l = (tnW b).other.l) ∧ (8 = tnE b) ∧ (b = b)) ⟨(by ((first | rw [w0 ‹_›] | rw [w1 ‹_› ‹_› ‹_› ‹_› ‹_›] | rw [w2 ‹_› ‹_› ‹_› ‹_› ‹_› ‹_›] | rw [w3 ‹_› ‹_› ‹_› ‹_› ‹_› ‹_› ‹_›] | rw [w3a ‹_› ‹_› ‹_› ‹_› ‹_› ‹_› ‹_›] | rw [w4 ‹_› ‹_› ‹_› ‹_› ‹_› ‹_› ‹_› ‹_›] | rw [w5 ‹_› ‹_› ‹_› ‹_› ‹_› ‹_› ‹_›] | rw [w6 ‹_› ‹_› ‹_›]) <;> (first | rfl | exact (hR1 ‹_›) | exact (hR2 ‹_›) | exact (valRV_eq _) | exact (mk32_of (sumR_len _)).symm | exact sm32 ‹_›))), (by ((first | rw [w0 ‹_›] | rw [w1 ‹_› ‹_› ‹_› ‹_› ‹_›] | rw [w2 ‹_› ‹_› ‹_› ‹_› ‹_› ‹_›] | rw [w3 ‹_› ‹_› ‹_› ‹_› ‹_› ‹_› ‹_›] | rw [w3a ‹_› ‹_› ‹_› ‹_› ‹_› ‹_› ‹_›] | rw [w4 ‹_› ‹_› ‹_› ‹_› ‹_› ‹_› ‹_› ‹_›] | rw [w5 ‹_› ‹_› ‹_› ‹_› ‹_› ‹_› ‹_›] | rw [w6 ‹_› ‹_› ‹_›]) <;> (first | rfl | exact (hR1 ‹_›) | exact (hR2 ‹_›) | exact (valRV_eq _) | exact (mk32_of (sumR_len _)).symm | exact sm32 ‹_›))), (by ((first | rw [w0 ‹_›] | rw [w1 ‹_› ‹_› ‹_› ‹_› ‹_›] | rw [w2 ‹_› ‹_› ‹_› ‹_› ‹_› ‹_›] | rw [w3 ‹_› ‹_› ‹_› ‹_› ‹_› ‹_› ‹_›] | rw [w3a ‹_› ‹_› ‹_› ‹_› ‹_› ‹_› ‹_›] | rw [w4 ‹_› ‹_› ‹_› ‹_› ‹_› ‹_› ‹_› ‹_›] | rw [w5 ‹_› ‹_› ‹_› ‹_› ‹_› ‹_› ‹_›] | rw [w6 ‹_› ‹_› ‹_›]) <;> (first | rfl | exact (hR1 ‹_›) | exact (hR2 ‹_›) | exact (valRV_eq _) | exact (mk32_of (sumR_len _)).symm | exact sm32 ‹_›))), (by ((first | rw [w0 ‹_›] | rw [w1 ‹_› ‹_› ‹_› ‹_› ‹_›] | rw [w2 ‹_› ‹_› ‹_› ‹_› ‹_› ‹_›] | rw [w3 ‹_› ‹_› ‹_› ‹_› ‹_› ‹_› ‹_›] | rw [w3a ‹_› ‹_› ‹_› ‹_› ‹_› ‹_› ‹_›] | rw [w4 ‹_› ‹_› ‹_› ‹_› ‹_› ‹_› ‹_› ‹_›] | rw [w5 ‹_› ‹_› ‹_› ‹_› ‹_› ‹_› ‹_›] | rw [w6 ‹_› ‹_› ‹_›]) <;> (first | rfl | exact (hR1 ‹_›) | exact (hR2 ‹_›) | exact (valRV_eq _) | exact (mk32_of (sumR_len _)).symm | exact sm32 ‹_›))), (by exact (tnG (b := b) (k := k) ‹_› ‹_› ‹_› (by omega) ‹_›).2), rfl⟩ trivial
    ·have h23 := of_decide_eq_false h23
     exact v_ret () [] (((fTo (parse [] b).fst k).height = (tnW b).height) ∧ ((fTo (parse [] b).fst k).size = (tnW b).size) ∧ ((fTo (parse [] b).fst k).right = (tnW b).right) ∧ ((fTo (parse [] b).fst k).other.l = (tnW b).other.l) ∧ (0 = tnE b) ∧ (b = b)) ⟨(by ((first | rw [w0 ‹_›] | rw [w1 ‹_› ‹_› ‹_› ‹_› ‹_›] | rw [w2 ‹_› ‹_› ‹_› ‹_› ‹_› ‹_›] | rw [w3 ‹_› ‹_› ‹_› ‹_› ‹_› ‹_› ‹_›] | rw [w3a ‹_› ‹_› ‹_› ‹_› ‹_› ‹_› ‹_›] | rw [w4 ‹_› ‹_› ‹_› ‹_› ‹_› ‹_› ‹_› ‹_›] | rw [w5 ‹_› ‹_› ‹_› ‹_› ‹_› ‹_› ‹_›] | rw [w6 ‹_› ‹_› ‹_›]) <;> (first | rfl | exact (hR1 ‹_›) | exact (hR2 ‹_›) | exact (valRV_eq _) | exact (mk32_of (sumR_len _)).symm | exact sm32 ‹_›))), (by ((first | rw [w0 ‹_›] | rw [w1 ‹_› ‹_› ‹_› ‹_› ‹_›] | rw [w2 ‹_› ‹_› ‹_› ‹_› ‹_› ‹_›] | rw [w3 ‹_› ‹_› ‹_› ‹_› ‹_› ‹_› ‹_›] | rw [w3a ‹_› ‹_› ‹_› ‹_› ‹_› ‹_› ‹_›] | rw [w4 ‹_› ‹_› ‹_› ‹_› ‹_› ‹_› ‹_› ‹_›] | rw [w5 ‹_› ‹_› ‹_› ‹_› ‹_› ‹_› ‹_›] | rw [w6 ‹_› ‹_› ‹_›]) <;> (first | rfl | exact (hR1 ‹_›) | exact (hR2 ‹_›) | exact (valRV_eq _) | exact (mk32_of (sumR_len _)).symm | exact sm32 ‹_›))), (by ((first | rw [w0 ‹_›] | rw [w1 ‹_› ‹_› ‹_› ‹_› ‹_›] | rw [w2 ‹_› ‹_› ‹_› ‹_› ‹_› ‹_›] | rw [w3 ‹_› ‹_› ‹_› ‹_› ‹_› ‹_› ‹_›] | rw [w3a ‹_› ‹_› ‹_› ‹_› ‹_› ‹_› ‹_›] | rw [w4 ‹_› ‹_› ‹_› ‹_› ‹_› ‹_› ‹_› ‹_›] | rw [w5 ‹_› ‹_› ‹_› ‹_› ‹_› ‹_› ‹_›] | rw [w6 ‹_› ‹_› ‹_›]) <;> (first | rfl | exact (hR1 ‹_›) | exact (hR2 ‹_›) | exact (valRV_eq _) | exact (mk32_of (sumR_len _)).symm | exact sm32 ‹_›))), (by ((first | rw [w0 ‹_›] | rw [w1 ‹_› ‹_› ‹_› ‹_› ‹_›] | rw [w2 ‹_› ‹_› ‹_› ‹_› ‹_› ‹_›] | rw [w3 ‹_› ‹_› ‹_› ‹_› ‹_› ‹_› ‹_›] | rw [w3a ‹_› ‹_› ‹_› ‹_› ‹_› ‹_› ‹_›] | rw [w4 ‹_› ‹_› ‹_› ‹_› ‹_› ‹_› ‹_› ‹_›] | rw [w5 ‹_› ‹_› ‹_› ‹_› ‹_› ‹_› ‹_›] | rw [w6 ‹_› ‹_› ‹_›]) <;> (first | rfl | exact (hR1 ‹_›) | exact (hR2 ‹_›) | exact (valRV_eq _) | exact (mk32_of (sumR_len _)).symm | exact sm32 ‹_›))), (by exact (tnH (b := b) (k := k) ‹_› ‹_› ‹_› (by omega) ‹_›).2), rfl⟩ trivial
def tsFirst : List (List UInt8) → Int
  | [] => 0
  | x :: l => if tnE x ≠ 0 then tnE x else tsFirst l
def dcErr (f : Field) : Int :=
  if f.tag = 1 then 0 else if f.tag = 2 then 0
  else if f.tag = 3 then (if (unpk [] f.value).2 ≠ 0 then (unpk [] f.value).2 else tsFirst (unpk [] f.value).1) else 8
def dcSet (p : Proof) (f : Field) : Proof :=
  if f.tag = 1 then ⟨f.value, p.value, p.turns⟩ else if f.tag = 2 then ⟨p.key, f.value, p.turns⟩
  else if f.tag = 3 then ⟨p.key, p.value, p.turns ++ (unpk [] f.value).1.map tnV⟩ else p
abbrev kP : Proof := ⟨[], [], []⟩
def dTo (l : List Field) (k : Nat) : Proof := (l.take k).foldl dcSet kP
def dFirst : List Field → Int
  | [] => 0
  | f :: l => if dcErr f ≠ 0 then dcErr f else dFirst l
def decE (b : List UInt8) : Int := if (parse [] b).2 ≠ 0 then (parse [] b).2 else if dFirst (parse [] b).1 ≠ 0 then dFirst (parse [] b).1 else encE (dTo (parse [] b).1 (parse [] b).1.length)
def decP (b : List UInt8) : Proof := if (parse [] b).2 ≠ 0 then kP else if dFirst (parse [] b).1 ≠ 0 then kP else if encE (dTo (parse [] b).1 (parse [] b).1.length) ≠ 0 then kP else dTo (parse [] b).1 (parse [] b).1.length
def vSum (l : List Field) : Nat := (l.map fun f => f.value.length).sum
theorem vSum_app (a c : List Field) : vSum (a ++ c) = vSum a + vSum c := by simp [vSum]
theorem parse_sumG : ∀ (n : Nat) (out : List Field) (x : List UInt8), x.length ≤ n → vSum (parse out x).1 ≤ vSum out + x.length := by
  intro n
  induction n with
  | zero => intro out x hx; rw [parse, dif_pos (by omega)]; simp
  | succ n ih =>
    intro out x hx
    rw [parse]
    split
    · simp
    · rename_i h1
      have e1 := pcVR_len (x.drop 1); have e2 := drop1_lt h1
      split
      · simp [vSum]
      · split
        · simp [vSum]
        · split
          · simp [vSum]
          · refine Nat.le_trans (ih _ _ (by omega)) ?_
            rw [vSum_app]
            simp only [vSum, List.map_cons, List.map_nil, List.sum_cons, List.sum_nil]; omega
theorem parse_sum (b : List UInt8) : vSum (parse [] b).1 ≤ b.length := by have := parse_sumG b.length [] b (Nat.le_refl _); simpa [vSum] using this
theorem unpk_lenG : ∀ (n : Nat) (out : List (List UInt8)) (x : List UInt8), x.length ≤ n → (unpk out x).1.length ≤ out.length + x.length := by
  intro n
  induction n with
  | zero => intro out x hx; rw [unpk, dif_pos (by omega)]; simp
  | succ n ih =>
    intro out x hx
    rw [unpk]
    split
    · simp
    · rename_i h1
      have := pcR_lt h1
      split
      · simp
      · refine Nat.le_trans (ih _ _ (by omega)) ?_
        simp only [List.length_append, List.length_cons, List.length_nil]; omega
theorem unpk_len (x : List UInt8) : (unpk [] x).1.length ≤ x.length := by have := unpk_lenG x.length [] x (Nat.le_refl _); simpa using this
theorem unpk_valG : ∀ (n : Nat) (out : List (List UInt8)) (x : List UInt8) (m : Nat), x.length ≤ n → x.length ≤ m → (∀ y ∈ out, y.length ≤ m) → ∀ y ∈ (unpk out x).1, y.length ≤ m := by
  intro n
  induction n with
  | zero => intro out x m hx _ ho; rw [unpk, dif_pos (by omega)]; exact ho
  | succ n ih =>
    intro out x m hx hm ho
    rw [unpk]
    split
    · exact ho
    · rename_i h1
      have e1 := pcR_lt h1
      have e2 := pcVR_len x
      split
      · simp
      · refine ih _ _ m (by omega) (by omega) fun y hy => ?_
        rcases List.mem_append.1 hy with hy | hy
        · exact ho y hy
        · rw [List.mem_singleton.1 hy]; omega
theorem unpk_val {x y : List UInt8} (hy : y ∈ (unpk [] x).1) : y.length ≤ x.length := unpk_valG x.length [] x x.length (Nat.le_refl _) (Nat.le_refl _) (fun _ h => by simp at h) y hy
structure DJ (b : List UInt8) (l : List Field) (k : Nat) : Prop where
  le : k ≤ l.length
  fi : dFirst l = dFirst (l.drop k)
  ky : (dTo l k).key.length ≤ vSum (l.take k)
  vl : (dTo l k).value.length ≤ vSum (l.take k)
  tn : (dTo l k).turns.length ≤ vSum (l.take k)
  sm : vSum l ≤ b.length
section
variable {b : List UInt8} {l : List Field} {k m : Nat} {f : Field} {xs : List (List UInt8)} {T : List Turn}
theorem dTo_succ (hk : (k : Int) < l.length) : dTo l (k + 1) = dcSet (dTo l k) (l.getD (k : Int).toNat kF) := by
  unfold dTo
  rw [Int.toNat_natCast, List.take_add_one, List.getD_eq_getElem?_getD, List.getElem?_eq_getElem (by omega)]
  simp only [Option.toList, List.foldl_append, List.foldl_cons, List.foldl_nil, Option.getD_some]
theorem vSum_succ (hk : (k : Int) < l.length) : vSum (l.take (k + 1)) = vSum (l.take k) + (l.getD (k : Int).toNat kF).value.length := by
  rw [Int.toNat_natCast, List.take_add_one, vSum_app, List.getD_eq_getElem?_getD, List.getElem?_eq_getElem (by omega)]; simp [vSum, Option.toList]
theorem vSum_take (l : List Field) (k : Nat) : vSum (l.take k) ≤ vSum l := by
  have := vSum_app (l.take k) (l.drop k); rw [List.take_append_drop] at this; omega
theorem DJ.start : DJ b (parse [] b).1 0 := ⟨Nat.zero_le _, rfl, Nat.zero_le _, Nat.zero_le _, Nat.zero_le _, parse_sum b⟩
theorem DJ.v (h : DJ b l k) (hk : (k : Int) < l.length) : vSum (l.take k) + (l.getD (k : Int).toNat kF).value.length ≤ b.length := by
  have := vSum_succ hk; have := vSum_take l (k + 1); have := h.sm; omega
theorem DJ.at (h : DJ b l k) (hk : (k : Int) < l.length) : dFirst l = if dcErr (l.getD (k : Int).toNat kF) ≠ 0 then dcErr (l.getD (k : Int).toNat kF) else dFirst (l.drop (k + 1)) := by
  rw [h.fi, List.drop_eq_getElem_cons (by omega), dFirst, Int.toNat_natCast, List.getD_eq_getElem?_getD, List.getElem?_eq_getElem (by omega)]; rfl
theorem DJ.next (h : DJ b l k) (hk : (k : Int) < l.length) (he : dcErr (l.getD (k : Int).toNat kF) = 0) : DJ b l (k + 1) ∧ l.length - (k + 1) < l.length - k := by
  have hs := vSum_succ hk
  have h1 := h.ky; have h2 := h.vl; have h3 := h.tn
  refine ⟨⟨by omega, by rw [h.at hk, if_neg (by rw [he]; decide)], ?_, ?_, ?_, h.sm⟩, by omega⟩ <;> rw [dTo_succ hk, hs] <;> unfold dcSet
  · split
    · show (l.getD (k : Int).toNat kF).value.length ≤ _; omega
    · split
      · show (dTo l k).key.length ≤ _; omega
      · split
        · show (dTo l k).key.length ≤ _; omega
        · omega
  · split
    · show (dTo l k).value.length ≤ _; omega
    · split
      · show (l.getD (k : Int).toNat kF).value.length ≤ _; omega
      · split
        · show (dTo l k).value.length ≤ _; omega
        · omega
  · split
    · show (dTo l k).turns.length ≤ _; omega
    · split
      · show (dTo l k).turns.length ≤ _; omega
      · split
        · show ((dTo l k).turns ++ _).length ≤ _
          have := unpk_len (l.getD (k : Int).toNat kF).value
          rw [List.length_append, List.length_map]; omega
        · omega
theorem dd1 (h : (parse [] b).2 ≠ 0) : kP = decP b ∧ (parse [] b).2 = decE b := by
  refine ⟨?_, ?_⟩
  · unfold decP; rw [if_pos h]
  · unfold decE; rw [if_pos h]
theorem dd2 {e : Int} (hp : ¬ (parse [] b).2 ≠ 0) (h : DJ b (parse [] b).1 k) (hk : (k : Int) < (parse [] b).1.length) (he : dcErr ((parse [] b).1.getD (k : Int).toNat kF) = e) (h0 : e ≠ 0) : kP = decP b ∧ e = decE b := by
  have hf : dFirst (parse [] b).1 = e := by rw [h.at hk, if_pos (by rw [he]; exact h0), he]
  refine ⟨?_, ?_⟩
  · unfold decP; rw [if_neg hp, if_pos (by rw [hf]; exact h0)]
  · unfold decE; rw [if_neg hp, if_pos (by rw [hf]; exact h0), hf]
theorem DJ.stop (h : DJ b l k) (hk : ¬ (k : Int) < l.length) : dFirst l = 0 ∧ k = l.length := by
  have e : k = l.length := by have := h.le; omega
  refine ⟨?_, e⟩
  rw [h.fi, List.drop_of_length_le (by omega)]; rfl
theorem dd3 (hp : ¬ (parse [] b).2 ≠ 0) (h : DJ b (parse [] b).1 k) (hk : ¬ (k : Int) < (parse [] b).1.length) (he : encE (dTo (parse [] b).1 k) ≠ 0) : kP = decP b ∧ encE (dTo (parse [] b).1 k) = decE b := by
  obtain ⟨h1, h2⟩ := h.stop hk
  rw [h2] at he ⊢
  refine ⟨?_, ?_⟩
  · unfold decP; rw [if_neg hp, if_neg (by rw [h1]; decide), if_pos he]
  · unfold decE; rw [if_neg hp, if_neg (by rw [h1]; decide)]
theorem dd4 (hp : ¬ (parse [] b).2 ≠ 0) (h : DJ b (parse [] b).1 k) (hk : ¬ (k : Int) < (parse [] b).1.length) (he : ¬ encE (dTo (parse [] b).1 k) ≠ 0) : dTo (parse [] b).1 k = decP b ∧ 0 = decE b := by
  obtain ⟨h1, h2⟩ := h.stop hk
  rw [h2] at he ⊢
  refine ⟨?_, ?_⟩
  · unfold decP; rw [if_neg hp, if_neg (by rw [h1]; decide), if_neg he]
  · unfold decE; rw [if_neg hp, if_neg (by rw [h1]; decide)]; exact (Decidable.not_not.1 he).symm
theorem de1 (h : f.tag = 1) : dcErr f = 0 := by unfold dcErr; rw [if_pos h]
theorem de2 (h1 : ¬ f.tag = 1) (h : f.tag = 2) : dcErr f = 0 := by unfold dcErr; rw [if_neg h1, if_pos h]
theorem de3 (h1 : ¬ f.tag = 1) (h2 : ¬ f.tag = 2) (h : f.tag = 3) (hv : (unpk [] f.value).2 ≠ 0) : dcErr f = (unpk [] f.value).2 := by unfold dcErr; rw [if_neg h1, if_neg h2, if_pos h, if_pos hv]
theorem de3a (h1 : ¬ f.tag = 1) (h2 : ¬ f.tag = 2) (h : f.tag = 3) (hv : ¬ (unpk [] f.value).2 ≠ 0) : dcErr f = tsFirst (unpk [] f.value).1 := by unfold dcErr; rw [if_neg h1, if_neg h2, if_pos h, if_neg hv]
theorem de5 (h1 : ¬ f.tag = 1) (h2 : ¬ f.tag = 2) (h3 : ¬ f.tag = 3) : dcErr f = 8 := by unfold dcErr; rw [if_neg h1, if_neg h2, if_neg h3]
def TJ (xs : List (List UInt8)) (m : Nat) : Prop := m ≤ xs.length ∧ tsFirst xs = tsFirst (xs.drop m)
theorem TJ.start : TJ xs 0 := ⟨Nat.zero_le _, rfl⟩
theorem TJ.at (h : TJ xs m) (hk : (m : Int) < xs.length) : tsFirst xs = if tnE (xs.getD (m : Int).toNat []) ≠ 0 then tnE (xs.getD (m : Int).toNat []) else tsFirst (xs.drop (m + 1)) := by
  rw [h.2, List.drop_eq_getElem_cons (by omega), tsFirst, Int.toNat_natCast, List.getD_eq_getElem?_getD, List.getElem?_eq_getElem (by omega)]; rfl
theorem TJ.next (h : TJ xs m) (hk : (m : Int) < xs.length) (he : ¬ tnE (xs.getD (m : Int).toNat []) ≠ 0) : TJ xs (m + 1) ∧ xs.length - (m + 1) < xs.length - m :=
  ⟨⟨by omega, by rw [h.at hk, if_neg he]⟩, by omega⟩
theorem TJ.hit (h : TJ xs m) (hk : (m : Int) < xs.length) (he : tnE (xs.getD (m : Int).toNat []) ≠ 0) : tsFirst xs = tnE (xs.getD (m : Int).toNat []) := by rw [h.at hk, if_pos he]
theorem TJ.stop (h : TJ xs m) (hk : ¬ (m : Int) < xs.length) : tsFirst xs = 0 := by rw [h.2, List.drop_of_length_le (by omega)]; rfl
theorem TJ.add (hk : (m : Int) < xs.length) {t : Turn} (ht : t = tnV (xs.getD (m : Int).toNat [])) : T ++ (xs.take m).map tnV ++ [t] = T ++ (xs.take (m + 1)).map tnV := by
  rw [ht, Int.toNat_natCast, List.take_add_one, List.getD_eq_getElem?_getD, List.getElem?_eq_getElem (by omega)]
  simp only [Option.toList, List.map_append, List.map_cons, List.map_nil, Option.getD_some, List.append_assoc]
theorem TJ.addV (hk : (m : Int) < xs.length) : T ++ (xs.take m).map tnV ++ [⟨(tnV (xs.getD (m : Int).toNat [])).height, (tnV (xs.getD (m : Int).toNat [])).size, (tnV (xs.getD (m : Int).toNat [])).right, mk32 (tnV (xs.getD (m : Int).toNat [])).other.l⟩] = T ++ (xs.take (m + 1)).map tnV := TJ.add hk (by rw [mk32_l])
theorem TJ.addW (hk : (m : Int) < xs.length) (he : ¬ tnE (xs.getD (m : Int).toNat []) ≠ 0) : T ++ (xs.take m).map tnV ++ [⟨(tnW (xs.getD (m : Int).toNat [])).height, (tnW (xs.getD (m : Int).toNat [])).size, (tnW (xs.getD (m : Int).toNat [])).right, mk32 (tnW (xs.getD (m : Int).toNat [])).other.l⟩] = T ++ (xs.take (m + 1)).map tnV := TJ.add hk (by rw [mk32_l, tnW_eq (Decidable.not_not.1 he)])
theorem TJ.zero : T = T ++ (xs.take 0).map tnV := by simp
theorem xs_len (hD : DJ b l k) (hk : (k : Int) < l.length) (hb : b.length ≤ 200000) : ((l.getD (k : Int).toNat kF).value).length ≤ 900000 := by have := hD.v hk; omega
theorem x_len (hD : DJ b l k) (hk : (k : Int) < l.length) (hb : b.length ≤ 200000) (hm : (m : Int) < (unpk [] (l.getD (k : Int).toNat kF).value).1.length) : ((unpk [] (l.getD (k : Int).toNat kF).value).1.getD (m : Int).toNat []).length ≤ 900000 := by
  have h0 := hD.v hk
  generalize l.getD (k : Int).toNat kF = f at *
  rw [Int.toNat_natCast, List.getD_eq_getElem?_getD, List.getElem?_eq_getElem (by omega)]
  have := unpk_val (List.getElem_mem (l := (unpk [] f.value).1) (n := m) (by omega))
  show ((unpk [] f.value).1[m]).length ≤ _
  omega
theorem t_len (hD : DJ b l k) (hk : (k : Int) < l.length) (hb : b.length ≤ 200000) (hm : (m : Int) < (unpk [] (l.getD (k : Int).toNat kF).value).1.length) : ((dTo l k).turns ++ ((unpk [] (l.getD (k : Int).toNat kF).value).1.take m).map tnV).length + 1 ≤ 1000000 := by
  have := hD.v hk; have := hD.tn; have := unpk_len (l.getD (k : Int).toNat kF).value
  simp only [List.length_append, List.length_map, List.length_take]; omega
theorem m64 (hD : DJ b l k) (hk : (k : Int) < l.length) (hb : b.length ≤ 200000) (hm : (m : Int) < (unpk [] (l.getD (k : Int).toNat kF).value).1.length) : I64 ((m : Int) + 1) := by
  have := hD.v hk; have := unpk_len (l.getD (k : Int).toNat kF).value; unfold I64; omega
theorem d_s1 (hk : (k : Int) < l.length) (h : (l.getD (k : Int).toNat kF).tag = 1) : dTo l (k + 1) = ⟨(l.getD (k : Int).toNat kF).value, (dTo l k).value, (dTo l k).turns⟩ := by rw [dTo_succ hk, dcSet, if_pos h]
theorem d_s2 (hk : (k : Int) < l.length) (h1 : ¬ (l.getD (k : Int).toNat kF).tag = 1) (h : (l.getD (k : Int).toNat kF).tag = 2) : dTo l (k + 1) = ⟨(dTo l k).key, (l.getD (k : Int).toNat kF).value, (dTo l k).turns⟩ := by rw [dTo_succ hk, dcSet, if_neg h1, if_pos h]
theorem d_s3 (hk : (k : Int) < l.length) (h1 : ¬ (l.getD (k : Int).toNat kF).tag = 1) (h2 : ¬ (l.getD (k : Int).toNat kF).tag = 2) (h : (l.getD (k : Int).toNat kF).tag = 3) : dTo l (k + 1) = ⟨(dTo l k).key, (dTo l k).value, (dTo l k).turns ++ (unpk [] (l.getD (k : Int).toNat kF).value).1.map tnV⟩ := by rw [dTo_succ hk, dcSet, if_neg h1, if_neg h2, if_pos h]
theorem d_t {T : List Turn} (hm : ¬ (m : Int) < xs.length) : T ++ (xs.take m).map tnV = T ++ xs.map tnV := by rw [List.take_of_length_le (by omega)]
theorem DJ.k2 (hD : DJ b l k) (hb : b.length ≤ 200000) : (dTo l k).key.length ≤ 200000 := by have := hD.ky; have := vSum_take l k; have := hD.sm; omega
theorem DJ.v2 (hD : DJ b l k) (hb : b.length ≤ 200000) : (dTo l k).value.length ≤ 200000 := by have := hD.vl; have := vSum_take l k; have := hD.sm; omega
theorem DJ.t2 (hD : DJ b l k) (hb : b.length ≤ 200000) : (dTo l k).turns.length ≤ 1000000 := by have := hD.tn; have := vSum_take l k; have := hD.sm; omega
end
noncomputable def ccK9_36 : Code := (Tryd.f36.body).getD .skip
theorem Decode_ok (b : List UInt8) (hlb : b.length ≤ 200000) : FOk EN 36 ⟨[.rd 5 (b)], [.n 0], Unit, fun _ => ([.rd 5 (b), .rd 5 ((decP b).key), .rd 5 ((decP b).value), .rd 121 (decP b).turns], .t [.a [.n 1, .n 2, .n 3], .i (decE b)]), fun _ => True⟩ := by
 refine v_fun Tryd.f36 ccK9_36 MX (fun ν F σ w => ?_) Tryd.func36
 refine v_nl ?_
 refine v_call _ [0] (parse_ok (b) (by omega)) ((b = b)) rfl (fun g1 p2 => ?_)
 have p2 : True := p2
 refine v_if (decide ((parse [] b).snd ≠ 0)) True trivial (fun h3 => ?_) (fun h3 => ?_)
 ·have h3 := of_decide_eq_true h3
  exact v_ret () [1, 1, 1] (((parse [] b).snd = decE b) ∧ (b = b) ∧ ([] = (decP b).key) ∧ ([] = (decP b).value) ∧ ([] = (decP b).turns)) ⟨(by exact (dd1 ‹_›).2), rfl, (by (rw [← (dd1 ‹_›).1] <;> rfl)), (by (rw [← (dd1 ‹_›).1] <;> rfl)), (by (rw [← (dd1 ‹_›).1] <;> rfl))⟩ trivial
 ·have h3 := of_decide_eq_false h3
  refine v_loop (fun k : Nat => ([(28, .i k), (6, .p 5 0)], [.bx 26 [.n 6, .n 7, .n 8], .rd 5 ((dTo (parse [] b).1 k).key), .rd 5 ((dTo (parse [] b).1 k).value), .ow 121 (dTo (parse [] b).1 k).turns])) (fun k => DJ b (parse [] b).1 k) (fun k => (parse [] b).1.length - k) 0 [4, 1, 1, 1] (((0 : Int) = (↑(0 : Nat) : Int)) ∧ ([] = (dTo (parse [] b).fst 0).key) ∧ ([] = (dTo (parse [] b).fst 0).value) ∧ ([] = (dTo (parse [] b).fst 0).turns)) ⟨rfl, rfl, rfl, rfl⟩ (by exact DJ.start) (fun k hk4 => ?_)
  refine v_if (decide ((↑k : Int) < (↑(parse [] b).fst.length : Int))) True trivial (fun h5 => ?_) (fun h5 => ?_)
  ·have h5 := of_decide_eq_true h5
   refine v_if (decide (((parse [] b).fst.getD (↑k : Int).toNat (Field.mk 0 [])).tag = 1)) ((0 ≤ (↑k : Int) ∧ (↑k : Int) < (↑(parse [] b).fst.length : Int))) (by omega) (fun h6 => ?_) (fun h6 => ?_)
   ·have h6 := of_decide_eq_true h6
    exact v_back (k + 1) [5, 9, 7, 8] ((I64 (↑k + 1)) ∧ ((↑k : Int) + 1 = (↑(k + 1) : Int)) ∧ (((parse [] b).fst.getD (↑k : Int).toNat (Field.mk 0 [])).value = (dTo (parse [] b).fst (k + 1)).key) ∧ ((dTo (parse [] b).fst k).value = (dTo (parse [] b).fst (k + 1)).value) ∧ ((dTo (parse [] b).fst k).turns = (dTo (parse [] b).fst (k + 1)).turns)) ⟨(by (have hy := parse_len b; unfold I64; omega)), rfl, (by ((first | rw [d_s1 ‹_› ‹_›] | rw [d_s2 ‹_› ‹_› ‹_›] | rw [d_s3 ‹_› ‹_› ‹_› ‹_›]) <;> first | rfl | exact d_t ‹_›)), (by ((first | rw [d_s1 ‹_› ‹_›] | rw [d_s2 ‹_› ‹_› ‹_›] | rw [d_s3 ‹_› ‹_› ‹_› ‹_›]) <;> first | rfl | exact d_t ‹_›)), (by ((first | rw [d_s1 ‹_› ‹_›] | rw [d_s2 ‹_› ‹_› ‹_›] | rw [d_s3 ‹_› ‹_› ‹_› ‹_›]) <;> first | rfl | exact d_t ‹_›))⟩ (show DJ b (parse [] b).fst (k + 1) ∧ (parse [] b).fst.length - (k + 1) < (parse [] b).fst.length - k from (by exact DJ.next ‹_› ‹_› (by first | exact de1 ‹_› | exact de2 ‹_› ‹_› | exact (de3a ‹_› ‹_› ‹_› ‹_›).trans (TJ.stop ‹_› ‹_›))))
   ·have h6 := of_decide_eq_false h6
    refine v_if (decide (((parse [] b).fst.getD (↑k : Int).toNat (Field.mk 0 [])).tag = 2)) True trivial (fun h7 => ?_) (fun h7 => ?_)
    ·have h7 := of_decide_eq_true h7
     exact v_back (k + 1) [5, 6, 9, 8] ((I64 (↑k + 1)) ∧ ((↑k : Int) + 1 = (↑(k + 1) : Int)) ∧ ((dTo (parse [] b).fst k).key = (dTo (parse [] b).fst (k + 1)).key) ∧ (((parse [] b).fst.getD (↑k : Int).toNat (Field.mk 0 [])).value = (dTo (parse [] b).fst (k + 1)).value) ∧ ((dTo (parse [] b).fst k).turns = (dTo (parse [] b).fst (k + 1)).turns)) ⟨(by (have hy := parse_len b; unfold I64; omega)), rfl, (by ((first | rw [d_s1 ‹_› ‹_›] | rw [d_s2 ‹_› ‹_› ‹_›] | rw [d_s3 ‹_› ‹_› ‹_› ‹_›]) <;> first | rfl | exact d_t ‹_›)), (by ((first | rw [d_s1 ‹_› ‹_›] | rw [d_s2 ‹_› ‹_› ‹_›] | rw [d_s3 ‹_› ‹_› ‹_› ‹_›]) <;> first | rfl | exact d_t ‹_›)), (by ((first | rw [d_s1 ‹_› ‹_›] | rw [d_s2 ‹_› ‹_› ‹_›] | rw [d_s3 ‹_› ‹_› ‹_› ‹_›]) <;> first | rfl | exact d_t ‹_›))⟩ (show DJ b (parse [] b).fst (k + 1) ∧ (parse [] b).fst.length - (k + 1) < (parse [] b).fst.length - k from (by exact DJ.next ‹_› ‹_› (by first | exact de1 ‹_› | exact de2 ‹_› ‹_› | exact (de3a ‹_› ‹_› ‹_› ‹_›).trans (TJ.stop ‹_› ‹_›))))
    ·have h7 := of_decide_eq_false h7
     refine v_if (decide (((parse [] b).fst.getD (↑k : Int).toNat (Field.mk 0 [])).tag = 3)) True trivial (fun h8 => ?_) (fun h8 => ?_)
     ·have h8 := of_decide_eq_true h8
      refine v_call _ [9] (unpack_ok (((parse [] b).fst.getD (↑k : Int).toNat (Field.mk 0 [])).value) (by exact xs_len ‹_› ‹_› ‹_›)) ((((parse [] b).fst.getD (↑k : Int).toNat (Field.mk 0 [])).value = ((parse [] b).fst.getD (↑k : Int).toNat (Field.mk 0 [])).value)) rfl (fun g9 p10 => ?_)
      have p10 : True := p10
      refine v_if (decide ((unpk [] ((parse [] b).fst.getD (↑k : Int).toNat (Field.mk 0 [])).value).snd ≠ 0)) True trivial (fun h11 => ?_) (fun h11 => ?_)
      ·have h11 := of_decide_eq_true h11
       refine v_leave .rt True trivial ?_
       exact v_ret () [1, 1, 1] (((unpk [] ((parse [] b).fst.getD (↑k : Int).toNat (Field.mk 0 [])).value).snd = decE b) ∧ (b = b) ∧ ([] = (decP b).key) ∧ ([] = (decP b).value) ∧ ([] = (decP b).turns)) ⟨(by exact (dd2 (b := b) (k := k) ‹_› ‹_› ‹_› (by first | exact de3 ‹_› ‹_› ‹_› ‹_› | exact (de3a ‹_› ‹_› ‹_› ‹_›).trans (TJ.hit ‹_› ‹_› ‹_›) | exact de5 ‹_› ‹_› ‹_›) (by first | assumption | decide)).2), rfl, (by (rw [← (dd2 (b := b) (k := k) ‹_› ‹_› ‹_› (by first | exact de3 ‹_› ‹_› ‹_› ‹_› | exact (de3a ‹_› ‹_› ‹_› ‹_›).trans (TJ.hit ‹_› ‹_› ‹_›) | exact de5 ‹_› ‹_› ‹_›) (by first | assumption | decide)).1] <;> rfl)), (by (rw [← (dd2 (b := b) (k := k) ‹_› ‹_› ‹_› (by first | exact de3 ‹_› ‹_› ‹_› ‹_› | exact (de3a ‹_› ‹_› ‹_› ‹_›).trans (TJ.hit ‹_› ‹_› ‹_›) | exact de5 ‹_› ‹_› ‹_›) (by first | assumption | decide)).1] <;> rfl)), (by (rw [← (dd2 (b := b) (k := k) ‹_› ‹_› ‹_› (by first | exact de3 ‹_› ‹_› ‹_› ‹_› | exact (de3a ‹_› ‹_› ‹_› ‹_›).trans (TJ.hit ‹_› ‹_› ‹_›) | exact de5 ‹_› ‹_› ‹_›) (by first | assumption | decide)).1] <;> rfl))⟩ trivial
      ·have h11 := of_decide_eq_false h11
       refine v_loop (fun m : Nat => ([(59, .i m), (6, .p 13 0)], [.bx 26 [.n 6, .n 7, .n 14], .ow 121 ((dTo (parse [] b).1 k).turns ++ ((unpk [] ((parse [] b).1.getD (k : Int).toNat kF).value).1.take m).map tnV)])) (fun m => TJ (unpk [] ((parse [] b).1.getD (k : Int).toNat kF).value).1 m) (fun m => (unpk [] ((parse [] b).1.getD (k : Int).toNat kF).value).1.length - m) 0 [5, 8] (((0 : Int) = (↑(0 : Nat) : Int)) ∧ ((dTo (parse [] b).fst k).turns = (dTo (parse [] b).fst k).turns ++ List.map tnV (List.take 0 (unpk [] ((parse [] b).fst.getD (↑k : Int).toNat kF).value).fst))) ⟨rfl, (by exact TJ.zero)⟩ (by exact TJ.start) (fun m hk12 => ?_)
       refine v_if (decide ((↑m : Int) < (↑(unpk [] ((parse [] b).fst.getD (↑k : Int).toNat (Field.mk 0 [])).value).fst.length : Int))) True trivial (fun h13 => ?_) (fun h13 => ?_)
       ·have h13 := of_decide_eq_true h13
        refine v_call _ [15] (turn_ok ((unpk [] ((parse [] b).fst.getD (↑k : Int).toNat (Field.mk 0 [])).value).fst.getD (↑m : Int).toNat []) (by exact x_len ‹_› ‹_› ‹_› ‹_›)) ((0 ≤ (↑m : Int) ∧ (↑m : Int) < (↑(unpk [] ((parse [] b).fst.getD (↑k : Int).toNat (Field.mk 0 [])).value).fst.length : Int)) ∧ ((unpk [] ((parse [] b).fst.getD (↑k : Int).toNat (Field.mk 0 [])).value).fst.getD (↑m : Int).toNat [] = (unpk [] ((parse [] b).fst.getD (↑k : Int).toNat (Field.mk 0 [])).value).fst.getD (↑m : Int).toNat [])) ⟨(by omega), rfl⟩ (fun g14 p15 => ?_)
        have p15 : True := p15
        refine v_if (decide (tnE ((unpk [] ((parse [] b).fst.getD (↑k : Int).toNat (Field.mk 0 [])).value).fst.getD (↑m : Int).toNat []) ≠ 0)) True trivial (fun h16 => ?_) (fun h16 => ?_)
        ·have h16 := of_decide_eq_true h16
         refine v_leave .rt True trivial ?_
         refine v_leave .rt True trivial ?_
         exact v_ret () [1, 1, 1] ((tnE ((unpk [] ((parse [] b).fst.getD (↑k : Int).toNat (Field.mk 0 [])).value).fst.getD (↑m : Int).toNat []) = decE b) ∧ (b = b) ∧ ([] = (decP b).key) ∧ ([] = (decP b).value) ∧ ([] = (decP b).turns)) ⟨(by exact (dd2 (b := b) (k := k) ‹_› ‹_› ‹_› (by first | exact de3 ‹_› ‹_› ‹_› ‹_› | exact (de3a ‹_› ‹_› ‹_› ‹_›).trans (TJ.hit ‹_› ‹_› ‹_›) | exact de5 ‹_› ‹_› ‹_›) (by first | assumption | decide)).2), rfl, (by (rw [← (dd2 (b := b) (k := k) ‹_› ‹_› ‹_› (by first | exact de3 ‹_› ‹_› ‹_› ‹_› | exact (de3a ‹_› ‹_› ‹_› ‹_›).trans (TJ.hit ‹_› ‹_› ‹_›) | exact de5 ‹_› ‹_› ‹_›) (by first | assumption | decide)).1] <;> rfl)), (by (rw [← (dd2 (b := b) (k := k) ‹_› ‹_› ‹_› (by first | exact de3 ‹_› ‹_› ‹_› ‹_› | exact (de3a ‹_› ‹_› ‹_› ‹_›).trans (TJ.hit ‹_› ‹_› ‹_›) | exact de5 ‹_› ‹_› ‹_›) (by first | assumption | decide)).1] <;> rfl)), (by (rw [← (dd2 (b := b) (k := k) ‹_› ‹_› ‹_› (by first | exact de3 ‹_› ‹_› ‹_› ‹_› | exact (de3a ‹_› ‹_› ‹_› ‹_›).trans (TJ.hit ‹_› ‹_› ‹_›) | exact de5 ‹_› ‹_› ‹_›) (by first | assumption | decide)).1] <;> rfl))⟩ trivial
        ·have h16 := of_decide_eq_false h16
         exact v_back (m + 1) [13, 19] ((((dTo (parse [] b).fst k).turns ++ List.map tnV (List.take m (unpk [] ((parse [] b).fst.getD (↑k : Int).toNat kF).value).fst)).length + 1 ≤ 1000000) ∧ (I64 (↑m + 1)) ∧ ((↑m : Int) + 1 = (↑(m + 1) : Int)) ∧ ((dTo (parse [] b).fst k).turns ++ List.map tnV (List.take m (unpk [] ((parse [] b).fst.getD (↑k : Int).toNat kF).value).fst) ++ [Turn.mk (tnV ((unpk [] ((parse [] b).fst.getD (↑k : Int).toNat (Field.mk 0 [])).value).fst.getD (↑m : Int).toNat [])).height (tnV ((unpk [] ((parse [] b).fst.getD (↑k : Int).toNat (Field.mk 0 [])).value).fst.getD (↑m : Int).toNat [])).size (tnV ((unpk [] ((parse [] b).fst.getD (↑k : Int).toNat (Field.mk 0 [])).value).fst.getD (↑m : Int).toNat [])).right (mk32 (tnV ((unpk [] ((parse [] b).fst.getD (↑k : Int).toNat (Field.mk 0 [])).value).fst.getD (↑m : Int).toNat [])).other.l)] = (dTo (parse [] b).fst k).turns ++ List.map tnV (List.take (m + 1) (unpk [] ((parse [] b).fst.getD (↑k : Int).toNat kF).value).fst))) ⟨(by exact t_len ‹_› ‹_› ‹_› ‹_›), (by exact m64 ‹_› ‹_› ‹_› ‹_›), rfl, (by exact TJ.addV ‹_›)⟩ (show TJ (unpk [] ((parse [] b).fst.getD (↑k : Int).toNat kF).value).fst (m + 1) ∧ (unpk [] ((parse [] b).fst.getD (↑k : Int).toNat kF).value).fst.length - (m + 1) < (unpk [] ((parse [] b).fst.getD (↑k : Int).toNat kF).value).fst.length - m from (by exact TJ.next ‹_› ‹_› ‹_›))
       ·have h13 := of_decide_eq_false h13
        refine v_leave (.ex 3) True trivial ?_
        exact v_back (k + 1) [13, 6, 7, 14] ((I64 (↑k + 1)) ∧ ((↑k : Int) + 1 = (↑(k + 1) : Int)) ∧ ((dTo (parse [] b).fst k).key = (dTo (parse [] b).fst (k + 1)).key) ∧ ((dTo (parse [] b).fst k).value = (dTo (parse [] b).fst (k + 1)).value) ∧ ((dTo (parse [] b).fst k).turns ++ List.map tnV (List.take m (unpk [] ((parse [] b).fst.getD (↑k : Int).toNat kF).value).fst) = (dTo (parse [] b).fst (k + 1)).turns)) ⟨(by (have hy := parse_len b; unfold I64; omega)), rfl, (by ((first | rw [d_s1 ‹_› ‹_›] | rw [d_s2 ‹_› ‹_› ‹_›] | rw [d_s3 ‹_› ‹_› ‹_› ‹_›]) <;> first | rfl | exact d_t ‹_›)), (by ((first | rw [d_s1 ‹_› ‹_›] | rw [d_s2 ‹_› ‹_› ‹_›] | rw [d_s3 ‹_› ‹_› ‹_› ‹_›]) <;> first | rfl | exact d_t ‹_›)), (by ((first | rw [d_s1 ‹_› ‹_›] | rw [d_s2 ‹_› ‹_› ‹_›] | rw [d_s3 ‹_› ‹_› ‹_› ‹_›]) <;> first | rfl | exact d_t ‹_›))⟩ (show DJ b (parse [] b).fst (k + 1) ∧ (parse [] b).fst.length - (k + 1) < (parse [] b).fst.length - k from (by exact DJ.next ‹_› ‹_› (by first | exact de1 ‹_› | exact de2 ‹_› ‹_› | exact (de3a ‹_› ‹_› ‹_› ‹_›).trans (TJ.stop ‹_› ‹_›))))
     ·have h8 := of_decide_eq_false h8
      refine v_leave .rt True trivial ?_
      exact v_ret () [1, 1, 1] ((8 = decE b) ∧ (b = b) ∧ ([] = (decP b).key) ∧ ([] = (decP b).value) ∧ ([] = (decP b).turns)) ⟨(by exact (dd2 (b := b) (k := k) ‹_› ‹_› ‹_› (by first | exact de3 ‹_› ‹_› ‹_› ‹_› | exact (de3a ‹_› ‹_› ‹_› ‹_›).trans (TJ.hit ‹_› ‹_› ‹_›) | exact de5 ‹_› ‹_› ‹_›) (by first | assumption | decide)).2), rfl, (by (rw [← (dd2 (b := b) (k := k) ‹_› ‹_› ‹_› (by first | exact de3 ‹_› ‹_› ‹_› ‹_› | exact (de3a ‹_› ‹_› ‹_› ‹_›).trans (TJ.hit ‹_› ‹_› ‹_›) | exact de5 ‹_› ‹_› ‹_›) (by first | assumption | decide)).1] <;> rfl)), (by (rw [← (dd2 (b := b) (k := k) ‹_› ‹_› ‹_› (by first | exact de3 ‹_› ‹_› ‹_› ‹_› | exact (de3a ‹_› ‹_› ‹_› ‹_›).trans (TJ.hit ‹_› ‹_› ‹_›) | exact de5 ‹_› ‹_› ‹_›) (by first | assumption | decide)).1] <;> rfl)), (by (rw [← (dd2 (b := b) (k := k) ‹_› ‹_› ‹_› (by first | exact de3 ‹_› ‹_› ‹_› ‹_› | exact (de3a ‹_› ‹_› ‹_› ‹_›).trans (TJ.hit ‹_› ‹_› ‹_›) | exact de5 ‹_› ‹_› ‹_›) (by first | assumption | decide)).1] <;> rfl))⟩ trivial
  ·have h5 := of_decide_eq_false h5
   refine v_leave (.ex 0) True trivial ?_
   refine v_call _ [6, 7, 8] (Encode_ok (dTo (parse [] b).fst k) (by exact DJ.k2 ‹_› ‹_›) (by exact DJ.v2 ‹_› ‹_›) (by exact DJ.t2 ‹_› ‹_›)) (((dTo (parse [] b).fst k).key = (dTo (parse [] b).fst k).key) ∧ ((dTo (parse [] b).fst k).value = (dTo (parse [] b).fst k).value) ∧ ((dTo (parse [] b).fst k).turns = (dTo (parse [] b).fst k).turns)) ⟨rfl, rfl, rfl⟩ (fun g17 p18 => ?_)
   have p18 : True := p18
   refine v_if (decide (encE (dTo (parse [] b).fst k) ≠ 0)) True trivial (fun h19 => ?_) (fun h19 => ?_)
   ·have h19 := of_decide_eq_true h19
    exact v_ret () [1, 1, 1] ((encE (dTo (parse [] b).fst k) = decE b) ∧ (b = b) ∧ ([] = (decP b).key) ∧ ([] = (decP b).value) ∧ ([] = (decP b).turns)) ⟨(by exact (dd3 ‹_› ‹_› ‹_› ‹_›).2), rfl, (by (rw [← (dd3 (b := b) (k := k) ‹_› ‹_› ‹_› ‹_›).1] <;> rfl)), (by (rw [← (dd3 (b := b) (k := k) ‹_› ‹_› ‹_› ‹_›).1] <;> rfl)), (by (rw [← (dd3 (b := b) (k := k) ‹_› ‹_› ‹_› ‹_›).1] <;> rfl))⟩ trivial
   ·have h19 := of_decide_eq_false h19
    exact v_ret () [6, 7, 8] ((0 = decE b) ∧ (b = b) ∧ ((dTo (parse [] b).fst k).key = (decP b).key) ∧ ((dTo (parse [] b).fst k).value = (decP b).value) ∧ ((dTo (parse [] b).fst k).turns = (decP b).turns)) ⟨(by exact (dd4 ‹_› ‹_› ‹_› ‹_›).2), rfl, (by (rw [← (dd4 (b := b) (k := k) ‹_› ‹_› ‹_› ‹_›).1])), (by (rw [← (dd4 (b := b) (k := k) ‹_› ‹_› ‹_› ‹_›).1])), (by (rw [← (dd4 (b := b) (k := k) ‹_› ‹_› ‹_› ‹_›).1]))⟩ trivial
noncomputable def ccK10_37 : Code := (Tryd.f37.body).getD .skip
theorem DecodeProof_ok (b : List UInt8) (hlb : b.length ≤ 200000) : FOk EN 37 ⟨[.rd 5 (b)], [.n 0], Unit, fun _ => ([.rd 5 (b), .rd 5 ((decP b).key), .rd 5 ((decP b).value), .rd 121 (decP b).turns], .t [.a [.n 1, .n 2, .n 3], .i (decE b)]), fun _ => True⟩ := by
 refine v_fun Tryd.f37 ccK10_37 MX (fun ν F σ w => ?_) Tryd.func37
 refine v_nl ?_
 refine v_call _ [0] (rparse_ok (b) (by omega)) ((b = b)) rfl (fun g1 p2 => ?_)
 have p2 : True := p2
 refine v_if (decide ((parse [] b).snd ≠ 0)) True trivial (fun h3 => ?_) (fun h3 => ?_)
 ·have h3 := of_decide_eq_true h3
  exact v_ret () [1, 1, 1] (((parse [] b).snd = decE b) ∧ (b = b) ∧ ([] = (decP b).key) ∧ ([] = (decP b).value) ∧ ([] = (decP b).turns)) ⟨(by exact (dd1 ‹_›).2), rfl, (by (rw [← (dd1 ‹_›).1] <;> rfl)), (by (rw [← (dd1 ‹_›).1] <;> rfl)), (by (rw [← (dd1 ‹_›).1] <;> rfl))⟩ trivial
 ·have h3 := of_decide_eq_false h3
  refine v_loop (fun k : Nat => ([(7, .i k), (4, .p 5 0)], [.bx 26 [.n 6, .n 7, .n 8], .rd 5 ((dTo (parse [] b).1 k).key), .rd 5 ((dTo (parse [] b).1 k).value), .ow 121 (dTo (parse [] b).1 k).turns])) (fun k => DJ b (parse [] b).1 k) (fun k => (parse [] b).1.length - k) 0 [3, 1, 1, 1] (((0 : Int) = (↑(0 : Nat) : Int)) ∧ ([] = (dTo (parse [] b).fst 0).key) ∧ ([] = (dTo (parse [] b).fst 0).value) ∧ ([] = (dTo (parse [] b).fst 0).turns)) ⟨rfl, rfl, rfl, rfl⟩ (by exact DJ.start) (fun k hk4 => ?_)
  refine v_if (decide ((↑k : Int) < (↑(parse [] b).fst.length : Int))) True trivial (fun h5 => ?_) (fun h5 => ?_)
  ·have h5 := of_decide_eq_true h5
   refine v_if (decide (((parse [] b).fst.getD (↑k : Int).toNat (Field.mk 0 [])).tag = 1)) ((0 ≤ (↑k : Int) ∧ (↑k : Int) < (↑(parse [] b).fst.length : Int))) (by omega) (fun h6 => ?_) (fun h6 => ?_)
   ·have h6 := of_decide_eq_true h6
    exact v_back (k + 1) [5, 11, 7, 8] ((0 ≤ (↑k : Int) ∧ (↑k : Int) < (↑(parse [] b).fst.length : Int)) ∧ (I64 (↑k + 1)) ∧ ((↑k : Int) + 1 = (↑(k + 1) : Int)) ∧ (((parse [] b).fst.getD (↑k : Int).toNat (Field.mk 0 [])).value = (dTo (parse [] b).fst (k + 1)).key) ∧ ((dTo (parse [] b).fst k).value = (dTo (parse [] b).fst (k + 1)).value) ∧ ((dTo (parse [] b).fst k).turns = (dTo (parse [] b).fst (k + 1)).turns)) ⟨(by omega), (by (have hy := parse_len b; unfold I64; omega)), rfl, (by ((first | rw [d_s1 ‹_› ‹_›] | rw [d_s2 ‹_› ‹_› ‹_›] | rw [d_s3 ‹_› ‹_› ‹_› ‹_›]) <;> first | rfl | exact d_t ‹_›)), (by ((first | rw [d_s1 ‹_› ‹_›] | rw [d_s2 ‹_› ‹_› ‹_›] | rw [d_s3 ‹_› ‹_› ‹_› ‹_›]) <;> first | rfl | exact d_t ‹_›)), (by ((first | rw [d_s1 ‹_› ‹_›] | rw [d_s2 ‹_› ‹_› ‹_›] | rw [d_s3 ‹_› ‹_› ‹_› ‹_›]) <;> first | rfl | exact d_t ‹_›))⟩ (show DJ b (parse [] b).fst (k + 1) ∧ (parse [] b).fst.length - (k + 1) < (parse [] b).fst.length - k from (by exact DJ.next ‹_› ‹_› (by first | exact de1 ‹_› | exact de2 ‹_› ‹_› | exact (de3a ‹_› ‹_› ‹_› ‹_›).trans (TJ.stop ‹_› ‹_›))))
   ·have h6 := of_decide_eq_false h6
    refine v_if (decide (((parse [] b).fst.getD (↑k : Int).toNat (Field.mk 0 [])).tag = 2)) True trivial (fun h7 => ?_) (fun h7 => ?_)
    ·have h7 := of_decide_eq_true h7
     exact v_back (k + 1) [5, 6, 11, 8] ((0 ≤ (↑k : Int) ∧ (↑k : Int) < (↑(parse [] b).fst.length : Int)) ∧ (I64 (↑k + 1)) ∧ ((↑k : Int) + 1 = (↑(k + 1) : Int)) ∧ ((dTo (parse [] b).fst k).key = (dTo (parse [] b).fst (k + 1)).key) ∧ (((parse [] b).fst.getD (↑k : Int).toNat (Field.mk 0 [])).value = (dTo (parse [] b).fst (k + 1)).value) ∧ ((dTo (parse [] b).fst k).turns = (dTo (parse [] b).fst (k + 1)).turns)) ⟨(by omega), (by (have hy := parse_len b; unfold I64; omega)), rfl, (by ((first | rw [d_s1 ‹_› ‹_›] | rw [d_s2 ‹_› ‹_› ‹_›] | rw [d_s3 ‹_› ‹_› ‹_› ‹_›]) <;> first | rfl | exact d_t ‹_›)), (by ((first | rw [d_s1 ‹_› ‹_›] | rw [d_s2 ‹_› ‹_› ‹_›] | rw [d_s3 ‹_› ‹_› ‹_› ‹_›]) <;> first | rfl | exact d_t ‹_›)), (by ((first | rw [d_s1 ‹_› ‹_›] | rw [d_s2 ‹_› ‹_› ‹_›] | rw [d_s3 ‹_› ‹_› ‹_› ‹_›]) <;> first | rfl | exact d_t ‹_›))⟩ (show DJ b (parse [] b).fst (k + 1) ∧ (parse [] b).fst.length - (k + 1) < (parse [] b).fst.length - k from (by exact DJ.next ‹_› ‹_› (by first | exact de1 ‹_› | exact de2 ‹_› ‹_› | exact (de3a ‹_› ‹_› ‹_› ‹_›).trans (TJ.stop ‹_› ‹_›))))
    ·have h7 := of_decide_eq_false h7
     refine v_if (decide (((parse [] b).fst.getD (↑k : Int).toNat (Field.mk 0 [])).tag = 3)) True trivial (fun h8 => ?_) (fun h8 => ?_)
     ·have h8 := of_decide_eq_true h8
      refine v_call _ [11] (unpackr_ok (((parse [] b).fst.getD (↑k : Int).toNat (Field.mk 0 [])).value) (by exact xs_len ‹_› ‹_› ‹_›)) ((0 ≤ (↑k : Int) ∧ (↑k : Int) < (↑(parse [] b).fst.length : Int)) ∧ (((parse [] b).fst.getD (↑k : Int).toNat (Field.mk 0 [])).value = ((parse [] b).fst.getD (↑k : Int).toNat (Field.mk 0 [])).value)) ⟨(by omega), rfl⟩ (fun g9 p10 => ?_)
      have p10 : True := p10
      refine v_if (decide ((unpk [] ((parse [] b).fst.getD (↑k : Int).toNat (Field.mk 0 [])).value).snd ≠ 0)) True trivial (fun h11 => ?_) (fun h11 => ?_)
      ·have h11 := of_decide_eq_true h11
       refine v_leave .rt True trivial ?_
       exact v_ret () [1, 1, 1] (((unpk [] ((parse [] b).fst.getD (↑k : Int).toNat (Field.mk 0 [])).value).snd = decE b) ∧ (b = b) ∧ ([] = (decP b).key) ∧ ([] = (decP b).value) ∧ ([] = (decP b).turns)) ⟨(by exact (dd2 (b := b) (k := k) ‹_› ‹_› ‹_› (by first | exact de3 ‹_› ‹_› ‹_› ‹_› | exact (de3a ‹_› ‹_› ‹_› ‹_›).trans (TJ.hit ‹_› ‹_› ‹_›) | exact de5 ‹_› ‹_› ‹_›) (by first | assumption | decide)).2), rfl, (by (rw [← (dd2 (b := b) (k := k) ‹_› ‹_› ‹_› (by first | exact de3 ‹_› ‹_› ‹_› ‹_› | exact (de3a ‹_› ‹_› ‹_› ‹_›).trans (TJ.hit ‹_› ‹_› ‹_›) | exact de5 ‹_› ‹_› ‹_›) (by first | assumption | decide)).1] <;> rfl)), (by (rw [← (dd2 (b := b) (k := k) ‹_› ‹_› ‹_› (by first | exact de3 ‹_› ‹_› ‹_› ‹_› | exact (de3a ‹_› ‹_› ‹_› ‹_›).trans (TJ.hit ‹_› ‹_› ‹_›) | exact de5 ‹_› ‹_› ‹_›) (by first | assumption | decide)).1] <;> rfl)), (by (rw [← (dd2 (b := b) (k := k) ‹_› ‹_› ‹_› (by first | exact de3 ‹_› ‹_› ‹_› ‹_› | exact (de3a ‹_› ‹_› ‹_› ‹_›).trans (TJ.hit ‹_› ‹_› ‹_›) | exact de5 ‹_› ‹_› ‹_›) (by first | assumption | decide)).1] <;> rfl))⟩ trivial
      ·have h11 := of_decide_eq_false h11
       refine v_loop (fun m : Nat => ([(10, .i m), (4, .p 14 0)], [.bx 26 [.n 6, .n 7, .n 15], .ow 121 ((dTo (parse [] b).1 k).turns ++ ((unpk [] ((parse [] b).1.getD (k : Int).toNat kF).value).1.take m).map tnV)])) (fun m => TJ (unpk [] ((parse [] b).1.getD (k : Int).toNat kF).value).1 m) (fun m => (unpk [] ((parse [] b).1.getD (k : Int).toNat kF).value).1.length - m) 0 [5, 8] (((0 : Int) = (↑(0 : Nat) : Int)) ∧ ((dTo (parse [] b).fst k).turns = (dTo (parse [] b).fst k).turns ++ List.map tnV (List.take 0 (unpk [] ((parse [] b).fst.getD (↑k : Int).toNat kF).value).fst))) ⟨rfl, (by exact TJ.zero)⟩ (by exact TJ.start) (fun m hk12 => ?_)
       refine v_if (decide ((↑m : Int) < (↑(unpk [] ((parse [] b).fst.getD (↑k : Int).toNat (Field.mk 0 [])).value).fst.length : Int))) True trivial (fun h13 => ?_) (fun h13 => ?_)
       ·have h13 := of_decide_eq_true h13
        refine v_call _ [16] (turn5_ok ((unpk [] ((parse [] b).fst.getD (↑k : Int).toNat (Field.mk 0 [])).value).fst.getD (↑m : Int).toNat []) (by exact x_len ‹_› ‹_› ‹_› ‹_›)) ((0 ≤ (↑m : Int) ∧ (↑m : Int) < (↑(unpk [] ((parse [] b).fst.getD (↑k : Int).toNat (Field.mk 0 [])).value).fst.length : Int)) ∧ ((unpk [] ((parse [] b).fst.getD (↑k : Int).toNat (Field.mk 0 [])).value).fst.getD (↑m : Int).toNat [] = (unpk [] ((parse [] b).fst.getD (↑k : Int).toNat (Field.mk 0 [])).value).fst.getD (↑m : Int).toNat [])) ⟨(by omega), rfl⟩ (fun g14 p15 => ?_)
        have p15 : True := p15
        refine v_if (decide (tnE ((unpk [] ((parse [] b).fst.getD (↑k : Int).toNat (Field.mk 0 [])).value).fst.getD (↑m : Int).toNat []) ≠ 0)) True trivial (fun h16 => ?_) (fun h16 => ?_)
        ·have h16 := of_decide_eq_true h16
         refine v_leave .rt True trivial ?_
         refine v_leave .rt True trivial ?_
         exact v_ret () [1, 1, 1] ((tnE ((unpk [] ((parse [] b).fst.getD (↑k : Int).toNat (Field.mk 0 [])).value).fst.getD (↑m : Int).toNat []) = decE b) ∧ (b = b) ∧ ([] = (decP b).key) ∧ ([] = (decP b).value) ∧ ([] = (decP b).turns)) ⟨(by exact (dd2 (b := b) (k := k) ‹_› ‹_› ‹_› (by first | exact de3 ‹_› ‹_› ‹_› ‹_› | exact (de3a ‹_› ‹_› ‹_› ‹_›).trans (TJ.hit ‹_› ‹_› ‹_›) | exact de5 ‹_› ‹_› ‹_›) (by first | assumption | decide)).2), rfl, (by (rw [← (dd2 (b := b) (k := k) ‹_› ‹_› ‹_› (by first | exact de3 ‹_› ‹_› ‹_› ‹_› | exact (de3a ‹_› ‹_› ‹_› ‹_›).trans (TJ.hit ‹_› ‹_› ‹_›) | exact de5 ‹_› ‹_› ‹_›) (by first | assumption | decide)).1] <;> rfl)), (by (rw [← (dd2 (b := b) (k := k) ‹_› ‹_› ‹_› (by first | exact de3 ‹_› ‹_› ‹_› ‹_› | exact (de3a ‹_› ‹_› ‹_› ‹_›).trans (TJ.hit ‹_› ‹_› ‹_›) | exact de5 ‹_› ‹_› ‹_›) (by first | assumption | decide)).1] <;> rfl)), (by (rw [← (dd2 (b := b) (k := k) ‹_› ‹_› ‹_› (by first | exact de3 ‹_› ‹_› ‹_› ‹_› | exact (de3a ‹_› ‹_› ‹_› ‹_›).trans (TJ.hit ‹_› ‹_› ‹_›) | exact de5 ‹_› ‹_› ‹_›) (by first | assumption | decide)).1] <;> rfl))⟩ trivial
        ·have h16 := of_decide_eq_false h16
         exact v_back (m + 1) [14, 20] ((((dTo (parse [] b).fst k).turns ++ List.map tnV (List.take m (unpk [] ((parse [] b).fst.getD (↑k : Int).toNat kF).value).fst)).length + 1 ≤ 1000000) ∧ (I64 (↑m + 1)) ∧ ((↑m : Int) + 1 = (↑(m + 1) : Int)) ∧ ((dTo (parse [] b).fst k).turns ++ List.map tnV (List.take m (unpk [] ((parse [] b).fst.getD (↑k : Int).toNat kF).value).fst) ++ [Turn.mk (tnW ((unpk [] ((parse [] b).fst.getD (↑k : Int).toNat (Field.mk 0 [])).value).fst.getD (↑m : Int).toNat [])).height (tnW ((unpk [] ((parse [] b).fst.getD (↑k : Int).toNat (Field.mk 0 [])).value).fst.getD (↑m : Int).toNat [])).size (tnW ((unpk [] ((parse [] b).fst.getD (↑k : Int).toNat (Field.mk 0 [])).value).fst.getD (↑m : Int).toNat [])).right (mk32 (tnW ((unpk [] ((parse [] b).fst.getD (↑k : Int).toNat (Field.mk 0 [])).value).fst.getD (↑m : Int).toNat [])).other.l)] = (dTo (parse [] b).fst k).turns ++ List.map tnV (List.take (m + 1) (unpk [] ((parse [] b).fst.getD (↑k : Int).toNat kF).value).fst))) ⟨(by exact t_len ‹_› ‹_› ‹_› ‹_›), (by exact m64 ‹_› ‹_› ‹_› ‹_›), rfl, (by exact TJ.addW ‹_› ‹_›)⟩ (show TJ (unpk [] ((parse [] b).fst.getD (↑k : Int).toNat kF).value).fst (m + 1) ∧ (unpk [] ((parse [] b).fst.getD (↑k : Int).toNat kF).value).fst.length - (m + 1) < (unpk [] ((parse [] b).fst.getD (↑k : Int).toNat kF).value).fst.length - m from (by exact TJ.next ‹_› ‹_› ‹_›))
       ·have h13 := of_decide_eq_false h13
        refine v_leave (.ex 3) True trivial ?_
        exact v_back (k + 1) [14, 6, 7, 15] ((I64 (↑k + 1)) ∧ ((↑k : Int) + 1 = (↑(k + 1) : Int)) ∧ ((dTo (parse [] b).fst k).key = (dTo (parse [] b).fst (k + 1)).key) ∧ ((dTo (parse [] b).fst k).value = (dTo (parse [] b).fst (k + 1)).value) ∧ ((dTo (parse [] b).fst k).turns ++ List.map tnV (List.take m (unpk [] ((parse [] b).fst.getD (↑k : Int).toNat kF).value).fst) = (dTo (parse [] b).fst (k + 1)).turns)) ⟨(by (have hy := parse_len b; unfold I64; omega)), rfl, (by ((first | rw [d_s1 ‹_› ‹_›] | rw [d_s2 ‹_› ‹_› ‹_›] | rw [d_s3 ‹_› ‹_› ‹_› ‹_›]) <;> first | rfl | exact d_t ‹_›)), (by ((first | rw [d_s1 ‹_› ‹_›] | rw [d_s2 ‹_› ‹_› ‹_›] | rw [d_s3 ‹_› ‹_› ‹_› ‹_›]) <;> first | rfl | exact d_t ‹_›)), (by ((first | rw [d_s1 ‹_› ‹_›] | rw [d_s2 ‹_› ‹_› ‹_›] | rw [d_s3 ‹_› ‹_› ‹_› ‹_›]) <;> first | rfl | exact d_t ‹_›))⟩ (show DJ b (parse [] b).fst (k + 1) ∧ (parse [] b).fst.length - (k + 1) < (parse [] b).fst.length - k from (by exact DJ.next ‹_› ‹_› (by first | exact de1 ‹_› | exact de2 ‹_› ‹_› | exact (de3a ‹_› ‹_› ‹_› ‹_›).trans (TJ.stop ‹_› ‹_›))))
     ·have h8 := of_decide_eq_false h8
      refine v_leave .rt True trivial ?_
      exact v_ret () [1, 1, 1] ((8 = decE b) ∧ (b = b) ∧ ([] = (decP b).key) ∧ ([] = (decP b).value) ∧ ([] = (decP b).turns)) ⟨(by exact (dd2 (b := b) (k := k) ‹_› ‹_› ‹_› (by first | exact de3 ‹_› ‹_› ‹_› ‹_› | exact (de3a ‹_› ‹_› ‹_› ‹_›).trans (TJ.hit ‹_› ‹_› ‹_›) | exact de5 ‹_› ‹_› ‹_›) (by first | assumption | decide)).2), rfl, (by (rw [← (dd2 (b := b) (k := k) ‹_› ‹_› ‹_› (by first | exact de3 ‹_› ‹_› ‹_› ‹_› | exact (de3a ‹_› ‹_› ‹_› ‹_›).trans (TJ.hit ‹_› ‹_› ‹_›) | exact de5 ‹_› ‹_› ‹_›) (by first | assumption | decide)).1] <;> rfl)), (by (rw [← (dd2 (b := b) (k := k) ‹_› ‹_› ‹_› (by first | exact de3 ‹_› ‹_› ‹_› ‹_› | exact (de3a ‹_› ‹_› ‹_› ‹_›).trans (TJ.hit ‹_› ‹_› ‹_›) | exact de5 ‹_› ‹_› ‹_›) (by first | assumption | decide)).1] <;> rfl)), (by (rw [← (dd2 (b := b) (k := k) ‹_› ‹_› ‹_› (by first | exact de3 ‹_› ‹_› ‹_› ‹_› | exact (de3a ‹_› ‹_› ‹_› ‹_›).trans (TJ.hit ‹_› ‹_› ‹_›) | exact de5 ‹_› ‹_› ‹_›) (by first | assumption | decide)).1] <;> rfl))⟩ trivial
  ·have h5 := of_decide_eq_false h5
   refine v_leave (.ex 0) True trivial ?_
   refine v_call _ [6, 7, 8] (EncodeProof_ok (dTo (parse [] b).fst k) (by exact DJ.k2 ‹_› ‹_›) (by exact DJ.v2 ‹_› ‹_›) (by exact DJ.t2 ‹_› ‹_›)) (((dTo (parse [] b).fst k).key = (dTo (parse [] b).fst k).key) ∧ ((dTo (parse [] b).fst k).value = (dTo (parse [] b).fst k).value) ∧ ((dTo (parse [] b).fst k).turns = (dTo (parse [] b).fst k).turns)) ⟨rfl, rfl, rfl⟩ (fun g17 p18 => ?_)
   have p18 : True := p18
   refine v_if (decide (encE (dTo (parse [] b).fst k) ≠ 0)) True trivial (fun h19 => ?_) (fun h19 => ?_)
   ·have h19 := of_decide_eq_true h19
    exact v_ret () [1, 1, 1] ((encE (dTo (parse [] b).fst k) = decE b) ∧ (b = b) ∧ ([] = (decP b).key) ∧ ([] = (decP b).value) ∧ ([] = (decP b).turns)) ⟨(by exact (dd3 ‹_› ‹_› ‹_› ‹_›).2), rfl, (by (rw [← (dd3 (b := b) (k := k) ‹_› ‹_› ‹_› ‹_›).1] <;> rfl)), (by (rw [← (dd3 (b := b) (k := k) ‹_› ‹_› ‹_› ‹_›).1] <;> rfl)), (by (rw [← (dd3 (b := b) (k := k) ‹_› ‹_› ‹_› ‹_›).1] <;> rfl))⟩ trivial
   ·have h19 := of_decide_eq_false h19
    exact v_ret () [6, 7, 8] ((0 = decE b) ∧ (b = b) ∧ ((dTo (parse [] b).fst k).key = (decP b).key) ∧ ((dTo (parse [] b).fst k).value = (decP b).value) ∧ ((dTo (parse [] b).fst k).turns = (decP b).turns)) ⟨(by exact (dd4 ‹_› ‹_› ‹_› ‹_›).2), rfl, (by (rw [← (dd4 (b := b) (k := k) ‹_› ‹_› ‹_› ‹_›).1])), (by (rw [← (dd4 (b := b) (k := k) ‹_› ‹_› ‹_› ‹_›).1])), (by (rw [← (dd4 (b := b) (k := k) ‹_› ‹_› ‹_› ‹_›).1]))⟩ trivial
def gE (o : Option Proof) : Int := if o.isNone = true then 0 else if encE (gp o) ≠ 0 then encE (gp o) else putE (encB (gp o))
def gB (b : List UInt8) (tag : UInt8) (o : Option Proof) : List UInt8 := if o.isNone = true then b else putF b tag (encB (gp o))
def egE (l r : Option Proof) : Int := if gE l ≠ 0 then gE l else gE r
def egB (l r : Option Proof) : List UInt8 := if gE l ≠ 0 then [] else if gE r ≠ 0 then [] else gB (gB [] 1 l) 2 r
def gTo (l r : Option Proof) : Nat → List UInt8
  | 0 => []
  | 1 => gB [] 1 l
  | _ => gB (gB [] 1 l) 2 r
def EI (l r : Option Proof) (i : Nat) : Prop := i ≤ 2 ∧ (1 ≤ i → gE l = 0) ∧ (2 ≤ i → gE r = 0)
section
variable {l r o : Option Proof} {i : Nat}
theorem encB_len (p : Proof) : (encB p).length ≤ p.key.length + p.value.length + 5000 := by
  unfold encB
  split
  · simp
  · split
    · simp
    · split
      · simp
      · split
        · simp
        · have h1 := putF_len [] 1 p.key
          have h2 := putF_len (putF [] 1 p.key) 2 p.value
          have h3 := putF_len (putF (putF [] 1 p.key) 2 p.value) 3 (tnP p)
          have h4 : (tnP p).length ≤ 4032 := by
            have := pack_tn (ts := p.turns) (by omega); unfold tnP; rwa [List.length_map] at this
          rw [List.length_nil] at h1; omega
theorem EI.start : EI l r 0 := ⟨by omega, by omega, by omega⟩
theorem EI.it (h : EI l r i) (hi : (i : Int) < (2 : Nat)) : (i = 0 ∧ [l, r].getD (i : Int).toNat none = l) ∨ (i = 1 ∧ [l, r].getD (i : Int).toNat none = r) := by
  have : i = 0 ∨ i = 1 := by omega
  rcases this with rfl | rfl
  · exact .inl ⟨rfl, rfl⟩
  · exact .inr ⟨rfl, rfl⟩
theorem EI.next (h : EI l r i) (hi : (i : Int) < (2 : Nat)) (hs : gE ([l, r].getD (i : Int).toNat none) = 0) : EI l r (i + 1) ∧ 2 - (i + 1) < 2 - i := by
  refine ⟨?_, by omega⟩
  rcases h.it hi with ⟨rfl, e1⟩ | ⟨rfl, e1⟩
  · rw [e1] at hs; exact ⟨by omega, fun _ => hs, by omega⟩
  · rw [e1] at hs; exact ⟨by omega, fun _ => h.2.1 (by omega), fun _ => hs⟩
theorem EI.hit (h : EI l r i) (hi : (i : Int) < (2 : Nat)) {e : Int} (hs : gE ([l, r].getD (i : Int).toNat none) = e) (h0 : e ≠ 0) : [] = egB l r ∧ e = egE l r := by
  rcases h.it hi with ⟨rfl, e1⟩ | ⟨rfl, e1⟩
  · rw [e1] at hs
    refine ⟨?_, ?_⟩
    · unfold egB; rw [if_pos (by rw [hs]; exact h0)]
    · unfold egE; rw [if_pos (by rw [hs]; exact h0), hs]
  · rw [e1] at hs
    have hz := h.2.1 (by omega)
    refine ⟨?_, ?_⟩
    · unfold egB; rw [if_neg (by rw [hz]; decide), if_pos (by rw [hs]; exact h0)]
    · unfold egE; rw [if_neg (by rw [hz]; decide), hs]
theorem EI.stop (h : EI l r i) (hi : ¬ (i : Int) < (2 : Nat)) : gTo l r i = egB l r ∧ 0 = egE l r := by
  have e : i = 2 := by have := h.1; omega
  subst e
  have h1 := h.2.1 (by omega); have h2 := h.2.2 (by omega)
  refine ⟨?_, ?_⟩
  · unfold egB; rw [if_neg (by rw [h1]; decide), if_neg (by rw [h2]; decide)]; rfl
  · unfold egE; rw [if_neg (by rw [h1]; decide), h2]
theorem gE2 (h : o.isNone = false) (h1 : encE (gp o) = 0) : gE o = putE (encB (gp o)) := by unfold gE; rw [if_neg (by rw [h]; decide), if_neg (fun q => q h1)]
end
section
variable {l r o : Option Proof} {b : List UInt8} {t : UInt8}
theorem gb (h : o.isNone = false) (h1 : encE (gp o) = 0) (h2 : ¬ (65535 : Int) < (encB (gp o)).length) : gE o = 0 := by
  rw [gE2 h h1]; unfold putE; rw [if_neg (by omega)]
end
def ggErr (f : Field) : Int := if f.tag = 1 then decE f.value else if f.tag = 2 then decE f.value else 8
def ggFirst : List Field → Int
  | [] => 0
  | f :: l => if ggErr f ≠ 0 then ggErr f else ggFirst l
def GJ (b : List UInt8) (l : List Field) (k : Nat) : Prop := k ≤ l.length ∧ ggFirst l = ggFirst (l.drop k) ∧ vSum l ≤ b.length
section
variable {b : List UInt8} {l : List Field} {k : Nat} {f : Field}
theorem GJ.start : GJ b (parse [] b).1 0 := ⟨Nat.zero_le _, rfl, parse_sum b⟩
theorem GJ.v (h : GJ b l k) (hk : (k : Int) < l.length) (hb : b.length ≤ 200000) : (l.getD (k : Int).toNat kF).value.length ≤ 200000 := by
  have := vSum_succ hk; have := vSum_take l (k + 1); have := h.2.2; omega
theorem GJ.at (h : GJ b l k) (hk : (k : Int) < l.length) : ggFirst l = if ggErr (l.getD (k : Int).toNat kF) ≠ 0 then ggErr (l.getD (k : Int).toNat kF) else ggFirst (l.drop (k + 1)) := by
  rw [h.2.1, List.drop_eq_getElem_cons (by omega), ggFirst, Int.toNat_natCast, List.getD_eq_getElem?_getD, List.getElem?_eq_getElem (by omega)]; rfl
theorem GJ.next (h : GJ b l k) (hk : (k : Int) < l.length) (he : ggErr (l.getD (k : Int).toNat kF) = 0) : GJ b l (k + 1) ∧ l.length - (k + 1) < l.length - k :=
  ⟨⟨by omega, by rw [h.at hk, if_neg (by rw [he]; decide)], h.2.2⟩, by omega⟩
end
end Go.Proofs.YtnicmjipbnhciaaDoor.X
set_option linter.unusedVariables false
set_option linter.unusedSimpArgs false
set_option maxRecDepth 100000
namespace Go.Proofs.YtnicmjipbnhciaaDoor.X
open Go Go.RowKit Go.Proofs Go.Proofs.YtnicmjipbnhciaaDoor.E
set_option maxHeartbeats 4000000
theorem Tr.fin_lv {k : List UInt8} : ∀ {t : Tr}, t.Ks → (t.fin k).value.length ≤ 1000
  | .leaf _ _, h => h.2
  | .node l r, h => by unfold Tr.fin; split <;> first | exact Tr.fin_lv (t := l) h.1 | exact Tr.fin_lv (t := r) h.2
theorem mkP_val (acts : List Act) (k : List UInt8) : (mkP k (growT acts 40).1).value.length ≤ 1000 := by
  cases e : (growT acts 40).1 with
  | none => exact Nat.zero_le _
  | some t =>
    have h := (growT_okN acts 40) t e
    simp only [mkP]; split
    · exact Tr.fin_lv h.1
    · exact Nat.zero_le _
def smP (p : Proof) : Prop := p.key.length ≤ 3000 ∧ p.value.length ≤ 3000 ∧ p.turns.length ≤ 100
theorem smP_mk (acts : List Act) (k : List UInt8) : smP (mkP k (growT acts 40).1) := ⟨Nat.le_trans (mkP_key acts k) (by decide), Nat.le_trans (mkP_val acts k) (by decide), turns_le k (by decide)⟩
theorem smP_nil : smP ⟨[], [], []⟩ := ⟨by decide, by decide, by decide⟩
abbrev dPr : Proof := ⟨[], [], []⟩
theorem smP_at {p q : Proof} {i : Nat} (hi : (i : Int) < (2 : Nat)) (h1 : smP p) (h2 : smP q) : smP ([p, q].getD (i : Int).toNat dPr) := by
  have : i = 0 ∨ i = 1 := by omega
  rcases this with rfl | rfl
  · exact h1
  · exact h2
theorem smP_p {p : Proof} {b : List UInt8} (h1 : ¬ (100 : Int) < p.turns.length) (h2 : ¬ (3000 : Int) < (p.key.length : Int) + p.value.length + b.length) : smP p := ⟨by omega, by omega, by omega⟩
theorem sq {p q : Proof} {i : Nat} (hi : (i : Int) < (2 : Nat)) (h1 : smP p) (h2 : smP q) : ([p, q].getD (i : Int).toNat dPr).key.length ≤ 200000 ∧ ([p, q].getD (i : Int).toNat dPr).value.length ≤ 200000 ∧ ([p, q].getD (i : Int).toNat dPr).turns.length ≤ 1000000 ∧ (encB ([p, q].getD (i : Int).toNat dPr)).length ≤ 200000 := by
  have h := smP_at hi h1 h2
  have hc := encB_len ([p, q].getD (i : Int).toNat dPr)
  obtain ⟨a1, a2, a3⟩ := h
  exact ⟨by omega, by omega, by omega, by omega⟩
theorem dTo_t (l : List Field) : ∀ k, k ≤ l.length → (dTo l k).turns.length ≤ vSum (l.take k)
  | 0, _ => Nat.zero_le _
  | k + 1, h => by
    have ih := dTo_t l k (by omega)
    have hk : (k : Int) < l.length := by omega
    rw [dTo_succ hk, vSum_succ hk]
    unfold dcSet
    split
    · show (dTo l k).turns.length ≤ _; omega
    · split
      · show (dTo l k).turns.length ≤ _; omega
      · split
        · show ((dTo l k).turns ++ _).length ≤ _
          have := unpk_len (l.getD (k : Int).toNat kF).value
          rw [List.length_append, List.length_map]; omega
        · omega
theorem decP_t {b : List UInt8} (h : b.length ≤ 200000) : (decP b).turns.length ≤ 1000000 := by
  unfold decP
  split
  · exact Nat.zero_le _
  · split
    · exact Nat.zero_le _
    · split
      · exact Nat.zero_le _
      · have := dTo_t (parse [] b).1 _ (Nat.le_refl _)
        have := vSum_take (parse [] b).1 (parse [] b).1.length
        have := parse_sum b
        omega
def zs (k : Nat × List (List UInt8)) : Prop := k.1 ≤ 2 ∧ k.2.length ≤ 1 + 2 * k.1 ∧ ∀ z ∈ k.2, z.length ≤ 20000
theorem zs.start {b : List UInt8} (h : b.length ≤ 3000) : zs (0, [b]) := ⟨by omega, by simp, fun z hz => by rw [List.mem_singleton.1 hz]; omega⟩
theorem zs.next {k : Nat × List (List UInt8)} (h : zs k) (hi : (k.1 : Int) < (2 : Nat)) {p : Proof} {v : List UInt8} (hp : smP p) (hv : v.length ≤ (encB p).length) : zs (k.1 + 1, k.2 ++ [encB p, v]) ∧ 2 - (k.1 + 1) < 2 - k.1 := by
  have hc := encB_len p
  have h1 := hp.1; have h2 := hp.2.1
  refine ⟨⟨?_, ?_, fun z hz => ?_⟩, by omega⟩
  · show k.1 + 1 ≤ 2; omega
  · show (k.2 ++ [encB p, v]).length ≤ 1 + 2 * (k.1 + 1)
    have := h.2.1; simp only [List.length_append, List.length_cons, List.length_nil]; omega
  · rcases List.mem_append.1 hz with hz | hz
    · exact h.2.2 z hz
    · simp only [List.mem_cons, List.not_mem_nil, or_false] at hz
      rcases hz with rfl | rfl <;> omega
theorem zs.at {l : List (List UInt8)} {n i : Nat} (h : zs (n, l)) (hi : (i : Int) < l.length) : (l.getD (i : Int).toNat []).length ≤ 200000 := by
  rw [Int.toNat_natCast, List.getD_eq_getElem?_getD, List.getElem?_eq_getElem (by omega)]
  have := h.2.2 _ (List.getElem_mem (l := l) (n := i) (by omega))
  show (l[i]).length ≤ _; omega
noncomputable def ccV3_8 : Code := (Tryd.f8.body).getD .skip
theorem ProofCodes_ok (p : Proof) (b : List UInt8) (acts : List Act) (k : UInt8) (at_ : List Int) (bits : List UInt8) (h1 : p.key.length ≤ 140737488355328) (h2 : p.value.length ≤ 140737488355328) (h3 : b.length ≤ 140737488355328) : FOk EN 8 ⟨[.pr wordsP, .pr etP, .rd 5 (p.key), .rd 5 (p.value), .rd 121 p.turns, .rd 5 (b), .rd 133 acts, .rd 3 at_, .rd 5 (bits)], [.a [.n 2, .n 3, .n 4], .n 5, .n 6, .c k, .n 7, .n 8], Unit, fun _ => ([.pr wordsP, .pr etP, .rd 5 (p.key), .rd 5 (p.value), .rd 121 p.turns, .rd 5 (b), .rd 133 acts, .rd 3 at_, .rd 5 (bits)], .b true), fun _ => True⟩ := by
 refine v_fun Tryd.f8 ccV3_8 MX (fun ν F σ w => ?_) Tryd.func8
 refine v_nl ?_
 refine v_call _ [0, 1] (Awake9_ok) ((wordsP = wordsP) ∧ (etP = etP)) ⟨rfl, rfl⟩ (fun g1 p2 => ?_)
 have p2 : True := p2
 refine v_if (!true) True trivial (fun h3 => ?_) (fun h3 => ?_)
 ·have h3 := (nt h3)
  contradiction
 ·have h3 := (nf h3)
  refine v_guard 35 (decide (100 < (↑p.turns.length : Int))) True trivial (fun h4 => ?_) (fun h4 => ?_)
  ·have h4 := of_decide_eq_true h4
   exact v_ret () [] ((true = true) ∧ (wordsP = wordsP) ∧ (etP = etP) ∧ (p.key = p.key) ∧ (p.value = p.value) ∧ (p.turns = p.turns) ∧ (b = b) ∧ (acts = acts) ∧ (at_ = at_) ∧ (bits = bits)) ⟨rfl, rfl, rfl, rfl, rfl, rfl, rfl, rfl, rfl, rfl⟩ trivial
  ·have h4 := of_decide_eq_false h4
   refine v_if (decide (3000 < (↑p.key.length : Int) + (↑p.value.length : Int) + (↑b.length : Int))) ((I64 (↑p.key.length + ↑p.value.length)) ∧ (I64 (↑p.key.length + ↑p.value.length + ↑b.length))) ⟨(by (unfold I64; omega)), (by (unfold I64; omega))⟩ (fun h5 => ?_) (fun h5 => ?_)
   ·have h5 := of_decide_eq_true h5
    exact v_ret () [] ((true = true) ∧ (wordsP = wordsP) ∧ (etP = etP) ∧ (p.key = p.key) ∧ (p.value = p.value) ∧ (p.turns = p.turns) ∧ (b = b) ∧ (acts = acts) ∧ (at_ = at_) ∧ (bits = bits)) ⟨rfl, rfl, rfl, rfl, rfl, rfl, rfl, rfl, rfl, rfl⟩ trivial
   ·have h5 := of_decide_eq_false h5
    refine v_call _ [0, 6] (Grow_ok (acts) (nat_lit 40) (by decide)) (((40 : Int) = (↑(nat_lit 40) : Int)) ∧ (wordsP = wordsP) ∧ (acts = acts)) ⟨rfl, rfl, rfl⟩ (fun g6 p7 => ?_)
    have p7 : True := p7
    refine v_if (decide ((0 : Int) < (↑(growT acts 40).snd.length : Int))) True trivial (fun h8 => ?_) (fun h8 => ?_)
    ·have h8 := of_decide_eq_true h8
     refine v_call _ [14, 11] (Make_ok ((growT acts 40).fst) (((growT acts 40).snd.getD ((↑k.toNat : Int) % (↑(growT acts 40).snd.length : Int)).toNat (Pair.mk [] [])).key) (by exact (growT_fine acts 40 (by decide)).O)) (((0 : Int) ≤ (↑k.toNat : Int) ∧ (0 : Int) < (↑(growT acts 40).snd.length : Int)) ∧ ((0 : Int) ≤ (↑k.toNat : Int) % (↑(growT acts 40).snd.length : Int) ∧ (↑k.toNat : Int) % (↑(growT acts 40).snd.length : Int) < (↑(growT acts 40).snd.length : Int)) ∧ (((growT acts 40).snd.getD ((↑k.toNat : Int) % (↑(growT acts 40).snd.length : Int)).toNat (Pair.mk [] [])).key = ((growT acts 40).snd.getD ((↑k.toNat : Int) % (↑(growT acts 40).snd.length : Int)).toNat (Pair.mk [] [])).key) ∧ (PTO (growT acts 40).fst = PTO (growT acts 40).fst) ∧ (false = false)) ⟨(by omega), (by exact gml ‹_›), rfl, rfl, rfl⟩ (fun g9 p10 => ?_)
     have p10 : True := p10
     refine v_loop (fun q : Nat × List (List UInt8) => ([(76, .i (q.1 : Int)), (16, .n 22)], [.ow 22 q.2])) (fun q => zs q) (fun q => 2 - q.1) (0, [b]) [20] (((0 : Int) = (↑(0 : Nat) : Int)) ∧ ([b] = [b])) ⟨rfl, rfl⟩ (by exact zs.start (by omega)) (fun q hk11 => ?_)
     refine v_if (decide ((↑q.fst : Int) < (↑(2 : Nat) : Int))) True trivial (fun h12 => ?_) (fun h12 => ?_)
     ·have h12 := of_decide_eq_true h12
      refine v_call _ [23, 24, 25] (Encode_ok ([Proof.mk p.key p.value p.turns, Proof.mk (pM acts ↑k.toNat).key (pM acts ↑k.toNat).value (pM acts ↑k.toNat).turns].getD (↑q.fst : Int).toNat (Proof.mk [] [] [])) (by exact (sq ‹_› (smP_p ‹_› ‹_›) (by first | exact smP_nil | exact smP_mk _ _)).1) (by exact (sq ‹_› (smP_p ‹_› ‹_›) (by first | exact smP_nil | exact smP_mk _ _)).2.1) (by exact (sq ‹_› (smP_p ‹_› ‹_›) (by first | exact smP_nil | exact smP_mk _ _)).2.2.1)) (((0 : Int) ≤ (↑q.fst : Int) ∧ (↑q.fst : Int) < (↑(2 : Nat) : Int)) ∧ (([Proof.mk p.key p.value p.turns, Proof.mk (pM acts ↑k.toNat).key (pM acts ↑k.toNat).value (pM acts ↑k.toNat).turns].getD (↑q.fst : Int).toNat (Proof.mk [] [] [])).key = ([Proof.mk p.key p.value p.turns, Proof.mk (pM acts ↑k.toNat).key (pM acts ↑k.toNat).value (pM acts ↑k.toNat).turns].getD (↑q.fst : Int).toNat (Proof.mk [] [] [])).key) ∧ (([Proof.mk p.key p.value p.turns, Proof.mk (pM acts ↑k.toNat).key (pM acts ↑k.toNat).value (pM acts ↑k.toNat).turns].getD (↑q.fst : Int).toNat (Proof.mk [] [] [])).value = ([Proof.mk p.key p.value p.turns, Proof.mk (pM acts ↑k.toNat).key (pM acts ↑k.toNat).value (pM acts ↑k.toNat).turns].getD (↑q.fst : Int).toNat (Proof.mk [] [] [])).value) ∧ (([Proof.mk p.key p.value p.turns, Proof.mk (pM acts ↑k.toNat).key (pM acts ↑k.toNat).value (pM acts ↑k.toNat).turns].getD (↑q.fst : Int).toNat (Proof.mk [] [] [])).turns = ([Proof.mk p.key p.value p.turns, Proof.mk (pM acts ↑k.toNat).key (pM acts ↑k.toNat).value (pM acts ↑k.toNat).turns].getD (↑q.fst : Int).toNat (Proof.mk [] [] [])).turns)) ⟨(by omega), rfl, rfl, rfl⟩ (fun g13 p14 => ?_)
      have p14 : True := p14
      refine v_call _ [23, 24, 25] (EncodeProof_ok ([Proof.mk p.key p.value p.turns, Proof.mk (pM acts ↑k.toNat).key (pM acts ↑k.toNat).value (pM acts ↑k.toNat).turns].getD (↑q.fst : Int).toNat (Proof.mk [] [] [])) (by exact (sq ‹_› (smP_p ‹_› ‹_›) (by first | exact smP_nil | exact smP_mk _ _)).1) (by exact (sq ‹_› (smP_p ‹_› ‹_›) (by first | exact smP_nil | exact smP_mk _ _)).2.1) (by exact (sq ‹_› (smP_p ‹_› ‹_›) (by first | exact smP_nil | exact smP_mk _ _)).2.2.1)) ((([Proof.mk p.key p.value p.turns, Proof.mk (pM acts ↑k.toNat).key (pM acts ↑k.toNat).value (pM acts ↑k.toNat).turns].getD (↑q.fst : Int).toNat (Proof.mk [] [] [])).key = ([Proof.mk p.key p.value p.turns, Proof.mk (pM acts ↑k.toNat).key (pM acts ↑k.toNat).value (pM acts ↑k.toNat).turns].getD (↑q.fst : Int).toNat (Proof.mk [] [] [])).key) ∧ (([Proof.mk p.key p.value p.turns, Proof.mk (pM acts ↑k.toNat).key (pM acts ↑k.toNat).value (pM acts ↑k.toNat).turns].getD (↑q.fst : Int).toNat (Proof.mk [] [] [])).value = ([Proof.mk p.key p.value p.turns, Proof.mk (pM acts ↑k.toNat).key (pM acts ↑k.toNat).value (pM acts ↑k.toNat).turns].getD (↑q.fst : Int).toNat (Proof.mk [] [] [])).value) ∧ (([Proof.mk p.key p.value p.turns, Proof.mk (pM acts ↑k.toNat).key (pM acts ↑k.toNat).value (pM acts ↑k.toNat).turns].getD (↑q.fst : Int).toNat (Proof.mk [] [] [])).turns = ([Proof.mk p.key p.value p.turns, Proof.mk (pM acts ↑k.toNat).key (pM acts ↑k.toNat).value (pM acts ↑k.toNat).turns].getD (↑q.fst : Int).toNat (Proof.mk [] [] [])).turns)) ⟨rfl, rfl, rfl⟩ (fun g15 p16 => ?_)
      have p16 : True := p16
      refine v_guard 93 (decide (encE ([Proof.mk p.key p.value p.turns, Proof.mk (pM acts ↑k.toNat).key (pM acts ↑k.toNat).value (pM acts ↑k.toNat).turns].getD (↑q.fst : Int).toNat (Proof.mk [] [] [])) ≠ encE ([Proof.mk p.key p.value p.turns, Proof.mk (pM acts ↑k.toNat).key (pM acts ↑k.toNat).value (pM acts ↑k.toNat).turns].getD (↑q.fst : Int).toNat (Proof.mk [] [] [])))) True trivial (fun h17 => ?_) (fun h17 => ?_)
      ·have h17 := of_decide_eq_true h17
       omega
      ·have h17 := of_decide_eq_false h17
       refine v_if (decide (encB ([Proof.mk p.key p.value p.turns, Proof.mk (pM acts ↑k.toNat).key (pM acts ↑k.toNat).value (pM acts ↑k.toNat).turns].getD (↑q.fst : Int).toNat (Proof.mk [] [] [])) ≠ encB ([Proof.mk p.key p.value p.turns, Proof.mk (pM acts ↑k.toNat).key (pM acts ↑k.toNat).value (pM acts ↑k.toNat).turns].getD (↑q.fst : Int).toNat (Proof.mk [] [] [])))) True trivial (fun h18 => ?_) (fun h18 => ?_)
       ·have h18 := of_decide_eq_true h18
        contradiction
       ·have h18 := of_decide_eq_false h18
        refine v_call _ [28, 7, 8] (Turned_ok (encB ([Proof.mk p.key p.value p.turns, Proof.mk (pM acts ↑k.toNat).key (pM acts ↑k.toNat).value (pM acts ↑k.toNat).turns].getD (↑q.fst : Int).toNat (Proof.mk [] [] []))) (at_) (bits) (by exact (sq ‹_› (smP_p ‹_› ‹_›) (by first | exact smP_nil | exact smP_mk _ _)).2.2.2)) ((encB ([Proof.mk p.key p.value p.turns, Proof.mk (pM acts ↑k.toNat).key (pM acts ↑k.toNat).value (pM acts ↑k.toNat).turns].getD (↑q.fst : Int).toNat (Proof.mk [] [] [])) = encB ([Proof.mk p.key p.value p.turns, Proof.mk (pM acts ↑k.toNat).key (pM acts ↑k.toNat).value (pM acts ↑k.toNat).turns].getD (↑q.fst : Int).toNat (Proof.mk [] [] []))) ∧ (at_ = at_) ∧ (bits = bits)) ⟨rfl, rfl, rfl⟩ (fun g19 p20 => ?_)
        have p20 : g19.length ≤ (encB ([Proof.mk p.key p.value p.turns, Proof.mk (pM acts ↑k.toNat).key (pM acts ↑k.toNat).value (pM acts ↑k.toNat).turns].getD (↑q.fst : Int).toNat (Proof.mk [] [] []))).length := p20
        exact v_back ((q.fst + (1 : Nat), q.snd ++ [encB ([Proof.mk p.key p.value p.turns, Proof.mk (pM acts ↑k.toNat).key (pM acts ↑k.toNat).value (pM acts ↑k.toNat).turns].getD (↑q.fst : Int).toNat (Proof.mk [] [] [])), g19])) [32] ((q.snd.length + 2 ≤ 1000000) ∧ (I64 (↑q.fst + 1)) ∧ ((↑q.fst : Int) + 1 = (↑(q.fst + 1) : Int)) ∧ (q.snd ++ [encB ([Proof.mk p.key p.value p.turns, Proof.mk (pM acts ↑k.toNat).key (pM acts ↑k.toNat).value (pM acts ↑k.toNat).turns].getD (↑q.fst : Int).toNat (Proof.mk [] [] [])), g19] = q.snd ++ [encB ([Proof.mk p.key p.value p.turns, Proof.mk (pM acts ↑k.toNat).key (pM acts ↑k.toNat).value (pM acts ↑k.toNat).turns].getD (↑q.fst : Int).toNat (Proof.mk [] [] [])), g19])) ⟨(by (have hz := (‹zs q›).2.1; have hy := (‹zs q›).1; omega)), (by (unfold I64; omega)), rfl, rfl⟩ (show zs (q.fst + (1 : Nat), q.snd ++ [encB ([Proof.mk p.key p.value p.turns, Proof.mk (pM acts ↑k.toNat).key (pM acts ↑k.toNat).value (pM acts ↑k.toNat).turns].getD (↑q.fst : Int).toNat (Proof.mk [] [] [])), g19]) ∧ (2 : Nat) - (q.fst + (1 : Nat)) < (2 : Nat) - q.fst from (by exact zs.next ‹_› ‹_› (smP_at ‹_› (smP_p ‹_› ‹_›) (by first | exact smP_nil | exact smP_mk _ _)) ‹_›))
     ·have h12 := of_decide_eq_false h12
      refine v_leave (.ex 0) True trivial ?_
      refine v_loop (fun j : Nat => ([(111, .i j)], [])) (fun j => j ≤ q.2.length) (fun j => q.2.length - j) 0 [] (((0 : Int) = (↑(0 : Nat) : Int))) rfl (by omega) (fun j hk21 => ?_)
      refine v_if (decide ((↑j : Int) < (↑q.snd.length : Int))) True trivial (fun h22 => ?_) (fun h22 => ?_)
      ·have h22 := of_decide_eq_true h22
       refine v_call _ [23] (Decode_ok (q.snd.getD (↑j : Int).toNat []) (by exact zs.at (n := q.1) ‹_› ‹_›)) ((0 ≤ (↑j : Int) ∧ (↑j : Int) < (↑q.snd.length : Int)) ∧ (q.snd.getD (↑j : Int).toNat [] = q.snd.getD (↑j : Int).toNat [])) ⟨(by omega), rfl⟩ (fun g23 p24 => ?_)
       have p24 : True := p24
       refine v_call _ [23] (DecodeProof_ok (q.snd.getD (↑j : Int).toNat []) (by exact zs.at (n := q.1) ‹_› ‹_›)) ((q.snd.getD (↑j : Int).toNat [] = q.snd.getD (↑j : Int).toNat [])) rfl (fun g25 p26 => ?_)
       have p26 : True := p26
       refine v_guard 128 (decide (decE (q.snd.getD (↑j : Int).toNat []) ≠ decE (q.snd.getD (↑j : Int).toNat []))) True trivial (fun h27 => ?_) (fun h27 => ?_)
       ·have h27 := of_decide_eq_true h27
        omega
       ·have h27 := of_decide_eq_false h27
        refine v_call _ [25, 26, 27, 29, 30, 31] (SameProof_ok ((decP (q.snd.getD (↑j : Int).toNat [])).key) ((decP (q.snd.getD (↑j : Int).toNat [])).value) ((decP (q.snd.getD (↑j : Int).toNat [])).key) ((decP (q.snd.getD (↑j : Int).toNat [])).value) ((decP (q.snd.getD (↑j : Int).toNat [])).turns) ((decP (q.snd.getD (↑j : Int).toNat [])).turns) (by exact decP_t (zs.at (n := q.1) ‹_› ‹_›)) (by exact decP_t (zs.at (n := q.1) ‹_› ‹_›))) (((decP (q.snd.getD (↑j : Int).toNat [])).key = (decP (q.snd.getD (↑j : Int).toNat [])).key) ∧ ((decP (q.snd.getD (↑j : Int).toNat [])).value = (decP (q.snd.getD (↑j : Int).toNat [])).value) ∧ ((decP (q.snd.getD (↑j : Int).toNat [])).turns = (decP (q.snd.getD (↑j : Int).toNat [])).turns) ∧ ((decP (q.snd.getD (↑j : Int).toNat [])).key = (decP (q.snd.getD (↑j : Int).toNat [])).key) ∧ ((decP (q.snd.getD (↑j : Int).toNat [])).value = (decP (q.snd.getD (↑j : Int).toNat [])).value) ∧ ((decP (q.snd.getD (↑j : Int).toNat [])).turns = (decP (q.snd.getD (↑j : Int).toNat [])).turns)) ⟨rfl, rfl, rfl, rfl, rfl, rfl⟩ (fun g28 p29 => ?_)
        have p29 : True := p29
        refine v_if (!decide (Proof.mk (decP (q.snd.getD (↑j : Int).toNat [])).key (decP (q.snd.getD (↑j : Int).toNat [])).value (decP (q.snd.getD (↑j : Int).toNat [])).turns = Proof.mk (decP (q.snd.getD (↑j : Int).toNat [])).key (decP (q.snd.getD (↑j : Int).toNat [])).value (decP (q.snd.getD (↑j : Int).toNat [])).turns)) True trivial (fun h30 => ?_) (fun h30 => ?_)
        ·have h30 := of_decide_eq_false (nt h30)
         contradiction
        ·have h30 := of_decide_eq_true (nf h30)
         exact v_back (j + 1) [] ((I64 (↑j + 1)) ∧ ((↑j : Int) + 1 = (↑(j + 1) : Int))) ⟨(by (have hz := (‹zs q›).2.1; have hy := (‹zs q›).1; unfold I64; omega)), rfl⟩ (show j + 1 ≤ q.snd.length ∧ q.snd.length - (j + 1) < q.snd.length - j from (by omega))
      ·have h22 := of_decide_eq_false h22
       refine v_leave (.ex 2) True trivial ?_
       exact v_ret () [] ((true = true) ∧ (wordsP = wordsP) ∧ (etP = etP) ∧ (p.key = p.key) ∧ (p.value = p.value) ∧ (p.turns = p.turns) ∧ (b = b) ∧ (acts = acts) ∧ (at_ = at_) ∧ (bits = bits)) ⟨rfl, rfl, rfl, rfl, rfl, rfl, rfl, rfl, rfl, rfl⟩ trivial
    ·have h8 := of_decide_eq_false h8
     refine v_loop (fun q : Nat × List (List UInt8) => ([(76, .i (q.1 : Int)), (16, .n 16)], [.ow 22 q.2])) (fun q => zs q) (fun q => 2 - q.1) (0, [b]) [14] (((0 : Int) = (↑(0 : Nat) : Int)) ∧ ([b] = [b])) ⟨rfl, rfl⟩ (by exact zs.start (by omega)) (fun q hk31 => ?_)
     refine v_if (decide ((↑q.fst : Int) < (↑(2 : Nat) : Int))) True trivial (fun h32 => ?_) (fun h32 => ?_)
     ·have h32 := of_decide_eq_true h32
      refine v_call _ [17, 18, 19] (Encode_ok ([Proof.mk p.key p.value p.turns, Proof.mk [] [] []].getD (↑q.fst : Int).toNat (Proof.mk [] [] [])) (by exact (sq ‹_› (smP_p ‹_› ‹_›) (by first | exact smP_nil | exact smP_mk _ _)).1) (by exact (sq ‹_› (smP_p ‹_› ‹_›) (by first | exact smP_nil | exact smP_mk _ _)).2.1) (by exact (sq ‹_› (smP_p ‹_› ‹_›) (by first | exact smP_nil | exact smP_mk _ _)).2.2.1)) (((0 : Int) ≤ (↑q.fst : Int) ∧ (↑q.fst : Int) < (↑(2 : Nat) : Int)) ∧ (([Proof.mk p.key p.value p.turns, Proof.mk [] [] []].getD (↑q.fst : Int).toNat (Proof.mk [] [] [])).key = ([Proof.mk p.key p.value p.turns, Proof.mk [] [] []].getD (↑q.fst : Int).toNat (Proof.mk [] [] [])).key) ∧ (([Proof.mk p.key p.value p.turns, Proof.mk [] [] []].getD (↑q.fst : Int).toNat (Proof.mk [] [] [])).value = ([Proof.mk p.key p.value p.turns, Proof.mk [] [] []].getD (↑q.fst : Int).toNat (Proof.mk [] [] [])).value) ∧ (([Proof.mk p.key p.value p.turns, Proof.mk [] [] []].getD (↑q.fst : Int).toNat (Proof.mk [] [] [])).turns = ([Proof.mk p.key p.value p.turns, Proof.mk [] [] []].getD (↑q.fst : Int).toNat (Proof.mk [] [] [])).turns)) ⟨(by omega), rfl, rfl, rfl⟩ (fun g33 p34 => ?_)
      have p34 : True := p34
      refine v_call _ [17, 18, 19] (EncodeProof_ok ([Proof.mk p.key p.value p.turns, Proof.mk [] [] []].getD (↑q.fst : Int).toNat (Proof.mk [] [] [])) (by exact (sq ‹_› (smP_p ‹_› ‹_›) (by first | exact smP_nil | exact smP_mk _ _)).1) (by exact (sq ‹_› (smP_p ‹_› ‹_›) (by first | exact smP_nil | exact smP_mk _ _)).2.1) (by exact (sq ‹_› (smP_p ‹_› ‹_›) (by first | exact smP_nil | exact smP_mk _ _)).2.2.1)) ((([Proof.mk p.key p.value p.turns, Proof.mk [] [] []].getD (↑q.fst : Int).toNat (Proof.mk [] [] [])).key = ([Proof.mk p.key p.value p.turns, Proof.mk [] [] []].getD (↑q.fst : Int).toNat (Proof.mk [] [] [])).key) ∧ (([Proof.mk p.key p.value p.turns, Proof.mk [] [] []].getD (↑q.fst : Int).toNat (Proof.mk [] [] [])).value = ([Proof.mk p.key p.value p.turns, Proof.mk [] [] []].getD (↑q.fst : Int).toNat (Proof.mk [] [] [])).value) ∧ (([Proof.mk p.key p.value p.turns, Proof.mk [] [] []].getD (↑q.fst : Int).toNat (Proof.mk [] [] [])).turns = ([Proof.mk p.key p.value p.turns, Proof.mk [] [] []].getD (↑q.fst : Int).toNat (Proof.mk [] [] [])).turns)) ⟨rfl, rfl, rfl⟩ (fun g35 p36 => ?_)
      have p36 : True := p36
      refine v_guard 93 (decide (encE ([Proof.mk p.key p.value p.turns, Proof.mk [] [] []].getD (↑q.fst : Int).toNat (Proof.mk [] [] [])) ≠ encE ([Proof.mk p.key p.value p.turns, Proof.mk [] [] []].getD (↑q.fst : Int).toNat (Proof.mk [] [] [])))) True trivial (fun h37 => ?_) (fun h37 => ?_)
      ·have h37 := of_decide_eq_true h37
       omega
      ·have h37 := of_decide_eq_false h37
       refine v_if (decide (encB ([Proof.mk p.key p.value p.turns, Proof.mk [] [] []].getD (↑q.fst : Int).toNat (Proof.mk [] [] [])) ≠ encB ([Proof.mk p.key p.value p.turns, Proof.mk [] [] []].getD (↑q.fst : Int).toNat (Proof.mk [] [] [])))) True trivial (fun h38 => ?_) (fun h38 => ?_)
       ·have h38 := of_decide_eq_true h38
        contradiction
       ·have h38 := of_decide_eq_false h38
        refine v_call _ [22, 7, 8] (Turned_ok (encB ([Proof.mk p.key p.value p.turns, Proof.mk [] [] []].getD (↑q.fst : Int).toNat (Proof.mk [] [] []))) (at_) (bits) (by exact (sq ‹_› (smP_p ‹_› ‹_›) (by first | exact smP_nil | exact smP_mk _ _)).2.2.2)) ((encB ([Proof.mk p.key p.value p.turns, Proof.mk [] [] []].getD (↑q.fst : Int).toNat (Proof.mk [] [] [])) = encB ([Proof.mk p.key p.value p.turns, Proof.mk [] [] []].getD (↑q.fst : Int).toNat (Proof.mk [] [] []))) ∧ (at_ = at_) ∧ (bits = bits)) ⟨rfl, rfl, rfl⟩ (fun g39 p40 => ?_)
        have p40 : g39.length ≤ (encB ([Proof.mk p.key p.value p.turns, Proof.mk [] [] []].getD (↑q.fst : Int).toNat (Proof.mk [] [] []))).length := p40
        exact v_back ((q.fst + 1, q.snd ++ [encB ([Proof.mk p.key p.value p.turns, Proof.mk [] [] []].getD (↑q.fst : Int).toNat (Proof.mk [] [] [])), g39])) [26] ((q.snd.length + 2 ≤ 1000000) ∧ (I64 (↑q.fst + 1)) ∧ ((↑q.fst : Int) + 1 = (↑(q.fst + 1) : Int)) ∧ (q.snd ++ [encB ([Proof.mk p.key p.value p.turns, Proof.mk [] [] []].getD (↑q.fst : Int).toNat (Proof.mk [] [] [])), g39] = q.snd ++ [encB ([Proof.mk p.key p.value p.turns, Proof.mk [] [] []].getD (↑q.fst : Int).toNat (Proof.mk [] [] [])), g39])) ⟨(by (have hz := (‹zs q›).2.1; have hy := (‹zs q›).1; omega)), (by (unfold I64; omega)), rfl, rfl⟩ (show zs (q.fst + 1, q.snd ++ [encB ([Proof.mk p.key p.value p.turns, Proof.mk [] [] []].getD (↑q.fst : Int).toNat (Proof.mk [] [] [])), g39]) ∧ 2 - (q.fst + 1) < 2 - q.fst from (by exact zs.next ‹_› ‹_› (smP_at ‹_› (smP_p ‹_› ‹_›) (by first | exact smP_nil | exact smP_mk _ _)) ‹_›))
     ·have h32 := of_decide_eq_false h32
      refine v_leave (.ex 0) True trivial ?_
      refine v_loop (fun j : Nat => ([(111, .i j)], [])) (fun j => j ≤ q.2.length) (fun j => q.2.length - j) 0 [] (((0 : Int) = (↑(0 : Nat) : Int))) rfl (by omega) (fun j hk41 => ?_)
      refine v_if (decide ((↑j : Int) < (↑q.snd.length : Int))) True trivial (fun h42 => ?_) (fun h42 => ?_)
      ·have h42 := of_decide_eq_true h42
       refine v_call _ [17] (Decode_ok (q.snd.getD (↑j : Int).toNat []) (by exact zs.at (n := q.1) ‹_› ‹_›)) ((0 ≤ (↑j : Int) ∧ (↑j : Int) < (↑q.snd.length : Int)) ∧ (q.snd.getD (↑j : Int).toNat [] = q.snd.getD (↑j : Int).toNat [])) ⟨(by omega), rfl⟩ (fun g43 p44 => ?_)
       have p44 : True := p44
       refine v_call _ [17] (DecodeProof_ok (q.snd.getD (↑j : Int).toNat []) (by exact zs.at (n := q.1) ‹_› ‹_›)) ((q.snd.getD (↑j : Int).toNat [] = q.snd.getD (↑j : Int).toNat [])) rfl (fun g45 p46 => ?_)
       have p46 : True := p46
       refine v_guard 128 (decide (decE (q.snd.getD (↑j : Int).toNat []) ≠ decE (q.snd.getD (↑j : Int).toNat []))) True trivial (fun h47 => ?_) (fun h47 => ?_)
       ·have h47 := of_decide_eq_true h47
        omega
       ·have h47 := of_decide_eq_false h47
        refine v_call _ [19, 20, 21, 23, 24, 25] (SameProof_ok ((decP (q.snd.getD (↑j : Int).toNat [])).key) ((decP (q.snd.getD (↑j : Int).toNat [])).value) ((decP (q.snd.getD (↑j : Int).toNat [])).key) ((decP (q.snd.getD (↑j : Int).toNat [])).value) ((decP (q.snd.getD (↑j : Int).toNat [])).turns) ((decP (q.snd.getD (↑j : Int).toNat [])).turns) (by exact decP_t (zs.at (n := q.1) ‹_› ‹_›)) (by exact decP_t (zs.at (n := q.1) ‹_› ‹_›))) (((decP (q.snd.getD (↑j : Int).toNat [])).key = (decP (q.snd.getD (↑j : Int).toNat [])).key) ∧ ((decP (q.snd.getD (↑j : Int).toNat [])).value = (decP (q.snd.getD (↑j : Int).toNat [])).value) ∧ ((decP (q.snd.getD (↑j : Int).toNat [])).turns = (decP (q.snd.getD (↑j : Int).toNat [])).turns) ∧ ((decP (q.snd.getD (↑j : Int).toNat [])).key = (decP (q.snd.getD (↑j : Int).toNat [])).key) ∧ ((decP (q.snd.getD (↑j : Int).toNat [])).value = (decP (q.snd.getD (↑j : Int).toNat [])).value) ∧ ((decP (q.snd.getD (↑j : Int).toNat [])).turns = (decP (q.snd.getD (↑j : Int).toNat [])).turns)) ⟨rfl, rfl, rfl, rfl, rfl, rfl⟩ (fun g48 p49 => ?_)
        have p49 : True := p49
        refine v_if (!decide (Proof.mk (decP (q.snd.getD (↑j : Int).toNat [])).key (decP (q.snd.getD (↑j : Int).toNat [])).value (decP (q.snd.getD (↑j : Int).toNat [])).turns = Proof.mk (decP (q.snd.getD (↑j : Int).toNat [])).key (decP (q.snd.getD (↑j : Int).toNat [])).value (decP (q.snd.getD (↑j : Int).toNat [])).turns)) True trivial (fun h50 => ?_) (fun h50 => ?_)
        ·have h50 := of_decide_eq_false (nt h50)
         contradiction
        ·have h50 := of_decide_eq_true (nf h50)
         exact v_back (j + 1) [] ((I64 (↑j + 1)) ∧ ((↑j : Int) + 1 = (↑(j + 1) : Int))) ⟨(by (have hz := (‹zs q›).2.1; have hy := (‹zs q›).1; unfold I64; omega)), rfl⟩ (show j + 1 ≤ q.snd.length ∧ q.snd.length - (j + 1) < q.snd.length - j from (by omega))
      ·have h42 := of_decide_eq_false h42
       refine v_leave (.ex 2) True trivial ?_
       exact v_ret () [] ((true = true) ∧ (wordsP = wordsP) ∧ (etP = etP) ∧ (p.key = p.key) ∧ (p.value = p.value) ∧ (p.turns = p.turns) ∧ (b = b) ∧ (acts = acts) ∧ (at_ = at_) ∧ (bits = bits)) ⟨rfl, rfl, rfl, rfl, rfl, rfl, rfl, rfl, rfl, rfl⟩ trivial
end Go.Proofs.YtnicmjipbnhciaaDoor.X
set_option linter.unusedVariables false
set_option maxRecDepth 100000
namespace Go.Proofs.YtnicmjipbnhciaaDoor.X
open Go Go.RowKit Go.Proofs.YtnicmjipbnhciaaDoor.E
theorem opAct : E.Opens Tryd.prog 133 tAct := opens_by 56 (opens_iso (fun p => ⟨p.1, p.2.1, p.2.2.1, p.2.2.2⟩) (fun _ => rfl) (opens_rec Tryd.underlying133 (opF_cons (n := 1) 0 rfl rfl (opens_u8 Tryd.underlying5) (by kernel_rfl) (opF_cons (n := 1) 1 rfl rfl (opens_u8 Tryd.underlying5) (by kernel_rfl) (opF_cons (n := 1) 2 rfl rfl (opens_slice (T := tU8) Tryd.underlying22 (by kernel_rfl) (by kernel_rfl) (by decide) (opens_u8 Tryd.underlying5)) (by kernel_rfl) (opF_last (n := 1) 3 rfl rfl (opens_slice (T := tU8) Tryd.underlying22 (by kernel_rfl) (by kernel_rfl) (by decide) (opens_u8 Tryd.underlying5)) (by kernel_rfl) (by kernel_rfl)))))))
theorem opTurn : E.Opens Tryd.prog 121 tTurn := opens_by 56 (opens_iso (fun p => ⟨p.1, p.2.1, p.2.2.1, p.2.2.2⟩) (fun _ => rfl) (opens_rec Tryd.underlying121 (opF_cons (n := 1) 0 rfl rfl (opens_i64 Tryd.underlying3) (by kernel_rfl) (opF_cons (n := 1) 1 rfl rfl (opens_u64 Tryd.underlying98) (by kernel_rfl) (opF_cons (n := 1) 2 rfl rfl (opens_bool Tryd.underlying4) (by kernel_rfl) (opF_last (n := 32) 3 rfl rfl (opens_hash (e := 5) Tryd.underlying52 Tryd.underlying5 (by kernel_rfl) (by kernel_rfl)) (by kernel_rfl) (by kernel_rfl)))))))
theorem opProof : E.Opens Tryd.prog 26 tProof := opens_by 72 (opens_iso (fun p => ⟨p.1, p.2.1, p.2.2⟩) (fun _ => rfl) (opens_rec Tryd.underlying26 (opF_cons (n := 1) 0 rfl rfl (opens_slice (T := tU8) Tryd.underlying22 (by kernel_rfl) (by kernel_rfl) (by decide) (opens_u8 Tryd.underlying5)) (by kernel_rfl) (opF_cons (n := 1) 1 rfl rfl (opens_slice (T := tU8) Tryd.underlying22 (by kernel_rfl) (by kernel_rfl) (by decide) (opens_u8 Tryd.underlying5)) (by kernel_rfl) (opF_last (n := 1) 2 rfl rfl (opens_slice (T := tTurn) Tryd.underlying24 (by kernel_rfl) (by kernel_rfl) (by decide) opTurn) (by kernel_rfl) (by kernel_rfl))))))
theorem proof_rep {σ : Nat → Nat} {w : World} {x : Proof} {cs : Array Value} (h : tProof.rep σ w x (Value.agg cs).cells.toList) : ∃ a b c, cs = #[a, b, c] ∧ Rd tU8 σ w a x.key ∧ Rd tU8 σ w b x.value ∧ Rd tTurn σ w c x.turns := by
  obtain ⟨c1, c2, e, ⟨a, rfl, ha⟩, c3, c4, rfl, ⟨b, rfl, hb⟩, c, rfl, hc⟩ := h
  refine ⟨a, b, c, ?_, ha, hb, hc⟩
  apply Array.ext'
  exact e
end Go.Proofs.YtnicmjipbnhciaaDoor.X
