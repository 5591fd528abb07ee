/- What the law ProofVerifies needs: the engine, the walks of what it reaches, plain laws; part 6. -/
import Derived.Test.YtnicmjipbnhciaaDoorProofVerifiesM5
import Derived.OpenShut
set_option linter.unnecessarySimpa false
set_option linter.deprecated false
set_option linter.unusedVariables false
set_option linter.unusedSimpArgs false
set_option maxRecDepth 100000
namespace Go.Proofs.YtnicmjipbnhciaaDoor.X
open Go Go.RowKit Go.Proofs Go.Proofs.YtnicmjipbnhciaaDoor.E
def cgk (a : UInt8) (n : Nat) : Nat := ((a.toNat : Int) % (n : Int)).toNat
def cgT (ts : List Turn) (w a : UInt8) (n : Int) (h : List UInt8) : List Turn :=
  if w % 9 = 0 then ts else if w % 9 = 1 then ts else if (ts.length : Int) = 0 then [⟨n, 0, false, mk32 h⟩] else
  if w % 9 = 2 then ts.set (cgk a ts.length) ⟨n, (ts.getD (cgk a ts.length) (Turn.mk 0 0 false zero32)).size, (ts.getD (cgk a ts.length) (Turn.mk 0 0 false zero32)).right, (ts.getD (cgk a ts.length) (Turn.mk 0 0 false zero32)).other⟩ else
  if w % 9 = 3 then ts.set (cgk a ts.length) ⟨(ts.getD (cgk a ts.length) (Turn.mk 0 0 false zero32)).height, ofI n, (ts.getD (cgk a ts.length) (Turn.mk 0 0 false zero32)).right, (ts.getD (cgk a ts.length) (Turn.mk 0 0 false zero32)).other⟩ else
  if w % 9 = 4 then ts.set (cgk a ts.length) ⟨(ts.getD (cgk a ts.length) (Turn.mk 0 0 false zero32)).height, (ts.getD (cgk a ts.length) (Turn.mk 0 0 false zero32)).size, !(ts.getD (cgk a ts.length) (Turn.mk 0 0 false zero32)).right, (ts.getD (cgk a ts.length) (Turn.mk 0 0 false zero32)).other⟩ else
  if w % 9 = 5 then ts.set (cgk a ts.length) ⟨(ts.getD (cgk a ts.length) (Turn.mk 0 0 false zero32)).height, (ts.getD (cgk a ts.length) (Turn.mk 0 0 false zero32)).size, (ts.getD (cgk a ts.length) (Turn.mk 0 0 false zero32)).right, mk32 h⟩ else
  if w % 9 = 6 then ts.drop 1 else if w % 9 = 7 then ts.take (ts.length - 1) else ts ++ [⟨n, 2, false, mk32 h⟩]
def cgP (p : Proof) (w a : UInt8) (n : Int) (h b : List UInt8) : Proof := ⟨if w % 9 = 0 then b else p.key, if w % 9 = 0 then p.value else if w % 9 = 1 then b else p.value, cgT p.turns w a n h⟩
section
variable {ts : List Turn} {w a : UInt8} {n : Int} {h b : List UInt8} {p : Proof}
abbrev gD (ts : List Turn) (a : UInt8) : Turn := ts.getD (cgk a ts.length) (Turn.mk 0 0 false zero32)
theorem cg1 (h : 0 < ((([] : List Turn) ++ ts).length : Int)) : 0 ≤ (a.toNat : Int) % ((([] : List Turn) ++ ts).length : Int) ∧ (a.toNat : Int) % ((([] : List Turn) ++ ts).length : Int) < ((([] : List Turn) ++ ts).length : Int) := ⟨Int.emod_nonneg _ (by omega), Int.emod_lt_of_pos _ h⟩
theorem cg2 (h : 0 < ((([] : List Turn) ++ ts).length : Int)) : ((a.toNat : Int) % ((([] : List Turn) ++ ts).length : Int)).toNat < (([] : List Turn) ++ ts).length := by have := cg1 (a := a) h; omega
theorem cgT2 (h0 : ¬ w % 9 = 0) (h1 : ¬ w % 9 = 1) (hl : ¬ ((([] : List Turn) ++ ts).length : Int) = 0) (h2 : w % 9 = 2) : ts.set (cgk a ts.length) ⟨n, (gD ts a).size, (gD ts a).right, mk32 (gD ts a).other.l⟩ = cgT ts w a n h := by
  rw [mk32_l]; unfold cgT; rw [if_neg h0, if_neg h1, if_neg (show ¬ ((ts.length : Nat) : Int) = 0 from hl), if_pos h2]
theorem cgT3 (h0 : ¬ w % 9 = 0) (h1 : ¬ w % 9 = 1) (hl : ¬ ((([] : List Turn) ++ ts).length : Int) = 0) (h2 : ¬ w % 9 = 2) (h3 : w % 9 = 3) : ts.set (cgk a ts.length) ⟨(gD ts a).height, ofI n, (gD ts a).right, mk32 (gD ts a).other.l⟩ = cgT ts w a n h := by
  rw [mk32_l]; unfold cgT; rw [if_neg h0, if_neg h1, if_neg (show ¬ ((ts.length : Nat) : Int) = 0 from hl), if_neg h2, if_pos h3]
theorem cgT4 (h0 : ¬ w % 9 = 0) (h1 : ¬ w % 9 = 1) (hl : ¬ ((([] : List Turn) ++ ts).length : Int) = 0) (h2 : ¬ w % 9 = 2) (h3 : ¬ w % 9 = 3) (h4 : w % 9 = 4) : ts.set (cgk a ts.length) ⟨(gD ts a).height, (gD ts a).size, !(gD ts a).right, mk32 (gD ts a).other.l⟩ = cgT ts w a n h := by
  rw [mk32_l]; unfold cgT; rw [if_neg h0, if_neg h1, if_neg (show ¬ ((ts.length : Nat) : Int) = 0 from hl), if_neg h2, if_neg h3, if_pos h4]
theorem cgT5 (h0 : ¬ w % 9 = 0) (h1 : ¬ w % 9 = 1) (hl : ¬ ((([] : List Turn) ++ ts).length : Int) = 0) (h2 : ¬ w % 9 = 2) (h3 : ¬ w % 9 = 3) (h4 : ¬ w % 9 = 4) (h5 : w % 9 = 5) : ts.set (cgk a ts.length) ⟨(gD ts a).height, (gD ts a).size, (gD ts a).right, mk32 h⟩ = cgT ts w a n h := by
  unfold cgT; rw [if_neg h0, if_neg h1, if_neg (show ¬ ((ts.length : Nat) : Int) = 0 from hl), if_neg h2, if_neg h3, if_neg h4, if_pos h5]
theorem cgL (hl : ts.length ≤ 100000) : I64 (((([] : List Turn) ++ ts).length : Int) - 1) := by show I64 ((ts.length : Int) - 1); unfold I64; omega
end
noncomputable def ccG1_31 : Code := (Tryd.f31.body).getD .skip
theorem Change_ok (p : Proof) (wh a : UInt8) (n : Int) (h b : List UInt8) (hn : I64 n) (hh : h.length = 32) (hl : p.turns.length ≤ 100000) : FOk EN 31 ⟨[.rd 5 (p.key), .rd 5 (p.value), .rd 121 p.turns, .rd 5 (b)], [.a [.n 0, .n 1, .n 2], .c wh, .c a, .i n, .a [.h 32 h], .n 3], Unit, fun _ => ([.rd 5 (p.key), .rd 5 (p.value), .rd 121 p.turns, .rd 5 (b), .rd 5 ((cgP p wh a n h b).key), .rd 5 ((cgP p wh a n h b).value), .rd 121 (cgP p wh a n h b).turns], .a [.n 4, .n 5, .n 6]), fun _ => True⟩ := by
 refine v_fun Tryd.f31 ccG1_31 MX (fun ν F σ w => ?_) Tryd.func31
 refine v_nl ?_
 refine v_mark 121 ?_
 refine v_if (decide (0 < (↑([] ++ p.turns).length : Int))) ((0 + p.turns.length ≤ 1000000)) (by omega) (fun h1 => ?_) (fun h1 => ?_)
 ·have h1 := of_decide_eq_true h1
  refine v_if (decide (wh % 9 = 0)) ((0 ≤ (↑a.toNat : Int) ∧ 0 < (↑([] ++ p.turns).length : Int)) ∧ ((9 : UInt8) ≠ (0 : UInt8))) ⟨(by omega), (by decide)⟩ (fun h2 => ?_) (fun h2 => ?_)
  ·have h2 := of_decide_eq_true h2
   refine v_stop 10 True trivial ?_
   exact v_ret () [3, 1, 10] ((p.key = p.key) ∧ (p.value = p.value) ∧ (p.turns = p.turns) ∧ (b = b) ∧ (b = (cgP p wh a n h b).key) ∧ (p.value = (cgP p wh a n h b).value) ∧ ([] ++ p.turns = (cgP p wh a n h b).turns)) ⟨rfl, rfl, rfl, rfl, (by (simp only [cgP, cgT]; (repeat first | rw [if_pos (by omega)] | rw [if_neg (by omega)]); done)), (by (simp only [cgP, cgT]; (repeat first | rw [if_pos (by omega)] | rw [if_neg (by omega)]); done)), (by (simp only [cgP, cgT]; (repeat first | rw [if_pos (by omega)] | rw [if_neg (by omega)]); first | rfl | omega | (simp; done) | (simp; omega)))⟩ trivial
  ·have h2 := of_decide_eq_false h2
   refine v_if (decide (wh % 9 = 1)) True trivial (fun h3 => ?_) (fun h3 => ?_)
   ·have h3 := of_decide_eq_true h3
    refine v_stop 10 True trivial ?_
    exact v_ret () [0, 3, 10] ((p.key = p.key) ∧ (p.value = p.value) ∧ (p.turns = p.turns) ∧ (b = b) ∧ (p.key = (cgP p wh a n h b).key) ∧ (b = (cgP p wh a n h b).value) ∧ ([] ++ p.turns = (cgP p wh a n h b).turns)) ⟨rfl, rfl, rfl, rfl, (by (simp only [cgP, cgT]; (repeat first | rw [if_pos (by omega)] | rw [if_neg (by omega)]); done)), (by (simp only [cgP, cgT]; (repeat first | rw [if_pos (by omega)] | rw [if_neg (by omega)]); done)), (by (simp only [cgP, cgT]; (repeat first | rw [if_pos (by omega)] | rw [if_neg (by omega)]); first | rfl | omega | (simp; done) | (simp; omega)))⟩ trivial
   ·have h3 := of_decide_eq_false h3
    refine v_if (decide ((↑([] ++ p.turns).length : Int) = 0)) True trivial (fun h4 => ?_) (fun h4 => ?_)
    ·have h4 := of_decide_eq_true h4
     omega
    ·have h4 := of_decide_eq_false h4
     refine v_if (decide (wh % 9 = 2)) True trivial (fun h5 => ?_) (fun h5 => ?_)
     ·have h5 := of_decide_eq_true h5
      refine v_stop 10 ((0 ≤ (↑a.toNat : Int) % (↑([] ++ p.turns).length : Int) ∧ (↑a.toNat : Int) % (↑([] ++ p.turns).length : Int) < (↑([] ++ p.turns).length : Int)) ∧ (((↑a.toNat : Int) % (↑([] ++ p.turns).length : Int)).toNat < ([] ++ p.turns).length) ∧ (((↑a.toNat : Int) % (↑([] ++ p.turns).length : Int)).toNat < ([] ++ p.turns).length)) ⟨(by exact cg1 (by assumption)), (by exact cg2 (by assumption)), (by exact cg2 (by assumption))⟩ ?_
      exact v_ret () [0, 1, 10] ((p.key = p.key) ∧ (p.value = p.value) ∧ (p.turns = p.turns) ∧ (b = b) ∧ (p.key = (cgP p wh a n h b).key) ∧ (p.value = (cgP p wh a n h b).value) ∧ (([] ++ p.turns).set ((↑a.toNat : Int) % (↑([] ++ p.turns).length : Int)).toNat (Turn.mk n (([] ++ p.turns).getD ((↑a.toNat : Int) % (↑([] ++ p.turns).length : Int)).toNat (Turn.mk 0 0 false zero32)).size (([] ++ p.turns).getD ((↑a.toNat : Int) % (↑([] ++ p.turns).length : Int)).toNat (Turn.mk 0 0 false zero32)).right (mk32 (([] ++ p.turns).getD ((↑a.toNat : Int) % (↑([] ++ p.turns).length : Int)).toNat (Turn.mk 0 0 false zero32)).other.l)) = (cgP p wh a n h b).turns)) ⟨rfl, rfl, rfl, rfl, (by (simp only [cgP, cgT]; (repeat first | rw [if_pos (by omega)] | rw [if_neg (by omega)]); done)), (by (simp only [cgP, cgT]; (repeat first | rw [if_pos (by omega)] | rw [if_neg (by omega)]); done)), (by exact cgT2 (by assumption) (by assumption) (by assumption) (by assumption))⟩ trivial
     ·have h5 := of_decide_eq_false h5
      refine v_if (decide (wh % 9 = 3)) True trivial (fun h6 => ?_) (fun h6 => ?_)
      ·have h6 := of_decide_eq_true h6
       refine v_stop 10 ((0 ≤ (↑a.toNat : Int) % (↑([] ++ p.turns).length : Int) ∧ (↑a.toNat : Int) % (↑([] ++ p.turns).length : Int) < (↑([] ++ p.turns).length : Int)) ∧ (((↑a.toNat : Int) % (↑([] ++ p.turns).length : Int)).toNat < ([] ++ p.turns).length) ∧ (((↑a.toNat : Int) % (↑([] ++ p.turns).length : Int)).toNat < ([] ++ p.turns).length)) ⟨(by exact cg1 (by assumption)), (by exact cg2 (by assumption)), (by exact cg2 (by assumption))⟩ ?_
       exact v_ret () [0, 1, 10] ((p.key = p.key) ∧ (p.value = p.value) ∧ (p.turns = p.turns) ∧ (b = b) ∧ (p.key = (cgP p wh a n h b).key) ∧ (p.value = (cgP p wh a n h b).value) ∧ (([] ++ p.turns).set ((↑a.toNat : Int) % (↑([] ++ p.turns).length : Int)).toNat (Turn.mk (([] ++ p.turns).getD ((↑a.toNat : Int) % (↑([] ++ p.turns).length : Int)).toNat (Turn.mk 0 0 false zero32)).height (ofI n) (([] ++ p.turns).getD ((↑a.toNat : Int) % (↑([] ++ p.turns).length : Int)).toNat (Turn.mk 0 0 false zero32)).right (mk32 (([] ++ p.turns).getD ((↑a.toNat : Int) % (↑([] ++ p.turns).length : Int)).toNat (Turn.mk 0 0 false zero32)).other.l)) = (cgP p wh a n h b).turns)) ⟨rfl, rfl, rfl, rfl, (by (simp only [cgP, cgT]; (repeat first | rw [if_pos (by omega)] | rw [if_neg (by omega)]); done)), (by (simp only [cgP, cgT]; (repeat first | rw [if_pos (by omega)] | rw [if_neg (by omega)]); done)), (by exact cgT3 (by assumption) (by assumption) (by assumption) (by assumption) (by assumption))⟩ trivial
      ·have h6 := of_decide_eq_false h6
       refine v_if (decide (wh % 9 = 4)) True trivial (fun h7 => ?_) (fun h7 => ?_)
       ·have h7 := of_decide_eq_true h7
        refine v_plan (.fs [0, 1, 2, 3, 4, 5, 6, 7] (.o 8 (.fs [9, 10, 11] (.o 12 .e)))) [5, 6, 7, 8] True trivial ?_
        refine v_stop 10 ((0 ≤ (↑a.toNat : Int) % (↑([] ++ p.turns).length : Int) ∧ (↑a.toNat : Int) % (↑([] ++ p.turns).length : Int) < (↑([] ++ p.turns).length : Int)) ∧ (((↑a.toNat : Int) % (↑([] ++ p.turns).length : Int)).toNat < ([] ++ p.turns).length) ∧ (((↑a.toNat : Int) % (↑([] ++ p.turns).length : Int)).toNat < ([] ++ p.turns).length) ∧ (0 ≤ (↑a.toNat : Int) % (↑([] ++ p.turns).length : Int) ∧ (↑a.toNat : Int) % (↑([] ++ p.turns).length : Int) < (↑([] ++ p.turns).length : Int)) ∧ (((↑a.toNat : Int) % (↑([] ++ p.turns).length : Int)).toNat < ([] ++ p.turns).length) ∧ (((↑a.toNat : Int) % (↑([] ++ p.turns).length : Int)).toNat < ([] ++ p.turns).length)) ⟨(by exact cg1 (by assumption)), (by exact cg2 (by assumption)), (by exact cg2 (by assumption)), (by exact cg1 (by assumption)), (by exact cg2 (by assumption)), (by exact cg2 (by assumption))⟩ ?_
        exact v_ret () [0, 1, 10] ((p.key = p.key) ∧ (p.value = p.value) ∧ (p.turns = p.turns) ∧ (b = b) ∧ (p.key = (cgP p wh a n h b).key) ∧ (p.value = (cgP p wh a n h b).value) ∧ (([] ++ p.turns).set ((↑a.toNat : Int) % (↑([] ++ p.turns).length : Int)).toNat (Turn.mk (([] ++ p.turns).getD ((↑a.toNat : Int) % (↑([] ++ p.turns).length : Int)).toNat (Turn.mk 0 0 false zero32)).height (([] ++ p.turns).getD ((↑a.toNat : Int) % (↑([] ++ p.turns).length : Int)).toNat (Turn.mk 0 0 false zero32)).size (!(([] ++ p.turns).getD ((↑a.toNat : Int) % (↑([] ++ p.turns).length : Int)).toNat (Turn.mk 0 0 false zero32)).right) (mk32 (([] ++ p.turns).getD ((↑a.toNat : Int) % (↑([] ++ p.turns).length : Int)).toNat (Turn.mk 0 0 false zero32)).other.l)) = (cgP p wh a n h b).turns)) ⟨rfl, rfl, rfl, rfl, (by (simp only [cgP, cgT]; (repeat first | rw [if_pos (by omega)] | rw [if_neg (by omega)]); done)), (by (simp only [cgP, cgT]; (repeat first | rw [if_pos (by omega)] | rw [if_neg (by omega)]); done)), (by exact cgT4 (by assumption) (by assumption) (by assumption) (by assumption) (by assumption) (by assumption))⟩ trivial
       ·have h7 := of_decide_eq_false h7
        refine v_if (decide (wh % 9 = 5)) True trivial (fun h8 => ?_) (fun h8 => ?_)
        ·have h8 := of_decide_eq_true h8
         refine v_stop 10 ((0 ≤ (↑a.toNat : Int) % (↑([] ++ p.turns).length : Int) ∧ (↑a.toNat : Int) % (↑([] ++ p.turns).length : Int) < (↑([] ++ p.turns).length : Int)) ∧ (((↑a.toNat : Int) % (↑([] ++ p.turns).length : Int)).toNat < ([] ++ p.turns).length) ∧ (((↑a.toNat : Int) % (↑([] ++ p.turns).length : Int)).toNat < ([] ++ p.turns).length)) ⟨(by exact cg1 (by assumption)), (by exact cg2 (by assumption)), (by exact cg2 (by assumption))⟩ ?_
         exact v_ret () [0, 1, 10] ((p.key = p.key) ∧ (p.value = p.value) ∧ (p.turns = p.turns) ∧ (b = b) ∧ (p.key = (cgP p wh a n h b).key) ∧ (p.value = (cgP p wh a n h b).value) ∧ (([] ++ p.turns).set ((↑a.toNat : Int) % (↑([] ++ p.turns).length : Int)).toNat (Turn.mk (([] ++ p.turns).getD ((↑a.toNat : Int) % (↑([] ++ p.turns).length : Int)).toNat (Turn.mk 0 0 false zero32)).height (([] ++ p.turns).getD ((↑a.toNat : Int) % (↑([] ++ p.turns).length : Int)).toNat (Turn.mk 0 0 false zero32)).size (([] ++ p.turns).getD ((↑a.toNat : Int) % (↑([] ++ p.turns).length : Int)).toNat (Turn.mk 0 0 false zero32)).right (mk32 h)) = (cgP p wh a n h b).turns)) ⟨rfl, rfl, rfl, rfl, (by (simp only [cgP, cgT]; (repeat first | rw [if_pos (by omega)] | rw [if_neg (by omega)]); done)), (by (simp only [cgP, cgT]; (repeat first | rw [if_pos (by omega)] | rw [if_neg (by omega)]); done)), (by exact cgT5 (by assumption) (by assumption) (by assumption) (by assumption) (by assumption) (by assumption) (by assumption))⟩ trivial
        ·have h8 := of_decide_eq_false h8
         refine v_if (decide (wh % 9 = 6)) True trivial (fun h9 => ?_) (fun h9 => ?_)
         ·have h9 := of_decide_eq_true h9
          refine v_stop 10 True trivial ?_
          exact v_ret () [0, 1, 11] (((0 : Int) ≤ (1 : Int) ∧ (1 : Int) ≤ (↑([] ++ p.turns).length : Int)) ∧ (p.key = p.key) ∧ (p.value = p.value) ∧ (p.turns = p.turns) ∧ (b = b) ∧ (p.key = (cgP p wh a n h b).key) ∧ (p.value = (cgP p wh a n h b).value) ∧ (List.drop 1 ([] ++ p.turns) = (cgP p wh a n h b).turns)) ⟨(by omega), rfl, rfl, rfl, rfl, (by (simp only [cgP, cgT]; (repeat first | rw [if_pos (by omega)] | rw [if_neg (by omega)]); done)), (by (simp only [cgP, cgT]; (repeat first | rw [if_pos (by omega)] | rw [if_neg (by omega)]); done)), (by (simp only [cgP, cgT] at *; (repeat first | rw [if_pos (by omega)] | rw [if_neg (by omega)]); first | done | rfl | omega | (simp; done) | (simp; omega) | simp_all))⟩ trivial
         ·have h9 := of_decide_eq_false h9
          refine v_if (decide (wh % 9 = 7)) True trivial (fun h10 => ?_) (fun h10 => ?_)
          ·have h10 := of_decide_eq_true h10
           refine v_stop 10 ((I64 (↑([] ++ p.turns).length - 1))) (by exact cgL (by assumption)) ?_
           exact v_ret () [0, 1, 11] ((0 ≤ (↑([] ++ p.turns).length : Int) - 1 ∧ (↑([] ++ p.turns).length : Int) - 1 ≤ (↑([] ++ p.turns).length : Int)) ∧ (p.key = p.key) ∧ (p.value = p.value) ∧ (p.turns = p.turns) ∧ (b = b) ∧ (p.key = (cgP p wh a n h b).key) ∧ (p.value = (cgP p wh a n h b).value) ∧ (List.take ((↑([] ++ p.turns).length : Int) - 1).toNat ([] ++ p.turns) = (cgP p wh a n h b).turns)) ⟨(by omega), rfl, rfl, rfl, rfl, (by (simp only [cgP, cgT]; (repeat first | rw [if_pos (by omega)] | rw [if_neg (by omega)]); done)), (by (simp only [cgP, cgT]; (repeat first | rw [if_pos (by omega)] | rw [if_neg (by omega)]); done)), (by (simp only [cgP, cgT] at *; (repeat first | rw [if_pos (by omega)] | rw [if_neg (by omega)]); first | done | rfl | omega | (simp; done) | (simp; omega) | simp_all))⟩ trivial
          ·have h10 := of_decide_eq_false h10
           refine v_stop 11 True trivial ?_
           refine v_stop 12 ((([] ++ p.turns).length + 1 ≤ 1000000)) (by (simp; omega)) ?_
           exact v_ret () [0, 1, 12] ((p.key = p.key) ∧ (p.value = p.value) ∧ (p.turns = p.turns) ∧ (b = b) ∧ (p.key = (cgP p wh a n h b).key) ∧ (p.value = (cgP p wh a n h b).value) ∧ ([] ++ p.turns ++ [Turn.mk n 2 false (mk32 h)] = (cgP p wh a n h b).turns)) ⟨rfl, rfl, rfl, rfl, (by (simp only [cgP, cgT]; (repeat first | rw [if_pos (by omega)] | rw [if_neg (by omega)]); done)), (by (simp only [cgP, cgT]; (repeat first | rw [if_pos (by omega)] | rw [if_neg (by omega)]); done)), (by (simp only [cgP, cgT] at *; (repeat first | rw [if_pos (by omega)] | rw [if_neg (by omega)]); first | done | rfl | omega | (simp; done) | (simp; omega) | simp_all))⟩ trivial
 ·have h1 := of_decide_eq_false h1
  refine v_if (decide (wh % 9 = 0)) (((9 : UInt8) ≠ (0 : UInt8))) (by decide) (fun h11 => ?_) (fun h11 => ?_)
  ·have h11 := of_decide_eq_true h11
   refine v_stop 10 True trivial ?_
   exact v_ret () [3, 1, 10] ((p.key = p.key) ∧ (p.value = p.value) ∧ (p.turns = p.turns) ∧ (b = b) ∧ (b = (cgP p wh a n h b).key) ∧ (p.value = (cgP p wh a n h b).value) ∧ ([] ++ p.turns = (cgP p wh a n h b).turns)) ⟨rfl, rfl, rfl, rfl, (by (simp only [cgP, cgT]; (repeat first | rw [if_pos (by omega)] | rw [if_neg (by omega)]); done)), (by (simp only [cgP, cgT]; (repeat first | rw [if_pos (by omega)] | rw [if_neg (by omega)]); done)), (by (simp only [cgP, cgT]; (repeat first | rw [if_pos (by omega)] | rw [if_neg (by omega)]); first | rfl | omega | (simp; done) | (simp; omega)))⟩ trivial
  ·have h11 := of_decide_eq_false h11
   refine v_if (decide (wh % 9 = 1)) True trivial (fun h12 => ?_) (fun h12 => ?_)
   ·have h12 := of_decide_eq_true h12
    refine v_stop 10 True trivial ?_
    exact v_ret () [0, 3, 10] ((p.key = p.key) ∧ (p.value = p.value) ∧ (p.turns = p.turns) ∧ (b = b) ∧ (p.key = (cgP p wh a n h b).key) ∧ (b = (cgP p wh a n h b).value) ∧ ([] ++ p.turns = (cgP p wh a n h b).turns)) ⟨rfl, rfl, rfl, rfl, (by (simp only [cgP, cgT]; (repeat first | rw [if_pos (by omega)] | rw [if_neg (by omega)]); done)), (by (simp only [cgP, cgT]; (repeat first | rw [if_pos (by omega)] | rw [if_neg (by omega)]); done)), (by (simp only [cgP, cgT]; (repeat first | rw [if_pos (by omega)] | rw [if_neg (by omega)]); first | rfl | omega | (simp; done) | (simp; omega)))⟩ trivial
   ·have h12 := of_decide_eq_false h12
    refine v_if (decide ((↑([] ++ p.turns).length : Int) = 0)) True trivial (fun h13 => ?_) (fun h13 => ?_)
    ·have h13 := of_decide_eq_true h13
     refine v_stop 11 True trivial ?_
     exact v_ret () [0, 1, 11] ((p.key = p.key) ∧ (p.value = p.value) ∧ (p.turns = p.turns) ∧ (b = b) ∧ (p.key = (cgP p wh a n h b).key) ∧ (p.value = (cgP p wh a n h b).value) ∧ ([Turn.mk n 0 false (mk32 h)] = (cgP p wh a n h b).turns)) ⟨rfl, rfl, rfl, rfl, (by (simp only [cgP, cgT]; (repeat first | rw [if_pos (by omega)] | rw [if_neg (by omega)]); done)), (by (simp only [cgP, cgT]; (repeat first | rw [if_pos (by omega)] | rw [if_neg (by omega)]); done)), (by (simp only [cgP, cgT] at *; (repeat first | rw [if_pos (by omega)] | rw [if_neg (by omega)]); first | done | rfl | omega | (simp; done) | (simp; omega) | simp_all))⟩ trivial
    ·have h13 := of_decide_eq_false h13
     omega
end Go.Proofs.YtnicmjipbnhciaaDoor.X
set_option linter.unusedVariables false
set_option linter.unusedSimpArgs false
set_option maxRecDepth 100000
namespace Go.Proofs.YtnicmjipbnhciaaDoor.X
open Go Go.RowKit Go.Proofs Go.Proofs.YtnicmjipbnhciaaDoor.E
theorem gmk {n k : Nat} (h : ¬ (n : Int) = 0) : 0 ≤ (k : Int) % (n : Int) ∧ (k : Int) % (n : Int) < (n : Int) := ⟨Int.emod_nonneg _ h, Int.emod_lt_of_pos _ (by omega)⟩
noncomputable def ccV1_6 : Code := (Tryd.f6.body).getD .skip
theorem ProofVerifies_ok (p : Proof) (want : List UInt8) (acts : List Act) (k wh a : UInt8) (n : Int) (h b : List UInt8) (hw : want.length = 32) (hn : I64 n) (hh : h.length = 32) (h1 : p.key.length ≤ 140737488355328) (h2 : p.value.length ≤ 140737488355328) (h3 : b.length ≤ 140737488355328) : FOk EN 6 ⟨[.pr wordsP, .pr rootsP, .pr etP, .rd 5 (p.key), .rd 5 (p.value), .rd 121 p.turns, .rd 133 acts, .rd 5 (b)], [.a [.n 3, .n 4, .n 5], .a [.h 32 want], .n 6, .c k, .c wh, .c a, .i n, .a [.h 32 h], .n 7], Unit, fun _ => ([.pr wordsP, .pr rootsP, .pr etP, .rd 5 (p.key), .rd 5 (p.value), .rd 121 p.turns, .rd 133 acts, .rd 5 (b)], .b true), fun _ => True⟩ := by
 refine v_fun Tryd.f6 ccV1_6 MX (fun ν F σ w => ?_) Tryd.func6
 refine v_nl ?_
 refine v_call _ [0, 2] (Awake9_ok) ((wordsP = wordsP) ∧ (etP = etP)) ⟨rfl, rfl⟩ (fun g1 p2 => ?_)
 have p2 : True := p2
 refine v_if (!true) True trivial (fun h3 => ?_) (fun h3 => ?_)
 ·have h3 := (nt h3)
  contradiction
 ·have h3 := (nf h3)
  refine v_guard 30 (decide (100 < (↑p.turns.length : Int))) True trivial (fun h4 => ?_) (fun h4 => ?_)
  ·have h4 := of_decide_eq_true h4
   exact v_ret () [] ((true = true) ∧ (wordsP = wordsP) ∧ (rootsP = rootsP) ∧ (etP = etP) ∧ (p.key = p.key) ∧ (p.value = p.value) ∧ (p.turns = p.turns) ∧ (acts = acts) ∧ (b = b)) ⟨rfl, rfl, rfl, rfl, rfl, rfl, rfl, rfl, rfl⟩ trivial
  ·have h4 := of_decide_eq_false h4
   refine v_if (decide (2000 < (↑p.key.length : Int) + (↑p.value.length : Int) + (↑b.length : Int))) ((I64 (↑p.key.length + ↑p.value.length)) ∧ (I64 (↑p.key.length + ↑p.value.length + ↑b.length))) ⟨(by (unfold I64; omega)), (by (unfold I64; omega))⟩ (fun h5 => ?_) (fun h5 => ?_)
   ·have h5 := of_decide_eq_true h5
    exact v_ret () [] ((true = true) ∧ (wordsP = wordsP) ∧ (rootsP = rootsP) ∧ (etP = etP) ∧ (p.key = p.key) ∧ (p.value = p.value) ∧ (p.turns = p.turns) ∧ (acts = acts) ∧ (b = b)) ⟨rfl, rfl, rfl, rfl, rfl, rfl, rfl, rfl, rfl⟩ trivial
   ·have h5 := of_decide_eq_false h5
    refine v_plan (.fs [0, 1, 4, 5] (.o 2 (.o 3 (.o 6 (.fs [7] .e))))) [9, 10, 11] True trivial ?_
    refine v_call _ [0, 3, 4, 5] (Verify_ok (want) (p) (by assumption)) ((want = want) ∧ (wordsP = wordsP) ∧ (p.key = p.key) ∧ (p.value = p.value) ∧ (p.turns = p.turns)) ⟨rfl, rfl, rfl, rfl, rfl⟩ (fun g6 p7 => ?_)
    have p7 : True := p7
    refine v_call _ [2, 12] (Code_ok (verP want p) (by exact Nat.le_trans (verP_dep _ _) (by decide))) ((etP = etP) ∧ (PE (verP want p) = PE (verP want p)) ∧ ((verP want p).isNone = (verP want p).isNone)) ⟨rfl, rfl, rfl⟩ (fun g8 p9 => ?_)
    have p9 : True := p9
    refine v_call _ [1, 3, 4, 5] (rver_ok (want) (p) (by assumption)) ((want = want) ∧ (rootsP = rootsP) ∧ (p.key = p.key) ∧ (p.value = p.value) ∧ (p.turns = p.turns)) ⟨rfl, rfl, rfl, rfl, rfl⟩ (fun g10 p11 => ?_)
    have p11 : True := p11
    refine v_if (decide (codeO (verP want p) ≠ codeO (verP want p))) True trivial (fun h12 => ?_) (fun h12 => ?_)
    ·have h12 := of_decide_eq_true h12
     omega
    ·have h12 := of_decide_eq_false h12
     refine v_call _ [0, 6] (Grow_ok (acts) (nat_lit 40) (by decide)) (((40 : Int) = (↑(nat_lit 40) : Int)) ∧ (wordsP = wordsP) ∧ (acts = acts)) ⟨rfl, rfl, rfl⟩ (fun g13 p14 => ?_)
     have p14 : True := p14
     refine v_if (decide ((↑(growT acts (nat_lit 40)).snd.length : Int) = (0 : Int))) True trivial (fun h15 => ?_) (fun h15 => ?_)
     ·have h15 := of_decide_eq_true h15
      exact v_ret () [] ((true = true) ∧ (wordsP = wordsP) ∧ (rootsP = rootsP) ∧ (etP = etP) ∧ (p.key = p.key) ∧ (p.value = p.value) ∧ (p.turns = p.turns) ∧ (acts = acts) ∧ (b = b)) ⟨rfl, rfl, rfl, rfl, rfl, rfl, rfl, rfl, rfl⟩ trivial
     ·have h15 := of_decide_eq_false h15
      refine v_call _ [15, 13] (Make_ok ((growT acts (nat_lit 40)).fst) (((growT acts (nat_lit 40)).snd.getD ((↑k.toNat : Int) % (↑(growT acts (nat_lit 40)).snd.length : Int)).toNat (Pair.mk [] [])).key) (by exact (growT_fine acts 40 (by decide)).O)) (((0 : Int) ≤ (↑k.toNat : Int) ∧ (0 : Int) < (↑(growT acts (nat_lit 40)).snd.length : Int)) ∧ ((0 : Int) ≤ (↑k.toNat : Int) % (↑(growT acts (nat_lit 40)).snd.length : Int) ∧ (↑k.toNat : Int) % (↑(growT acts (nat_lit 40)).snd.length : Int) < (↑(growT acts (nat_lit 40)).snd.length : Int)) ∧ (((growT acts (nat_lit 40)).snd.getD ((↑k.toNat : Int) % (↑(growT acts (nat_lit 40)).snd.length : Int)).toNat (Pair.mk [] [])).key = ((growT acts (nat_lit 40)).snd.getD ((↑k.toNat : Int) % (↑(growT acts (nat_lit 40)).snd.length : Int)).toNat (Pair.mk [] [])).key) ∧ (PTO (growT acts (nat_lit 40)).fst = PTO (growT acts (nat_lit 40)).fst) ∧ (false = false)) ⟨(by omega), (by exact gmk (by assumption)), rfl, rfl, rfl⟩ (fun g16 p17 => ?_)
      have p17 : True := p17
      refine v_call _ [18, 19, 20, 7] (Change_ok (mkP ((growT acts (nat_lit 40)).snd.getD ((↑k.toNat : Int) % (↑(growT acts (nat_lit 40)).snd.length : Int)).toNat (Pair.mk [] [])).key (growT acts (nat_lit 40)).fst) (wh) (a) (n) (h) (b) (by assumption) (by assumption) (by exact Nat.le_trans (turns_le _ (by decide)) (by decide))) ((wh = wh) ∧ (a = a) ∧ (n = n) ∧ (h = h) ∧ ((mkP ((growT acts (nat_lit 40)).snd.getD ((↑k.toNat : Int) % (↑(growT acts (nat_lit 40)).snd.length : Int)).toNat (Pair.mk [] [])).key (growT acts (nat_lit 40)).fst).key = (mkP ((growT acts (nat_lit 40)).snd.getD ((↑k.toNat : Int) % (↑(growT acts (nat_lit 40)).snd.length : Int)).toNat (Pair.mk [] [])).key (growT acts (nat_lit 40)).fst).key) ∧ ((mkP ((growT acts (nat_lit 40)).snd.getD ((↑k.toNat : Int) % (↑(growT acts (nat_lit 40)).snd.length : Int)).toNat (Pair.mk [] [])).key (growT acts (nat_lit 40)).fst).value = (mkP ((growT acts (nat_lit 40)).snd.getD ((↑k.toNat : Int) % (↑(growT acts (nat_lit 40)).snd.length : Int)).toNat (Pair.mk [] [])).key (growT acts (nat_lit 40)).fst).value) ∧ ((mkP ((growT acts (nat_lit 40)).snd.getD ((↑k.toNat : Int) % (↑(growT acts (nat_lit 40)).snd.length : Int)).toNat (Pair.mk [] [])).key (growT acts (nat_lit 40)).fst).turns = (mkP ((growT acts (nat_lit 40)).snd.getD ((↑k.toNat : Int) % (↑(growT acts (nat_lit 40)).snd.length : Int)).toNat (Pair.mk [] [])).key (growT acts (nat_lit 40)).fst).turns) ∧ (b = b)) ⟨rfl, rfl, rfl, rfl, rfl, rfl, rfl, rfl⟩ (fun g18 p19 => ?_)
      have p19 : True := p19
      refine v_plan (.fs [0, 2, 5, 7] (.o 1 (.o 3 (.o 4 (.o 6 (.o 8 (.fs [9, 10] .e))))))) [9, 10, 11, 14, 21, 25] True trivial ?_
      refine v_call _ [0, 13] (Root_ok ((growT acts (nat_lit 40)).fst)) ((wordsP = wordsP) ∧ (PTO (growT acts (nat_lit 40)).fst = PTO (growT acts (nat_lit 40)).fst) ∧ (false = false)) ⟨rfl, rfl, rfl⟩ (fun g20 p21 => ?_)
      have p21 : True := p21
      refine v_call _ [0, 22, 23, 24] (Verify_ok (hashO (growT acts (nat_lit 40)).fst) (cgP (mkP ((growT acts (nat_lit 40)).snd.getD ((↑k.toNat : Int) % (↑(growT acts (nat_lit 40)).snd.length : Int)).toNat (Pair.mk [] [])).key (growT acts (nat_lit 40)).fst) wh a n h b) (by exact hashO_len _)) ((hashO (growT acts (nat_lit 40)).fst = hashO (growT acts (nat_lit 40)).fst) ∧ (wordsP = wordsP) ∧ ((cgP (mkP ((growT acts (nat_lit 40)).snd.getD ((↑k.toNat : Int) % (↑(growT acts (nat_lit 40)).snd.length : Int)).toNat (Pair.mk [] [])).key (growT acts (nat_lit 40)).fst) wh a n h b).key = (cgP (mkP ((growT acts (nat_lit 40)).snd.getD ((↑k.toNat : Int) % (↑(growT acts (nat_lit 40)).snd.length : Int)).toNat (Pair.mk [] [])).key (growT acts (nat_lit 40)).fst) wh a n h b).key) ∧ ((cgP (mkP ((growT acts (nat_lit 40)).snd.getD ((↑k.toNat : Int) % (↑(growT acts (nat_lit 40)).snd.length : Int)).toNat (Pair.mk [] [])).key (growT acts (nat_lit 40)).fst) wh a n h b).value = (cgP (mkP ((growT acts (nat_lit 40)).snd.getD ((↑k.toNat : Int) % (↑(growT acts (nat_lit 40)).snd.length : Int)).toNat (Pair.mk [] [])).key (growT acts (nat_lit 40)).fst) wh a n h b).value) ∧ ((cgP (mkP ((growT acts (nat_lit 40)).snd.getD ((↑k.toNat : Int) % (↑(growT acts (nat_lit 40)).snd.length : Int)).toNat (Pair.mk [] [])).key (growT acts (nat_lit 40)).fst) wh a n h b).turns = (cgP (mkP ((growT acts (nat_lit 40)).snd.getD ((↑k.toNat : Int) % (↑(growT acts (nat_lit 40)).snd.length : Int)).toNat (Pair.mk [] [])).key (growT acts (nat_lit 40)).fst) wh a n h b).turns)) ⟨rfl, rfl, rfl, rfl, rfl⟩ (fun g22 p23 => ?_)
      have p23 : True := p23
      refine v_call _ [2, 26] (Code_ok (verP (hashO (growT acts (nat_lit 40)).fst) (cgP (mkP ((growT acts (nat_lit 40)).snd.getD ((↑k.toNat : Int) % (↑(growT acts (nat_lit 40)).snd.length : Int)).toNat (Pair.mk [] [])).key (growT acts (nat_lit 40)).fst) wh a n h b)) (by exact Nat.le_trans (verP_dep _ _) (by decide))) ((etP = etP) ∧ (PE (verP (hashO (growT acts (nat_lit 40)).fst) (cgP (mkP ((growT acts (nat_lit 40)).snd.getD ((↑k.toNat : Int) % (↑(growT acts (nat_lit 40)).snd.length : Int)).toNat (Pair.mk [] [])).key (growT acts (nat_lit 40)).fst) wh a n h b)) = PE (verP (hashO (growT acts (nat_lit 40)).fst) (cgP (mkP ((growT acts (nat_lit 40)).snd.getD ((↑k.toNat : Int) % (↑(growT acts (nat_lit 40)).snd.length : Int)).toNat (Pair.mk [] [])).key (growT acts (nat_lit 40)).fst) wh a n h b))) ∧ ((verP (hashO (growT acts (nat_lit 40)).fst) (cgP (mkP ((growT acts (nat_lit 40)).snd.getD ((↑k.toNat : Int) % (↑(growT acts (nat_lit 40)).snd.length : Int)).toNat (Pair.mk [] [])).key (growT acts (nat_lit 40)).fst) wh a n h b)).isNone = (verP (hashO (growT acts (nat_lit 40)).fst) (cgP (mkP ((growT acts (nat_lit 40)).snd.getD ((↑k.toNat : Int) % (↑(growT acts (nat_lit 40)).snd.length : Int)).toNat (Pair.mk [] [])).key (growT acts (nat_lit 40)).fst) wh a n h b)).isNone)) ⟨rfl, rfl, rfl⟩ (fun g24 p25 => ?_)
      have p25 : True := p25
      refine v_call _ [0, 13] (Root_ok ((growT acts (nat_lit 40)).fst)) ((wordsP = wordsP) ∧ (PTO (growT acts (nat_lit 40)).fst = PTO (growT acts (nat_lit 40)).fst) ∧ (false = false)) ⟨rfl, rfl, rfl⟩ (fun g26 p27 => ?_)
      have p27 : True := p27
      refine v_call _ [1, 22, 23, 24] (rver_ok (hashO (growT acts (nat_lit 40)).fst) (cgP (mkP ((growT acts (nat_lit 40)).snd.getD ((↑k.toNat : Int) % (↑(growT acts (nat_lit 40)).snd.length : Int)).toNat (Pair.mk [] [])).key (growT acts (nat_lit 40)).fst) wh a n h b) (by exact hashO_len _)) ((hashO (growT acts (nat_lit 40)).fst = hashO (growT acts (nat_lit 40)).fst) ∧ (rootsP = rootsP) ∧ ((cgP (mkP ((growT acts (nat_lit 40)).snd.getD ((↑k.toNat : Int) % (↑(growT acts (nat_lit 40)).snd.length : Int)).toNat (Pair.mk [] [])).key (growT acts (nat_lit 40)).fst) wh a n h b).key = (cgP (mkP ((growT acts (nat_lit 40)).snd.getD ((↑k.toNat : Int) % (↑(growT acts (nat_lit 40)).snd.length : Int)).toNat (Pair.mk [] [])).key (growT acts (nat_lit 40)).fst) wh a n h b).key) ∧ ((cgP (mkP ((growT acts (nat_lit 40)).snd.getD ((↑k.toNat : Int) % (↑(growT acts (nat_lit 40)).snd.length : Int)).toNat (Pair.mk [] [])).key (growT acts (nat_lit 40)).fst) wh a n h b).value = (cgP (mkP ((growT acts (nat_lit 40)).snd.getD ((↑k.toNat : Int) % (↑(growT acts (nat_lit 40)).snd.length : Int)).toNat (Pair.mk [] [])).key (growT acts (nat_lit 40)).fst) wh a n h b).value) ∧ ((cgP (mkP ((growT acts (nat_lit 40)).snd.getD ((↑k.toNat : Int) % (↑(growT acts (nat_lit 40)).snd.length : Int)).toNat (Pair.mk [] [])).key (growT acts (nat_lit 40)).fst) wh a n h b).turns = (cgP (mkP ((growT acts (nat_lit 40)).snd.getD ((↑k.toNat : Int) % (↑(growT acts (nat_lit 40)).snd.length : Int)).toNat (Pair.mk [] [])).key (growT acts (nat_lit 40)).fst) wh a n h b).turns)) ⟨rfl, rfl, rfl, rfl, rfl⟩ (fun g28 p29 => ?_)
      have p29 : True := p29
      exact v_ret () [] ((decide (codeO (verP (hashO (growT acts (nat_lit 40)).fst) (cgP (mkP ((growT acts (nat_lit 40)).snd.getD ((↑k.toNat : Int) % (↑(growT acts (nat_lit 40)).snd.length : Int)).toNat (Pair.mk [] [])).key (growT acts (nat_lit 40)).fst) wh a n h b)) = codeO (verP (hashO (growT acts (nat_lit 40)).fst) (cgP (mkP ((growT acts (nat_lit 40)).snd.getD ((↑k.toNat : Int) % (↑(growT acts (nat_lit 40)).snd.length : Int)).toNat (Pair.mk [] [])).key (growT acts (nat_lit 40)).fst) wh a n h b))) = true) ∧ (wordsP = wordsP) ∧ (rootsP = rootsP) ∧ (etP = etP) ∧ (p.key = p.key) ∧ (p.value = p.value) ∧ (p.turns = p.turns) ∧ (acts = acts) ∧ (b = b)) ⟨(by exact decide_eq_true rfl), rfl, rfl, rfl, rfl, rfl, rfl, rfl, rfl⟩ trivial
end Go.Proofs.YtnicmjipbnhciaaDoor.X
set_option linter.unusedVariables false
set_option linter.unusedSimpArgs false
namespace Go.Proofs.YtnicmjipbnhciaaDoor.X
open Go Go.RowKit Go.Proofs.YtnicmjipbnhciaaDoor.E
def OpF {α : Type} (P : Program) (t : TypeId) (fs : Array Go.Field) (off : Nat) (T : Ty α) : Prop :=
  ∀ (w : World) (cs : List Value), cs.length = P.cellsOf t → (∀ (i : Nat) (f : Go.Field), fs[i]? = some f → ∀ {β : Type} {U : Ty β}, E.Opens P f.type U → ∀ o sz, f.offset = o → P.cellsOf f.type = sz → ∃ a, U.rep (sig0 w) w a ((cs.drop o).take sz)) → ∃ a, T.rep (sig0 w) w a (cs.drop off)
section
variable {α β : Type} {P : Program} {t : TypeId} {fs : Array Go.Field} {off n : Nat} {A : Ty α} {B : Ty β} {f : Go.Field}
theorem opF_cons (i : Nat) (hf : fs[i]? = some f) (ho : f.offset = off) (O : E.Opens P f.type A) (hs : P.cellsOf f.type = n) (hB : OpF P t fs (off + n) B) : OpF P t fs off (tProd A B) := by
  intro w cs hl h
  obtain ⟨a, ha⟩ := h i f hf O off n ho hs
  obtain ⟨b, hb⟩ := hB w cs hl h
  exact ⟨(a, b), _, _, by rw [← List.drop_drop]; exact (List.take_append_drop n _).symm, ha, hb⟩
theorem opF_last (i : Nat) (hf : fs[i]? = some f) (ho : f.offset = off) (O : E.Opens P f.type A) (hs : P.cellsOf f.type = n) (tot : P.cellsOf t = off + n) : OpF P t fs off A := by
  intro w cs hl h
  obtain ⟨a, ha⟩ := h i f hf O off n ho hs
  rw [List.take_of_length_le (by rw [List.length_drop]; omega)] at ha
  exact ⟨a, ha⟩
theorem opens_rec (ht : P.underlying t = some (.struct fs)) (h : OpF P t fs 0 A) : E.Opens P t A := by
  intro H enc w sp held fuel cs x hx hw
  obtain ⟨hl, hf⟩ := opens_field ht hx hw
  obtain ⟨a, ha⟩ := h w cs hl (fun i f hi β U O o sz ho hs => hf i f hi O o sz ho hs)
  exact ⟨a, by simpa using ha⟩
theorem opens_by (n : Nat) (h : E.Opens P t A) : E.Opens P t (tBy A n) := h
theorem opens_iso {g : β → α} (k : α → β) (hg : ∀ b, g (k b) = b) (h : E.Opens P t A) : E.Opens P t (tIso g A) := by
  intro H enc w sp held fuel cs x hx hw
  obtain ⟨b, hb⟩ := h hx hw
  exact ⟨k b, by show A.rep _ _ (g (k b)) _; rw [hg]; exact hb⟩
end
def u8Of : Option Value → UInt8
  | some (.int .u8 n) => UInt8.ofNat n.toNat
  | _ => 0
theorem u8Of_bv (b : UInt8) : u8Of (some (bv b)) = b := by simp [u8Of, bv]
theorem opens_hash {P : Program} {t e : TypeId} (ht : P.underlying t = some (.array 32 e)) (he : P.underlying e = some (.int .u8)) (hc : P.cellsOf e = 1) (hct : P.cellsOf t = 32) : E.Opens P t tHash := by
  intro H enc w sp held fuel cs x hx hw
  obtain ⟨xs, m, rfl, rfl, hl, hn, hel⟩ := DataW.trod_array ht hx
  rw [hct] at hl
  have hb : ∀ i, i < 32 → ∃ b : UInt8, cs[i]? = some (bv b) := fun i hi => by
    have h := hel i hi
    rw [hc, Nat.mul_one, List.getElem?_eq_getElem (by omega)] at h
    obtain ⟨n, e1, _, hw⟩ := DataW.trod_int he h
    obtain ⟨b, rfl⟩ := wf_u8 hw
    refine ⟨b, ?_⟩
    have : ((cs.drop i).take 1)[0]? = some (.int .u8 (b.toNat : Int)) := by rw [e1]; rfl
    simpa using this
  refine ⟨mk32 ((List.range 32).map fun i => u8Of cs[i]?), ?_⟩
  show cs = hk 32 (mk32 _).l
  rw [mk32_hk]
  apply List.ext_getElem?
  intro i
  by_cases hi : i < 32
  · obtain ⟨b, e1⟩ := hb i hi
    rw [e1]
    simp [hk, hi, e1, List.getD_eq_getElem?_getD, u8Of_bv]
  · rw [List.getElem?_eq_none (by omega), List.getElem?_eq_none (by rw [hk_len]; omega)]
/-- An argument of any kind. -/
theorem arg_any {α : Type} {H : Type} {P : Program} {enc : TypeId × Value → H} {w : World} {sp : Nat → Bool} {held : Bool} {t : TypeId} {T : Ty α} {v : Value} {d : DataW H} {ps : List MemPlace} {ts : List TypeId} {ds : List (DataW H)} {j : Nat} (O : E.Opens P t T)
    (h : DataW.Trod enc P w 0 sp held t v d ps) (hsz : (DataW.weightsEach P ts ds).all (· ≤ reachBytes) = true) (ht : ts[j]? = some t) (hd : ds[j]? = some d) : ∃ x, T.rep (sig0 w) w x v.cells.toList := by
  obtain ⟨fuel, hf⟩ := h
  exact O hf (fun n hn => by
    have := List.all_eq_true.1 hsz n (DataW.weights_mem_each ht hd n hn)
    simpa using this)
theorem okWide_arr {P : Program} {w : World} {r : Reach} {base : Nat} {t n e : TypeId} {v : Value} (ht : P.underlying t = some (.array n e)) (h : Value.okWide P w r base t v) : ∃ cs, v = .agg cs ∧ cs.size = P.cellsOf t := by
  simp only [Value.okWide, ht] at h
  obtain ⟨cs, h1, h2, _⟩ := h
  exact ⟨cs, h1, h2⟩
theorem rd_one1 {α : Type} {T : Ty α} {σ : Nat → Nat} {w : World} {v : Value} {xs : List α} (h : Rd T σ w v xs) : v.oneCell' = true := by
  obtain ⟨a, c, e, _⟩ := h.form; rw [e]; rfl
theorem rd_u8_len {σ : Nat → Nat} {w : World} {v : Value} {xs : List UInt8} (h : Rd tU8 σ w v xs) : xs.length ≤ 140737488355328 := by
  have := h.bd; rwa [show tU8.by_ = 1 from rfl, Nat.mul_one] at this
theorem hash_rep {σ : Nat → Nat} {w : World} {x : Sum32} {cs : Array Value} (h : tHash.rep σ w x (Value.agg cs).cells.toList) : cs = (hk 32 x.l).toArray := by
  have h' : cs.toList = hk 32 x.l := h
  rw [← h']
end Go.Proofs.YtnicmjipbnhciaaDoor.X
set_option linter.unusedVariables false
set_option maxRecDepth 100000
namespace Go.Proofs.YtnicmjipbnhciaaDoor.X
open Go Go.RowKit Go.Proofs.YtnicmjipbnhciaaDoor.E
theorem opAct : E.Opens Tryd.prog 133 tAct := opens_by 56 (opens_iso (fun p => ⟨p.1, p.2.1, p.2.2.1, p.2.2.2⟩) (fun _ => rfl) (opens_rec Tryd.underlying133 (opF_cons (n := 1) 0 rfl rfl (opens_u8 Tryd.underlying5) (by kernel_rfl) (opF_cons (n := 1) 1 rfl rfl (opens_u8 Tryd.underlying5) (by kernel_rfl) (opF_cons (n := 1) 2 rfl rfl (opens_slice (T := tU8) Tryd.underlying22 (by kernel_rfl) (by kernel_rfl) (by decide) (opens_u8 Tryd.underlying5)) (by kernel_rfl) (opF_last (n := 1) 3 rfl rfl (opens_slice (T := tU8) Tryd.underlying22 (by kernel_rfl) (by kernel_rfl) (by decide) (opens_u8 Tryd.underlying5)) (by kernel_rfl) (by kernel_rfl)))))))
theorem opTurn : E.Opens Tryd.prog 121 tTurn := opens_by 56 (opens_iso (fun p => ⟨p.1, p.2.1, p.2.2.1, p.2.2.2⟩) (fun _ => rfl) (opens_rec Tryd.underlying121 (opF_cons (n := 1) 0 rfl rfl (opens_i64 Tryd.underlying3) (by kernel_rfl) (opF_cons (n := 1) 1 rfl rfl (opens_u64 Tryd.underlying98) (by kernel_rfl) (opF_cons (n := 1) 2 rfl rfl (opens_bool Tryd.underlying4) (by kernel_rfl) (opF_last (n := 32) 3 rfl rfl (opens_hash (e := 5) Tryd.underlying52 Tryd.underlying5 (by kernel_rfl) (by kernel_rfl)) (by kernel_rfl) (by kernel_rfl)))))))
theorem opProof : E.Opens Tryd.prog 26 tProof := opens_by 72 (opens_iso (fun p => ⟨p.1, p.2.1, p.2.2⟩) (fun _ => rfl) (opens_rec Tryd.underlying26 (opF_cons (n := 1) 0 rfl rfl (opens_slice (T := tU8) Tryd.underlying22 (by kernel_rfl) (by kernel_rfl) (by decide) (opens_u8 Tryd.underlying5)) (by kernel_rfl) (opF_cons (n := 1) 1 rfl rfl (opens_slice (T := tU8) Tryd.underlying22 (by kernel_rfl) (by kernel_rfl) (by decide) (opens_u8 Tryd.underlying5)) (by kernel_rfl) (opF_last (n := 1) 2 rfl rfl (opens_slice (T := tTurn) Tryd.underlying24 (by kernel_rfl) (by kernel_rfl) (by decide) opTurn) (by kernel_rfl) (by kernel_rfl))))))
theorem proof_rep {σ : Nat → Nat} {w : World} {x : Proof} {cs : Array Value} (h : tProof.rep σ w x (Value.agg cs).cells.toList) : ∃ a b c, cs = #[a, b, c] ∧ Rd tU8 σ w a x.key ∧ Rd tU8 σ w b x.value ∧ Rd tTurn σ w c x.turns := by
  obtain ⟨c1, c2, e, ⟨a, rfl, ha⟩, c3, c4, rfl, ⟨b, rfl, hb⟩, c, rfl, hc⟩ := h
  refine ⟨a, b, c, ?_, ha, hb, hc⟩
  apply Array.ext'
  exact e
theorem opHash : E.Opens Tryd.prog 52 tHash := (opens_hash (e := 5) Tryd.underlying52 Tryd.underlying5 (by kernel_rfl) (by kernel_rfl))
end Go.Proofs.YtnicmjipbnhciaaDoor.X
