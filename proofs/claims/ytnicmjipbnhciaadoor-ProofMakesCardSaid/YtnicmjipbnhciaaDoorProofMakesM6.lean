/- What the law ProofMakes needs: the engine, the walks of what it reaches, plain laws; part 6. -/
import Derived.Test.YtnicmjipbnhciaaDoorProofMakesM5
import Derived.OpenShut
set_option linter.unnecessarySimpa false
set_option linter.deprecated false
set_option linter.unusedVariables false
set_option linter.unusedSimpArgs false
set_option maxRecDepth 100000
namespace Go.Proofs.YtnicmjipbnhciaaDoor.X
open Go Go.RowKit Go.Proofs Go.Proofs.YtnicmjipbnhciaaDoor.E
theorem rput_t (k v : List UInt8) : ∀ t : Tr, t.height < 700 → FOk EN 68 ⟨[.rd 5 (k), .rd 5 (v), .pn (PR (some t)) false false], [.n 2, .n 0, .n 1], Unit, fun _ => ([.rd 5 (k), .rd 5 (v), .pn (PR (some t)) false false, .pn (PR (putO k v (some t))) false false], .n 3), fun _ => True⟩
  | .leaf a b, h => rput_aux (some (.leaf a b)) k v h (fun hp => absurd (show (0 : Int) < 0 from hp) (by decide)) (fun hp => absurd (show (0 : Int) < 0 from hp) (by decide))
  | .node l r, h => rput_aux (some (.node l r)) k v h (fun _ => rput_t k v l (by simp only [Tr.height] at h; omega)) (fun _ => rput_t k v r (by simp only [Tr.height] at h; omega))
theorem rput_ok (o : Option Tr) (k v : List UInt8) (hh : (gt o).height < 700) : FOk EN 68 ⟨[.rd 5 (k), .rd 5 (v), .pn (PR o) false o.isNone], [.n 2, .n 0, .n 1], Unit, fun _ => ([.rd 5 (k), .rd 5 (v), .pn (PR o) false o.isNone, .pn (PR (putO k v o)) false false], .n 3), fun _ => True⟩ := by
  cases o with
  | none => exact rput_aux none k v hh (fun hp => absurd (show (0 : Int) < 0 from hp) (by decide)) (fun hp => absurd (show (0 : Int) < 0 from hp) (by decide))
  | some t => exact rput_t k v t hh
def cutR (k : List UInt8) (t : Tr) : Option Tr := (t.cut k).getD none
section
variable {k : List UInt8} {t : Tr}
theorem cutR_leaf (hc : (t.cut k).isSome = true) (h0 : t.height = 0) : cutR k t = none := by
  obtain ⟨a, b, rfl⟩ := Tr.leaf_of h0
  unfold cutR; unfold Tr.cut at hc ⊢
  split <;> simp_all
theorem cutR_in (hc : (t.cut k).isSome = true) (h0 : ¬ t.height = 0) : (Lib.compareBytes k t.key < 0 → ((gt t.lc).cut k).isSome = true ∧ (((cutR k (gt t.lc)).isNone = true → cutR k t = t.rc) ∧ ((cutR k (gt t.lc)).isNone = false → cutR k t = some ((gt (cutR k (gt t.lc))).bal (gt t.rc))))) ∧
    (¬ Lib.compareBytes k t.key < 0 → ((gt t.rc).cut k).isSome = true ∧ (((cutR k (gt t.rc)).isNone = true → cutR k t = t.lc) ∧ ((cutR k (gt t.rc)).isNone = false → cutR k t = some ((gt t.lc).bal (gt (cutR k (gt t.rc))))))) := by
  cases t with
  | leaf a b => exact absurd rfl h0
  | node l r =>
    unfold Tr.cut at hc
    constructor
    · intro hl
      have hl : Lib.compareBytes k r.least < 0 := hl
      rw [if_pos hl] at hc
      show (l.cut k).isSome = true ∧ (((cutR k l).isNone = true → _ = some r) ∧ ((cutR k l).isNone = false → _ = some ((gt (cutR k l)).bal r)))
      cases e : l.cut k with
      | none => rw [e] at hc; simp at hc
      | some x => cases x with
        | none => simp [cutR, Tr.cut, hl, e]
        | some x => simp [cutR, Tr.cut, hl, e, gt]
    · intro hl
      have hl : ¬ Lib.compareBytes k r.least < 0 := hl
      rw [if_neg hl] at hc
      show (r.cut k).isSome = true ∧ (((cutR k r).isNone = true → _ = some l) ∧ ((cutR k r).isNone = false → _ = some (l.bal (gt (cutR k r)))))
      cases e : r.cut k with
      | none => rw [e] at hc; simp at hc
      | some x => cases x with
        | none => simp [cutR, Tr.cut, hl, e]
        | some x => simp [cutR, Tr.cut, hl, e, gt]
theorem cutR_h (t : Tr) : (gt (cutR k t)).height ≤ t.height := by
  unfold cutR
  cases e : t.cut k with
  | none => exact t.height_nn
  | some x => cases x with
    | none => exact t.height_nn
    | some x => exact Tr.cut_height e
end
noncomputable def ccR5_70 : Code := (Tryd.f70.body).getD .skip
theorem rcut_aux (o : Option Tr) (k : List UInt8) (ho : o.isNone = false) (hc : ((gt o).cut k).isSome = true) (hh : (gt o).height < 700)
    (ihl : 0 < (gt o).height → ((gt (gt o).lc).cut k).isSome = true → FOk EN 70 ⟨[.rd 5 (k), .pn (PR (gt o).lc) false (gt o).lc.isNone], [.n 1, .n 0], Unit, fun _ => ([.rd 5 (k), .pn (PR (gt o).lc) false (gt o).lc.isNone, .pn (PR (cutR k (gt (gt o).lc))) false (cutR k (gt (gt o).lc)).isNone], .n 2), fun _ => True⟩)
    (ihr : 0 < (gt o).height → ((gt (gt o).rc).cut k).isSome = true → FOk EN 70 ⟨[.rd 5 (k), .pn (PR (gt o).rc) false (gt o).rc.isNone], [.n 1, .n 0], Unit, fun _ => ([.rd 5 (k), .pn (PR (gt o).rc) false (gt o).rc.isNone, .pn (PR (cutR k (gt (gt o).rc))) false (cutR k (gt (gt o).rc)).isNone], .n 2), fun _ => True⟩) :
    FOk EN 70 ⟨[.rd 5 (k), .pn (PR o) false o.isNone], [.n 1, .n 0], Unit, fun _ => ([.rd 5 (k), .pn (PR o) false o.isNone, .pn (PR (cutR k (gt o))) false (cutR k (gt o)).isNone], .n 2), fun _ => True⟩ := by
  refine v_fun Tryd.f70 ccR5_70 MX (fun ν F σ w => ?_) Tryd.func70
  refine v_nl ?_
  refine v_open 1 (open_r (o) (by assumption)) ((PR o = PR o)) rfl ?_
  refine v_if (decide ((gt o).height = 0)) True trivial (fun h1 => ?_) (fun h1 => ?_)
  · have h1 := of_decide_eq_true h1
    refine v_al [] (al_pr0_any (cutR k (gt o)) (by exact cutR_leaf hc (by assumption))) True trivial ?_
    exact v_ret () [7] ((k = k) ∧ (PLe (PR o) (PR o)) ∧ (o.isNone = false) ∧ (PR (cutR k (gt o)) = PR (cutR k (gt o))) ∧ ((cutR k (gt o)).isNone = (cutR k (gt o)).isNone)) ⟨rfl, fun _ _ _ h => h, (by assumption), rfl, rfl⟩ trivial
  · have h1 := of_decide_eq_false h1
    refine v_plan (.fs [0, 1, 2, 3, 4, 5, 6, 7] .e) [] True trivial ?_
    refine v_if (Op.bytesLess k (gt o).key) True trivial (fun h2 => ?_) (fun h2 => ?_)
    · skip
      refine v_call _ [0, 5] (ihl (by (have h3 := (gt o).height_nn; omega)) (by exact ((cutR_in hc (by assumption)).1 (less_t (by assumption))).1)) ((k = k) ∧ (PR (gt o).lc = PR (gt o).lc) ∧ ((gt o).lc.isNone = (gt o).lc.isNone)) ⟨rfl, rfl, rfl⟩ (fun g3 p4 => ?_)
      have p4 : True := p4
      refine v_if ((cutR k (gt (gt o).lc)).isNone) True trivial (fun h5 => ?_) (fun h5 => ?_)
      · skip
        exact v_ret () [6] ((k = k) ∧ (PLe (PR o) (PR o)) ∧ (o.isNone = false) ∧ (PR (gt o).rc = PR (cutR k (gt o))) ∧ ((gt o).rc.isNone = (cutR k (gt o)).isNone)) ⟨rfl, fun _ _ _ h => h, (by assumption), (by (rw [((cutR_in hc (by assumption)).1 (less_t (by assumption))).2.1 (by assumption)])), (by (rw [((cutR_in hc (by assumption)).1 (less_t (by assumption))).2.1 (by assumption)]))⟩ trivial
      · skip
        refine v_call _ [7, 6] (rbal_ok (cutR k (gt (gt o).lc)) ((gt o).rc) (by assumption) (by (have h3 := (gt o).height_nn; exact Tr.kid_r (by omega))) (by (have h3 := Tr.kid_hl (t := gt o); have h4 := Tr.kid_hr (t := gt o); have h5 := cutR_h (k := k) (gt (gt o).lc); have h6 := cutR_h (k := k) (gt (gt o).rc); omega)) (by (have h3 := Tr.kid_hl (t := gt o); have h4 := Tr.kid_hr (t := gt o); have h5 := cutR_h (k := k) (gt (gt o).lc); have h6 := cutR_h (k := k) (gt (gt o).rc); omega))) ((PR (cutR k (gt (gt o).lc)) = PR (cutR k (gt (gt o).lc))) ∧ ((cutR k (gt (gt o).lc)).isNone = (cutR k (gt (gt o).lc)).isNone) ∧ (PR (gt o).rc = PR (gt o).rc) ∧ ((gt o).rc.isNone = (gt o).rc.isNone)) ⟨rfl, rfl, rfl, rfl⟩ (fun g6 p7 => ?_)
        have p7 : True := p7
        exact v_ret () [8] ((k = k) ∧ (PLe (PR o) (PR o)) ∧ (o.isNone = false) ∧ (PR (some ((gt (cutR k (gt (gt o).lc))).bal (gt (gt o).rc))) = PR (cutR k (gt o))) ∧ (false = (cutR k (gt o)).isNone)) ⟨rfl, fun _ _ _ h => h, (by assumption), (by (rw [((cutR_in hc (by assumption)).1 (less_t (by assumption))).2.2 (by assumption)] <;> rfl)), (by (rw [((cutR_in hc (by assumption)).1 (less_t (by assumption))).2.2 (by assumption)] <;> rfl))⟩ trivial
    · skip
      refine v_call _ [0, 6] (ihr (by (have h3 := (gt o).height_nn; omega)) (by exact ((cutR_in hc (by assumption)).2 (less_f (by assumption))).1)) ((k = k) ∧ (PR (gt o).rc = PR (gt o).rc) ∧ ((gt o).rc.isNone = (gt o).rc.isNone)) ⟨rfl, rfl, rfl⟩ (fun g8 p9 => ?_)
      have p9 : True := p9
      refine v_if ((cutR k (gt (gt o).rc)).isNone) True trivial (fun h10 => ?_) (fun h10 => ?_)
      · skip
        exact v_ret () [5] ((k = k) ∧ (PLe (PR o) (PR o)) ∧ (o.isNone = false) ∧ (PR (gt o).lc = PR (cutR k (gt o))) ∧ ((gt o).lc.isNone = (cutR k (gt o)).isNone)) ⟨rfl, fun _ _ _ h => h, (by assumption), (by (rw [((cutR_in hc (by assumption)).2 (less_f (by assumption))).2.1 (by assumption)])), (by (rw [((cutR_in hc (by assumption)).2 (less_f (by assumption))).2.1 (by assumption)]))⟩ trivial
      · skip
        refine v_call _ [5, 7] (rbal_ok ((gt o).lc) (cutR k (gt (gt o).rc)) (by (have h3 := (gt o).height_nn; exact Tr.kid_l (by omega))) (by assumption) (by (have h3 := Tr.kid_hl (t := gt o); have h4 := Tr.kid_hr (t := gt o); have h5 := cutR_h (k := k) (gt (gt o).lc); have h6 := cutR_h (k := k) (gt (gt o).rc); omega)) (by (have h3 := Tr.kid_hl (t := gt o); have h4 := Tr.kid_hr (t := gt o); have h5 := cutR_h (k := k) (gt (gt o).lc); have h6 := cutR_h (k := k) (gt (gt o).rc); omega))) ((PR (gt o).lc = PR (gt o).lc) ∧ ((gt o).lc.isNone = (gt o).lc.isNone) ∧ (PR (cutR k (gt (gt o).rc)) = PR (cutR k (gt (gt o).rc))) ∧ ((cutR k (gt (gt o).rc)).isNone = (cutR k (gt (gt o).rc)).isNone)) ⟨rfl, rfl, rfl, rfl⟩ (fun g11 p12 => ?_)
        have p12 : True := p12
        exact v_ret () [8] ((k = k) ∧ (PLe (PR o) (PR o)) ∧ (o.isNone = false) ∧ (PR (some ((gt (gt o).lc).bal (gt (cutR k (gt (gt o).rc))))) = PR (cutR k (gt o))) ∧ (false = (cutR k (gt o)).isNone)) ⟨rfl, fun _ _ _ h => h, (by assumption), (by (rw [((cutR_in hc (by assumption)).2 (less_f (by assumption))).2.2 (by assumption)] <;> rfl)), (by (rw [((cutR_in hc (by assumption)).2 (less_f (by assumption))).2.2 (by assumption)] <;> rfl))⟩ trivial
end Go.Proofs.YtnicmjipbnhciaaDoor.X
set_option linter.unusedVariables false
set_option linter.unusedSimpArgs false
set_option maxRecDepth 100000
namespace Go.Proofs.YtnicmjipbnhciaaDoor.X
open Go Go.RowKit Go.Proofs Go.Proofs.YtnicmjipbnhciaaDoor.E
theorem rcut_t (k : List UInt8) : ∀ t : Tr, t.height < 700 → (t.cut k).isSome = true → FOk EN 70 ⟨[.rd 5 (k), .pn (PR (some t)) false false], [.n 1, .n 0], Unit, fun _ => ([.rd 5 (k), .pn (PR (some t)) false false, .pn (PR (cutR k t)) false (cutR k t).isNone], .n 2), fun _ => True⟩
  | .leaf a b, h, hc => rcut_aux (some (.leaf a b)) k rfl hc h (fun hp => absurd (show (0 : Int) < 0 from hp) (by decide)) (fun hp => absurd (show (0 : Int) < 0 from hp) (by decide))
  | .node l r, h, hc => rcut_aux (some (.node l r)) k rfl hc h (fun _ hl => rcut_t k l (by simp only [Tr.height] at h; omega) hl) (fun _ hr => rcut_t k r (by simp only [Tr.height] at h; omega) hr)
theorem rcut_ok (o : Option Tr) (k : List UInt8) (ho : o.isNone = false) (hc : ((gt o).cut k).isSome = true) (hh : (gt o).height < 700) : FOk EN 70 ⟨[.rd 5 (k), .pn (PR o) false o.isNone], [.n 1, .n 0], Unit, fun _ => ([.rd 5 (k), .pn (PR o) false o.isNone, .pn (PR (cutR k (gt o))) false (cutR k (gt o)).isNone], .n 2), fun _ => True⟩ := by
  cases o with
  | none => simp at ho
  | some t => exact rcut_t k t hh hc
theorem lv0 {o : Option Tr} (h : o.isNone = true) : leavesO o = [] := by cases o with | none => rfl | some t => simp at h
theorem lv1 {o : Option Tr} (h : o.isNone = false) (h0 : (gt o).height = 0) : leavesO o = [⟨(gt o).key, (gt o).value⟩] := by
  cases o with
  | none => simp at h
  | some t => obtain ⟨a, b, rfl⟩ := Tr.leaf_of h0; rfl
theorem lv2 {o : Option Tr} (h : o.isNone = false) (h0 : ¬ (gt o).height = 0) : leavesO o = leavesO (gt o).lc ++ leavesO (gt o).rc := by
  cases o with
  | none => simp at h
  | some t => cases t with
    | leaf a b => exact absurd rfl h0
    | node l r => rfl
noncomputable def ccR6_69 : Code := (Tryd.f69.body).getD .skip
theorem rlv_aux (o : Option Tr) (xs : List Pair) (hx : xs.length + (leavesO o).length ≤ 900000)
    (ihl : 0 < (gt o).height → FOk EN 69 ⟨[.pn (PR (gt o).lc) false (gt o).lc.isNone, .ow 46 (xs)], [.n 0, .n 1], Unit, fun _ => ([.pn (PR (gt o).lc) false (gt o).lc.isNone, .no, .ow 46 (xs ++ leavesO (gt o).lc)], .n 2), fun _ => True⟩)
    (ihr : 0 < (gt o).height → FOk EN 69 ⟨[.pn (PR (gt o).rc) false (gt o).rc.isNone, .ow 46 (xs ++ leavesO (gt o).lc)], [.n 0, .n 1], Unit, fun _ => ([.pn (PR (gt o).rc) false (gt o).rc.isNone, .no, .ow 46 (xs ++ leavesO (gt o).lc ++ leavesO (gt o).rc)], .n 2), fun _ => True⟩) :
    FOk EN 69 ⟨[.pn (PR o) false o.isNone, .ow 46 (xs)], [.n 0, .n 1], Unit, fun _ => ([.pn (PR o) false o.isNone, .no, .ow 46 (xs ++ leavesO o)], .n 2), fun _ => True⟩ := by
  refine v_fun Tryd.f69 ccR6_69 MX (fun ν F σ w => ?_) Tryd.func69
  refine v_nl ?_
  refine v_if (o.isNone) True trivial (fun h1 => ?_) (fun h1 => ?_)
  · skip
    exact v_ret () [1] ((PR o = PR o) ∧ (o.isNone = o.isNone) ∧ (xs = xs ++ leavesO o)) ⟨rfl, rfl, (by (rw [lv0 (by assumption)]; simp))⟩ trivial
  · skip
    refine v_open 0 (open_r (o) (by assumption)) ((PR o = PR o)) rfl ?_
    refine v_if (decide ((gt o).height = 0)) True trivial (fun h2 => ?_) (fun h2 => ?_)
    · have h2 := of_decide_eq_true h2
      refine v_plan (.fs [0, 1, 2, 3, 4, 5, 6, 7, 8, 9] (.o 10 (.o 11 (.fs [12] .e)))) [] True trivial ?_
      exact v_ret () [8] ((xs.length + 1 ≤ 1000000) ∧ (PLe (PR o) (PR o)) ∧ (o.isNone = false) ∧ (xs ++ [Pair.mk (gt o).key (gt o).value] = xs ++ leavesO o)) ⟨(by omega), fun _ _ _ h => h, (by assumption), (by (rw [lv1 (by assumption) (by assumption)]))⟩ trivial
    · have h2 := of_decide_eq_false h2
      refine v_plan (.fs [0, 1, 2, 3, 4, 5, 6, 7, 8] (.o 9 (.o 10 (.fs [11] .e)))) [] True trivial ?_
      refine v_call _ [5, 1] (ihl (by (have h3 := (gt o).height_nn; omega))) ((PR (gt o).lc = PR (gt o).lc) ∧ ((gt o).lc.isNone = (gt o).lc.isNone) ∧ (xs = xs)) ⟨rfl, rfl, rfl⟩ (fun g3 p4 => ?_)
      have p4 : True := p4
      refine v_call _ [6, 7] (ihr (by (have h3 := (gt o).height_nn; omega))) ((PR (gt o).rc = PR (gt o).rc) ∧ ((gt o).rc.isNone = (gt o).rc.isNone) ∧ (xs ++ leavesO (gt o).lc = xs ++ leavesO (gt o).lc)) ⟨rfl, rfl, rfl⟩ (fun g5 p6 => ?_)
      have p6 : True := p6
      exact v_ret () [8] ((PLe (PR o) (PR o)) ∧ (o.isNone = false) ∧ (xs ++ leavesO (gt o).lc ++ leavesO (gt o).rc = xs ++ leavesO o)) ⟨fun _ _ _ h => h, (by assumption), (by (rw [lv2 (o := o) (by assumption) (by assumption), List.append_assoc]))⟩ trivial
theorem rlv_t : ∀ (t : Tr) (xs : List Pair), xs.length + t.leaves.length ≤ 900000 → FOk EN 69 ⟨[.pn (PR (some t)) false false, .ow 46 (xs)], [.n 0, .n 1], Unit, fun _ => ([.pn (PR (some t)) false false, .no, .ow 46 (xs ++ t.leaves)], .n 2), fun _ => True⟩
  | .leaf a b, xs, h => rlv_aux (some (.leaf a b)) xs h (fun hp => absurd (show (0 : Int) < 0 from hp) (by decide)) (fun hp => absurd (show (0 : Int) < 0 from hp) (by decide))
  | .node l r, xs, h => by
    have e : (Tr.node l r).leaves.length = l.leaves.length + r.leaves.length := by simp [Tr.leaves]
    exact rlv_aux (some (.node l r)) xs h (fun _ => rlv_t l xs (by omega)) (fun _ => rlv_t r (xs ++ l.leaves) (by simp only [List.length_append]; omega))
theorem rlv_ok (o : Option Tr) (xs : List Pair) (hx : xs.length + (leavesO o).length ≤ 900000) : FOk EN 69 ⟨[.pn (PR o) false o.isNone, .ow 46 (xs)], [.n 0, .n 1], Unit, fun _ => ([.pn (PR o) false o.isNone, .no, .ow 46 (xs ++ leavesO o)], .n 2), fun _ => True⟩ := by
  cases o with
  | none => exact rlv_aux none xs hx (fun hp => absurd (show (0 : Int) < 0 from hp) (by decide)) (fun hp => absurd (show (0 : Int) < 0 from hp) (by decide))
  | some t => exact rlv_t t xs hx
namespace Tr
theorem hash_eq : ∀ t : Tr, t.hash = nsum t.height t.size t.key t.value t.lh t.rh
  | leaf k v => rfl
  | node l r => rfl
theorem lh_eq {t : Tr} (h : 0 < t.height) : hashO t.lc = t.lh ∧ hashO t.rc = t.rh := by
  cases t with
  | leaf a b => simp [height] at h
  | node l r => exact ⟨rfl, rfl⟩
theorem lh_0 {t : Tr} (h : ¬ 0 < t.height) : z32 = t.lh ∧ z32 = t.rh := by
  cases t with
  | leaf a b => exact ⟨rfl, rfl⟩
  | node l r => exact absurd height_pos h
theorem lh_len (t : Tr) : t.lh.length = 32 ∧ t.rh.length = 32 := by
  cases t with
  | leaf a b => exact ⟨rfl, rfl⟩
  | node l r => exact ⟨hash_len _, hash_len _⟩
end Tr
theorem hashO_len (o : Option Tr) : (hashO o).length = 32 := by
  cases o with
  | none => exact sum256_len _
  | some t => exact t.hash_len
noncomputable def ccR6_108 : Code := (Tryd.f108.body).getD .skip
theorem rapi_aux (o : Option Tr) (ho : o.isNone = false)
    (ihl : 0 < (gt o).height → FOk EN 71 ⟨[.pr rootsP, .pn (PR (gt o).lc) false (gt o).lc.isNone], [.n 1], Unit, fun _ => ([.pr rootsP, .pn (PR (gt o).lc) false (gt o).lc.isNone], .a [.h 32 (hashO (gt o).lc)]), fun _ => True⟩)
    (ihr : 0 < (gt o).height → FOk EN 71 ⟨[.pr rootsP, .pn (PR (gt o).rc) false (gt o).rc.isNone], [.n 1], Unit, fun _ => ([.pr rootsP, .pn (PR (gt o).rc) false (gt o).rc.isNone], .a [.h 32 (hashO (gt o).rc)]), fun _ => True⟩) :
    FOk EN 108 ⟨[.pr rootsP, .pn (PR o) false o.isNone], [.n 1], Unit, fun _ => ([.pr rootsP, .pn (PR o) false o.isNone, .rd 5 ((gt o).key), .rd 5 ((gt o).value)], .a [.n 2, .n 3, .i (gt o).height, .u (gt o).size, .h 32 (gt o).lh, .h 32 (gt o).rh]), fun _ => True⟩ := by
  refine v_fun Tryd.f108 ccR6_108 MX (fun ν F σ w => ?_) Tryd.func108
  refine v_nl ?_
  refine v_open 1 (open_r (o) (by assumption)) ((PR o = PR o)) rfl ?_
  refine v_plan (.fs [0, 1, 2, 3, 4, 5, 6, 7, 8, 9, 10, 11, 12, 13, 14, 15, 16] (.o 17 (.o 18 .e))) [3] True trivial ?_
  refine v_if (decide (0 < (gt o).height)) True trivial (fun h1 => ?_) (fun h1 => ?_)
  · have h1 := of_decide_eq_true h1
    refine v_call _ [0, 6] (ihl (by assumption)) ((rootsP = rootsP) ∧ (PR (gt o).lc = PR (gt o).lc) ∧ ((gt o).lc.isNone = (gt o).lc.isNone)) ⟨rfl, rfl, rfl⟩ (fun g2 p3 => ?_)
    have p3 : True := p3
    refine v_call _ [0, 7] (ihr (by assumption)) ((rootsP = rootsP) ∧ (PR (gt o).rc = PR (gt o).rc) ∧ ((gt o).rc.isNone = (gt o).rc.isNone)) ⟨rfl, rfl, rfl⟩ (fun g4 p5 => ?_)
    have p5 : True := p5
    exact v_ret () [4, 5] (((gt o).height = (gt o).height) ∧ ((gt o).size = (gt o).size) ∧ (hashO (gt o).lc = (gt o).lh) ∧ (hashO (gt o).rc = (gt o).rh) ∧ (rootsP = rootsP) ∧ (PLe (PR o) (PR o)) ∧ (o.isNone = false) ∧ ((gt o).key = (gt o).key) ∧ ((gt o).value = (gt o).value)) ⟨rfl, rfl, (by exact (Tr.lh_eq (by assumption)).1), (by exact (Tr.lh_eq (by assumption)).2), rfl, fun _ _ _ h => h, (by assumption), rfl, rfl⟩ trivial
  · have h1 := of_decide_eq_false h1
    exact v_ret () [4, 5] (((gt o).height = (gt o).height) ∧ ((gt o).size = (gt o).size) ∧ (List.replicate 32 0 = (gt o).lh) ∧ (List.replicate 32 0 = (gt o).rh) ∧ (rootsP = rootsP) ∧ (PLe (PR o) (PR o)) ∧ (o.isNone = false) ∧ ((gt o).key = (gt o).key) ∧ ((gt o).value = (gt o).value)) ⟨rfl, rfl, (by exact (Tr.lh_0 (by assumption)).1), (by exact (Tr.lh_0 (by assumption)).2), rfl, fun _ _ _ h => h, (by assumption), rfl, rfl⟩ trivial
noncomputable def ccR6_71 : Code := (Tryd.f71.body).getD .skip
theorem rsum_aux (o : Option Tr) (hk : (gt o).Ks) (hh : (gt o).height < 900)
    (ih : o.isNone = false → FOk EN 108 ⟨[.pr rootsP, .pn (PR o) false o.isNone], [.n 1], Unit, fun _ => ([.pr rootsP, .pn (PR o) false o.isNone, .rd 5 ((gt o).key), .rd 5 ((gt o).value)], .a [.n 2, .n 3, .i (gt o).height, .u (gt o).size, .h 32 (gt o).lh, .h 32 (gt o).rh]), fun _ => True⟩) :
    FOk EN 71 ⟨[.pr rootsP, .pn (PR o) false o.isNone], [.n 1], Unit, fun _ => ([.pr rootsP, .pn (PR o) false o.isNone], .a [.h 32 (hashO o)]), fun _ => True⟩ := by
  refine v_fun Tryd.f71 ccR6_71 MX (fun ν F σ w => ?_) Tryd.func71
  refine v_nl ?_
  refine v_if (o.isNone) True trivial (fun h1 => ?_) (fun h1 => ?_)
  · skip
    refine v_call _ [0, 2] (rsum_ok ([]) (by decide)) ((rootsP = rootsP) ∧ (([] : List UInt8) = [])) ⟨rfl, rfl⟩ (fun g2 p3 => ?_)
    have p3 : True := p3
    exact v_ret () [] ((sum256 [] = hashO o) ∧ (rootsP = rootsP) ∧ (PR o = PR o) ∧ (o.isNone = o.isNone)) ⟨(by (cases o with | none => rfl | some t => simp at *)), rfl, rfl, rfl⟩ trivial
  · skip
    refine v_call _ [0, 1] (ih (by assumption)) ((rootsP = rootsP) ∧ (PR o = PR o) ∧ (o.isNone = o.isNone)) ⟨rfl, rfl, rfl⟩ (fun g4 p5 => ?_)
    have p5 : True := p5
    refine v_call _ [0, 4, 5] (rhash_ok ((gt o).height) ((gt o).size) ((gt o).key) ((gt o).value) ((gt o).lh) ((gt o).rh) (by (have := (gt o).height_nn; omega)) (by exact Tr.key_le hk) (by exact Tr.value_le hk) (by exact (Tr.lh_len _).1) (by exact (Tr.lh_len _).2)) (((gt o).height = (gt o).height) ∧ ((gt o).size = (gt o).size) ∧ ((gt o).lh = (gt o).lh) ∧ ((gt o).rh = (gt o).rh) ∧ (rootsP = rootsP) ∧ ((gt o).key = (gt o).key) ∧ ((gt o).value = (gt o).value)) ⟨rfl, rfl, rfl, rfl, rfl, rfl, rfl⟩ (fun g6 p7 => ?_)
    have p7 : True := p7
    exact v_ret () [] ((nsum (gt o).height (gt o).size (gt o).key (gt o).value (gt o).lh (gt o).rh = hashO o) ∧ (rootsP = rootsP) ∧ (PR o = PR o) ∧ (o.isNone = o.isNone)) ⟨(by (cases o with | none => simp at * | some t => exact (Tr.hash_eq t).symm)), rfl, rfl, rfl⟩ trivial
end Go.Proofs.YtnicmjipbnhciaaDoor.X
set_option linter.unusedVariables false
set_option linter.unusedSimpArgs false
set_option maxRecDepth 100000
namespace Go.Proofs.YtnicmjipbnhciaaDoor.X
open Go Go.RowKit Go.Proofs Go.Proofs.YtnicmjipbnhciaaDoor.E
theorem rsum_t : ∀ t : Tr, t.Ks → t.height < 900 → FOk EN 71 ⟨[.pr rootsP, .pn (PR (some t)) false false], [.n 1], Unit, fun _ => ([.pr rootsP, .pn (PR (some t)) false false], .a [.h 32 t.hash]), fun _ => True⟩
  | .leaf a b, hk, h => rsum_aux (some (.leaf a b)) hk h (fun _ => rapi_aux (some (.leaf a b)) rfl (fun hp => absurd (show (0 : Int) < 0 from hp) (by decide)) (fun hp => absurd (show (0 : Int) < 0 from hp) (by decide)))
  | .node l r, hk, h => rsum_aux (some (.node l r)) hk h (fun _ => rapi_aux (some (.node l r)) rfl (fun _ => rsum_t l hk.1 (by have h : (1 + max l.height r.height) < 900 := h; omega)) (fun _ => rsum_t r hk.2 (by have h : (1 + max l.height r.height) < 900 := h; omega)))
theorem rsum5_ok (o : Option Tr) (hk : (gt o).Ks) (hh : (gt o).height < 900) : FOk EN 71 ⟨[.pr rootsP, .pn (PR o) false o.isNone], [.n 1], Unit, fun _ => ([.pr rootsP, .pn (PR o) false o.isNone], .a [.h 32 (hashO o)]), fun _ => True⟩ := by
  cases o with
  | none => exact rsum_aux none hk hh (fun h => by simp at h)
  | some t => exact rsum_t t hk hh
def PI (o : Option Tr) (k : List UInt8) (q : List Turn × Option Tr) : Prop := q.2.isNone = false ∧ q.1 ++ (gt q.2).turns k = (gt o).turns k ∧ (gt q.2).fin k = (gt o).fin k ∧ (gt q.2).Ks ∧ (gt q.2).height < 900 ∧ q.1.length + (gt q.2).depth ≤ (gt o).depth
section
variable {o : Option Tr} {k : List UInt8} {q : List Turn × Option Tr}
theorem PI.start (ho : o.isNone = false) (hk : (gt o).Ks) (hh : (gt o).height < 900) : PI o k ([], o) := ⟨ho, rfl, rfl, hk, hh, by simp⟩
theorem PI.step (h : PI o k q) (hp : 0 < (gt q.2).height) : (gt q.2).turns k = (gt q.2).turn k :: (if (gt q.2).rt k = true then (gt (gt q.2).rc).turns k else (gt (gt q.2).lc).turns k) ∧ (gt q.2).fin k = (if (gt q.2).rt k = true then (gt (gt q.2).rc).fin k else (gt (gt q.2).lc).fin k) ∧ (gt (gt q.2).lc).depth < (gt q.2).depth ∧ (gt (gt q.2).rc).depth < (gt q.2).depth := by
  obtain ⟨e, _, _⟩ := Tr.kids hp
  generalize gt (gt q.2).lc = a at *
  generalize gt (gt q.2).rc = b at *
  rw [e]; exact ⟨rfl, rfl, by simp [Tr.depth]; omega, by simp [Tr.depth]; omega⟩
theorem PI.nextL (h : PI o k q) (hp : 0 < (gt q.2).height) (hl : Op.bytesLess k (gt q.2).key = true) : PI o k (q.1 ++ [⟨(gt q.2).height, (gt q.2).size, false, mk32 (hashO (gt q.2).rc)⟩], (gt q.2).lc) ∧ (gt (gt q.2).lc).depth < (gt q.2).depth := by
  obtain ⟨s1, s2, s3, s4⟩ := h.step hp
  obtain ⟨a1, a2, a3, a4, a5, a6⟩ := h
  have hr : (gt q.2).rt k = false := by have := less_t hl; simp [Tr.rt]; omega
  rw [hr] at s1 s2
  simp only [Bool.false_eq_true, if_false] at s1 s2
  have hks := Tr.kid_Ks hp a4
  refine ⟨⟨Tr.kid_l hp, ?_, by rw [← a3, s2], hks.1, by have := hks.2.2.1; show (gt (gt q.2).lc).height < 900; omega, by show (q.1 ++ _).length + (gt (gt q.2).lc).depth ≤ _; simp; omega⟩, s3⟩
  rw [← a2, s1, Tr.turn, hr, (Tr.lh_eq hp).2]; simp
theorem PI.nextR (h : PI o k q) (hp : 0 < (gt q.2).height) (hl : Op.bytesLess k (gt q.2).key = false) : PI o k (q.1 ++ [⟨(gt q.2).height, (gt q.2).size, true, mk32 (hashO (gt q.2).lc)⟩], (gt q.2).rc) ∧ (gt (gt q.2).rc).depth < (gt q.2).depth := by
  obtain ⟨s1, s2, s3, s4⟩ := h.step hp
  obtain ⟨a1, a2, a3, a4, a5, a6⟩ := h
  have hr : (gt q.2).rt k = true := by have := less_f hl; simp [Tr.rt]; omega
  rw [hr] at s1 s2
  simp only [if_true] at s1 s2
  have hks := Tr.kid_Ks hp a4
  refine ⟨⟨Tr.kid_r hp, ?_, by rw [← a3, s2], hks.2.1, by have := hks.2.2.2; show (gt (gt q.2).rc).height < 900; omega, by show (q.1 ++ _).length + (gt (gt q.2).rc).depth ≤ _; simp; omega⟩, s4⟩
  rw [← a2, s1, Tr.turn, hr, (Tr.lh_eq hp).1]; simp
theorem PI.stop (h : PI o k q) (hp : ¬ 0 < (gt q.2).height) : (gt q.2).key = ((gt o).fin k).key ∧ (gt q.2).value = ((gt o).fin k).value ∧ q.1 = (gt o).turns k := by
  obtain ⟨a1, a2, a3, a4, a5, a6⟩ := h
  have := (gt q.2).height_nn
  obtain ⟨a, b, e⟩ := Tr.leaf_of (s := gt q.2) (by omega)
  rw [e] at a2 a3 ⊢
  simp only [Tr.turns, Tr.fin, List.append_nil] at a2 a3
  rw [← a3]; exact ⟨rfl, rfl, a2⟩
end
noncomputable def ccR7_23 : Code := (Tryd.f23.body).getD .skip
theorem Prove_ok (o : Option Tr) (k : List UInt8) (ho : o.isNone = false) (hk : (gt o).Ks) (hh : (gt o).height < 900) (hd : (gt o).depth ≤ 100000) : FOk EN 23 ⟨[.pr rootsP, .rd 5 (k), .pn (PR o) false o.isNone], [.n 2, .n 1], Unit, fun _ => ([.pr rootsP, .rd 5 (k), .pn (PR o) false o.isNone, .rd 5 (((gt o).fin k).key), .rd 5 (((gt o).fin k).value), .ow 121 ((gt o).turns k)], .a [.n 3, .n 4, .n 5]), fun _ => True⟩ := by
  refine v_fun Tryd.f23 ccR7_23 MX (fun ν F σ w => ?_) Tryd.func23
  refine v_nl ?_
  refine v_loop (fun q : List Turn × Option Tr => ([(5, .p 6 0), (0, .n 7)], [.bx 26 [.v (.slice none 0 0), .v (.slice none 0 0), .n 8], .pn (PR q.2) false q.2.isNone, .ow 121 q.1])) (fun q => PI o k q) (fun q => (gt q.2).depth) ([], o) [5, 2, 3] ((Value.slice none 0 0 = Value.slice none 0 0) ∧ (Value.slice none 0 0 = Value.slice none 0 0) ∧ (PR o = PR o) ∧ (o.isNone = o.isNone) ∧ (Eq (α := List Turn) [] [])) ⟨rfl, rfl, rfl, rfl, rfl⟩ (by exact PI.start ho hk hh) (fun q hk1 => ?_)
  have i1 := (‹PI o k q›)
  have i2 := (‹PI o k q›).2.2.2
  have i3 := (‹PI o k q›).2.2.2.2.2
  refine v_open 7 (open_r (q.snd) (by exact i1.1)) ((PR q.snd = PR q.snd)) rfl ?_
  refine v_if (decide (0 < (gt q.snd).height)) True trivial (fun h2 => ?_) (fun h2 => ?_)
  · have h2 := of_decide_eq_true h2
    refine v_plan (.fs [0, 1, 2, 3, 4, 5, 6, 7, 8] (.o 9 (.o 10 .e))) [4, 6, 8] True trivial ?_
    refine v_plan (.fs [0, 1, 2, 3, 4, 5, 6, 7] .e) [4, 6, 8, 13] True trivial ?_
    refine v_if (Op.bytesLess k (gt q.snd).key) True trivial (fun h3 => ?_) (fun h3 => ?_)
    · skip
      refine v_call _ [0, 12] (rsum5_ok ((gt q.snd).rc) (by exact (Tr.kid_Ks (by assumption) i2.1).2.1) (by (have := (Tr.kid_Ks (by assumption) i2.1).2.2; have := i2.2.1; omega))) ((rootsP = rootsP) ∧ (PR (gt q.snd).rc = PR (gt q.snd).rc) ∧ ((gt q.snd).rc.isNone = (gt q.snd).rc.isNone)) ⟨rfl, rfl, rfl⟩ (fun g4 p5 => ?_)
      have p5 : True := p5
      exact v_back ((q.fst ++ [Turn.mk (gt q.snd).height (gt q.snd).size false (mk32 (hashO (gt q.snd).rc))], (gt q.snd).lc)) [6, 11, 15] ((q.fst.length + 1 ≤ 1000000) ∧ (Value.slice none 0 0 = Value.slice none 0 0) ∧ (Value.slice none 0 0 = Value.slice none 0 0) ∧ (PR (gt q.snd).lc = PR (gt q.snd).lc) ∧ ((gt q.snd).lc.isNone = (gt q.snd).lc.isNone) ∧ (q.fst ++ [Turn.mk (gt q.snd).height (gt q.snd).size false (mk32 (hashO (gt q.snd).rc))] = q.fst ++ [Turn.mk (gt q.snd).height (gt q.snd).size false (mk32 (hashO (gt q.snd).rc))])) ⟨(by omega), rfl, rfl, rfl, rfl, rfl⟩ (show PI o k (q.fst ++ [Turn.mk (gt q.snd).height (gt q.snd).size false (mk32 (hashO (gt q.snd).rc))], (gt q.snd).lc) ∧ (gt (gt q.snd).lc).depth < (gt q.snd).depth from (by exact PI.nextL (by assumption) (by assumption) (by assumption)))
    · skip
      refine v_call _ [0, 11] (rsum5_ok ((gt q.snd).lc) (by exact (Tr.kid_Ks (by assumption) i2.1).1) (by (have := (Tr.kid_Ks (by assumption) i2.1).2.2; have := i2.2.1; omega))) ((rootsP = rootsP) ∧ (PR (gt q.snd).lc = PR (gt q.snd).lc) ∧ ((gt q.snd).lc.isNone = (gt q.snd).lc.isNone)) ⟨rfl, rfl, rfl⟩ (fun g6 p7 => ?_)
      have p7 : True := p7
      exact v_back ((q.fst ++ [Turn.mk (gt q.snd).height (gt q.snd).size true (mk32 (hashO (gt q.snd).lc))], (gt q.snd).rc)) [6, 12, 15] ((q.fst.length + 1 ≤ 1000000) ∧ (Value.slice none 0 0 = Value.slice none 0 0) ∧ (Value.slice none 0 0 = Value.slice none 0 0) ∧ (PR (gt q.snd).rc = PR (gt q.snd).rc) ∧ ((gt q.snd).rc.isNone = (gt q.snd).rc.isNone) ∧ (q.fst ++ [Turn.mk (gt q.snd).height (gt q.snd).size true (mk32 (hashO (gt q.snd).lc))] = q.fst ++ [Turn.mk (gt q.snd).height (gt q.snd).size true (mk32 (hashO (gt q.snd).lc))])) ⟨(by omega), rfl, rfl, rfl, rfl, rfl⟩ (show PI o k (q.fst ++ [Turn.mk (gt q.snd).height (gt q.snd).size true (mk32 (hashO (gt q.snd).lc))], (gt q.snd).rc) ∧ (gt (gt q.snd).rc).depth < (gt q.snd).depth from (by exact PI.nextR (by assumption) (by assumption) (by assumption)))
  · have h2 := of_decide_eq_false h2
    refine v_leave (.ex 0) True trivial ?_
    exact v_ret () [9, 10, 8] ((rootsP = rootsP) ∧ (k = k) ∧ (PR o = PR o) ∧ (o.isNone = o.isNone) ∧ ((gt q.snd).key = (Tr.fin k (gt o)).key) ∧ ((gt q.snd).value = (Tr.fin k (gt o)).value) ∧ (q.fst = Tr.turns k (gt o))) ⟨rfl, rfl, rfl, rfl, (by exact (PI.stop (by assumption) (by assumption)).1), (by exact (PI.stop (by assumption) (by assumption)).2.1), (by exact (PI.stop (by assumption) (by assumption)).2.2)⟩ trivial
def findG (k : List UInt8) : List Pair → Nat → Int
  | [], _ => -1
  | x :: xs, i => if x.key = k then i else findG k xs (i + 1)
def findP (l : List Pair) (k : List UInt8) : Int := findG k l 0
def FI (l : List Pair) (k : List UInt8) (i : Nat) : Prop := findG k (l.drop i) i = findP l k ∧ i ≤ l.length
abbrev dP : Pair := ⟨[], []⟩
theorem FI.hit {l : List Pair} {k : List UInt8} {i : Nat} (h : FI l k i) (hi : (i : Int) < l.length) (he : (l.getD i dP).key = k) : (i : Int) = findP l k := by
  have h := h.1; rw [drop_cons (d := dP) hi, findG, if_pos he] at h; exact h
theorem FI.next {l : List Pair} {k : List UInt8} {i : Nat} (h : FI l k i) (hi : (i : Int) < l.length) (he : ¬ (l.getD i dP).key = k) : FI l k (i + 1) ∧ l.length - (i + 1) < l.length - i := by
  obtain ⟨h, h2⟩ := h; rw [drop_cons (d := dP) hi, findG, if_neg he] at h; exact ⟨⟨h, by omega⟩, by omega⟩
theorem FI.stop {l : List Pair} {k : List UInt8} {i : Nat} (h : FI l k i) (hi : ¬ (i : Int) < l.length) : -1 = findP l k := by
  have h := h.1; rw [List.drop_of_length_le (by omega), findG] at h; exact h
noncomputable def ccR7_26 : Code := (Tryd.f26.body).getD .skip
theorem Find_ok (l : List Pair) (k : List UInt8) (hl : l.length ≤ 1000000) : FOk EN 26 ⟨[.rd 46 (l), .rd 5 (k)], [.n 0, .n 1], Unit, fun _ => ([.rd 46 (l), .rd 5 (k)], .i (findP l k)), fun _ => True⟩ := by
  refine v_fun Tryd.f26 ccR7_26 MX (fun ν F σ w => ?_) Tryd.func26
  refine v_nl ?_
  refine v_loop (fun i : Nat => ([(5, .i i)], [])) (fun i => FI l k i) (fun i => l.length - i) 0 [] (((0 : Int) = (↑(0 : Nat) : Int))) rfl (by exact ⟨rfl, Nat.zero_le _⟩) (fun i hk1 => ?_)
  have i1 := (‹FI l k i›).2
  refine v_if (decide ((↑i : Int) < (↑l.length : Int))) True trivial (fun h2 => ?_) (fun h2 => ?_)
  · have h2 := of_decide_eq_true h2
    refine v_plan (.fs [0, 1, 2, 3, 4, 5, 6, 7, 8] .e) [] True trivial ?_
    refine v_if (decide ((l.getD (↑i : Int).toNat (Pair.mk [] [])).key = k)) ((0 ≤ (↑i : Int) ∧ (↑i : Int) < (↑l.length : Int))) (by omega) (fun h3 => ?_) (fun h3 => ?_)
    · have h3 := of_decide_eq_true h3
      refine v_leave .rt True trivial ?_
      exact v_ret () [] ((↑i = findP l k) ∧ (l = l) ∧ (k = k)) ⟨(by exact FI.hit (by assumption) (by assumption) (by assumption)), rfl, rfl⟩ trivial
    · have h3 := of_decide_eq_false h3
      exact v_back (i + 1) [] ((I64 (↑i + 1)) ∧ ((↑i : Int) + 1 = (↑(i + 1) : Int))) ⟨(by (unfold I64; omega)), rfl⟩ (show FI l k (i + 1) ∧ l.length - (i + 1) < l.length - i from (by exact FI.next (by assumption) (by assumption) (by assumption)))
  · have h2 := of_decide_eq_false h2
    refine v_leave (.ex 0) True trivial ?_
    exact v_ret () [] ((-1 = findP l k) ∧ (l = l) ∧ (k = k)) ⟨(by exact FI.stop (by assumption) (by assumption)), rfl, rfl⟩ trivial
def SI (a b : Proof) (i : Nat) : Prop := (a.turns.drop i = b.turns.drop i ↔ a = b) ∧ i ≤ a.turns.length ∧ a.turns.length = b.turns.length
section
variable {a b : Proof} {i : Nat}
theorem sp1 (h : a.key ≠ b.key) : false = decide (a = b) := (decide_eq_false (fun e => h (by rw [e]))).symm
theorem sp2 (h : a.value ≠ b.value) : false = decide (a = b) := (decide_eq_false (fun e => h (by rw [e]))).symm
theorem sp3 (h : (a.turns.length : Int) ≠ b.turns.length) : false = decide (a = b) := (decide_eq_false (fun e => h (by rw [e]))).symm
theorem SI.start (h1 : ¬ a.key ≠ b.key) (h2 : ¬ a.value ≠ b.value) (h3 : ¬ (a.turns.length : Int) ≠ b.turns.length) : SI a b 0 := by
  refine ⟨⟨fun h => ?_, fun h => by rw [h]⟩, Nat.zero_le _, by omega⟩
  cases a; cases b; simp only [Decidable.not_not] at *; subst h1; subst h2; simp only [List.drop_zero] at h; rw [h]
theorem SI.ne (h : SI a b i) (hi : (i : Int) < a.turns.length) (hn : teq (a.turns.getD i dT) (b.turns.getD i dT) = false) : false = decide (a = b) := by
  refine (decide_eq_false (fun e => ?_)).symm
  subst e
  have := teq_iff.2 (rfl : a.turns.getD i dT = a.turns.getD i dT); rw [this] at hn; cases hn
theorem SI.next (h : SI a b i) (hi : (i : Int) < a.turns.length) (hn : teq (a.turns.getD i dT) (b.turns.getD i dT) = true) : SI a b (i + 1) ∧ a.turns.length - (i + 1) < a.turns.length - i := by
  obtain ⟨h1, h2, h3⟩ := h
  refine ⟨⟨?_, by omega, h3⟩, by omega⟩
  rw [← h1, drop_cons (d := dT) hi, drop_cons (l := b.turns) (i := i) (d := dT) (by omega), teq_iff.1 hn]; simp
theorem SI.stop (h : SI a b i) (hi : ¬ (i : Int) < a.turns.length) : true = decide (a = b) := by
  refine (decide_eq_true (h.1.1 ?_)).symm
  obtain ⟨h1, h2, h3⟩ := h
  rw [List.drop_of_length_le (by omega), List.drop_of_length_le (by omega)]
end
noncomputable def ccR7_19 : Code := (Tryd.f19.body).getD .skip
theorem SameProof_aux (a b : Proof) (ha : a.turns.length ≤ 1000000) (hb : b.turns.length ≤ 1000000) : FOk EN 19 ⟨[.rd 5 (a.key), .rd 5 (a.value), .rd 121 a.turns, .rd 5 (b.key), .rd 5 (b.value), .rd 121 b.turns], [.a [.n 0, .n 1, .n 2], .a [.n 3, .n 4, .n 5]], Unit, fun _ => ([.rd 5 (a.key), .rd 5 (a.value), .rd 121 a.turns, .rd 5 (b.key), .rd 5 (b.value), .rd 121 b.turns], .b (decide (a = b))), fun _ => True⟩ := by
  refine v_fun Tryd.f19 ccR7_19 MX (fun ν F σ w => ?_) Tryd.func19
  refine v_nl ?_
  refine v_guard 13 (decide (a.key ≠ b.key)) True trivial (fun h1 => ?_) (fun h1 => ?_)
  · have h1 := of_decide_eq_true h1
    exact v_ret () [] ((false = decide (a = b)) ∧ (a.key = a.key) ∧ (a.value = a.value) ∧ (a.turns = a.turns) ∧ (b.key = b.key) ∧ (b.value = b.value) ∧ (b.turns = b.turns)) ⟨(by exact sp1 (by assumption)), rfl, rfl, rfl, rfl, rfl, rfl⟩ trivial
  · have h1 := of_decide_eq_false h1
    refine v_guard 22 (decide (a.value ≠ b.value)) True trivial (fun h2 => ?_) (fun h2 => ?_)
    · have h2 := of_decide_eq_true h2
      exact v_ret () [] ((false = decide (a = b)) ∧ (a.key = a.key) ∧ (a.value = a.value) ∧ (a.turns = a.turns) ∧ (b.key = b.key) ∧ (b.value = b.value) ∧ (b.turns = b.turns)) ⟨(by exact sp2 (by assumption)), rfl, rfl, rfl, rfl, rfl, rfl⟩ trivial
    · have h2 := of_decide_eq_false h2
      refine v_if (decide ((↑a.turns.length : Int) ≠ (↑b.turns.length : Int))) True trivial (fun h3 => ?_) (fun h3 => ?_)
      · have h3 := of_decide_eq_true h3
        exact v_ret () [] ((false = decide (a = b)) ∧ (a.key = a.key) ∧ (a.value = a.value) ∧ (a.turns = a.turns) ∧ (b.key = b.key) ∧ (b.value = b.value) ∧ (b.turns = b.turns)) ⟨(by exact sp3 (by assumption)), rfl, rfl, rfl, rfl, rfl, rfl⟩ trivial
      · have h3 := of_decide_eq_false h3
        refine v_loop (fun i : Nat => ([(5, .i i)], [])) (fun i => SI a b i) (fun i => a.turns.length - i) 0 [] (((0 : Int) = (↑(0 : Nat) : Int))) rfl (by exact SI.start (by assumption) (by assumption) (by assumption)) (fun i hk4 => ?_)
        have i1 := (‹SI a b i›).2
        refine v_if (decide ((↑i : Int) < (↑a.turns.length : Int))) True trivial (fun h5 => ?_) (fun h5 => ?_)
        · have h5 := of_decide_eq_true h5
          refine v_plan (.fs [0, 1, 2, 3, 4, 5, 6, 7, 8, 9, 10] .e) [7, 8] True trivial ?_
          refine v_if (!(decide ((a.turns.getD (↑i : Int).toNat (Turn.mk 0 0 false zero32)).height = (b.turns.getD (↑i : Int).toNat (Turn.mk 0 0 false zero32)).height) && (decide ((a.turns.getD (↑i : Int).toNat (Turn.mk 0 0 false zero32)).size = (b.turns.getD (↑i : Int).toNat (Turn.mk 0 0 false zero32)).size) && ((a.turns.getD (↑i : Int).toNat (Turn.mk 0 0 false zero32)).right == (b.turns.getD (↑i : Int).toNat (Turn.mk 0 0 false zero32)).right && (decide ((a.turns.getD (↑i : Int).toNat (Turn.mk 0 0 false zero32)).other.l = (b.turns.getD (↑i : Int).toNat (Turn.mk 0 0 false zero32)).other.l) && true))))) ((0 ≤ (↑i : Int) ∧ (↑i : Int) < (↑a.turns.length : Int)) ∧ (0 ≤ (↑i : Int) ∧ (↑i : Int) < (↑b.turns.length : Int)) ∧ (EN.P.eqGuardType EN.P.depth (121 : Nat) = false) ∧ (noBl EN.P 121) ∧ ((a.turns.getD (↑i : Int).toNat (Turn.mk 0 0 false zero32)).other.l.length = 32) ∧ ((b.turns.getD (↑i : Int).toNat (Turn.mk 0 0 false zero32)).other.l.length = 32)) ⟨(by omega), (by omega), (by kernel_rfl), (by (unfold noBl; kernel_rfl)), (by exact Sum32.h _), (by exact Sum32.h _)⟩ (fun h6 => ?_) (fun h6 => ?_)
          · have h6 := (nt h6)
            refine v_leave .rt True trivial ?_
            exact v_ret () [] ((false = decide (a = b)) ∧ (a.key = a.key) ∧ (a.value = a.value) ∧ (a.turns = a.turns) ∧ (b.key = b.key) ∧ (b.value = b.value) ∧ (b.turns = b.turns)) ⟨(by exact SI.ne (by assumption) (by assumption) (by first | assumption | simpa using ‹_›)), rfl, rfl, rfl, rfl, rfl, rfl⟩ trivial
          · have h6 := (nf h6)
            exact v_back (i + 1) [] ((I64 (↑i + 1)) ∧ ((↑i : Int) + 1 = (↑(i + 1) : Int))) ⟨(by (unfold I64; omega)), rfl⟩ (show SI a b (i + 1) ∧ a.turns.length - (i + 1) < a.turns.length - i from (by exact SI.next (by assumption) (by assumption) (by first | assumption | simpa using ‹_›)))
        · have h5 := of_decide_eq_false h5
          refine v_leave (.ex 0) True trivial ?_
          exact v_ret () [] ((true = decide (a = b)) ∧ (a.key = a.key) ∧ (a.value = a.value) ∧ (a.turns = a.turns) ∧ (b.key = b.key) ∧ (b.value = b.value) ∧ (b.turns = b.turns)) ⟨(by exact SI.stop (by assumption) (by assumption)), rfl, rfl, rfl, rfl, rfl, rfl⟩ trivial
theorem SameProof_ok (ka va kb vb : List UInt8) (ta tb : List Turn) (ha : ta.length ≤ 1000000) (hb : tb.length ≤ 1000000) : FOk EN 19 ⟨[.rd 5 (ka), .rd 5 (va), .rd 121 ta, .rd 5 (kb), .rd 5 (vb), .rd 121 tb], [.a [.n 0, .n 1, .n 2], .a [.n 3, .n 4, .n 5]], Unit, fun _ => ([.rd 5 (ka), .rd 5 (va), .rd 121 ta, .rd 5 (kb), .rd 5 (vb), .rd 121 tb], .b (decide ((⟨ka, va, ta⟩ : Proof) = ⟨kb, vb, tb⟩))), fun _ => True⟩ := SameProof_aux ⟨ka, va, ta⟩ ⟨kb, vb, tb⟩ ha hb
end Go.Proofs.YtnicmjipbnhciaaDoor.X
set_option linter.unusedVariables false
set_option linter.unusedSimpArgs false
set_option maxRecDepth 100000
namespace Go.Proofs.YtnicmjipbnhciaaDoor.X
open Go Go.RowKit Go.Proofs Go.Proofs.YtnicmjipbnhciaaDoor.E
def ben (l : List Turn) (i : Nat) : Int := if (i : Int) < l.length then (l.getD i dT).height else 0
def bad (l : List Turn) (i : Nat) : Prop := (l.getD i dT).height ≤ ben l (i + 1) ∨ 64 < (l.getD i dT).height
def hashN (p : Proof) : List UInt8 := p.turns.foldr stepH (nsum 0 1 p.key p.value z32 z32)
section
variable {p : Proof} {want : List UInt8} {i : Nat} {x : List UInt8}
/-- no fault so far -/
def GI (l : List Turn) (i : Nat) : Prop := (∀ j, j < i → ¬ bad l j) ∧ i ≤ l.length
theorem GI.start {l : List Turn} : GI l 0 := ⟨fun j hj => by omega, Nat.zero_le _⟩
theorem GI.all {l : List Turn} (h : GI l i) (hi : ¬ (i : Int) < l.length) : ∀ j, j < l.length → ¬ bad l j := fun j hj => h.1 j (by have := h.2; omega)
/-- the sums so far, from the end -/
def HI (p : Proof) (q : Nat × List UInt8) : Prop := q.2 = (p.turns.drop q.1).foldr stepH (nsum 0 1 p.key p.value z32 z32) ∧ q.1 ≤ p.turns.length ∧ q.2.length = 32
theorem HI.start : HI p (p.turns.length, nsum 0 1 p.key p.value z32 z32) := ⟨by simp, Nat.le_refl _, show (nsum 0 1 p.key p.value z32 z32).length = 32 from Tr.nsum_len _ _ _ _ _ _⟩
theorem HI.next {n : Nat} (h : HI p (n, x)) (h0 : 0 ≤ (n : Int) - 1) : HI p (n - 1, stepH (tAt p n) x) ∧ n - 1 < n := by
  obtain ⟨m, rfl, e⟩ := RI.succ (p := p) h0
  obtain ⟨h1, h2, h3⟩ := h
  refine ⟨⟨?_, by omega, show (stepH _ _).length = 32 by unfold stepH; split <;> exact Tr.nsum_len _ _ _ _ _ _⟩, by omega⟩
  have h1 : x = (p.turns.drop (m + 1)).foldr stepH (nsum 0 1 p.key p.value z32 z32) := h1
  show stepH _ x = ((p.turns.drop m)).foldr stepH _
  rw [e, drop_cons (l := p.turns) (i := m) (d := dT) (by omega), List.foldr_cons, h1]
theorem HI.nextT {n : Nat} (h : HI p (n, x)) (h0 : 0 ≤ (n : Int) - 1) (hr : (tAt p n).right = true) : HI p (n - 1, nsum (tAt p n).height (tAt p n).size [] [] (tAt p n).other.l x) ∧ n - 1 < n := by
  have := h.next h0; unfold stepH at this; rwa [if_pos hr] at this
theorem HI.nextF {n : Nat} (h : HI p (n, x)) (h0 : 0 ≤ (n : Int) - 1) (hr : (tAt p n).right = false) : HI p (n - 1, nsum (tAt p n).height (tAt p n).size [] [] x (tAt p n).other.l) ∧ n - 1 < n := by
  have := h.next h0; unfold stepH at this; rwa [if_neg (by rw [hr]; simp)] at this
theorem HI.stop {n : Nat} (h : HI p (n, x)) (h0 : ¬ 0 ≤ (n : Int) - 1) : hashN p = x := by
  have : n = 0 := by omega
  subst this; exact h.1.symm
end
end Go.Proofs.YtnicmjipbnhciaaDoor.X
set_option linter.unusedVariables false
set_option linter.unusedSimpArgs false
set_option maxRecDepth 100000
namespace Go.Proofs.YtnicmjipbnhciaaDoor.X
open Go Go.RowKit Go.Proofs Go.Proofs.YtnicmjipbnhciaaDoor.E
theorem rootN_ok (l : List Turn) (hl : ∀ j, j < l.length → ¬ bad l j) : ∀ (n : Nat) (x : List UInt8), n ≤ l.length → rootN l n (ben l n) x = ((l.take n).foldr stepH x, none)
  | 0, x, _ => by simp [rootN]
  | n + 1, x, hn => by
    have h1 := hl n (by omega)
    unfold bad at h1
    rw [rootN, if_neg (by omega)]
    have e : (l.getD n dT).height = ben l n := by unfold ben; rw [if_pos (by omega)]
    rw [e, rootN_ok l hl n _ (by omega), List.take_succ, List.foldr_append]
    have : l[n]?.toList = [l.getD n dT] := by
      have hlt : n < l.length := by omega
      simp [List.getD_eq_getElem?_getD, hlt]
    rw [this]; rfl
theorem ben_end (l : List Turn) : ben l l.length = 0 := by unfold ben; rw [if_neg (by omega)]
theorem verP_dep (want : List UInt8) (p : Proof) : depO (verP want p) ≤ 1 := by
  have hN : ∀ (n : Nat) (a : Int) (x : List UInt8), depO (rootN p.turns n a x).2 ≤ 1 := by
    intro n
    induction n with
    | zero => intro a x; simp [rootN, depO]
    | succ n ih => intro a x; rw [rootN]; split; exact Nat.le_refl _; exact ih _ _
  have hR : depO (rootP p).2 ≤ 1 := by
    unfold rootP; split
    · exact Nat.le_refl _
    · split
      · exact Nat.le_refl _
      · exact hN _ _ _
  unfold verP; split
  · split
    · exact Nat.zero_le _
    · exact Nat.le_refl _
  · exact hR
end Go.Proofs.YtnicmjipbnhciaaDoor.X
set_option linter.unusedVariables false
set_option linter.unusedSimpArgs false
set_option maxRecDepth 100000
namespace Go.Proofs.YtnicmjipbnhciaaDoor.X
open Go Go.RowKit Go.Proofs Go.Proofs.YtnicmjipbnhciaaDoor.E
section
variable {want k : List UInt8} {l r : Option Proof} {c : Int} {e : Er}
theorem vg_left (h1 : ¬ (k.length : Int) < 1) (h2 : ¬ (96 : Int) < k.length) (h3 : l.isNone = false) (h4 : r.isNone = true) (h5 : sideP true (gp l).turns = true) : vgP want k l r = vgL want k l r := by
  unfold vgP; rw [if_neg (by omega), if_neg (by simp [h3]), if_neg (by simp [h3, h5]), if_neg (by simp [h4])]
end
end Go.Proofs.YtnicmjipbnhciaaDoor.X
set_option linter.unusedVariables false
set_option linter.unusedSimpArgs false
set_option maxRecDepth 100000
namespace Go.Proofs.YtnicmjipbnhciaaDoor.X
open Go Go.RowKit Go.Proofs Go.Proofs.YtnicmjipbnhciaaDoor.E
def keyA (a : Act) : List UInt8 := if 0 < a.raw.length then a.raw else [107, 97 + a.k % 26, 97 + a.k / 26]
noncomputable def ccR11_63 : Code := (Tryd.f63.body).getD .skip
theorem Key_ok (a : Act) : FOk EN 63 ⟨[.rd 5 (a.raw), .rd 5 (a.value)], [.a [.c a.kind, .c a.k, .n 0, .n 1]], Unit, fun _ => ([.rd 5 (a.raw), .rd 5 (a.value), .rd 5 (keyA a)], .n 2), fun _ => True⟩ := by
  refine v_fun Tryd.f63 ccR11_63 MX (fun ν F σ w => ?_) Tryd.func63
  refine v_nl ?_
  refine v_if (decide (0 < (↑a.raw.length : Int))) True trivial (fun h1 => ?_) (fun h1 => ?_)
  · have h1 := of_decide_eq_true h1
    exact v_ret () [0] ((a.raw = a.raw) ∧ (a.value = a.value) ∧ (a.raw = keyA a)) ⟨rfl, rfl, (by (unfold keyA; rw [if_pos (by omega)]))⟩ trivial
  · have h1 := of_decide_eq_false h1
    exact v_ret () [4] (((26 : UInt8) ≠ (0 : UInt8)) ∧ ((26 : UInt8) ≠ (0 : UInt8)) ∧ (a.raw = a.raw) ∧ (a.value = a.value) ∧ ([107, 97 + a.k % 26, 97 + a.k / 26] = keyA a)) ⟨(by decide), (by decide), rfl, rfl, (by (unfold keyA; rw [if_neg (by omega)]))⟩ trivial
def putPair (k v : List UInt8) : List Pair → List Pair
  | [] => [⟨k, v⟩]
  | x :: xs => if Op.bytesLess x.key k = true then x :: putPair k v xs else ⟨k, v⟩ :: (if x.key = k then xs else x :: xs)
def cutPair (k : List UInt8) (l : List Pair) : List Pair := l.filter fun x => decide (x.key ≠ k)
def UI (k v : List UInt8) (l : List Pair) (q : Nat × List Pair) : Prop := q.2 ++ putPair k v (l.drop q.1) = putPair k v l ∧ q.1 ≤ l.length ∧ q.2.length = q.1
section
variable {k v : List UInt8} {l xs : List Pair} {i : Nat}
theorem UI.start : UI k v l (0, []) := ⟨rfl, Nat.zero_le _, rfl⟩
theorem UI.next (h : UI k v l (i, xs)) (hi : (i : Int) < l.length) (hl : Op.bytesLess (l.getD i dP).key k = true) : UI k v l (i + 1, xs ++ [l.getD i dP]) ∧ l.length - (i + 1) < l.length - i := by
  obtain ⟨h1, h2, h3⟩ := h
  have h1 : xs ++ putPair k v (l.drop i) = putPair k v l := h1
  have h3 : xs.length = i := h3
  refine ⟨⟨?_, by omega, by simp [h3]⟩, by omega⟩
  show (xs ++ [l.getD i dP]) ++ putPair k v (l.drop (i + 1)) = _
  rw [← h1, drop_cons (d := dP) hi, putPair, if_pos hl]; simp
theorem UI.end0 (h : UI k v l (i, xs)) (hi : ¬ (i : Int) < l.length) : xs ++ [⟨k, v⟩] ++ l.drop i = putPair k v l := by
  have h1 : xs ++ putPair k v (l.drop i) = putPair k v l := h.1
  rw [← h1, List.drop_of_length_le (by omega)]; simp [putPair]
theorem UI.end1 (h : UI k v l (i, xs)) (hi : (i : Int) < l.length) (hl : Op.bytesLess (l.getD i dP).key k = false) (he : (l.getD i dP).key = k) : xs ++ [⟨k, v⟩] ++ l.drop (i + 1) = putPair k v l := by
  have h1 : xs ++ putPair k v (l.drop i) = putPair k v l := h.1
  rw [← h1, drop_cons (d := dP) hi, putPair, if_neg (by rw [hl]; simp), if_pos he]; simp
theorem UI.end2 (h : UI k v l (i, xs)) (hi : (i : Int) < l.length) (hl : Op.bytesLess (l.getD i dP).key k = false) (he : ¬ (l.getD i dP).key = k) : xs ++ [⟨k, v⟩] ++ l.drop i = putPair k v l := by
  have h1 : xs ++ putPair k v (l.drop i) = putPair k v l := h.1
  rw [← h1, drop_cons (d := dP) hi, putPair, if_neg (by rw [hl]; simp), if_neg he]; simp
end
noncomputable def ccR11_64 : Code := (Tryd.f64.body).getD .skip
theorem PutPair_ok (l : List Pair) (k v : List UInt8) (hl : l.length ≤ 100000) : FOk EN 64 ⟨[.rd 46 (l), .rd 5 (k), .rd 5 (v)], [.n 0, .n 1, .n 2], Unit, fun _ => ([.rd 46 (l), .rd 5 (k), .rd 5 (v), .ow 46 (putPair k v l)], .n 3), fun _ => True⟩ := by
  refine v_fun Tryd.f64 ccR11_64 MX (fun ν F σ w => ?_) Tryd.func64
  refine v_nl ?_
  refine v_loop (fun q : Nat × List Pair => ([(8, .i q.1), (7, .n 4)], [.ow 46 q.2])) (fun q => UI k v l q) (fun q => l.length - q.1) (0, []) [3] (((0 : Int) = (↑(0 : Nat) : Int)) ∧ (([] : List Pair) = [])) ⟨rfl, rfl⟩ (by exact UI.start) (fun q hk1 => ?_)
  have i1 := (‹UI k v l q›).2
  refine v_plan (.fs [0, 1, 2, 3, 4, 5, 6, 7, 8, 9, 10, 11, 12, 13, 14] .e) [4] True trivial ?_
  refine v_guard 13 (decide ((↑q.fst : Int) < (↑l.length : Int))) True trivial (fun h2 => ?_) (fun h2 => ?_)
  · have h2 := of_decide_eq_true h2
    refine v_if (Op.bytesLess (l.getD (↑q.fst : Int).toNat (Pair.mk [] [])).key k) ((0 ≤ (↑q.fst : Int) ∧ (↑q.fst : Int) < (↑l.length : Int))) (by omega) (fun h3 => ?_) (fun h3 => ?_)
    · skip
      exact v_back ((q.fst + 1, q.snd ++ [Pair.mk (l.getD (↑q.fst : Int).toNat (Pair.mk [] [])).key (l.getD (↑q.fst : Int).toNat (Pair.mk [] [])).value])) [12] ((0 ≤ (↑q.fst : Int) ∧ (↑q.fst : Int) < (↑l.length : Int)) ∧ (q.snd.length + 1 ≤ 1000000) ∧ (I64 (↑q.fst + 1)) ∧ ((↑q.fst : Int) + 1 = (↑(q.fst + 1) : Int)) ∧ (q.snd ++ [Pair.mk (l.getD (↑q.fst : Int).toNat (Pair.mk [] [])).key (l.getD (↑q.fst : Int).toNat (Pair.mk [] [])).value] = q.snd ++ [Pair.mk (l.getD (↑q.fst : Int).toNat (Pair.mk [] [])).key (l.getD (↑q.fst : Int).toNat (Pair.mk [] [])).value])) ⟨(by omega), (by omega), (by (unfold I64; omega)), rfl, rfl⟩ (show UI k v l (q.fst + 1, q.snd ++ [Pair.mk (l.getD (↑q.fst : Int).toNat (Pair.mk [] [])).key (l.getD (↑q.fst : Int).toNat (Pair.mk [] [])).value]) ∧ l.length - (q.fst + 1) < l.length - q.fst from (by exact UI.next (by assumption) (by assumption) (by assumption)))
    · skip
      refine v_leave (.ex 0) True trivial ?_
      refine v_plan (.fs [0, 1, 2, 3, 4, 5, 6, 7, 8, 9, 10, 11, 12, 13, 14] .e) [8, 9] ((q.snd.length + 1 ≤ 1000000)) (by omega) ?_
      refine v_guard 43 (decide ((↑q.fst : Int) < (↑l.length : Int))) True trivial (fun h4 => ?_) (fun h4 => ?_)
      · have h4 := of_decide_eq_true h4
        refine v_if (decide ((l.getD (↑q.fst : Int).toNat (Pair.mk [] [])).key = k)) ((0 ≤ (↑q.fst : Int) ∧ (↑q.fst : Int) < (↑l.length : Int))) (by omega) (fun h5 => ?_) (fun h5 => ?_)
        · have h5 := of_decide_eq_true h5
          exact v_ret () [14] ((I64 (↑q.fst + 1)) ∧ (0 ≤ (↑q.fst : Int) + 1 ∧ (↑q.fst : Int) + 1 ≤ (↑l.length : Int)) ∧ ((q.snd ++ [Pair.mk k v]).length + (List.drop ((↑q.fst : Int) + 1).toNat l).length ≤ 1000000) ∧ (l = l) ∧ (k = k) ∧ (v = v) ∧ (q.snd ++ [Pair.mk k v] ++ List.drop ((↑q.fst : Int) + 1).toNat l = putPair k v l)) ⟨(by (unfold I64; omega)), (by omega), (by (simp; omega)), rfl, rfl, rfl, (by exact UI.end1 (by assumption) (by assumption) (by assumption) (by assumption))⟩ trivial
        · have h5 := of_decide_eq_false h5
          exact v_ret () [14] ((0 ≤ (↑q.fst : Int) ∧ (↑q.fst : Int) ≤ (↑l.length : Int)) ∧ ((q.snd ++ [Pair.mk k v]).length + (List.drop (↑q.fst : Int).toNat l).length ≤ 1000000) ∧ (l = l) ∧ (k = k) ∧ (v = v) ∧ (q.snd ++ [Pair.mk k v] ++ List.drop (↑q.fst : Int).toNat l = putPair k v l)) ⟨(by omega), (by (simp; omega)), rfl, rfl, rfl, (by exact UI.end2 (by assumption) (by assumption) (by assumption) (by assumption))⟩ trivial
      · have h4 := of_decide_eq_false h4
        omega
  · have h2 := of_decide_eq_false h2
    refine v_leave (.ex 0) True trivial ?_
    refine v_plan (.fs [0, 1, 2, 3, 4, 5, 6, 7, 8, 9, 10, 11, 12, 13, 14] .e) [5, 6] ((q.snd.length + 1 ≤ 1000000)) (by omega) ?_
    refine v_guard 43 (decide ((↑q.fst : Int) < (↑l.length : Int))) True trivial (fun h6 => ?_) (fun h6 => ?_)
    · have h6 := of_decide_eq_true h6
      omega
    · have h6 := of_decide_eq_false h6
      exact v_ret () [8] ((0 ≤ (↑q.fst : Int) ∧ (↑q.fst : Int) ≤ (↑l.length : Int)) ∧ ((q.snd ++ [Pair.mk k v]).length + (List.drop (↑q.fst : Int).toNat l).length ≤ 1000000) ∧ (l = l) ∧ (k = k) ∧ (v = v) ∧ (q.snd ++ [Pair.mk k v] ++ List.drop (↑q.fst : Int).toNat l = putPair k v l)) ⟨(by omega), (by (simp; omega)), rfl, rfl, rfl, (by exact UI.end0 (by assumption) (by assumption))⟩ trivial
def TI5 (k : List UInt8) (l : List Pair) (q : Nat × List Pair) : Prop := q.2 ++ cutPair k (l.drop q.1) = cutPair k l ∧ q.1 ≤ l.length ∧ q.2.length ≤ q.1
theorem TI5.start {k : List UInt8} {l : List Pair} : TI5 k l (0, []) := ⟨rfl, Nat.zero_le _, Nat.le_refl _⟩
theorem TI5.next {k : List UInt8} {l xs : List Pair} {i : Nat} (h : TI5 k l (i, xs)) (hi : (i : Int) < l.length) (he : (l.getD i dP).key ≠ k) : TI5 k l (i + 1, xs ++ [l.getD i dP]) ∧ l.length - (i + 1) < l.length - i := by
  obtain ⟨h1, h2, h3⟩ := h
  have h1 : xs ++ cutPair k (l.drop i) = cutPair k l := h1
  have h3 : xs.length ≤ i := h3
  refine ⟨⟨?_, by omega, by simp; exact h3⟩, by omega⟩
  show (xs ++ [l.getD i dP]) ++ cutPair k (l.drop (i + 1)) = _
  rw [← h1, drop_cons (d := dP) hi]; simp only [cutPair, List.filter_cons]; rw [if_pos (by exact decide_eq_true he)]; simp
theorem TI5.skip {k : List UInt8} {l xs : List Pair} {i : Nat} (h : TI5 k l (i, xs)) (hi : (i : Int) < l.length) (he : ¬ (l.getD i dP).key ≠ k) : TI5 k l (i + 1, xs) ∧ l.length - (i + 1) < l.length - i := by
  obtain ⟨h1, h2, h3⟩ := h
  have h1 : xs ++ cutPair k (l.drop i) = cutPair k l := h1
  have h3 : xs.length ≤ i := h3
  refine ⟨⟨?_, by omega, by show xs.length ≤ i + 1; omega⟩, by omega⟩
  show xs ++ cutPair k (l.drop (i + 1)) = _
  rw [← h1, drop_cons (d := dP) hi]; simp only [cutPair, List.filter_cons]; rw [if_neg (by simpa using he)]
theorem TI5.stop {k : List UInt8} {l xs : List Pair} {i : Nat} (h : TI5 k l (i, xs)) (hi : ¬ (i : Int) < l.length) : xs = cutPair k l := by
  have h1 : xs ++ cutPair k (l.drop i) = cutPair k l := h.1
  rw [← h1, List.drop_of_length_le (by omega)]; simp [cutPair]
noncomputable def ccR11_66 : Code := (Tryd.f66.body).getD .skip
theorem CutPair_ok (l : List Pair) (k : List UInt8) (hl : l.length ≤ 100000) : FOk EN 66 ⟨[.rd 46 (l), .rd 5 (k)], [.n 0, .n 1], Unit, fun _ => ([.rd 46 (l), .rd 5 (k), .ow 46 (cutPair k l)], .n 2), fun _ => True⟩ := by
  refine v_fun Tryd.f66 ccR11_66 MX (fun ν F σ w => ?_) Tryd.func66
  refine v_nl ?_
  refine v_loop (fun q : Nat × List Pair => ([(6, .i q.1), (5, .n 3)], [.ow 46 q.2])) (fun q => TI5 k l q) (fun q => l.length - q.1) (0, []) [2] (((0 : Int) = (↑(0 : Nat) : Int)) ∧ (([] : List Pair) = [])) ⟨rfl, rfl⟩ (by exact TI5.start) (fun q hk1 => ?_)
  have i1 := (‹TI5 k l q›).2
  refine v_if (decide ((↑q.fst : Int) < (↑l.length : Int))) True trivial (fun h2 => ?_) (fun h2 => ?_)
  · have h2 := of_decide_eq_true h2
    refine v_plan (.fs [0, 1, 2, 3, 4, 5, 6, 7, 8] .e) [3] True trivial ?_
    refine v_if (decide ((l.getD (↑q.fst : Int).toNat (Pair.mk [] [])).key ≠ k)) ((0 ≤ (↑q.fst : Int) ∧ (↑q.fst : Int) < (↑l.length : Int))) (by omega) (fun h3 => ?_) (fun h3 => ?_)
    · have h3 := of_decide_eq_true h3
      exact v_back ((q.fst + 1, q.snd ++ [Pair.mk (l.getD (↑q.fst : Int).toNat (Pair.mk [] [])).key (l.getD (↑q.fst : Int).toNat (Pair.mk [] [])).value])) [11] ((0 ≤ (↑q.fst : Int) ∧ (↑q.fst : Int) < (↑l.length : Int)) ∧ (q.snd.length + 1 ≤ 1000000) ∧ (I64 (↑q.fst + 1)) ∧ ((↑q.fst : Int) + 1 = (↑(q.fst + 1) : Int)) ∧ (q.snd ++ [Pair.mk (l.getD (↑q.fst : Int).toNat (Pair.mk [] [])).key (l.getD (↑q.fst : Int).toNat (Pair.mk [] [])).value] = q.snd ++ [Pair.mk (l.getD (↑q.fst : Int).toNat (Pair.mk [] [])).key (l.getD (↑q.fst : Int).toNat (Pair.mk [] [])).value])) ⟨(by omega), (by omega), (by (unfold I64; omega)), rfl, rfl⟩ (show TI5 k l (q.fst + 1, q.snd ++ [Pair.mk (l.getD (↑q.fst : Int).toNat (Pair.mk [] [])).key (l.getD (↑q.fst : Int).toNat (Pair.mk [] [])).value]) ∧ l.length - (q.fst + 1) < l.length - q.fst from (by exact TI5.next (by assumption) (by assumption) (by assumption)))
    · have h3 := of_decide_eq_false h3
      exact v_back ((q.fst + 1, q.snd)) [3] ((I64 (↑q.fst + 1)) ∧ ((↑q.fst : Int) + 1 = (↑(q.fst + 1) : Int)) ∧ (q.snd = q.snd)) ⟨(by (unfold I64; omega)), rfl, rfl⟩ (show TI5 k l (q.fst + 1, q.snd) ∧ l.length - (q.fst + 1) < l.length - q.fst from (by exact TI5.skip (by assumption) (by assumption) (by assumption)))
  · have h2 := of_decide_eq_false h2
    refine v_leave (.ex 0) True trivial ?_
    exact v_ret () [3] ((l = l) ∧ (k = k) ∧ (q.snd = cutPair k l)) ⟨rfl, rfl, (by exact TI5.stop (by assumption) (by assumption))⟩ trivial
end Go.Proofs.YtnicmjipbnhciaaDoor.X
set_option linter.unusedVariables false
set_option linter.unusedSimpArgs false
set_option maxRecDepth 100000
namespace Go.Proofs.YtnicmjipbnhciaaDoor.X
open Go Go.RowKit Go.Proofs Go.Proofs.YtnicmjipbnhciaaDoor.E
def isGt (a b : List UInt8) : Bool := !(Op.bytesLess a b || decide (a = b))
def bsG (k : List UInt8) : List Pair → Nat → Int × Int → Int × Int
  | [], _, s => s
  | x :: xs, i, s => bsG k xs (i + 1) (if Op.bytesLess x.key k = true then (i : Int) else s.1, if isGt x.key k = true ∧ s.2 < 0 then (i : Int) else s.2)
def besideP (l : List Pair) (k : List UInt8) : Int × Int := bsG k l 0 (-1, -1)
def BI (l : List Pair) (k : List UInt8) (q : Nat × Int × Int) : Prop := bsG k (l.drop q.1) q.1 q.2 = besideP l k ∧ q.1 ≤ l.length
section
variable {l : List Pair} {k : List UInt8} {i : Nat} {a b : Int}
theorem BI.start : BI l k (0, -1, -1) := ⟨rfl, Nat.zero_le _⟩
theorem BI.next (h : BI l k (i, a, b)) (hi : (i : Int) < l.length) : BI l k (i + 1, (if Op.bytesLess (l.getD i dP).key k = true then (i : Int) else a), (if isGt (l.getD i dP).key k = true ∧ b < 0 then (i : Int) else b)) ∧ l.length - (i + 1) < l.length - i := by
  obtain ⟨h1, h2⟩ := h
  rw [drop_cons (d := dP) hi, bsG] at h1
  exact ⟨⟨h1, by omega⟩, by omega⟩
theorem BI.n1 (h : BI l k (i, a, b)) (hi : (i : Int) < l.length) (h1 : Op.bytesLess (l.getD i dP).key k = true) (h2 : isGt (l.getD i dP).key k = true) (h3 : b < 0) : BI l k (i + 1, (i : Int), (i : Int)) ∧ l.length - (i + 1) < l.length - i := by
  have := h.next hi; rwa [if_pos h1, if_pos ⟨h2, h3⟩] at this
theorem BI.n2 (h : BI l k (i, a, b)) (hi : (i : Int) < l.length) (h1 : Op.bytesLess (l.getD i dP).key k = true) (h2 : isGt (l.getD i dP).key k = false ∨ ¬ b < 0) : BI l k (i + 1, (i : Int), b) ∧ l.length - (i + 1) < l.length - i := by
  have := h.next hi; rwa [if_pos h1, if_neg (by rintro ⟨x, y⟩; rcases h2 with h2 | h2; rw [h2] at x; cases x; exact h2 y)] at this
theorem BI.stop (h : BI l k (i, a, b)) (hi : ¬ (i : Int) < l.length) : a = (besideP l k).1 ∧ b = (besideP l k).2 := by
  have h1 := h.1; rw [List.drop_of_length_le (by omega), bsG] at h1; rw [← h1]; exact ⟨rfl, rfl⟩
end
end Go.Proofs.YtnicmjipbnhciaaDoor.X
set_option linter.unusedVariables false
set_option linter.unusedSimpArgs false
set_option maxRecDepth 100000
namespace Go.Proofs.YtnicmjipbnhciaaDoor.X
open Go Go.RowKit Go.Proofs Go.Proofs.YtnicmjipbnhciaaDoor.E
namespace Tr
theorem bal_depth (l r : Tr) : (l.bal r).depth = l.depth + r.depth + 1 := by
  unfold bal
  split
  · cases l with
    | leaf a b => rfl
    | node a b =>
      dsimp only
      split
      · cases b with
        | leaf c d => rfl
        | node c d => simp only [depth]; omega
      · simp only [depth]; omega
  · split
    · cases r with
      | leaf a b => rfl
      | node a b =>
        dsimp only
        split
        · cases a with
          | leaf c d => rfl
          | node c d => simp only [depth]; omega
        · simp only [depth]; omega
    · rfl
theorem put_depth (k v : List UInt8) : ∀ t : Tr, (t.put k v).depth ≤ t.depth + 1
  | leaf a b => by unfold put; split; simp [depth]; split; simp [depth]; simp [depth]
  | node l r => by
    have h1 := put_depth k v l; have h2 := put_depth k v r
    unfold put; split <;> rw [bal_depth] <;> simp only [depth] <;> omega
theorem cut_depth {k : List UInt8} : ∀ {t t' : Tr}, t.cut k = some (some t') → t'.depth ≤ t.depth
  | leaf a b, t', e => by unfold cut at e; split at e <;> simp at e
  | node l r, t', e => by
    unfold cut at e
    split at e
    · split at e
      · simp at e
      · simp at e; subst e; simp only [depth]; omega
      · rename_i l' hl; simp at e; subst e; rw [bal_depth]; have := cut_depth hl; simp only [depth]; omega
    · split at e
      · simp at e
      · simp at e; subst e; simp only [depth]; omega
      · rename_i r' hr; simp at e; subst e; rw [bal_depth]; have := cut_depth hr; simp only [depth]; omega
theorem height_depth : ∀ t : Tr, t.height ≤ t.depth
  | leaf _ _ => Int.le_refl _
  | node l r => by have h1 := height_depth l; have h2 := height_depth r; simp only [height, depth]; omega
theorem leaves_len : ∀ t : Tr, t.leaves.length = t.depth + 1
  | leaf _ _ => rfl
  | node l r => by simp [leaves, leaves_len l, leaves_len r, depth]; omega
end Tr
/-- A tree of at most n keys, none too long. -/
def okN (n : Nat) (o : Option Tr) : Prop := ∀ t, o = some t → t.Ks ∧ t.depth + 1 ≤ n
theorem okN.O {n : Nat} {o : Option Tr} (h : okN n o) (hn : n ≤ 600) : okO o := fun t e => by
  obtain ⟨h1, h2⟩ := h t e
  have := t.height_depth
  exact ⟨h1, by omega, by omega⟩
theorem okN.leaves {n : Nat} {o : Option Tr} (h : okN n o) : (leavesO o).length ≤ n := by
  cases o with
  | none => exact Nat.zero_le _
  | some t => obtain ⟨_, h2⟩ := h t rfl; show t.leaves.length ≤ n; rw [t.leaves_len]; exact h2
theorem okN.put {n : Nat} {o : Option Tr} {k v : List UInt8} (h : okN n o) (hk : k.length ≤ 1000) (hv : v.length ≤ 1000) : okN (n + 1) (putO k v o) := fun t e => by
  cases o with
  | none => injection e with e; subst e; exact ⟨⟨hk, hv⟩, by simp [Tr.depth]⟩
  | some s =>
    injection e with e; subst e
    obtain ⟨h1, h2⟩ := h s rfl
    have := s.put_depth k v
    exact ⟨Tr.put_Ks ⟨hk, hv⟩ h1, by omega⟩
theorem okN.cut {n : Nat} {o : Option Tr} {k : List UInt8} (h : okN n o) : okN (n + 1) (cutO k o) := fun t e => by
  cases o with
  | none => simp [cutO] at e
  | some s =>
    obtain ⟨h1, h2⟩ := h s rfl
    have e : (match s.cut k with | none => some s | some r => r) = some t := e
    cases c : s.cut k with
    | none => rw [c] at e; injection e with e; subst e; exact ⟨h1, by omega⟩
    | some r => rw [c] at e; have e : r = some t := e; subst e; exact ⟨Tr.cut_Ks h1 c, by have := Tr.cut_depth c; omega⟩
theorem putPair_len (k v : List UInt8) : ∀ l : List Pair, (putPair k v l).length ≤ l.length + 1
  | [] => Nat.le_refl _
  | x :: xs => by have := putPair_len k v xs; unfold putPair; split; simpa using this; split <;> simp
def valA (a : Act) : List UInt8 := a.value.take (if 100 < (a.value.length : Int) then 100 else (a.value.length : Int)).toNat
def stepA (a : Act) (s : Option Tr × List Pair) : Option Tr × List Pair :=
  if a.kind % 6 < 4 then (putO (keyA a) (valA a) s.1, putPair (keyA a) (valA a) s.2) else (cutO (keyA a) s.1, cutPair (keyA a) s.2)
def growG : Nat → List Act → Option Tr × List Pair → Option Tr × List Pair
  | 0, _, s => s
  | _, [], s => s
  | n + 1, a :: l, s => if 90 < (keyA a).length then s else growG n l (stepA a s)
def growT (acts : List Act) (most : Nat) : Option Tr × List Pair := growG most acts (none, [])
abbrev dA : Act := ⟨0, 0, [], []⟩
def GrI (acts : List Act) (m : Nat) (q : Nat × Option Tr × List Pair) : Prop := growG (m - q.1) (acts.drop q.1) q.2 = growT acts m ∧ q.1 ≤ m ∧ q.1 ≤ acts.length ∧ okN q.1 q.2.1 ∧ q.2.2.length ≤ q.1
theorem keyA_pos (a : Act) : 1 ≤ (keyA a).length := by unfold keyA; split; assumption; simp
theorem valA_len (a : Act) : (valA a).length ≤ 100 := by unfold valA; rw [List.length_take]; split <;> omega
section
variable {acts : List Act} {m i : Nat} {o : Option Tr} {l : List Pair}
theorem GrI.start : GrI acts m (0, none, []) := ⟨rfl, Nat.zero_le _, Nat.zero_le _, fun t e => by simp at e, Nat.le_refl _⟩
theorem GrI.stop1 (h : GrI acts m (i, o, l)) (hi : ¬ (i : Int) < acts.length) : growT acts m = (o, l) := by
  have h := h.1; rw [List.drop_of_length_le (by omega)] at h; rw [← h]; cases (m - i) <;> rfl
theorem GrI.stop2 (h : GrI acts m (i, o, l)) (hi : (m : Int) ≤ i) : growT acts m = (o, l) := by
  have h := h.1; rw [show m - i = 0 by omega] at h; rw [← h]; rfl
theorem GrI.stop3 (h : GrI acts m (i, o, l)) (hi : (i : Int) < acts.length) (hm : ¬ (m : Int) ≤ i) (hk : 90 < ((keyA (acts.getD i dA)).length : Int)) : growT acts m = (o, l) := by
  have h := h.1; rw [show m - i = (m - i - 1) + 1 by omega, drop_cons (d := dA) hi, growG, if_pos (by omega)] at h; rw [← h]
theorem GrI.next (h : GrI acts m (i, o, l)) (hi : (i : Int) < acts.length) (hm : ¬ (m : Int) ≤ i) (hk : ¬ 90 < ((keyA (acts.getD i dA)).length : Int)) : growG (m - (i + 1)) (acts.drop (i + 1)) (stepA (acts.getD i dA) (o, l)) = growT acts m := by
  have h := h.1; rw [show m - i = (m - i - 1) + 1 by omega, drop_cons (d := dA) hi, growG, if_neg (by omega)] at h
  rw [← h, show m - (i + 1) = m - i - 1 by omega]
theorem GrI.put (h : GrI acts m (i, o, l)) (hi : (i : Int) < acts.length) (hm : ¬ (m : Int) ≤ i) (hk : ¬ 90 < ((keyA (acts.getD i dA)).length : Int)) (h6 : (acts.getD i dA).kind % 6 < 4) : GrI acts m (i + 1, putO (keyA (acts.getD i dA)) (valA (acts.getD i dA)) o, putPair (keyA (acts.getD i dA)) (valA (acts.getD i dA)) l) ∧ acts.length - (i + 1) < acts.length - i := by
  have hn := h.next hi hm hk
  obtain ⟨a1, a2, a3, a4, a5⟩ := h
  rw [stepA, if_pos h6] at hn
  have a5 : l.length ≤ i := a5
  have := putPair_len (keyA (acts.getD i dA)) (valA (acts.getD i dA)) l
  refine ⟨⟨hn, by show i + 1 ≤ m; omega, by show i + 1 ≤ acts.length; omega, okN.put a4 (by omega) (by have := valA_len (acts.getD i dA); omega), by show (putPair _ _ l).length ≤ i + 1; omega⟩, by omega⟩
theorem GrI.cut (h : GrI acts m (i, o, l)) (hi : (i : Int) < acts.length) (hm : ¬ (m : Int) ≤ i) (hk : ¬ 90 < ((keyA (acts.getD i dA)).length : Int)) (h6 : ¬ (acts.getD i dA).kind % 6 < 4) : GrI acts m (i + 1, cutO (keyA (acts.getD i dA)) o, cutPair (keyA (acts.getD i dA)) l) ∧ acts.length - (i + 1) < acts.length - i := by
  have hn := h.next hi hm hk
  obtain ⟨a1, a2, a3, a4, a5⟩ := h
  rw [stepA, if_neg h6] at hn
  have a5 : l.length ≤ i := a5
  have : (cutPair (keyA (acts.getD i dA)) l).length ≤ l.length := List.length_filter_le ..
  refine ⟨⟨hn, by show i + 1 ≤ m; omega, by show i + 1 ≤ acts.length; omega, okN.cut a4, by show (cutPair _ l).length ≤ i + 1; omega⟩, by omega⟩
end
noncomputable def ccR13_21 : Code := (Tryd.f21.body).getD .skip
theorem Grow_ok (acts : List Act) (m : Nat) (hm : m ≤ 100) : FOk EN 21 ⟨[.pr wordsP, .rd 133 acts], [.n 1, .i m], Unit, fun _ => ([.pr wordsP, .rd 133 acts, .pn (PTO (growT acts m).1) false false, .ow 46 ((growT acts m).2)], .t [.p 2 0, .n 3]), fun _ => True⟩ := by
  refine v_fun Tryd.f21 ccR13_21 MX (fun ν F σ w => ?_) Tryd.func21
  refine v_nl ?_
  refine v_call _ [0] (new_ok) ((wordsP = wordsP)) rfl (fun g1 p2 => ?_)
  have p2 : True := p2
  refine v_loop (fun q : Nat × Option Tr × List Pair => ([(15, .i q.1), (6, .p 4 0), (7, .n 5)], [.pn (PTO q.2.1) false false, .ow 46 q.2.2])) (fun q => GrI acts m q) (fun q => acts.length - q.1) (0, none, []) [3, 2] (((0 : Int) = (↑(0 : Nat) : Int)) ∧ (PTO none = PTO none) ∧ (false = false) ∧ (Eq (α := List Pair) [] [])) ⟨rfl, rfl, rfl, rfl⟩ (by exact GrI.start) (fun q hk3 => ?_)
  have i1 := (‹GrI acts m q›).2
  refine v_if (decide ((↑q.fst : Int) < (↑acts.length : Int))) True trivial (fun h4 => ?_) (fun h4 => ?_)
  · have h4 := of_decide_eq_true h4
    refine v_plan (.fs [0, 2, 3, 4, 5, 6, 7, 8] (.o 1 (.fs [9, 10] .e))) [5, 9] ((0 ≤ (↑q.fst : Int) ∧ (↑q.fst : Int) < (↑acts.length : Int))) (by omega) ?_
    refine v_call _ [6, 7] (Key_ok (acts.getD (↑q.fst : Int).toNat (Act.mk 0 0 [] []))) (((0 ≤ if 100 < (↑(acts.getD (↑q.fst : Int).toNat (Act.mk 0 0 [] [])).value.length : Int) then 100 else (↑(acts.getD (↑q.fst : Int).toNat (Act.mk 0 0 [] [])).value.length : Int)) ∧ (if 100 < (↑(acts.getD (↑q.fst : Int).toNat (Act.mk 0 0 [] [])).value.length : Int) then 100 else (↑(acts.getD (↑q.fst : Int).toNat (Act.mk 0 0 [] [])).value.length : Int)) ≤ (↑(acts.getD (↑q.fst : Int).toNat (Act.mk 0 0 [] [])).value.length : Int)) ∧ ((acts.getD (↑q.fst : Int).toNat (Act.mk 0 0 [] [])).kind = (acts.getD (↑q.fst : Int).toNat (Act.mk 0 0 [] [])).kind) ∧ ((acts.getD (↑q.fst : Int).toNat (Act.mk 0 0 [] [])).k = (acts.getD (↑q.fst : Int).toNat (Act.mk 0 0 [] [])).k) ∧ ((acts.getD (↑q.fst : Int).toNat (Act.mk 0 0 [] [])).raw = (acts.getD (↑q.fst : Int).toNat (Act.mk 0 0 [] [])).raw) ∧ ((acts.getD (↑q.fst : Int).toNat (Act.mk 0 0 [] [])).value = (acts.getD (↑q.fst : Int).toNat (Act.mk 0 0 [] [])).value)) ⟨(by omega), rfl, rfl, rfl, rfl⟩ (fun g5 p6 => ?_)
    have p6 : True := p6
    refine v_guard 32 (decide ((↑m : Int) ≤ (↑q.fst : Int))) True trivial (fun h7 => ?_) (fun h7 => ?_)
    · have h7 := of_decide_eq_true h7
      refine v_leave (.ex 0) True trivial ?_
      exact v_ret () [4, 5] ((wordsP = wordsP) ∧ (acts = acts) ∧ (PTO q.snd.fst = PTO (growT acts m).fst) ∧ (false = false) ∧ (q.snd.snd = (growT acts m).snd)) ⟨rfl, rfl, (by (rw [GrI.stop2 (by assumption) (by assumption)])), rfl, (by (rw [GrI.stop2 (by assumption) (by assumption)]))⟩ trivial
    · have h7 := of_decide_eq_false h7
      refine v_if (decide (90 < (↑(keyA (acts.getD (↑q.fst : Int).toNat (Act.mk 0 0 [] []))).length : Int))) True trivial (fun h8 => ?_) (fun h8 => ?_)
      · have h8 := of_decide_eq_true h8
        refine v_leave (.ex 0) True trivial ?_
        exact v_ret () [4, 5] ((wordsP = wordsP) ∧ (acts = acts) ∧ (PTO q.snd.fst = PTO (growT acts m).fst) ∧ (false = false) ∧ (q.snd.snd = (growT acts m).snd)) ⟨rfl, rfl, (by (rw [GrI.stop3 (by assumption) (by assumption) (by assumption) (by assumption)])), rfl, (by (rw [GrI.stop3 (by assumption) (by assumption) (by assumption) (by assumption)]))⟩ trivial
      · have h8 := of_decide_eq_false h8
        refine v_if (decide ((acts.getD (↑q.fst : Int).toNat (Act.mk 0 0 [] [])).kind % 6 < 4)) (((6 : UInt8) ≠ (0 : UInt8))) (by decide) (fun h9 => ?_) (fun h9 => ?_)
        · have h9 := of_decide_eq_true h9
          refine v_call _ [0, 11, 10, 4] (Put_ok (q.snd.fst) (keyA (acts.getD (↑q.fst : Int).toNat (Act.mk 0 0 [] []))) (List.take (if 100 < (↑(acts.getD (↑q.fst : Int).toNat (Act.mk 0 0 [] [])).value.length : Int) then 100 else (↑(acts.getD (↑q.fst : Int).toNat (Act.mk 0 0 [] [])).value.length : Int)).toNat (acts.getD (↑q.fst : Int).toNat (Act.mk 0 0 [] [])).value) (by exact i1.2.2.1.O (by omega)) (by exact ⟨keyA_pos _, by omega⟩) (by (simp; omega))) ((wordsP = wordsP) ∧ (keyA (acts.getD (↑q.fst : Int).toNat (Act.mk 0 0 [] [])) = keyA (acts.getD (↑q.fst : Int).toNat (Act.mk 0 0 [] []))) ∧ (List.take (if 100 < (↑(acts.getD (↑q.fst : Int).toNat (Act.mk 0 0 [] [])).value.length : Int) then 100 else (↑(acts.getD (↑q.fst : Int).toNat (Act.mk 0 0 [] [])).value.length : Int)).toNat (acts.getD (↑q.fst : Int).toNat (Act.mk 0 0 [] [])).value = List.take (if 100 < (↑(acts.getD (↑q.fst : Int).toNat (Act.mk 0 0 [] [])).value.length : Int) then 100 else (↑(acts.getD (↑q.fst : Int).toNat (Act.mk 0 0 [] [])).value.length : Int)).toNat (acts.getD (↑q.fst : Int).toNat (Act.mk 0 0 [] [])).value) ∧ (PTO q.snd.fst = PTO q.snd.fst) ∧ (false = false)) ⟨rfl, rfl, rfl, rfl, rfl⟩ (fun g10 p11 => ?_)
          have p11 : True := p11
          refine v_call _ [5, 11, 10] (PutPair_ok (q.snd.snd) (keyA (acts.getD (↑q.fst : Int).toNat (Act.mk 0 0 [] []))) (List.take (if 100 < (↑(acts.getD (↑q.fst : Int).toNat (Act.mk 0 0 [] [])).value.length : Int) then 100 else (↑(acts.getD (↑q.fst : Int).toNat (Act.mk 0 0 [] [])).value.length : Int)).toNat (acts.getD (↑q.fst : Int).toNat (Act.mk 0 0 [] [])).value) (by omega)) ((q.snd.snd = q.snd.snd) ∧ (keyA (acts.getD (↑q.fst : Int).toNat (Act.mk 0 0 [] [])) = keyA (acts.getD (↑q.fst : Int).toNat (Act.mk 0 0 [] []))) ∧ (List.take (if 100 < (↑(acts.getD (↑q.fst : Int).toNat (Act.mk 0 0 [] [])).value.length : Int) then 100 else (↑(acts.getD (↑q.fst : Int).toNat (Act.mk 0 0 [] [])).value.length : Int)).toNat (acts.getD (↑q.fst : Int).toNat (Act.mk 0 0 [] [])).value = List.take (if 100 < (↑(acts.getD (↑q.fst : Int).toNat (Act.mk 0 0 [] [])).value.length : Int) then 100 else (↑(acts.getD (↑q.fst : Int).toNat (Act.mk 0 0 [] [])).value.length : Int)).toNat (acts.getD (↑q.fst : Int).toNat (Act.mk 0 0 [] [])).value)) ⟨rfl, rfl, rfl⟩ (fun g12 p13 => ?_)
          have p13 : True := p13
          exact v_back ((q.fst + 1, putO (keyA (acts.getD (↑q.fst : Int).toNat (Act.mk 0 0 [] []))) (List.take (if 100 < (↑(acts.getD (↑q.fst : Int).toNat (Act.mk 0 0 [] [])).value.length : Int) then 100 else (↑(acts.getD (↑q.fst : Int).toNat (Act.mk 0 0 [] [])).value.length : Int)).toNat (acts.getD (↑q.fst : Int).toNat (Act.mk 0 0 [] [])).value) q.snd.fst, putPair (keyA (acts.getD (↑q.fst : Int).toNat (Act.mk 0 0 [] []))) (List.take (if 100 < (↑(acts.getD (↑q.fst : Int).toNat (Act.mk 0 0 [] [])).value.length : Int) then 100 else (↑(acts.getD (↑q.fst : Int).toNat (Act.mk 0 0 [] [])).value.length : Int)).toNat (acts.getD (↑q.fst : Int).toNat (Act.mk 0 0 [] [])).value) q.snd.snd)) [12, 13] ((I64 (↑q.fst + 1)) ∧ ((↑q.fst : Int) + 1 = (↑(q.fst + 1) : Int)) ∧ (PTO (putO (keyA (acts.getD (↑q.fst : Int).toNat (Act.mk 0 0 [] []))) (List.take (if 100 < (↑(acts.getD (↑q.fst : Int).toNat (Act.mk 0 0 [] [])).value.length : Int) then 100 else (↑(acts.getD (↑q.fst : Int).toNat (Act.mk 0 0 [] [])).value.length : Int)).toNat (acts.getD (↑q.fst : Int).toNat (Act.mk 0 0 [] [])).value) q.snd.fst) = PTO (putO (keyA (acts.getD (↑q.fst : Int).toNat (Act.mk 0 0 [] []))) (List.take (if 100 < (↑(acts.getD (↑q.fst : Int).toNat (Act.mk 0 0 [] [])).value.length : Int) then 100 else (↑(acts.getD (↑q.fst : Int).toNat (Act.mk 0 0 [] [])).value.length : Int)).toNat (acts.getD (↑q.fst : Int).toNat (Act.mk 0 0 [] [])).value) q.snd.fst)) ∧ (false = false) ∧ (putPair (keyA (acts.getD (↑q.fst : Int).toNat (Act.mk 0 0 [] []))) (List.take (if 100 < (↑(acts.getD (↑q.fst : Int).toNat (Act.mk 0 0 [] [])).value.length : Int) then 100 else (↑(acts.getD (↑q.fst : Int).toNat (Act.mk 0 0 [] [])).value.length : Int)).toNat (acts.getD (↑q.fst : Int).toNat (Act.mk 0 0 [] [])).value) q.snd.snd = putPair (keyA (acts.getD (↑q.fst : Int).toNat (Act.mk 0 0 [] []))) (List.take (if 100 < (↑(acts.getD (↑q.fst : Int).toNat (Act.mk 0 0 [] [])).value.length : Int) then 100 else (↑(acts.getD (↑q.fst : Int).toNat (Act.mk 0 0 [] [])).value.length : Int)).toNat (acts.getD (↑q.fst : Int).toNat (Act.mk 0 0 [] [])).value) q.snd.snd)) ⟨(by (unfold I64; omega)), rfl, rfl, rfl, rfl⟩ (show GrI acts m (q.fst + 1, putO (keyA (acts.getD (↑q.fst : Int).toNat (Act.mk 0 0 [] []))) (List.take (if 100 < (↑(acts.getD (↑q.fst : Int).toNat (Act.mk 0 0 [] [])).value.length : Int) then 100 else (↑(acts.getD (↑q.fst : Int).toNat (Act.mk 0 0 [] [])).value.length : Int)).toNat (acts.getD (↑q.fst : Int).toNat (Act.mk 0 0 [] [])).value) q.snd.fst, putPair (keyA (acts.getD (↑q.fst : Int).toNat (Act.mk 0 0 [] []))) (List.take (if 100 < (↑(acts.getD (↑q.fst : Int).toNat (Act.mk 0 0 [] [])).value.length : Int) then 100 else (↑(acts.getD (↑q.fst : Int).toNat (Act.mk 0 0 [] [])).value.length : Int)).toNat (acts.getD (↑q.fst : Int).toNat (Act.mk 0 0 [] [])).value) q.snd.snd) ∧ acts.length - (q.fst + 1) < acts.length - q.fst from (by exact GrI.put (by assumption) (by assumption) (by assumption) (by assumption) (by assumption)))
        · have h9 := of_decide_eq_false h9
          refine v_call _ [0, 11, 4] (Cut_ok (q.snd.fst) (keyA (acts.getD (↑q.fst : Int).toNat (Act.mk 0 0 [] []))) (by exact i1.2.2.1.O (by omega))) ((wordsP = wordsP) ∧ (keyA (acts.getD (↑q.fst : Int).toNat (Act.mk 0 0 [] [])) = keyA (acts.getD (↑q.fst : Int).toNat (Act.mk 0 0 [] []))) ∧ (PTO q.snd.fst = PTO q.snd.fst) ∧ (false = false)) ⟨rfl, rfl, rfl, rfl⟩ (fun g14 p15 => ?_)
          have p15 : True := p15
          refine v_call _ [5, 11] (CutPair_ok (q.snd.snd) (keyA (acts.getD (↑q.fst : Int).toNat (Act.mk 0 0 [] []))) (by omega)) ((q.snd.snd = q.snd.snd) ∧ (keyA (acts.getD (↑q.fst : Int).toNat (Act.mk 0 0 [] [])) = keyA (acts.getD (↑q.fst : Int).toNat (Act.mk 0 0 [] [])))) ⟨rfl, rfl⟩ (fun g16 p17 => ?_)
          have p17 : True := p17
          exact v_back ((q.fst + 1, cutO (keyA (acts.getD (↑q.fst : Int).toNat (Act.mk 0 0 [] []))) q.snd.fst, cutPair (keyA (acts.getD (↑q.fst : Int).toNat (Act.mk 0 0 [] []))) q.snd.snd)) [12, 13] ((I64 (↑q.fst + 1)) ∧ ((↑q.fst : Int) + 1 = (↑(q.fst + 1) : Int)) ∧ (PTO (cutO (keyA (acts.getD (↑q.fst : Int).toNat (Act.mk 0 0 [] []))) q.snd.fst) = PTO (cutO (keyA (acts.getD (↑q.fst : Int).toNat (Act.mk 0 0 [] []))) q.snd.fst)) ∧ (false = false) ∧ (cutPair (keyA (acts.getD (↑q.fst : Int).toNat (Act.mk 0 0 [] []))) q.snd.snd = cutPair (keyA (acts.getD (↑q.fst : Int).toNat (Act.mk 0 0 [] []))) q.snd.snd)) ⟨(by (unfold I64; omega)), rfl, rfl, rfl, rfl⟩ (show GrI acts m (q.fst + 1, cutO (keyA (acts.getD (↑q.fst : Int).toNat (Act.mk 0 0 [] []))) q.snd.fst, cutPair (keyA (acts.getD (↑q.fst : Int).toNat (Act.mk 0 0 [] []))) q.snd.snd) ∧ acts.length - (q.fst + 1) < acts.length - q.fst from (by exact GrI.cut (by assumption) (by assumption) (by assumption) (by assumption) (by assumption)))
  · have h4 := of_decide_eq_false h4
    refine v_leave (.ex 0) True trivial ?_
    exact v_ret () [4, 5] ((wordsP = wordsP) ∧ (acts = acts) ∧ (PTO q.snd.fst = PTO (growT acts m).fst) ∧ (false = false) ∧ (q.snd.snd = (growT acts m).snd)) ⟨rfl, rfl, (by (rw [GrI.stop1 (by assumption) (by assumption)])), rfl, (by (rw [GrI.stop1 (by assumption) (by assumption)]))⟩ trivial
end Go.Proofs.YtnicmjipbnhciaaDoor.X
set_option linter.unusedVariables false
set_option linter.unusedSimpArgs false
set_option maxRecDepth 100000
namespace Go.Proofs.YtnicmjipbnhciaaDoor.X
open Go Go.RowKit Go.Proofs Go.Proofs.YtnicmjipbnhciaaDoor.E
abbrev klt (a b : List UInt8) : Prop := Lib.compareBytes a b < 0
theorem cmp_anti : ∀ a b : List UInt8, Lib.compareBytes b a = - Lib.compareBytes a b
  | [], [] => rfl
  | [], _ :: _ => rfl
  | _ :: _, [] => rfl
  | a :: xs, b :: ys => by
    unfold Lib.compareBytes
    by_cases h1 : a < b
    · have h2 : ¬ b < a := fun h => absurd (UInt8.lt_trans h1 h) (UInt8.lt_irrefl _)
      simp [h1, h2]
    · by_cases h2 : b < a
      · simp [h1, h2]
      · simp only [if_neg h1, if_neg h2]; exact cmp_anti xs ys
theorem klt_trans : ∀ {a b c : List UInt8}, klt a b → klt b c → klt a c
  | [], [], _, h, _ => by simp [klt, Lib.compareBytes] at h
  | [], _ :: _, [], _, h => by simp [klt, Lib.compareBytes] at h
  | [], _ :: _, _ :: _, _, _ => by simp [klt, Lib.compareBytes]
  | _ :: _, [], _, h, _ => by simp [klt, Lib.compareBytes] at h
  | _ :: _, _ :: _, [], _, h => by simp [klt, Lib.compareBytes] at h
  | a :: xs, b :: ys, c :: zs, h1, h2 => by
    unfold klt at h1 h2 ⊢
    unfold Lib.compareBytes at h1 h2 ⊢
    by_cases p : a < b
    · by_cases q : b < c
      · rw [if_pos (UInt8.lt_trans p q)]; decide
      · rw [if_neg q] at h2
        by_cases q2 : c < b
        · rw [if_pos q2] at h2; exact absurd h2 (by decide)
        · have : b = c := UInt8.le_antisymm (UInt8.not_lt.1 q2) (UInt8.not_lt.1 q)
          subst this; rw [if_pos p]; decide
    · rw [if_neg p] at h1
      by_cases p2 : b < a
      · rw [if_pos p2] at h1; exact absurd h1 (by decide)
      · have : a = b := UInt8.le_antisymm (UInt8.not_lt.1 p2) (UInt8.not_lt.1 p)
        subst this
        rw [if_neg p2] at h1
        by_cases q : a < c
        · rw [if_pos q]; decide
        · rw [if_neg q] at h2 ⊢
          by_cases q2 : c < a
          · rw [if_pos q2] at h2; exact absurd h2 (by decide)
          · rw [if_neg q2] at h2 ⊢; exact klt_trans h1 h2
theorem klt_irr (a : List UInt8) : ¬ klt a a := by have := cmp_anti a a; unfold klt; omega
theorem kge {a b : List UInt8} (h : ¬ klt a b) : a = b ∨ klt b a := by
  have := cmp_anti a b
  unfold klt at *
  by_cases e : Lib.compareBytes a b = 0
  · exact .inl (cmp_zero.1 e)
  · exact .inr (by omega)
def Srt (l : List Pair) : Prop := l.Pairwise fun p q => klt p.key q.key
namespace Tr
theorem leaves_ne : ∀ t : Tr, ∃ v l, t.leaves = ⟨t.least, v⟩ :: l
  | leaf k v => ⟨v, [], rfl⟩
  | node l r => by
    obtain ⟨v, x, e⟩ := leaves_ne l
    exact ⟨v, x ++ r.leaves, by simp [leaves, e, least]⟩
theorem bal_leaves (l r : Tr) : (l.bal r).leaves = l.leaves ++ r.leaves := by
  unfold bal
  split
  · cases l with
    | leaf a b => rfl
    | node a b =>
      dsimp only
      split
      · cases b with
        | leaf c d => rfl
        | node c d => simp [leaves]
      · simp [leaves]
  · split
    · cases r with
      | leaf a b => rfl
      | node a b =>
        dsimp only
        split
        · cases a with
          | leaf c d => rfl
          | node c d => simp [leaves]
        · simp [leaves]
    · rfl
/-- where a key belongs -/
theorem left_of {l r : Tr} (h : Srt (node l r).leaves) {p : Pair} (hp : p ∈ l.leaves) : klt p.key r.least := by
  obtain ⟨v, x, e⟩ := leaves_ne r
  have := (List.pairwise_append.1 h).2.2 p hp ⟨r.least, v⟩ (by rw [e]; exact List.mem_cons_self ..)
  exact this
theorem right_of {r : Tr} (h : Srt r.leaves) {p : Pair} (hp : p ∈ r.leaves) : ¬ klt p.key r.least := by
  obtain ⟨v, x, e⟩ := leaves_ne r
  rw [e] at h hp
  rcases List.mem_cons.1 hp with rfl | hp
  · exact klt_irr _
  · have := (List.pairwise_cons.1 h).1 p hp
    exact fun q => klt_irr _ (klt_trans this q)
end Tr
theorem less_klt {a b : List UInt8} : Op.bytesLess a b = true ↔ klt a b := by rw [less_cmp]; simp
theorem putPair_left (k v : List UInt8) : ∀ (l r : List Pair), (∀ p ∈ r, ¬ klt p.key k ∧ p.key ≠ k) → putPair k v (l ++ r) = putPair k v l ++ r
  | [], r, h => by
    cases r with
    | nil => rfl
    | cons x r =>
      have h1 := h x (List.mem_cons_self ..)
      show (if Op.bytesLess x.key k = true then _ else _) = _
      rw [if_neg (fun q => h1.1 (less_klt.1 q)), if_neg h1.2]; rfl
  | x :: l, r, h => by
    show (if Op.bytesLess x.key k = true then _ else _) = (if Op.bytesLess x.key k = true then _ else _) ++ r
    split
    · show x :: putPair k v (l ++ r) = x :: (putPair k v l ++ r)
      rw [putPair_left k v l r h]
    · split <;> simp
theorem putPair_right (k v : List UInt8) : ∀ (l r : List Pair), (∀ p ∈ l, klt p.key k) → putPair k v (l ++ r) = l ++ putPair k v r
  | [], r, h => rfl
  | x :: l, r, h => by
    show (if Op.bytesLess x.key k = true then _ else _) = _
    rw [if_pos (less_klt.2 (h x (List.mem_cons_self ..)))]
    show x :: putPair k v (l ++ r) = x :: (l ++ putPair k v r)
    rw [putPair_right k v l r (fun p hp => h p (List.mem_cons_of_mem _ hp))]
theorem mem_putPair {k v : List UInt8} : ∀ {l : List Pair} {p : Pair}, p ∈ putPair k v l → p = ⟨k, v⟩ ∨ p ∈ l
  | [], p, h => .inl (by simpa [putPair] using h)
  | x :: l, p, h => by
    unfold putPair at h
    split at h
    · rcases List.mem_cons.1 h with rfl | h
      · exact .inr (List.mem_cons_self ..)
      · rcases mem_putPair h with h | h
        · exact .inl h
        · exact .inr (List.mem_cons_of_mem _ h)
    · split at h
      · rcases List.mem_cons.1 h with h | h
        · exact .inl h
        · exact .inr (List.mem_cons_of_mem _ h)
      · rcases List.mem_cons.1 h with h | h
        · exact .inl h
        · exact .inr h
theorem Srt.put {k v : List UInt8} : ∀ {l : List Pair}, Srt l → Srt (putPair k v l)
  | [], h => List.pairwise_singleton ..
  | x :: l, h => by
    obtain ⟨h1, h2⟩ := List.pairwise_cons.1 h
    unfold putPair
    split
    · rename_i q
      have q := less_klt.1 q
      refine List.pairwise_cons.2 ⟨fun p hp => ?_, Srt.put h2⟩
      rcases mem_putPair hp with rfl | hp
      · exact q
      · exact h1 p hp
    · rename_i q
      have q : ¬ klt x.key k := fun e => q (less_klt.2 e)
      split
      · rename_i e
        exact List.pairwise_cons.2 ⟨fun p hp => by have := h1 p hp; rw [e] at this; exact this, h2⟩
      · rename_i e
        have hx : klt k x.key := (kge q).resolve_left e
        exact List.pairwise_cons.2 ⟨fun p hp => by
          rcases List.mem_cons.1 hp with rfl | hp
          · exact hx
          · exact klt_trans hx (h1 p hp), h⟩
theorem Srt.cut {k : List UInt8} {l : List Pair} (h : Srt l) : Srt (cutPair k l) := List.Pairwise.sublist List.filter_sublist h
namespace Tr
theorem put_leaves (k v : List UInt8) : ∀ t : Tr, Srt t.leaves → (t.put k v).leaves = putPair k v t.leaves
  | leaf a b, _ => by
    unfold put
    show _ = (if Op.bytesLess a k = true then _ else _)
    have := cmp_anti k a
    by_cases h1 : Lib.compareBytes k a < 0
    · rw [if_pos h1, if_neg (fun q => by have := less_t q; omega), if_neg (fun e => by subst e; exact klt_irr _ h1)]; rfl
    · rw [if_neg h1]
      by_cases h2 : 0 < Lib.compareBytes k a
      · rw [if_pos h2, if_pos (less_klt.2 (by unfold klt; omega))]; rfl
      · have e : k = a := cmp_zero.1 (by omega)
        rw [if_neg h2, if_neg (fun q => by have := less_t q; omega), if_pos e.symm]; rfl
  | node l r, h => by
    have hl : Srt l.leaves := (List.pairwise_append.1 h).1
    have hr : Srt r.leaves := (List.pairwise_append.1 h).2.1
    unfold put
    split
    · rename_i q
      rw [bal_leaves, put_leaves k v l hl]
      refine (putPair_left k v l.leaves r.leaves fun p hp => ?_).symm
      have h2 := right_of hr hp
      exact ⟨fun e => h2 (klt_trans e q), fun e => h2 (by rw [e]; exact q)⟩
    · rename_i q
      rw [bal_leaves, put_leaves k v r hr]
      refine (putPair_right k v l.leaves r.leaves fun p hp => ?_).symm
      have h2 := left_of h hp
      rcases kge q with e | e
      · rw [e]; exact h2
      · exact klt_trans h2 e
theorem cut_leaves (k : List UInt8) : ∀ t : Tr, Srt t.leaves → (t.cut k = none ∧ ∀ p ∈ t.leaves, p.key ≠ k) ∨ ∃ r, t.cut k = some r ∧ leavesO r = cutPair k t.leaves ∧ ∃ p ∈ t.leaves, p.key = k
  | leaf a b, _ => by
    unfold cut
    by_cases e : a = k
    · rw [if_pos e]; exact .inr ⟨none, rfl, by simp [leavesO, cutPair, leaves, e], _, List.mem_singleton_self _, e⟩
    · rw [if_neg e]; exact .inl ⟨rfl, fun p hp => by rw [List.mem_singleton.1 hp]; exact e⟩
  | node l r, h => by
    have hl : Srt l.leaves := (List.pairwise_append.1 h).1
    have hr : Srt r.leaves := (List.pairwise_append.1 h).2.1
    unfold cut
    by_cases q : Lib.compareBytes k r.least < 0
    · rw [if_pos q]
      have nr : ∀ p ∈ r.leaves, p.key ≠ k := fun p hp e => right_of hr hp (by rw [e]; exact q)
      have er : cutPair k r.leaves = r.leaves := List.filter_eq_self.2 fun p hp => decide_eq_true (nr p hp)
      rcases cut_leaves k l hl with ⟨e, hn⟩ | ⟨x, e, e2, p, hp, hk⟩
      · rw [e]; exact .inl ⟨rfl, fun p hp => by rcases List.mem_append.1 hp with hp | hp; exact hn p hp; exact nr p hp⟩
      · rw [e]
        refine .inr ?_
        have e3 : cutPair k (node l r).leaves = leavesO x ++ r.leaves := by
          show cutPair k (l.leaves ++ r.leaves) = _
          rw [e2, ← er]; simp [cutPair, List.filter_append]
        cases x with
        | none => exact ⟨some r, rfl, by rw [e3]; rfl, p, List.mem_append_left _ hp, hk⟩
        | some l' => exact ⟨some (l'.bal r), rfl, by rw [e3]; exact bal_leaves _ _, p, List.mem_append_left _ hp, hk⟩
    · rw [if_neg q]
      have nl : ∀ p ∈ l.leaves, p.key ≠ k := fun p hp e => q (by have := left_of h hp; rw [e] at this; exact this)
      have el : cutPair k l.leaves = l.leaves := List.filter_eq_self.2 fun p hp => decide_eq_true (nl p hp)
      rcases cut_leaves k r hr with ⟨e, hn⟩ | ⟨x, e, e2, p, hp, hk⟩
      · rw [e]; exact .inl ⟨rfl, fun p hp => by rcases List.mem_append.1 hp with hp | hp; exact nl p hp; exact hn p hp⟩
      · rw [e]
        refine .inr ?_
        have e3 : cutPair k (node l r).leaves = l.leaves ++ leavesO x := by
          show cutPair k (l.leaves ++ r.leaves) = _
          rw [e2, ← el]; simp [cutPair, List.filter_append]
        cases x with
        | none => exact ⟨some l, rfl, by rw [e3]; simp [leavesO], p, List.mem_append_right _ hp, hk⟩
        | some r' => exact ⟨some (l.bal r'), rfl, by rw [e3]; exact bal_leaves _ _, p, List.mem_append_right _ hp, hk⟩
end Tr
theorem putO_leaves {k v : List UInt8} {o : Option Tr} (h : Srt (leavesO o)) : leavesO (putO k v o) = putPair k v (leavesO o) := by
  cases o with
  | none => rfl
  | some t => exact Tr.put_leaves k v t h
theorem cutO_leaves {k : List UInt8} {o : Option Tr} (h : Srt (leavesO o)) : leavesO (cutO k o) = cutPair k (leavesO o) := by
  cases o with
  | none => rfl
  | some t =>
    rcases Tr.cut_leaves k t h with ⟨e, hn⟩ | ⟨r, e, e2, _⟩
    · rw [show cutO k (some t) = some t by simp [cutO, e]]
      exact (List.filter_eq_self.2 fun p hp => decide_eq_true (hn p hp)).symm
    · rw [show cutO k (some t) = r by simp [cutO, e]]; exact e2
theorem growG_ok : ∀ (n : Nat) (acts : List Act) (s : Option Tr × List Pair), Srt (leavesO s.1) → s.2 = leavesO s.1 → Srt (leavesO (growG n acts s).1) ∧ (growG n acts s).2 = leavesO (growG n acts s).1
  | 0, acts, s, h, e => by unfold growG; exact ⟨h, e⟩
  | n + 1, [], s, h, e => by unfold growG; exact ⟨h, e⟩
  | n + 1, a :: l, s, h, e => by
    unfold growG
    split
    · exact ⟨h, e⟩
    · refine growG_ok n l _ ?_ ?_ <;> unfold stepA <;> split
      · rw [putO_leaves h]; exact h.put
      · rw [cutO_leaves h]; exact h.cut
      · rw [putO_leaves h, e]
      · rw [cutO_leaves h, e]
theorem growT_ok (acts : List Act) (m : Nat) : Srt (leavesO (growT acts m).1) ∧ (growT acts m).2 = leavesO (growT acts m).1 := growG_ok m acts (none, []) List.Pairwise.nil rfl
end Go.Proofs.YtnicmjipbnhciaaDoor.X
set_option linter.unusedVariables false
set_option linter.unusedSimpArgs false
set_option maxRecDepth 100000
namespace Go.Proofs.YtnicmjipbnhciaaDoor.X
open Go Go.RowKit Go.Proofs Go.Proofs.YtnicmjipbnhciaaDoor.E
theorem putO_nn {k v : List UInt8} {o : Option Tr} : false = (putO k v o).isNone := by cases o <;> rfl
noncomputable def ccR14_67 : Code := (Tryd.f67.body).getD .skip
theorem Grown_ok : FOk EN 67 ⟨[], [.v (.slice none 0 0)], Unit, fun _ => ([], .v (.pointer none)), fun _ => True⟩ := by
  refine v_fun Tryd.f67 ccR14_67 MX (fun ν F σ w => ?_) Tryd.func67
  refine v_nl ?_
  refine v_loop (fun u : Unit => ([(4, .i 0), (3, .v (.pointer none))], [])) (fun _ => True) (fun _ => 0) () [] (((0 : Int) = (0 : Int)) ∧ (Value.pointer none = Value.pointer none)) ⟨rfl, rfl⟩ trivial (fun u hk1 => ?_)
  refine v_if (decide ((0 : Int) < (↑(0 : Nat) : Int))) True trivial (fun h2 => ?_) (fun h2 => ?_)
  · have h2 := of_decide_eq_true h2
    omega
  · have h2 := of_decide_eq_false h2
    refine v_leave (.ex 0) True trivial ?_
    exact v_ret () [] ((Value.pointer none = Value.pointer none)) rfl trivial
theorem findG_ge {k : List UInt8} : ∀ {l : List Pair} {i : Nat}, 0 ≤ findG k l i ↔ ∃ p ∈ l, p.key = k
  | [], i => by simp [findG]
  | x :: xs, i => by
    unfold findG
    split
    · rename_i h; exact ⟨fun _ => ⟨x, List.mem_cons_self .., h⟩, fun _ => by omega⟩
    · rename_i h
      rw [findG_ge (l := xs)]
      exact ⟨fun ⟨p, a, b⟩ => ⟨p, List.mem_cons_of_mem _ a, b⟩, fun ⟨p, a, b⟩ => by rcases List.mem_cons.1 a with rfl | a; exact absurd b h; exact ⟨p, a, b⟩⟩
theorem find_ge {k : List UInt8} {l : List Pair} : 0 ≤ findP l k ↔ ∃ p ∈ l, p.key = k := findG_ge
theorem cut_there {k : List UInt8} {o : Option Tr} (h : Srt (leavesO o)) (hf : 0 ≤ findP (leavesO o) k) : o.isNone = false ∧ ((gt o).cut k).isSome = true ∧ cutR k (gt o) = cutO k o := by
  obtain ⟨p, hp, hk⟩ := find_ge.1 hf
  cases o with
  | none => simp [leavesO] at hp
  | some t =>
    rcases Tr.cut_leaves k t h with ⟨e, hn⟩ | ⟨r, e, e2, _⟩
    · exact absurd hk (hn p hp)
    · exact ⟨rfl, by show (t.cut k).isSome = true; rw [e]; rfl, by show (t.cut k).getD none = _; rw [e, show cutO k (some t) = r by simp [cutO, e]]; rfl⟩
theorem cut_not {k : List UInt8} {o : Option Tr} (h : Srt (leavesO o)) (hf : ¬ 0 ≤ findP (leavesO o) k) : cutO k o = o := by
  cases o with
  | none => rfl
  | some t =>
    rcases Tr.cut_leaves k t h with ⟨e, hn⟩ | ⟨r, e, e2, p, hp, hk⟩
    · simp [cutO, e]
    · exact absurd (find_ge.2 ⟨p, hp, hk⟩) hf
def GrN (acts : List Act) (m : Nat) (q : Nat × Option Tr) : Prop := GrI acts m (q.1, q.2, leavesO q.2) ∧ Srt (leavesO q.2)
section
variable {acts : List Act} {m i : Nat} {o : Option Tr}
theorem GrN.start : GrN acts m (0, none) := ⟨GrI.start, List.Pairwise.nil⟩
theorem GrN.put (h : GrN acts m (i, o)) (hi : (i : Int) < acts.length) (hm : ¬ (m : Int) ≤ i) (hk : ¬ 90 < ((keyA (acts.getD i dA)).length : Int)) (h6 : (acts.getD i dA).kind % 6 < 4) : GrN acts m (i + 1, putO (keyA (acts.getD i dA)) (valA (acts.getD i dA)) o) ∧ acts.length - (i + 1) < acts.length - i := by
  have g := h.1.put hi hm hk h6
  have e : leavesO (putO (keyA (acts.getD i dA)) (valA (acts.getD i dA)) o) = putPair (keyA (acts.getD i dA)) (valA (acts.getD i dA)) (leavesO o) := putO_leaves h.2
  refine ⟨⟨by show GrI acts m (i + 1, _, leavesO (putO _ _ o)); rw [e]; exact g.1, by show Srt (leavesO (putO _ _ o)); rw [e]; exact h.2.put⟩, by omega⟩
theorem GrN.cutO (h : GrN acts m (i, o)) (hi : (i : Int) < acts.length) (hm : ¬ (m : Int) ≤ i) (hk : ¬ 90 < ((keyA (acts.getD i dA)).length : Int)) (h6 : ¬ (acts.getD i dA).kind % 6 < 4) : GrN acts m (i + 1, X.cutO (keyA (acts.getD i dA)) o) ∧ acts.length - (i + 1) < acts.length - i := by
  have g := h.1.cut hi hm hk h6
  have e : leavesO (X.cutO (keyA (acts.getD i dA)) o) = cutPair (keyA (acts.getD i dA)) (leavesO o) := cutO_leaves h.2
  refine ⟨⟨by show GrI acts m (i + 1, _, leavesO (X.cutO _ o)); rw [e]; exact g.1, by show Srt (leavesO (X.cutO _ o)); rw [e]; exact h.2.cut⟩, by omega⟩
theorem GrN.cut (h : GrN acts m (i, o)) (hi : (i : Int) < acts.length) (hm : ¬ (m : Int) ≤ i) (hk : ¬ 90 < ((keyA (acts.getD i dA)).length : Int)) (h6 : ¬ (acts.getD i dA).kind % 6 < 4) (hf : 0 ≤ findP (leavesO o) (keyA (acts.getD i dA))) : GrN acts m (i + 1, cutR (keyA (acts.getD i dA)) (gt o)) ∧ acts.length - (i + 1) < acts.length - i := by
  rw [(cut_there h.2 hf).2.2]; exact h.cutO hi hm hk h6
theorem GrN.skip (h : GrN acts m (i, o)) (hi : (i : Int) < acts.length) (hm : ¬ (m : Int) ≤ i) (hk : ¬ 90 < ((keyA (acts.getD i dA)).length : Int)) (h6 : ¬ (acts.getD i dA).kind % 6 < 4) (hf : ¬ 0 ≤ findP (leavesO o) (keyA (acts.getD i dA))) : GrN acts m (i + 1, o) ∧ acts.length - (i + 1) < acts.length - i := by
  have := h.cutO hi hm hk h6; rwa [cut_not h.2 hf] at this
theorem GrN.hh (h : GrN acts m (i, o)) (hm : m ≤ 100) : (gt o).height < 700 ∧ (leavesO o).length ≤ 100000 := by
  obtain ⟨⟨_, a2, _, a4, _⟩, _⟩ := h
  have a2 : i ≤ m := a2
  have l := a4.leaves
  have l : (leavesO o).length ≤ i := l
  refine ⟨?_, by omega⟩
  cases o with
  | none => decide
  | some t => have := (a4 t rfl).2; have := t.height_depth; show t.height < 700; have q : t.depth + 1 ≤ i := (a4 t rfl).2; omega
end
section
variable {acts : List Act} {m i : Nat} {o : Option Tr}
theorem GrN.s1 (h : GrN acts m (i, o)) (hi : ¬ (i : Int) < acts.length) : (growT acts m).1 = o := by rw [h.1.stop1 hi]
theorem GrN.s2 (h : GrN acts m (i, o)) (hi : (m : Int) ≤ i) : (growT acts m).1 = o := by rw [h.1.stop2 hi]
theorem GrN.s3 (h : GrN acts m (i, o)) (hi : (i : Int) < acts.length) (hm : ¬ (m : Int) ≤ i) (hk : 90 < ((keyA (acts.getD i dA)).length : Int)) : (growT acts m).1 = o := by rw [h.1.stop3 hi hm hk]
end
noncomputable def ccR14_22 : Code := (Tryd.f22.body).getD .skip
theorem grown9_ok (acts : List Act) (m : Nat) (hm : m ≤ 100) : FOk EN 22 ⟨[.rd 133 acts], [.n 0, .i m], Unit, fun _ => ([.rd 133 acts, .pn (PR (growT acts m).1) false (growT acts m).1.isNone], .n 1), fun _ => True⟩ := by
  refine v_fun Tryd.f22 ccR14_22 MX (fun ν F σ w => ?_) Tryd.func22
  refine v_nl ?_
  refine v_call _ [] (Grown_ok) ((Value.slice none 0 0 = Value.slice none 0 0)) rfl (fun g1 p2 => ?_)
  have p2 : True := p2
  refine v_al [] (al_pr0) True trivial ?_
  refine v_loop (fun q : Nat × Option Tr => ([(12, .i q.1), (5, .n 3)], [.pn (PR q.2) false q.2.isNone])) (fun q => GrN acts m q) (fun q => acts.length - q.1) (0, none) [2] (((0 : Int) = (↑(0 : Nat) : Int)) ∧ (PR none = PR none) ∧ (true = true)) ⟨rfl, rfl, rfl⟩ (by exact GrN.start) (fun q hk3 => ?_)
  have i1 := (‹GrN acts m q›).1.2
  have i2 := GrN.hh ‹GrN acts m q› hm
  have i3 := (‹GrN acts m q›).2
  refine v_if (decide ((↑q.fst : Int) < (↑acts.length : Int))) True trivial (fun h4 => ?_) (fun h4 => ?_)
  · have h4 := of_decide_eq_true h4
    refine v_guard 20 (decide ((↑m : Int) ≤ (↑q.fst : Int))) ((0 ≤ (↑q.fst : Int) ∧ (↑q.fst : Int) < (↑acts.length : Int))) (by omega) (fun h5 => ?_) (fun h5 => ?_)
    · have h5 := of_decide_eq_true h5
      refine v_leave (.ex 0) True trivial ?_
      exact v_ret () [3] ((acts = acts) ∧ (PR q.snd = PR (growT acts m).fst) ∧ (q.snd.isNone = (growT acts m).fst.isNone)) ⟨rfl, (by (rw [GrN.s2 (by assumption) (by assumption)])), (by (rw [GrN.s2 (by assumption) (by assumption)]))⟩ trivial
    · have h5 := of_decide_eq_false h5
      refine v_call _ [4, 5] (Key_ok (acts.getD (↑q.fst : Int).toNat (Act.mk 0 0 [] []))) (((acts.getD (↑q.fst : Int).toNat (Act.mk 0 0 [] [])).kind = (acts.getD (↑q.fst : Int).toNat (Act.mk 0 0 [] [])).kind) ∧ ((acts.getD (↑q.fst : Int).toNat (Act.mk 0 0 [] [])).k = (acts.getD (↑q.fst : Int).toNat (Act.mk 0 0 [] [])).k) ∧ ((acts.getD (↑q.fst : Int).toNat (Act.mk 0 0 [] [])).raw = (acts.getD (↑q.fst : Int).toNat (Act.mk 0 0 [] [])).raw) ∧ ((acts.getD (↑q.fst : Int).toNat (Act.mk 0 0 [] [])).value = (acts.getD (↑q.fst : Int).toNat (Act.mk 0 0 [] [])).value)) ⟨rfl, rfl, rfl, rfl⟩ (fun g6 p7 => ?_)
      have p7 : True := p7
      refine v_if (decide (90 < (↑(keyA (acts.getD (↑q.fst : Int).toNat (Act.mk 0 0 [] []))).length : Int))) True trivial (fun h8 => ?_) (fun h8 => ?_)
      · have h8 := of_decide_eq_true h8
        refine v_leave (.ex 0) True trivial ?_
        exact v_ret () [3] ((acts = acts) ∧ (PR q.snd = PR (growT acts m).fst) ∧ (q.snd.isNone = (growT acts m).fst.isNone)) ⟨rfl, (by (rw [GrN.s3 (by assumption) (by assumption) (by assumption) (by assumption)])), (by (rw [GrN.s3 (by assumption) (by assumption) (by assumption) (by assumption)]))⟩ trivial
      · have h8 := of_decide_eq_false h8
        refine v_if (decide ((acts.getD (↑q.fst : Int).toNat (Act.mk 0 0 [] [])).kind % 6 < 4)) (((0 ≤ if 100 < (↑(acts.getD (↑q.fst : Int).toNat (Act.mk 0 0 [] [])).value.length : Int) then 100 else (↑(acts.getD (↑q.fst : Int).toNat (Act.mk 0 0 [] [])).value.length : Int)) ∧ (if 100 < (↑(acts.getD (↑q.fst : Int).toNat (Act.mk 0 0 [] [])).value.length : Int) then 100 else (↑(acts.getD (↑q.fst : Int).toNat (Act.mk 0 0 [] [])).value.length : Int)) ≤ (↑(acts.getD (↑q.fst : Int).toNat (Act.mk 0 0 [] [])).value.length : Int)) ∧ ((6 : UInt8) ≠ (0 : UInt8))) ⟨(by omega), (by decide)⟩ (fun h9 => ?_) (fun h9 => ?_)
        · have h9 := of_decide_eq_true h9
          refine v_call _ [4, 5] (Key_ok (acts.getD (↑q.fst : Int).toNat (Act.mk 0 0 [] []))) (((acts.getD (↑q.fst : Int).toNat (Act.mk 0 0 [] [])).kind = (acts.getD (↑q.fst : Int).toNat (Act.mk 0 0 [] [])).kind) ∧ ((acts.getD (↑q.fst : Int).toNat (Act.mk 0 0 [] [])).k = (acts.getD (↑q.fst : Int).toNat (Act.mk 0 0 [] [])).k) ∧ ((acts.getD (↑q.fst : Int).toNat (Act.mk 0 0 [] [])).raw = (acts.getD (↑q.fst : Int).toNat (Act.mk 0 0 [] [])).raw) ∧ ((acts.getD (↑q.fst : Int).toNat (Act.mk 0 0 [] [])).value = (acts.getD (↑q.fst : Int).toNat (Act.mk 0 0 [] [])).value)) ⟨rfl, rfl, rfl, rfl⟩ (fun g10 p11 => ?_)
          have p11 : True := p11
          refine v_call _ [10, 9, 3] (rput_ok (q.snd) (keyA (acts.getD (↑q.fst : Int).toNat (Act.mk 0 0 [] []))) (List.take (if 100 < (↑(acts.getD (↑q.fst : Int).toNat (Act.mk 0 0 [] [])).value.length : Int) then 100 else (↑(acts.getD (↑q.fst : Int).toNat (Act.mk 0 0 [] [])).value.length : Int)).toNat (acts.getD (↑q.fst : Int).toNat (Act.mk 0 0 [] [])).value) (by omega)) ((keyA (acts.getD (↑q.fst : Int).toNat (Act.mk 0 0 [] [])) = keyA (acts.getD (↑q.fst : Int).toNat (Act.mk 0 0 [] []))) ∧ (List.take (if 100 < (↑(acts.getD (↑q.fst : Int).toNat (Act.mk 0 0 [] [])).value.length : Int) then 100 else (↑(acts.getD (↑q.fst : Int).toNat (Act.mk 0 0 [] [])).value.length : Int)).toNat (acts.getD (↑q.fst : Int).toNat (Act.mk 0 0 [] [])).value = List.take (if 100 < (↑(acts.getD (↑q.fst : Int).toNat (Act.mk 0 0 [] [])).value.length : Int) then 100 else (↑(acts.getD (↑q.fst : Int).toNat (Act.mk 0 0 [] [])).value.length : Int)).toNat (acts.getD (↑q.fst : Int).toNat (Act.mk 0 0 [] [])).value) ∧ (PR q.snd = PR q.snd) ∧ (q.snd.isNone = q.snd.isNone)) ⟨rfl, rfl, rfl, rfl⟩ (fun g12 p13 => ?_)
          have p13 : True := p13
          exact v_back ((q.fst + 1, putO (keyA (acts.getD (↑q.fst : Int).toNat (Act.mk 0 0 [] []))) (List.take (if 100 < (↑(acts.getD (↑q.fst : Int).toNat (Act.mk 0 0 [] [])).value.length : Int) then 100 else (↑(acts.getD (↑q.fst : Int).toNat (Act.mk 0 0 [] [])).value.length : Int)).toNat (acts.getD (↑q.fst : Int).toNat (Act.mk 0 0 [] [])).value) q.snd)) [11] ((I64 (↑q.fst + 1)) ∧ ((↑q.fst : Int) + 1 = (↑(q.fst + 1) : Int)) ∧ (PR (putO (keyA (acts.getD (↑q.fst : Int).toNat (Act.mk 0 0 [] []))) (List.take (if 100 < (↑(acts.getD (↑q.fst : Int).toNat (Act.mk 0 0 [] [])).value.length : Int) then 100 else (↑(acts.getD (↑q.fst : Int).toNat (Act.mk 0 0 [] [])).value.length : Int)).toNat (acts.getD (↑q.fst : Int).toNat (Act.mk 0 0 [] [])).value) q.snd) = PR (putO (keyA (acts.getD (↑q.fst : Int).toNat (Act.mk 0 0 [] []))) (List.take (if 100 < (↑(acts.getD (↑q.fst : Int).toNat (Act.mk 0 0 [] [])).value.length : Int) then 100 else (↑(acts.getD (↑q.fst : Int).toNat (Act.mk 0 0 [] [])).value.length : Int)).toNat (acts.getD (↑q.fst : Int).toNat (Act.mk 0 0 [] [])).value) q.snd)) ∧ (false = (putO (keyA (acts.getD (↑q.fst : Int).toNat (Act.mk 0 0 [] []))) (List.take (if 100 < (↑(acts.getD (↑q.fst : Int).toNat (Act.mk 0 0 [] [])).value.length : Int) then 100 else (↑(acts.getD (↑q.fst : Int).toNat (Act.mk 0 0 [] [])).value.length : Int)).toNat (acts.getD (↑q.fst : Int).toNat (Act.mk 0 0 [] [])).value) q.snd).isNone)) ⟨(by (unfold I64; omega)), rfl, rfl, (by exact putO_nn)⟩ (show GrN acts m (q.fst + 1, putO (keyA (acts.getD (↑q.fst : Int).toNat (Act.mk 0 0 [] []))) (List.take (if 100 < (↑(acts.getD (↑q.fst : Int).toNat (Act.mk 0 0 [] [])).value.length : Int) then 100 else (↑(acts.getD (↑q.fst : Int).toNat (Act.mk 0 0 [] [])).value.length : Int)).toNat (acts.getD (↑q.fst : Int).toNat (Act.mk 0 0 [] [])).value) q.snd) ∧ acts.length - (q.fst + 1) < acts.length - q.fst from (by exact GrN.put (by assumption) (by assumption) (by assumption) (by assumption) (by assumption)))
        · have h9 := of_decide_eq_false h9
          refine v_run True trivial ?_
          refine v_nl ?_
          refine v_plan (.fs [0, 2] (.o 1 (.o 3 (.o 4 (.fs [5] .e))))) [7] True trivial ?_
          refine v_call _ [3, 10] (rlv_ok (q.snd) ([]) (by (simp; omega))) ((PR q.snd = PR q.snd) ∧ (q.snd.isNone = q.snd.isNone) ∧ (Eq (α := List Pair) [] [])) ⟨rfl, rfl, rfl⟩ (fun g14 p15 => ?_)
          have p15 : True := p15
          refine v_call _ [4, 5] (Key_ok (acts.getD (↑q.fst : Int).toNat (Act.mk 0 0 [] []))) (((acts.getD (↑q.fst : Int).toNat (Act.mk 0 0 [] [])).kind = (acts.getD (↑q.fst : Int).toNat (Act.mk 0 0 [] [])).kind) ∧ ((acts.getD (↑q.fst : Int).toNat (Act.mk 0 0 [] [])).k = (acts.getD (↑q.fst : Int).toNat (Act.mk 0 0 [] [])).k) ∧ ((acts.getD (↑q.fst : Int).toNat (Act.mk 0 0 [] [])).raw = (acts.getD (↑q.fst : Int).toNat (Act.mk 0 0 [] [])).raw) ∧ ((acts.getD (↑q.fst : Int).toNat (Act.mk 0 0 [] [])).value = (acts.getD (↑q.fst : Int).toNat (Act.mk 0 0 [] [])).value)) ⟨rfl, rfl, rfl, rfl⟩ (fun g16 p17 => ?_)
          have p17 : True := p17
          refine v_call _ [11, 12] (Find_ok ([] ++ leavesO q.snd) (keyA (acts.getD (↑q.fst : Int).toNat (Act.mk 0 0 [] []))) (by (simp; omega))) (([] ++ leavesO q.snd = [] ++ leavesO q.snd) ∧ (keyA (acts.getD (↑q.fst : Int).toNat (Act.mk 0 0 [] [])) = keyA (acts.getD (↑q.fst : Int).toNat (Act.mk 0 0 [] [])))) ⟨rfl, rfl⟩ (fun g18 p19 => ?_)
          have p19 : True := p19
          refine v_if (decide (0 ≤ findP ([] ++ leavesO q.snd) (keyA (acts.getD (↑q.fst : Int).toNat (Act.mk 0 0 [] []))))) True trivial (fun h20 => ?_) (fun h20 => ?_)
          · have h20 := of_decide_eq_true h20
            refine v_call _ [4, 5] (Key_ok (acts.getD (↑q.fst : Int).toNat (Act.mk 0 0 [] []))) (((acts.getD (↑q.fst : Int).toNat (Act.mk 0 0 [] [])).kind = (acts.getD (↑q.fst : Int).toNat (Act.mk 0 0 [] [])).kind) ∧ ((acts.getD (↑q.fst : Int).toNat (Act.mk 0 0 [] [])).k = (acts.getD (↑q.fst : Int).toNat (Act.mk 0 0 [] [])).k) ∧ ((acts.getD (↑q.fst : Int).toNat (Act.mk 0 0 [] [])).raw = (acts.getD (↑q.fst : Int).toNat (Act.mk 0 0 [] [])).raw) ∧ ((acts.getD (↑q.fst : Int).toNat (Act.mk 0 0 [] [])).value = (acts.getD (↑q.fst : Int).toNat (Act.mk 0 0 [] [])).value)) ⟨rfl, rfl, rfl, rfl⟩ (fun g21 p22 => ?_)
            have p22 : True := p22
            refine v_call _ [13, 3] (rcut_ok (q.snd) (keyA (acts.getD (↑q.fst : Int).toNat (Act.mk 0 0 [] []))) (by exact (cut_there i3 (by assumption)).1) (by exact (cut_there i3 (by assumption)).2.1) (by omega)) ((keyA (acts.getD (↑q.fst : Int).toNat (Act.mk 0 0 [] [])) = keyA (acts.getD (↑q.fst : Int).toNat (Act.mk 0 0 [] []))) ∧ (PR q.snd = PR q.snd) ∧ (q.snd.isNone = q.snd.isNone)) ⟨rfl, rfl, rfl⟩ (fun g23 p24 => ?_)
            have p24 : True := p24
            exact v_back ((q.fst + 1, cutR (keyA (acts.getD (↑q.fst : Int).toNat (Act.mk 0 0 [] []))) (gt q.snd))) [14] ((I64 (↑q.fst + 1)) ∧ ((↑q.fst : Int) + 1 = (↑(q.fst + 1) : Int)) ∧ (PR (cutR (keyA (acts.getD (↑q.fst : Int).toNat (Act.mk 0 0 [] []))) (gt q.snd)) = PR (cutR (keyA (acts.getD (↑q.fst : Int).toNat (Act.mk 0 0 [] []))) (gt q.snd))) ∧ ((cutR (keyA (acts.getD (↑q.fst : Int).toNat (Act.mk 0 0 [] []))) (gt q.snd)).isNone = (cutR (keyA (acts.getD (↑q.fst : Int).toNat (Act.mk 0 0 [] []))) (gt q.snd)).isNone)) ⟨(by (unfold I64; omega)), rfl, rfl, rfl⟩ (show GrN acts m (q.fst + 1, cutR (keyA (acts.getD (↑q.fst : Int).toNat (Act.mk 0 0 [] []))) (gt q.snd)) ∧ acts.length - (q.fst + 1) < acts.length - q.fst from (by exact GrN.cut (by assumption) (by assumption) (by assumption) (by assumption) (by assumption) (by assumption)))
          · have h20 := of_decide_eq_false h20
            exact v_back ((q.fst + 1, q.snd)) [3] ((I64 (↑q.fst + 1)) ∧ ((↑q.fst : Int) + 1 = (↑(q.fst + 1) : Int)) ∧ (PR q.snd = PR q.snd) ∧ (q.snd.isNone = q.snd.isNone)) ⟨(by (unfold I64; omega)), rfl, rfl, rfl⟩ (show GrN acts m (q.fst + 1, q.snd) ∧ acts.length - (q.fst + 1) < acts.length - q.fst from (by exact GrN.skip (by assumption) (by assumption) (by assumption) (by assumption) (by assumption) (by assumption)))
  · have h4 := of_decide_eq_false h4
    refine v_leave (.ex 0) True trivial ?_
    exact v_ret () [3] ((acts = acts) ∧ (PR q.snd = PR (growT acts m).fst) ∧ (q.snd.isNone = (growT acts m).fst.isNone)) ⟨rfl, (by (rw [GrN.s1 (by assumption) (by assumption)])), (by (rw [GrN.s1 (by assumption) (by assumption)]))⟩ trivial
end Go.Proofs.YtnicmjipbnhciaaDoor.X
set_option linter.unusedVariables false
set_option linter.unusedSimpArgs false
set_option maxRecDepth 100000
namespace Go.Proofs.YtnicmjipbnhciaaDoor.X
open Go Go.RowKit Go.Proofs Go.Proofs.YtnicmjipbnhciaaDoor.E
namespace Tr
theorem fin_mem (k : List UInt8) : ∀ t : Tr, (⟨(t.fin k).key, (t.fin k).value⟩ : Pair) ∈ t.leaves
  | leaf a b => List.mem_singleton_self _
  | node l r => by
    unfold fin; split
    · exact List.mem_append_right _ (fin_mem k r)
    · exact List.mem_append_left _ (fin_mem k l)
theorem fin_pair : ∀ {t : Tr}, Srt t.leaves → ∀ {p : Pair}, p ∈ t.leaves → (⟨(t.fin p.key).key, (t.fin p.key).value⟩ : Pair) = p
  | leaf a b, _, p, hp => (List.mem_singleton.1 hp).symm
  | node l r, h, p, hp => by
    have hl : Srt l.leaves := (List.pairwise_append.1 h).1
    have hr : Srt r.leaves := (List.pairwise_append.1 h).2.1
    unfold fin rt
    rcases List.mem_append.1 hp with hp | hp
    · have : klt p.key r.least := left_of h hp
      rw [if_neg (by show ¬ (decide (0 ≤ Lib.compareBytes p.key r.least) = true); rw [decide_eq_true_eq]; unfold klt at this; omega)]; exact fin_pair hl hp
    · have : ¬ klt p.key r.least := right_of hr hp
      rw [if_pos (by show decide (0 ≤ Lib.compareBytes p.key r.least) = true; rw [decide_eq_true_eq]; unfold klt at this; omega)]; exact fin_pair hr hp
theorem fin_key_iff {t : Tr} {k : List UInt8} (h : Srt t.leaves) : (t.fin k).key = k ↔ ∃ p ∈ t.leaves, p.key = k := by
  constructor
  · intro e; exact ⟨_, fin_mem k t, e⟩
  · rintro ⟨p, hp, rfl⟩; have := fin_pair h hp; exact congrArg Pair.key this
end Tr
theorem ben_cons (x : Turn) (l : List Turn) (i : Nat) : ben (x :: l) (i + 1) = ben l i := by
  unfold ben
  by_cases h : (i : Int) < l.length
  · rw [if_pos h, if_pos (by simp; omega)]; simp
  · rw [if_neg h, if_neg (by simp; omega)]
theorem ben_zero (x : Turn) (l : List Turn) : ben (x :: l) 0 = x.height := by unfold ben; rw [if_pos (by simp)]; rfl
theorem bad_cons (x : Turn) (l : List Turn) (i : Nat) : bad (x :: l) (i + 1) ↔ bad l i := by unfold bad; rw [ben_cons]; simp
namespace Tr
theorem ben_turns (k : List UInt8) : ∀ t : Tr, ben (t.turns k) 0 = t.height
  | leaf a b => rfl
  | node l r => by unfold turns; rw [ben_zero]; rfl
theorem turns_good (k : List UInt8) : ∀ t : Tr, t.height ≤ 64 → ∀ i, i < (t.turns k).length → ¬ bad (t.turns k) i
  | leaf a b, _, i, hi => by simp [turns] at hi
  | node l r, h, i, hi => by
    have hh : (node l r).height = 1 + max l.height r.height := rfl
    have hc : ∀ j, j < (if (node l r).rt k then r.turns k else l.turns k).length → ¬ bad (if (node l r).rt k then r.turns k else l.turns k) j := by
      split
      · exact turns_good k r (by omega)
      · exact turns_good k l (by omega)
    have hb : ben (if (node l r).rt k then r.turns k else l.turns k) 0 < (node l r).height := by
      split <;> rw [ben_turns] <;> omega
    unfold turns at hi ⊢
    cases i with
    | zero =>
      unfold bad; rw [ben_cons]
      show ¬ ((node l r).height ≤ _ ∨ 64 < (node l r).height); omega
    | succ i => rw [bad_cons]; exact hc i (by simpa using hi)
theorem turns_len (k : List UInt8) : ∀ t : Tr, ((t.turns k).length : Int) ≤ t.height
  | leaf a b => Int.le_refl _
  | node l r => by
    have h1 := turns_len k l; have h2 := turns_len k r
    have hh : (node l r).height = 1 + max l.height r.height := rfl
    unfold turns; rw [List.length_cons]; split <;> omega
theorem turns_hash (k : List UInt8) : ∀ t : Tr, (t.turns k).foldr stepH (nsum 0 1 (t.fin k).key (t.fin k).value z32 z32) = t.hash
  | leaf a b => rfl
  | node l r => by
    unfold turns fin
    rw [List.foldr_cons]
    have hp : ¬ (node l r).height = 0 := by have := height_pos (l := l) (r := r); omega
    have ns : ∀ (x y : List UInt8), nsum (node l r).height (node l r).size [] [] x y = nsum (node l r).height (node l r).size r.least [] x y := fun x y => by
      unfold nsum; rw [if_neg hp, if_neg hp]
    have l1 : (mk32 (node l r).lh).l = l.hash := mk32_of l.hash_len
    have l2 : (mk32 (node l r).rh).l = r.hash := mk32_of r.hash_len
    cases e : (node l r).rt k
    · simp only [Bool.false_eq_true, if_false]
      rw [turns_hash k l]
      unfold stepH turn; rw [e]; simp only [Bool.false_eq_true, if_false]
      rw [l2, ns]; rfl
    · simp only [if_true]
      rw [turns_hash k r]
      unfold stepH turn; rw [e]; simp only [if_true]
      rw [l1, ns]; rfl
end Tr
/-- Leaves as they come from calls. -/
def lvOk (l : List Pair) : Prop := ∀ p ∈ l, (1 ≤ p.key.length ∧ p.key.length ≤ 90) ∧ p.value.length ≤ 100
theorem growG_lv : ∀ (n : Nat) (acts : List Act) (s : Option Tr × List Pair), lvOk s.2 → lvOk (growG n acts s).2
  | 0, acts, s, h => by unfold growG; exact h
  | n + 1, [], s, h => by unfold growG; exact h
  | n + 1, a :: l, s, h => by
    unfold growG
    split
    · exact h
    · rename_i hk
      refine growG_lv n l _ ?_
      unfold stepA; split
      · intro p hp
        rcases mem_putPair hp with rfl | hp
        · exact ⟨⟨keyA_pos a, by show (keyA a).length ≤ 90; omega⟩, valA_len a⟩
        · exact h p hp
      · intro p hp; exact h p (List.mem_filter.1 hp).1
theorem growT_lv (acts : List Act) (m : Nat) : lvOk (leavesO (growT acts m).1) := by rw [← (growT_ok acts m).2]; exact growG_lv m acts _ (fun p hp => by simp at hp)
theorem growG_okN : ∀ (n i : Nat) (acts : List Act) (s : Option Tr × List Pair), okN i s.1 → okN (n + i) (growG n acts s).1
  | 0, i, acts, s, h => by unfold growG; rw [Nat.zero_add]; exact h
  | n + 1, i, [], s, h => by unfold growG; exact fun t e => ⟨(h t e).1, by have := (h t e).2; omega⟩
  | n + 1, i, a :: l, s, h => by
    unfold growG
    split
    · exact fun t e => ⟨(h t e).1, by have := (h t e).2; omega⟩
    · rename_i hk
      rw [show n + 1 + i = n + (i + 1) by omega]
      refine growG_okN n (i + 1) l _ ?_
      unfold stepA; split
      · exact okN.put h (by omega) (by have := valA_len a; omega)
      · exact okN.cut h
theorem growT_okN (acts : List Act) (m : Nat) : okN m (growT acts m).1 := by have := growG_okN m 0 acts (none, []) (fun t e => by simp at e); exact this
/-- A tree as calls make it: sorted, small. -/
def fine (o : Option Tr) : Prop := Srt (leavesO o) ∧ lvOk (leavesO o) ∧ okN 64 o
theorem growT_fine (acts : List Act) (m : Nat) (hm : m ≤ 64) : fine (growT acts m).1 := ⟨(growT_ok acts m).1, growT_lv acts m, fun t e => ⟨(growT_okN acts m t e).1, by have := (growT_okN acts m t e).2; omega⟩⟩
theorem fine.O {o : Option Tr} (h : fine o) : okO o := h.2.2.O (by decide)
theorem mkB_iff {o : Option Tr} {k : List UInt8} (h : fine o) : mkB k o = true ↔ ∃ p ∈ leavesO o, p.key = k := by
  cases o with
  | none => simp [mkB, leavesO]
  | some t => simp only [mkB, decide_eq_true_eq]; exact Tr.fin_key_iff h.1
/-- What is made leads to the root. -/
theorem verify_make {o : Option Tr} {k : List UInt8} (h : fine o) (hk : mkB k o = true) : rootP (mkP k o) = (hashO o, none) := by
  cases o with
  | none => simp [mkB] at hk
  | some t =>
    simp only [mkB, decide_eq_true_eq] at hk
    have hl := h.2.1 _ (Tr.fin_mem k t)
    have hh : t.height ≤ 64 := by have := (h.2.2 t rfl).2; have := t.height_depth; omega
    have hg := Tr.turns_good k t hh
    have h1 : ¬ 64 < (t.turns k).length := by have := Tr.turns_len k t; omega
    have e2 := rootN_ok (t.turns k) hg _ (nsum 0 1 (t.fin k).key (t.fin k).value z32 z32) (Nat.le_refl _)
    rw [ben_end, List.take_length, Tr.turns_hash] at e2
    simp only [mkP, if_pos hk]
    unfold rootP
    simp only
    rw [if_neg h1, if_neg (by simp only at hl; omega)]; exact e2
theorem verP_make {o : Option Tr} {k : List UInt8} (h : fine o) (hk : mkB k o = true) : verP (hashO o) (mkP k o) = none := by
  unfold verP; rw [verify_make h hk]; simp
end Go.Proofs.YtnicmjipbnhciaaDoor.X
set_option linter.unusedVariables false
set_option linter.unusedSimpArgs false
set_option maxRecDepth 100000
namespace Go.Proofs.YtnicmjipbnhciaaDoor.X
open Go Go.RowKit Go.Proofs Go.Proofs.YtnicmjipbnhciaaDoor.E
noncomputable def ccW1_15 : Code := (Tryd.f15.body).getD .skip
theorem Awake9_aux (o0 : okO none) (o1 : okO (putO [97] [49] none)) (o2 : okO (putO [98] [50] (putO [97] [49] none))) (m1 : mkB [98] (putO [98] [50] (putO [97] [49] none)) = true) (n1 : (noneR [99] (putO [98] [50] (putO [97] [49] none))).isSome = true)
    (lv : (leavesO (putO [98] [50] (putO [97] [49] none))).length ≤ 900000) (tl : (mkP [98] (putO [98] [50] (putO [97] [49] none))).turns.length = 1) (tr : ((mkP [98] (putO [98] [50] (putO [97] [49] none))).turns.getD 0 ⟨0, 0, false, zero32⟩).right = true)
    (v1 : verP (hashO (putO [98] [50] (putO [97] [49] none))) (mkP [98] (putO [98] [50] (putO [97] [49] none))) = none) (v2 : codeO (verP (sum256 []) (mkP [98] (putO [98] [50] (putO [97] [49] none)))) = 21)
    (g1 : (gapL [99] (putO [98] [50] (putO [97] [49] none))).1.isNone = false) (g2 : (gapL [99] (putO [98] [50] (putO [97] [49] none))).2.isNone = true)
    (v3 : vgP (hashO (putO [98] [50] (putO [97] [49] none))) [99] (gapL [99] (putO [98] [50] (putO [97] [49] none))).1 (gapL [99] (putO [98] [50] (putO [97] [49] none))).2 = none)
    (l1 : (gp (gapL [99] (putO [98] [50] (putO [97] [49] none))).1).turns.length ≤ 1000000) (l2 : (gp (gapL [99] (putO [98] [50] (putO [97] [49] none))).2).turns.length ≤ 1000000) : FOk EN 15 ⟨[.pr wordsP, .pr etP], [], Unit, fun _ => ([.pr wordsP, .pr etP], .b true), fun _ => True⟩ := by
  refine v_fun Tryd.f15 ccW1_15 MX (fun ν F σ w => ?_) Tryd.func15
  refine v_nl ?_
  refine v_call _ [0] (new_ok) ((wordsP = wordsP)) rfl (fun g1 p2 => ?_)
  have p2 : True := p2
  refine v_call _ [0, 4, 5, 3] (Put_ok (none) ([97]) ([49]) (by assumption) (by decide) (by decide)) ((0 < 1) ∧ (0 < 1) ∧ (wordsP = wordsP) ∧ ([(97 : UInt8)] = [(97 : UInt8)]) ∧ ([(49 : UInt8)] = [(49 : UInt8)]) ∧ (PTO none = PTO none) ∧ (false = false)) ⟨(by decide), (by decide), rfl, rfl, rfl, rfl, rfl⟩ (fun g3 p4 => ?_)
  have p4 : True := p4
  refine v_call _ [0, 7, 8, 6] (Put_ok (putO [97] [49] none) ([98]) ([50]) (by assumption) (by decide) (by decide)) ((0 < 1) ∧ (0 < 1) ∧ (wordsP = wordsP) ∧ ([(98 : UInt8)] = [(98 : UInt8)]) ∧ ([(50 : UInt8)] = [(50 : UInt8)]) ∧ (PTO (putO [97] [49] none) = PTO (putO [97] [49] none)) ∧ (false = false)) ⟨(by decide), (by decide), rfl, rfl, rfl, rfl, rfl⟩ (fun g5 p6 => ?_)
  have p6 : True := p6
  refine v_call _ [10, 9] (Make_ok (putO [98] [50] (putO [97] [49] none)) ([98]) (by assumption)) ((0 < 1) ∧ ([(98 : UInt8)] = [(98 : UInt8)]) ∧ (PTO (putO [98] [50] (putO [97] [49] none)) = PTO (putO [98] [50] (putO [97] [49] none))) ∧ (false = false)) ⟨(by decide), rfl, rfl, rfl⟩ (fun g7 p8 => ?_)
  have p8 : True := p8
  refine v_call _ [15, 9] (None_ok (putO [98] [50] (putO [97] [49] none)) ([99]) (by assumption) (by decide)) ((0 < 1) ∧ ([(99 : UInt8)] = [(99 : UInt8)]) ∧ (PTO (putO [98] [50] (putO [97] [49] none)) = PTO (putO [98] [50] (putO [97] [49] none))) ∧ (false = false)) ⟨(by decide), rfl, rfl, rfl⟩ (fun g9 p10 => ?_)
  have p10 : True := p10
  refine v_join [39, 40, 41, 42, 43, 44, 45, 46, 47, 48, 49, 50, 51, 52, 53, 54, 55, 56, 57, 58, 59, 60, 61, 62, 63, 64, 65, 66, 67, 68, 69, 70, 71, 72, 73, 74, 75, 76, 77, 78, 79, 80, 81, 82, 83, 84, 85, 86, 87, 88, 0] [] (fun _ : Unit => ([(0, SV.b (vgP (hashO (putO [98] [50] (putO [97] [49] none))) [99] (gapL [99] (putO [98] [50] (putO [97] [49] none))).fst (gapL [99] (putO [98] [50] (putO [97] [49] none))).snd).isNone)], [])) (fun _ => True) ?_ (fun _ _ => ?_) True trivial
  · skip
    refine v_plan (.fs [0, 1, 2, 3, 4, 5, 6, 7, 8, 9, 10, 11, 12, 13, 14, 15, 16, 17, 18, 20] (.o 19 (.o 21 (.fs [22, 23, 24, 26] (.o 25 (.o 27 (.o 28 (.fs [29, 30, 31, 32, 33, 34, 35, 36, 37, 38, 39, 40, 41, 42, 46] (.c 43 (.o 44 (.o 45 (.o 47 (.fs [48, 49, 50] .e)))) (.o 44 (.c 43 (.o 45 (.o 47 (.fs [48, 49, 50] .e))) (.o 45 (.o 43 (.o 47 (.fs [48, 49, 50] .e))))))))))))))) [14, 18] True trivial ?_
    refine v_guard 40 (mkB [98] (putO [98] [50] (putO [97] [49] none))) True trivial (fun h11 => ?_) (fun h11 => ?_)
    · skip
      refine v_guard 43 ((noneR [99] (putO [98] [50] (putO [97] [49] none))).isSome) True trivial (fun h12 => ?_) (fun h12 => ?_)
      · skip
        refine v_guard 49 (decide ((↑(mkP [98] (putO [98] [50] (putO [97] [49] none))).turns.length : Int) = 1)) True trivial (fun h13 => ?_) (fun h13 => ?_)
        · have h13 := of_decide_eq_true h13
          refine v_guard 56 (((mkP [98] (putO [98] [50] (putO [97] [49] none))).turns.getD 0 (Turn.mk 0 0 false zero32)).right) (((0 : Int) ≤ (0 : Int) ∧ (0 : Int) < (↑(mkP [(98 : UInt8)] (putO [(98 : UInt8)] [(50 : UInt8)] (putO [(97 : UInt8)] [(49 : UInt8)] none))).turns.length : Int))) (by decide) (fun h14 => ?_) (fun h14 => ?_)
          · skip
            refine v_call _ [0, 9] (Root_ok (putO [98] [50] (putO [97] [49] none))) ((wordsP = wordsP) ∧ (PTO (putO [98] [50] (putO [97] [49] none)) = PTO (putO [98] [50] (putO [97] [49] none))) ∧ (false = false)) ⟨rfl, rfl, rfl⟩ (fun g15 p16 => ?_)
            have p16 : True := p16
            refine v_call _ [0, 11, 12, 13] (Verify_ok (hashO (putO [98] [50] (putO [97] [49] none))) (mkP [98] (putO [98] [50] (putO [97] [49] none))) rfl) ((hashO (putO [98] [50] (putO [97] [49] none)) = hashO (putO [98] [50] (putO [97] [49] none))) ∧ (wordsP = wordsP) ∧ ((mkP [98] (putO [98] [50] (putO [97] [49] none))).key = (mkP [98] (putO [98] [50] (putO [97] [49] none))).key) ∧ ((mkP [98] (putO [98] [50] (putO [97] [49] none))).value = (mkP [98] (putO [98] [50] (putO [97] [49] none))).value) ∧ ((mkP [98] (putO [98] [50] (putO [97] [49] none))).turns = (mkP [98] (putO [98] [50] (putO [97] [49] none))).turns)) ⟨rfl, rfl, rfl, rfl, rfl⟩ (fun g17 p18 => ?_)
            have p18 : True := p18
            refine v_guard 63 ((verP (hashO (putO [98] [50] (putO [97] [49] none))) (mkP [98] (putO [98] [50] (putO [97] [49] none)))).isNone) True trivial (fun h19 => ?_) (fun h19 => ?_)
            · skip
              refine v_call _ [0] (Empty_ok) ((wordsP = wordsP)) rfl (fun g20 p21 => ?_)
              have p21 : True := p21
              refine v_call _ [0, 11, 12, 13] (Verify_ok (sum256 []) (mkP [98] (putO [98] [50] (putO [97] [49] none))) rfl) ((sum256 [] = sum256 []) ∧ (wordsP = wordsP) ∧ ((mkP [98] (putO [98] [50] (putO [97] [49] none))).key = (mkP [98] (putO [98] [50] (putO [97] [49] none))).key) ∧ ((mkP [98] (putO [98] [50] (putO [97] [49] none))).value = (mkP [98] (putO [98] [50] (putO [97] [49] none))).value) ∧ ((mkP [98] (putO [98] [50] (putO [97] [49] none))).turns = (mkP [98] (putO [98] [50] (putO [97] [49] none))).turns)) ⟨rfl, rfl, rfl, rfl, rfl⟩ (fun g22 p23 => ?_)
              have p23 : True := p23
              refine v_call _ [1, 21] (Code_ok (verP (sum256 []) (mkP [98] (putO [98] [50] (putO [97] [49] none)))) (by exact Nat.le_trans (verP_dep _ _) (by decide))) ((etP = etP) ∧ (PE (verP (sum256 []) (mkP [98] (putO [98] [50] (putO [97] [49] none)))) = PE (verP (sum256 []) (mkP [98] (putO [98] [50] (putO [97] [49] none))))) ∧ ((verP (sum256 []) (mkP [98] (putO [98] [50] (putO [97] [49] none)))).isNone = (verP (sum256 []) (mkP [98] (putO [98] [50] (putO [97] [49] none)))).isNone)) ⟨rfl, rfl, rfl⟩ (fun g24 p25 => ?_)
              have p25 : True := p25
              refine v_guard 70 (decide (codeO (verP (sum256 []) (mkP [98] (putO [98] [50] (putO [97] [49] none)))) = 21)) True trivial (fun h26 => ?_) (fun h26 => ?_)
              · have h26 := of_decide_eq_true h26
                refine v_guard 75 (!(gapL [99] (putO [98] [50] (putO [97] [49] none))).fst.isNone) True trivial (fun h27 => ?_) (fun h27 => ?_)
                · have h27 := (nt h27)
                  refine v_guard 80 ((gapL [99] (putO [98] [50] (putO [97] [49] none))).snd.isNone) True trivial (fun h28 => ?_) (fun h28 => ?_)
                  · skip
                    refine v_pick True trivial ?_ ?_
                    · skip
                      refine v_call _ [0, 9] (Root_ok (putO [98] [50] (putO [97] [49] none))) ((wordsP = wordsP) ∧ (PTO (putO [98] [50] (putO [97] [49] none)) = PTO (putO [98] [50] (putO [97] [49] none))) ∧ (false = false)) ⟨rfl, rfl, rfl⟩ (fun g29 p30 => ?_)
                      have p30 : True := p30
                      refine v_call _ [0, 22, 16, 17] (VerifyGap_ok (hashO (putO [98] [50] (putO [97] [49] none))) ([99]) ((gapL [99] (putO [98] [50] (putO [97] [49] none))).fst) ((gapL [99] (putO [98] [50] (putO [97] [49] none))).snd) rfl (by decide) (by decide)) ((0 < 1) ∧ (hashO (putO [98] [50] (putO [97] [49] none)) = hashO (putO [98] [50] (putO [97] [49] none))) ∧ (wordsP = wordsP) ∧ ([(99 : UInt8)] = [(99 : UInt8)]) ∧ ((gapL [99] (putO [98] [50] (putO [97] [49] none))).fst = (gapL [99] (putO [98] [50] (putO [97] [49] none))).fst) ∧ ((gapL [99] (putO [98] [50] (putO [97] [49] none))).snd = (gapL [99] (putO [98] [50] (putO [97] [49] none))).snd)) ⟨(by decide), rfl, rfl, rfl, rfl, rfl⟩ (fun g31 p32 => ?_)
                      have p32 : True := p32
                      exact v_back (()) [] (((vgP (hashO (putO [98] [50] (putO [97] [49] none))) [99] (gapL [99] (putO [98] [50] (putO [97] [49] none))).fst (gapL [99] (putO [98] [50] (putO [97] [49] none))).snd).isNone = (vgP (hashO (putO [98] [50] (putO [97] [49] none))) [99] (gapL [99] (putO [98] [50] (putO [97] [49] none))).fst (gapL [99] (putO [98] [50] (putO [97] [49] none))).snd).isNone)) rfl (show True from trivial)
                    · skip
                      refine v_pick True trivial ?_ ?_
                      · skip
                        refine v_call _ [0, 9] (Root_ok (putO [98] [50] (putO [97] [49] none))) ((wordsP = wordsP) ∧ (PTO (putO [98] [50] (putO [97] [49] none)) = PTO (putO [98] [50] (putO [97] [49] none))) ∧ (false = false)) ⟨rfl, rfl, rfl⟩ (fun g33 p34 => ?_)
                        have p34 : True := p34
                        refine v_call _ [0, 22, 16, 17] (VerifyGap_ok (hashO (putO [98] [50] (putO [97] [49] none))) ([99]) ((gapL [99] (putO [98] [50] (putO [97] [49] none))).fst) ((gapL [99] (putO [98] [50] (putO [97] [49] none))).snd) rfl (by decide) (by decide)) ((0 < 1) ∧ (hashO (putO [98] [50] (putO [97] [49] none)) = hashO (putO [98] [50] (putO [97] [49] none))) ∧ (wordsP = wordsP) ∧ ([(99 : UInt8)] = [(99 : UInt8)]) ∧ ((gapL [99] (putO [98] [50] (putO [97] [49] none))).fst = (gapL [99] (putO [98] [50] (putO [97] [49] none))).fst) ∧ ((gapL [99] (putO [98] [50] (putO [97] [49] none))).snd = (gapL [99] (putO [98] [50] (putO [97] [49] none))).snd)) ⟨(by decide), rfl, rfl, rfl, rfl, rfl⟩ (fun g35 p36 => ?_)
                        have p36 : True := p36
                        exact v_back (()) [] (((vgP (hashO (putO [98] [50] (putO [97] [49] none))) [99] (gapL [99] (putO [98] [50] (putO [97] [49] none))).fst (gapL [99] (putO [98] [50] (putO [97] [49] none))).snd).isNone = (vgP (hashO (putO [98] [50] (putO [97] [49] none))) [99] (gapL [99] (putO [98] [50] (putO [97] [49] none))).fst (gapL [99] (putO [98] [50] (putO [97] [49] none))).snd).isNone)) rfl (show True from trivial)
                      · skip
                        refine v_call _ [0, 9] (Root_ok (putO [98] [50] (putO [97] [49] none))) ((0 < 1) ∧ (wordsP = wordsP) ∧ (PTO (putO [98] [50] (putO [97] [49] none)) = PTO (putO [98] [50] (putO [97] [49] none))) ∧ (false = false)) ⟨(by decide), rfl, rfl, rfl⟩ (fun g37 p38 => ?_)
                        have p38 : True := p38
                        refine v_call _ [0, 22, 16, 17] (VerifyGap_ok (hashO (putO [98] [50] (putO [97] [49] none))) ([99]) ((gapL [99] (putO [98] [50] (putO [97] [49] none))).fst) ((gapL [99] (putO [98] [50] (putO [97] [49] none))).snd) rfl (by decide) (by decide)) ((hashO (putO [98] [50] (putO [97] [49] none)) = hashO (putO [98] [50] (putO [97] [49] none))) ∧ (wordsP = wordsP) ∧ ([(99 : UInt8)] = [(99 : UInt8)]) ∧ ((gapL [99] (putO [98] [50] (putO [97] [49] none))).fst = (gapL [99] (putO [98] [50] (putO [97] [49] none))).fst) ∧ ((gapL [99] (putO [98] [50] (putO [97] [49] none))).snd = (gapL [99] (putO [98] [50] (putO [97] [49] none))).snd)) ⟨rfl, rfl, rfl, rfl, rfl⟩ (fun g39 p40 => ?_)
                        have p40 : True := p40
                        exact v_back (()) [] (((vgP (hashO (putO [98] [50] (putO [97] [49] none))) [99] (gapL [99] (putO [98] [50] (putO [97] [49] none))).fst (gapL [99] (putO [98] [50] (putO [97] [49] none))).snd).isNone = (vgP (hashO (putO [98] [50] (putO [97] [49] none))) [99] (gapL [99] (putO [98] [50] (putO [97] [49] none))).fst (gapL [99] (putO [98] [50] (putO [97] [49] none))).snd).isNone)) rfl (show True from trivial)
                  · skip
                    exfalso; (simp_all; done)
                · have h27 := (nf h27)
                  exfalso; (simp_all; done)
              · have h26 := of_decide_eq_false h26
                omega
            · skip
              exfalso; (rw [v1] at *; simp at *; done)
          · skip
            exfalso; (simp_all; done)
        · have h13 := of_decide_eq_false h13
          omega
      · skip
        exfalso; (simp_all; done)
    · skip
      exfalso; (simp_all; done)
  · skip
    exact v_ret () [] (((vgP (hashO (putO [98] [50] (putO [97] [49] none))) [99] (gapL [99] (putO [98] [50] (putO [97] [49] none))).fst (gapL [99] (putO [98] [50] (putO [97] [49] none))).snd).isNone = true) ∧ (wordsP = wordsP) ∧ (etP = etP)) ⟨(by (simp; omega)), rfl, rfl⟩ trivial
end Go.Proofs.YtnicmjipbnhciaaDoor.X
set_option linter.unusedVariables false
set_option linter.unusedSimpArgs false
set_option maxRecDepth 100000
namespace Go.Proofs.YtnicmjipbnhciaaDoor.X
open Go Go.RowKit Go.Proofs Go.Proofs.YtnicmjipbnhciaaDoor.E
theorem aw_fine : fine (putO [98] [50] (putO [97] [49] none)) := by
  refine ⟨?_, ?_, ?_⟩
  · show Srt [⟨[97], [49]⟩, ⟨[98], [50]⟩]
    exact List.pairwise_cons.2 ⟨fun p hp => by rw [List.mem_singleton.1 hp]; decide, List.pairwise_singleton ..⟩
  · show lvOk [⟨[97], [49]⟩, ⟨[98], [50]⟩]
    intro p hp
    rcases List.mem_cons.1 hp with rfl | hp
    · decide
    · rw [List.mem_singleton.1 hp]; decide
  · have h := okN.put (k := [98]) (v := [50]) (okN.put (k := [97]) (v := [49]) (n := 0) (o := none) (fun t e => by simp at e) (by decide) (by decide)) (by decide) (by decide)
    exact fun t e => ⟨(h t e).1, by have := (h t e).2; omega⟩
theorem aw_hash : hashO (putO [98] [50] (putO [97] [49] none)) ≠ sum256 [] := by
  intro h
  have h1 : ((hashO (putO [98] [50] (putO [97] [49] none))).getD 0 0 == (sum256 []).getD 0 0) = false := by decide +kernel
  rw [h] at h1; simp at h1
theorem aw_m : mkB [98] (putO [98] [50] (putO [97] [49] none)) = true := by decide
theorem aw_v1 : verP (hashO (putO [98] [50] (putO [97] [49] none))) (mkP [98] (putO [98] [50] (putO [97] [49] none))) = none := verP_make aw_fine aw_m
theorem aw_v2 : codeO (verP (sum256 []) (mkP [98] (putO [98] [50] (putO [97] [49] none)))) = 21 := by
  unfold verP; rw [verify_make aw_fine aw_m]
  show codeO (if hashO (putO [98] [50] (putO [97] [49] none)) = sum256 [] then none else some (.step ((#[114, 111, 111, 116] : Array UInt8).toList) 0 (.num 21))) = 21
  rw [if_neg aw_hash]; rfl
theorem aw_gap : gapL [99] (putO [98] [50] (putO [97] [49] none)) = (some (mkP [98] (putO [98] [50] (putO [97] [49] none))), none) := by rfl
theorem aw_v3 : vgP (hashO (putO [98] [50] (putO [97] [49] none))) [99] (some (mkP [98] (putO [98] [50] (putO [97] [49] none)))) none = none := by
  have hs : vgS (hashO (putO [98] [50] (putO [97] [49] none))) [99] 0 (some (mkP [98] (putO [98] [50] (putO [97] [49] none)))) = none :=
    vs4 rfl (by show (verP (hashO (putO [98] [50] (putO [97] [49] none))) (mkP [98] (putO [98] [50] (putO [97] [49] none)))).isNone = true; rw [aw_v1]; rfl) (by decide) (by decide)
  rw [vg_left (by decide) (by decide) rfl rfl (by decide)]
  unfold vgL; rw [hs]; rfl
theorem Awake9_ok : FOk EN 15 ⟨[.pr wordsP, .pr etP], [], Unit, fun _ => ([.pr wordsP, .pr etP], .b true), fun _ => True⟩ := by
  refine Awake9_aux (fun t e => by simp at e) ?_ aw_fine.O aw_m (by decide) (by decide) (by decide) (by decide) aw_v1 aw_v2 (by decide) (by decide) ?_ (by decide) (by decide)
  · have h := okN.put (k := [97]) (v := [49]) (n := 0) (o := none) (fun t e => by simp at e) (by decide) (by decide)
    exact h.O (by decide)
  · rw [aw_gap]; exact aw_v3
end Go.Proofs.YtnicmjipbnhciaaDoor.X
set_option linter.unusedVariables false
set_option linter.unusedSimpArgs false
set_option maxRecDepth 100000
namespace Go.Proofs.YtnicmjipbnhciaaDoor.X
open Go Go.RowKit Go.Proofs Go.Proofs.YtnicmjipbnhciaaDoor.E
theorem back_lt {n i : Nat} (h : (i : Int) < n) : i + 1 ≤ n ∧ n - (i + 1) < n - i := by omega
theorem grow_lv (acts : List Act) (m : Nat) : (growT acts m).2 = leavesO (growT acts m).1 := (growT_ok acts m).2
theorem growT_le (acts : List Act) {m : Nat} : (growT acts m).2.length ≤ m := by rw [grow_lv]; exact (growT_okN acts m).leaves
section
variable {acts : List Act} {m i : Nat}
theorem gat (hi : (i : Int) < (growT acts m).2.length) : (growT acts m).2.getD i dP ∈ leavesO (growT acts m).1 := by
  rw [← grow_lv]
  have h : i < (growT acts m).2.length := by omega
  rw [List.getD_eq_getElem?_getD, List.getElem?_eq_getElem h]; exact List.getElem_mem h
theorem gat_m (hm : m ≤ 64) (hi : (i : Int) < (growT acts m).2.length) : mkB ((growT acts m).2.getD i dP).key (growT acts m).1 = true := (mkB_iff (growT_fine acts m hm)).2 ⟨_, gat hi, rfl⟩
theorem gat_n (hi : (i : Int) < (growT acts m).2.length) : (growT acts m).1.isNone = false := by
  have := gat hi
  cases h : (growT acts m).1 with
  | none => rw [h] at this; simp [leavesO] at this
  | some t => rfl
theorem gat_p (hm : m ≤ 64) (hi : (i : Int) < (growT acts m).2.length) : mkP ((growT acts m).2.getD i dP).key (growT acts m).1 = ⟨((gt (growT acts m).1).fin ((growT acts m).2.getD i dP).key).key, ((gt (growT acts m).1).fin ((growT acts m).2.getD i dP).key).value, (gt (growT acts m).1).turns ((growT acts m).2.getD i dP).key⟩ := by
  have h := gat_m hm hi
  cases e : (growT acts m).1 with
  | none => rw [e] at h; simp [mkB] at h
  | some t => rw [e] at h; simp only [mkB, decide_eq_true_eq] at h; show mkP _ (some t) = _; simp only [mkP, if_pos h]; rfl
theorem gat_v (hm : m ≤ 64) (hi : (i : Int) < (growT acts m).2.length) : verP (hashO (growT acts m).1) (mkP ((growT acts m).2.getD i dP).key (growT acts m).1) = none := verP_make (growT_fine acts m hm) (gat_m hm hi)
theorem gtk (hm : m ≤ 64) : (gt (growT acts m).1).Ks ∧ (gt (growT acts m).1).height < 900 ∧ (gt (growT acts m).1).depth ≤ 100000 := by
  have h := (growT_okN acts m)
  cases e : (growT acts m).1 with
  | none => exact ⟨⟨Nat.zero_le _, Nat.zero_le _⟩, by decide, by decide⟩
  | some t => have := h t e; have q := t.height_depth; refine ⟨this.1, ?_, ?_⟩ <;> (show (_ : _)) <;> simp only [gt, Option.getD_some] <;> omega
theorem mk_find (hm : m ≤ 64) (k : List UInt8) : mkB k (growT acts m).1 = decide (0 ≤ findP (growT acts m).2 k) := by
  rw [Bool.eq_iff_iff, decide_eq_true_eq, mkB_iff (growT_fine acts m hm), find_ge, grow_lv]
theorem mkP_not {k : List UInt8} {o : Option Tr} (h : mkB k o = false) : mkP k o = ⟨[], [], []⟩ := by
  cases o with
  | none => rfl
  | some t => simp only [mkB, decide_eq_false_iff_not] at h; simp only [mkP, if_neg h]
theorem turns_le (k : List UInt8) (hm : m ≤ 64) : (mkP k (growT acts m).1).turns.length ≤ 100 := by
  cases e : (growT acts m).1 with
  | none => exact Nat.zero_le _
  | some t =>
    have h := (growT_okN acts m) t e
    simp only [mkP]; split
    · have := t.turns_len k; have := t.height_depth; show (t.turns k).length ≤ 100; omega
    · exact Nat.zero_le _
theorem gtt (k : List UInt8) (hm : m ≤ 64) : ((gt (growT acts m).1).turns k).length ≤ 1000000 := by
  have h := (gt (growT acts m).1).turns_len k; have := (gtk (acts := acts) hm).2.1; omega
end
noncomputable def ccD1_4 : Code := (Tryd.f4.body).getD .skip
theorem ProofMakes_ok (acts : List Act) (k : List UInt8) : FOk EN 4 ⟨[.pr wordsP, .pr rootsP, .pr etP, .rd 133 acts, .rd 5 (k)], [.n 3, .n 4], Unit, fun _ => ([.pr wordsP, .pr rootsP, .pr etP, .rd 133 acts, .rd 5 (k)], .b true), fun _ => True⟩ := by
  refine v_fun Tryd.f4 ccD1_4 MX (fun ν F σ w => ?_) Tryd.func4
  refine v_nl ?_
  refine v_call _ [0, 2] (Awake9_ok) ((wordsP = wordsP) ∧ (etP = etP)) ⟨rfl, rfl⟩ (fun g1 p2 => ?_)
  have p2 : True := p2
  refine v_if (!true) True trivial (fun h3 => ?_) (fun h3 => ?_)
  · have h3 := (nt h3)
    contradiction
  · have h3 := (nf h3)
    refine v_if (decide (300 < (↑k.length : Int))) True trivial (fun h4 => ?_) (fun h4 => ?_)
    · have h4 := of_decide_eq_true h4
      exact v_ret () [] ((true = true) ∧ (wordsP = wordsP) ∧ (rootsP = rootsP) ∧ (etP = etP) ∧ (acts = acts) ∧ (k = k)) ⟨rfl, rfl, rfl, rfl, rfl, rfl⟩ trivial
    · have h4 := of_decide_eq_false h4
      refine v_call _ [0, 3] (Grow_ok (acts) (nat_lit 50) (by decide)) (((50 : Int) = (↑(nat_lit 50) : Int)) ∧ (wordsP = wordsP) ∧ (acts = acts)) ⟨rfl, rfl, rfl⟩ (fun g5 p6 => ?_)
      have p6 : True := p6
      refine v_call _ [3] (grown9_ok (acts) (nat_lit 50) (by decide)) (((50 : Int) = (↑(nat_lit 50) : Int)) ∧ (acts = acts)) ⟨rfl, rfl⟩ (fun g7 p8 => ?_)
      have p8 : True := p8
      refine v_loop (fun i : Nat => ([(28, .i i)], [])) (fun i => i ≤ (growT acts 50).2.length) (fun i => (growT acts 50).2.length - i) 0 [] (((0 : Int) = (↑(0 : Nat) : Int))) rfl (by omega) (fun i hk9 => ?_)
      refine v_if (decide ((↑i : Int) < (↑(growT acts (nat_lit 50)).snd.length : Int))) True trivial (fun h10 => ?_) (fun h10 => ?_)
      · have h10 := of_decide_eq_true h10
        refine v_call _ [9, 6] (Make_ok ((growT acts (nat_lit 50)).fst) (((growT acts (nat_lit 50)).snd.getD (↑i : Int).toNat (Pair.mk [] [])).key) (by exact (growT_fine acts 50 (by decide)).O)) (((0 : Int) ≤ (↑i : Int) ∧ (↑i : Int) < (↑(growT acts (nat_lit 50)).snd.length : Int)) ∧ (((growT acts (nat_lit 50)).snd.getD (↑i : Int).toNat (Pair.mk [] [])).key = ((growT acts (nat_lit 50)).snd.getD (↑i : Int).toNat (Pair.mk [] [])).key) ∧ (PTO (growT acts (nat_lit 50)).fst = PTO (growT acts (nat_lit 50)).fst) ∧ (false = false)) ⟨(by omega), rfl, rfl, rfl⟩ (fun g11 p12 => ?_)
        have p12 : True := p12
        refine v_plan (.fs [0, 1, 2, 3, 4, 5, 6] (.o 7 (.o 8 (.fs [9, 10, 11, 12, 14] (.o 13 (.o 15 (.fs [16, 17] .e))))))) [7, 12, 16] True trivial ?_
        refine v_guard 41 (!mkB ((growT acts (nat_lit 50)).snd.getD (↑i : Int).toNat (Pair.mk [] [])).key (growT acts (nat_lit 50)).fst) True trivial (fun h13 => ?_) (fun h13 => ?_)
        · have h13 := (nt h13)
          exfalso; exact Bool.noConfusion ((gat_m (m := 50) (by decide) (by assumption)).symm.trans (by assumption))
        · have h13 := (nf h13)
          refine v_call _ [1, 9, 8] (Prove_ok ((growT acts (nat_lit 50)).fst) (((growT acts (nat_lit 50)).snd.getD (↑i : Int).toNat (Pair.mk [] [])).key) (by exact gat_n (by assumption)) (by exact (gtk (m := 50) (by decide)).1) (by exact (gtk (m := 50) (by decide)).2.1) (by exact (gtk (m := 50) (by decide)).2.2)) ((rootsP = rootsP) ∧ (((growT acts (nat_lit 50)).snd.getD (↑i : Int).toNat (Pair.mk [] [])).key = ((growT acts (nat_lit 50)).snd.getD (↑i : Int).toNat (Pair.mk [] [])).key) ∧ (PR (growT acts (nat_lit 50)).fst = PR (growT acts (nat_lit 50)).fst) ∧ ((growT acts (nat_lit 50)).fst.isNone = (growT acts (nat_lit 50)).fst.isNone)) ⟨rfl, rfl, rfl, rfl⟩ (fun g14 p15 => ?_)
          have p15 : True := p15
          refine v_call _ [13, 14, 15, 17, 18, 19] (SameProof_ok ((mkP ((growT acts (nat_lit 50)).snd.getD (↑i : Int).toNat (Pair.mk [] [])).key (growT acts (nat_lit 50)).fst).key) ((mkP ((growT acts (nat_lit 50)).snd.getD (↑i : Int).toNat (Pair.mk [] [])).key (growT acts (nat_lit 50)).fst).value) ((Tr.fin ((growT acts (nat_lit 50)).snd.getD (↑i : Int).toNat (Pair.mk [] [])).key (gt (growT acts (nat_lit 50)).fst)).key) ((Tr.fin ((growT acts (nat_lit 50)).snd.getD (↑i : Int).toNat (Pair.mk [] [])).key (gt (growT acts (nat_lit 50)).fst)).value) ((mkP ((growT acts (nat_lit 50)).snd.getD (↑i : Int).toNat (Pair.mk [] [])).key (growT acts (nat_lit 50)).fst).turns) (Tr.turns ((growT acts (nat_lit 50)).snd.getD (↑i : Int).toNat (Pair.mk [] [])).key (gt (growT acts (nat_lit 50)).fst)) (by exact Nat.le_trans (turns_le _ (by decide)) (by decide)) (by exact gtt _ (by decide))) (((mkP ((growT acts (nat_lit 50)).snd.getD (↑i : Int).toNat (Pair.mk [] [])).key (growT acts (nat_lit 50)).fst).key = (mkP ((growT acts (nat_lit 50)).snd.getD (↑i : Int).toNat (Pair.mk [] [])).key (growT acts (nat_lit 50)).fst).key) ∧ ((mkP ((growT acts (nat_lit 50)).snd.getD (↑i : Int).toNat (Pair.mk [] [])).key (growT acts (nat_lit 50)).fst).value = (mkP ((growT acts (nat_lit 50)).snd.getD (↑i : Int).toNat (Pair.mk [] [])).key (growT acts (nat_lit 50)).fst).value) ∧ ((mkP ((growT acts (nat_lit 50)).snd.getD (↑i : Int).toNat (Pair.mk [] [])).key (growT acts (nat_lit 50)).fst).turns = (mkP ((growT acts (nat_lit 50)).snd.getD (↑i : Int).toNat (Pair.mk [] [])).key (growT acts (nat_lit 50)).fst).turns) ∧ ((Tr.fin ((growT acts (nat_lit 50)).snd.getD (↑i : Int).toNat (Pair.mk [] [])).key (gt (growT acts (nat_lit 50)).fst)).key = (Tr.fin ((growT acts (nat_lit 50)).snd.getD (↑i : Int).toNat (Pair.mk [] [])).key (gt (growT acts (nat_lit 50)).fst)).key) ∧ ((Tr.fin ((growT acts (nat_lit 50)).snd.getD (↑i : Int).toNat (Pair.mk [] [])).key (gt (growT acts (nat_lit 50)).fst)).value = (Tr.fin ((growT acts (nat_lit 50)).snd.getD (↑i : Int).toNat (Pair.mk [] [])).key (gt (growT acts (nat_lit 50)).fst)).value) ∧ (Tr.turns ((growT acts (nat_lit 50)).snd.getD (↑i : Int).toNat (Pair.mk [] [])).key (gt (growT acts (nat_lit 50)).fst) = Tr.turns ((growT acts (nat_lit 50)).snd.getD (↑i : Int).toNat (Pair.mk [] [])).key (gt (growT acts (nat_lit 50)).fst))) ⟨rfl, rfl, rfl, rfl, rfl, rfl⟩ (fun g16 p17 => ?_)
          have p17 : True := p17
          refine v_guard 50 (!decide (Proof.mk (mkP ((growT acts (nat_lit 50)).snd.getD (↑i : Int).toNat (Pair.mk [] [])).key (growT acts (nat_lit 50)).fst).key (mkP ((growT acts (nat_lit 50)).snd.getD (↑i : Int).toNat (Pair.mk [] [])).key (growT acts (nat_lit 50)).fst).value (mkP ((growT acts (nat_lit 50)).snd.getD (↑i : Int).toNat (Pair.mk [] [])).key (growT acts (nat_lit 50)).fst).turns = Proof.mk (Tr.fin ((growT acts (nat_lit 50)).snd.getD (↑i : Int).toNat (Pair.mk [] [])).key (gt (growT acts (nat_lit 50)).fst)).key (Tr.fin ((growT acts (nat_lit 50)).snd.getD (↑i : Int).toNat (Pair.mk [] [])).key (gt (growT acts (nat_lit 50)).fst)).value (Tr.turns ((growT acts (nat_lit 50)).snd.getD (↑i : Int).toNat (Pair.mk [] [])).key (gt (growT acts (nat_lit 50)).fst)))) True trivial (fun h18 => ?_) (fun h18 => ?_)
          · have h18 := of_decide_eq_false (nt h18)
            exfalso; exact absurd (gat_p (acts := acts) (m := 50) (i := i) (by decide) (by assumption)) (by assumption)
          · have h18 := of_decide_eq_true (nf h18)
            refine v_call _ [0, 6] (Root_ok ((growT acts (nat_lit 50)).fst)) ((wordsP = wordsP) ∧ (PTO (growT acts (nat_lit 50)).fst = PTO (growT acts (nat_lit 50)).fst) ∧ (false = false)) ⟨rfl, rfl, rfl⟩ (fun g19 p20 => ?_)
            have p20 : True := p20
            refine v_call _ [0, 13, 14, 15] (Verify_ok (hashO (growT acts (nat_lit 50)).fst) (mkP ((growT acts (nat_lit 50)).snd.getD (↑i : Int).toNat (Pair.mk [] [])).key (growT acts (nat_lit 50)).fst) (by exact hashO_len _)) ((hashO (growT acts (nat_lit 50)).fst = hashO (growT acts (nat_lit 50)).fst) ∧ (wordsP = wordsP) ∧ ((mkP ((growT acts (nat_lit 50)).snd.getD (↑i : Int).toNat (Pair.mk [] [])).key (growT acts (nat_lit 50)).fst).key = (mkP ((growT acts (nat_lit 50)).snd.getD (↑i : Int).toNat (Pair.mk [] [])).key (growT acts (nat_lit 50)).fst).key) ∧ ((mkP ((growT acts (nat_lit 50)).snd.getD (↑i : Int).toNat (Pair.mk [] [])).key (growT acts (nat_lit 50)).fst).value = (mkP ((growT acts (nat_lit 50)).snd.getD (↑i : Int).toNat (Pair.mk [] [])).key (growT acts (nat_lit 50)).fst).value) ∧ ((mkP ((growT acts (nat_lit 50)).snd.getD (↑i : Int).toNat (Pair.mk [] [])).key (growT acts (nat_lit 50)).fst).turns = (mkP ((growT acts (nat_lit 50)).snd.getD (↑i : Int).toNat (Pair.mk [] [])).key (growT acts (nat_lit 50)).fst).turns)) ⟨rfl, rfl, rfl, rfl, rfl⟩ (fun g21 p22 => ?_)
            have p22 : True := p22
            refine v_if (!(verP (hashO (growT acts (nat_lit 50)).fst) (mkP ((growT acts (nat_lit 50)).snd.getD (↑i : Int).toNat (Pair.mk [] [])).key (growT acts (nat_lit 50)).fst)).isNone) True trivial (fun h23 => ?_) (fun h23 => ?_)
            · have h23 := (nt h23)
              exfalso; exact Bool.noConfusion ((congrArg Option.isNone (gat_v (m := 50) (by decide) (by assumption))).symm.trans (by assumption))
            · have h23 := (nf h23)
              exact v_back (i + 1) [] ((I64 (↑i + 1)) ∧ ((↑i : Int) + 1 = (↑(i + 1) : Int))) ⟨(by (have := growT_le acts (m := 50); unfold I64; omega)), rfl⟩ (show i + 1 ≤ (growT acts 50).snd.length ∧ (growT acts 50).snd.length - (i + 1) < (growT acts 50).snd.length - i from (by exact back_lt (by assumption)))
      · have h10 := of_decide_eq_false h10
        refine v_leave (.ex 0) True trivial ?_
        refine v_call _ [4, 6] (Make_ok ((growT acts (nat_lit 50)).fst) (k) (by exact (growT_fine acts 50 (by decide)).O)) ((k = k) ∧ (PTO (growT acts (nat_lit 50)).fst = PTO (growT acts (nat_lit 50)).fst) ∧ (false = false)) ⟨rfl, rfl, rfl⟩ (fun g24 p25 => ?_)
        have p25 : True := p25
        refine v_call _ [7, 4] (Find_ok ((growT acts (nat_lit 50)).snd) (k) (by (have := growT_le acts (m := 50); omega))) (((growT acts (nat_lit 50)).snd = (growT acts (nat_lit 50)).snd) ∧ (k = k)) ⟨rfl, rfl⟩ (fun g26 p27 => ?_)
        have p27 : True := p27
        refine v_guard 70 (mkB k (growT acts (nat_lit 50)).fst == decide ((0 : Int) ≤ findP (growT acts (nat_lit 50)).snd k)) True trivial (fun h28 => ?_) (fun h28 => ?_)
        · skip
          refine v_guard 72 (mkB k (growT acts (nat_lit 50)).fst) True trivial (fun h29 => ?_) (fun h29 => ?_)
          · skip
            exact v_ret () [] ((true = true) ∧ (wordsP = wordsP) ∧ (rootsP = rootsP) ∧ (etP = etP) ∧ (acts = acts) ∧ (k = k)) ⟨rfl, rfl, rfl, rfl, rfl, rfl⟩ trivial
          · skip
            refine v_call _ [9, 10, 11, 5, 5, 5] (SameProof_ok ((mkP k (growT acts (nat_lit 50)).fst).key) ((mkP k (growT acts (nat_lit 50)).fst).value) ([]) ([]) ((mkP k (growT acts (nat_lit 50)).fst).turns) ([]) (by exact Nat.le_trans (turns_le _ (by decide)) (by decide)) (by decide)) (((mkP k (growT acts (nat_lit 50)).fst).key = (mkP k (growT acts (nat_lit 50)).fst).key) ∧ ((mkP k (growT acts (nat_lit 50)).fst).value = (mkP k (growT acts (nat_lit 50)).fst).value) ∧ ((mkP k (growT acts (nat_lit 50)).fst).turns = (mkP k (growT acts (nat_lit 50)).fst).turns) ∧ (Eq (α := List UInt8) [] []) ∧ (Eq (α := List UInt8) [] []) ∧ (Eq (α := List Turn) [] [])) ⟨rfl, rfl, rfl, rfl, rfl, rfl⟩ (fun g30 p31 => ?_)
            have p31 : True := p31
            exact v_ret () [] ((decide (Proof.mk (mkP k (growT acts (nat_lit 50)).fst).key (mkP k (growT acts (nat_lit 50)).fst).value (mkP k (growT acts (nat_lit 50)).fst).turns = Proof.mk [] [] []) = true) ∧ (wordsP = wordsP) ∧ (rootsP = rootsP) ∧ (etP = etP) ∧ (acts = acts) ∧ (k = k)) ⟨(by exact decide_eq_true (mkP_not (by assumption))), rfl, rfl, rfl, rfl, rfl⟩ trivial
        · skip
          exfalso; (have hq := mk_find (acts := acts) (m := 50) (by decide) k; simp_all; done)
end Go.Proofs.YtnicmjipbnhciaaDoor.X
set_option linter.unusedVariables false
set_option linter.unusedSimpArgs false
namespace Go.Proofs.YtnicmjipbnhciaaDoor.X
open Go Go.RowKit Go.Proofs.YtnicmjipbnhciaaDoor.E
def OpF {α : Type} (P : Program) (t : TypeId) (fs : Array Go.Field) (off : Nat) (T : Ty α) : Prop :=
  ∀ (w : World) (cs : List Value), cs.length = P.cellsOf t → (∀ (i : Nat) (f : Go.Field), fs[i]? = some f → ∀ {β : Type} {U : Ty β}, E.Opens P f.type U → ∀ o sz, f.offset = o → P.cellsOf f.type = sz → ∃ a, U.rep (sig0 w) w a ((cs.drop o).take sz)) → ∃ a, T.rep (sig0 w) w a (cs.drop off)
section
variable {α β : Type} {P : Program} {t : TypeId} {fs : Array Go.Field} {off n : Nat} {A : Ty α} {B : Ty β} {f : Go.Field}
theorem opF_cons (i : Nat) (hf : fs[i]? = some f) (ho : f.offset = off) (O : E.Opens P f.type A) (hs : P.cellsOf f.type = n) (hB : OpF P t fs (off + n) B) : OpF P t fs off (tProd A B) := by
  intro w cs hl h
  obtain ⟨a, ha⟩ := h i f hf O off n ho hs
  obtain ⟨b, hb⟩ := hB w cs hl h
  exact ⟨(a, b), _, _, by rw [← List.drop_drop]; exact (List.take_append_drop n _).symm, ha, hb⟩
theorem opF_last (i : Nat) (hf : fs[i]? = some f) (ho : f.offset = off) (O : E.Opens P f.type A) (hs : P.cellsOf f.type = n) (tot : P.cellsOf t = off + n) : OpF P t fs off A := by
  intro w cs hl h
  obtain ⟨a, ha⟩ := h i f hf O off n ho hs
  rw [List.take_of_length_le (by rw [List.length_drop]; omega)] at ha
  exact ⟨a, ha⟩
theorem opens_rec (ht : P.underlying t = some (.struct fs)) (h : OpF P t fs 0 A) : E.Opens P t A := by
  intro H enc w sp held fuel cs x hx hw
  obtain ⟨hl, hf⟩ := opens_field ht hx hw
  obtain ⟨a, ha⟩ := h w cs hl (fun i f hi β U O o sz ho hs => hf i f hi O o sz ho hs)
  exact ⟨a, by simpa using ha⟩
theorem opens_by (n : Nat) (h : E.Opens P t A) : E.Opens P t (tBy A n) := h
theorem opens_iso {g : β → α} (k : α → β) (hg : ∀ b, g (k b) = b) (h : E.Opens P t A) : E.Opens P t (tIso g A) := by
  intro H enc w sp held fuel cs x hx hw
  obtain ⟨b, hb⟩ := h hx hw
  exact ⟨k b, by show A.rep _ _ (g (k b)) _; rw [hg]; exact hb⟩
end
end Go.Proofs.YtnicmjipbnhciaaDoor.X
set_option linter.unusedVariables false
set_option maxRecDepth 100000
namespace Go.Proofs.YtnicmjipbnhciaaDoor.X
open Go Go.RowKit Go.Proofs.YtnicmjipbnhciaaDoor.E
theorem opAct : E.Opens Tryd.prog 133 tAct := opens_by 56 (opens_iso (fun p => ⟨p.1, p.2.1, p.2.2.1, p.2.2.2⟩) (fun _ => rfl) (opens_rec Tryd.underlying133 (opF_cons (n := 1) 0 rfl rfl (opens_u8 Tryd.underlying5) (by kernel_rfl) (opF_cons (n := 1) 1 rfl rfl (opens_u8 Tryd.underlying5) (by kernel_rfl) (opF_cons (n := 1) 2 rfl rfl (opens_slice (T := tU8) Tryd.underlying22 (by kernel_rfl) (by kernel_rfl) (by decide) (opens_u8 Tryd.underlying5)) (by kernel_rfl) (opF_last (n := 1) 3 rfl rfl (opens_slice (T := tU8) Tryd.underlying22 (by kernel_rfl) (by kernel_rfl) (by decide) (opens_u8 Tryd.underlying5)) (by kernel_rfl) (by kernel_rfl)))))))
end Go.Proofs.YtnicmjipbnhciaaDoor.X
