/- The engine's scalars, and append, conversions, pieces of slices. -/
import Derived.Test.YtaoamokfbhlaaaaE3
import Derived.Laws.IdiomStrings
set_option linter.unusedVariables false
set_option linter.unusedSimpArgs false
namespace Go.Proofs.Ytaoamokfbhlaaaa.E
open Go Go.RowKit

/-! ### 1. Plain types -/
abbrev bv (b : UInt8) : Value := .int .u8 (b.toNat : Int)
abbrev uv (x : UInt64) : Value := .int .u64 (x.toNat : Int)
abbrev wv (x : UInt32) : Value := .int .u32 (x.toNat : Int)
abbrev iv (x : Int) : Value := .int .i64 x
abbrev sv (s : List UInt8) : Value := .string ⟨s.toArray⟩

def tU8 : Ty UInt8 := Ty.flat (fun b => [bv b]) 1 1 (fun _ => rfl) (fun _ v hv => by simp at hv; subst hv; rfl)
def tU64 : Ty UInt64 := Ty.flat (fun b => [uv b]) 1 8 (fun _ => rfl) (fun _ v hv => by simp at hv; subst hv; rfl)
def tI64 : Ty Int := Ty.flat (fun b => [iv b]) 1 8 (fun _ => rfl) (fun _ v hv => by simp at hv; subst hv; rfl)
def tBool : Ty Bool := Ty.flat (fun b => [.bool b]) 1 1 (fun _ => rfl) (fun _ v hv => by simp at hv; subst hv; rfl)
def tStr : Ty (List UInt8) := Ty.flat (fun b => [sv b]) 1 16 (fun _ => rfl) (fun _ v hv => by simp at hv; subst hv; rfl)

/-- A slice as an element. -/
def tSl {α : Type} (T : Ty α) : Ty (List α) where
  sz := 1
  by_ := 24
  rep := fun σ w xs cs => ∃ v, cs = [v] ∧ Rd T σ w v xs
  len := fun ⟨v, e, _⟩ => by rw [e]; rfl
  one := fun ⟨v, e, h⟩ u hu => by
    obtain ⟨a, c, rfl, _⟩ := h
    rw [e] at hu; simp at hu; subst hu; rfl
  step := fun s ⟨v, e, h⟩ => ⟨v, e, h.step s⟩

theorem reps_u8 (σ : Nat → Nat) (w : World) : ∀ (bs : List UInt8), Reps (tU8.rep σ w) bs (bs.map bv)
  | [] => rfl
  | b :: bs => ⟨[bv b], bs.map bv, rfl, rfl, reps_u8 σ w bs⟩

theorem reps_u8_eq {σ : Nat → Nat} {w : World} : ∀ {bs : List UInt8} {cs : List Value}, Reps (tU8.rep σ w) bs cs → cs = bs.map bv
  | [], _, h => h
  | b :: bs, cs, ⟨c, r, e, hb, hr⟩ => by
    have hb' : c = [bv b] := hb
    rw [e, hb', reps_u8_eq hr]; rfl

section
variable {α : Type} {T : Ty α} {σ : Nat → Nat} {w : World} {v : Value} {xs : List α}
theorem Own.form {e : TypeId} {B : Nat} (h : Own T e B σ w v xs) : ∃ a cap, v = .slice a xs.length cap ∧ xs.length ≤ cap := h.rd.form
theorem Own.bd {e : TypeId} {B : Nat} (h : Own T e B σ w v xs) : xs.length * T.by_ ≤ 140737488355328 := h.rd.bd
theorem Rd.formL (h : Rd T σ w v xs) : ∃ a n cap, v = .slice a n cap ∧ xs.length = n := by
  obtain ⟨a, cap, e, _⟩ := h.form; exact ⟨a, _, cap, e, rfl⟩
theorem Own.formL {e : TypeId} {B : Nat} (h : Own T e B σ w v xs) : ∃ a n cap, v = .slice a n cap ∧ xs.length = n := h.rd.formL
theorem Rd.ln {a : Option Addr} {n cap : Nat} (h : Rd T σ w (.slice a n cap) xs) : xs.length = n := by
  obtain ⟨_, _, e, _⟩ := h.form; injection e with _ e2 _; exact e2.symm
theorem Own.ln {e : TypeId} {B : Nat} {a : Option Addr} {n cap : Nat} (h : Own T e B σ w (.slice a n cap) xs) : xs.length = n := h.rd.ln
theorem Own.cast {e : TypeId} {B : Nat} {a : Option Addr} {n n' cap : Nat} {xs' : List α} (h : Own T e B σ w (.slice a n cap) xs) (en : n = n') (ex : xs = xs') : Own T e B σ w (.slice a n' cap) xs' := by
  subst en; subst ex; exact h
theorem Rd.cast {a : Option Addr} {n n' cap : Nat} {xs' : List α} (h : Rd T σ w (.slice a n cap) xs) (en : n = n') (ex : xs = xs') : Rd T σ w (.slice a n' cap) xs' := by
  subst en; subst ex; exact h
/-- What is read, as cells. -/
theorem Rd.cells {a : Option Addr} {n cap : Nat} (h : Rd T σ w (.slice a n cap) xs) : ∃ cs, cs.length = n * T.sz ∧ n = xs.length ∧ Reps (T.rep σ w) xs cs ∧ (xs = [] ∨ ∃ ad, a = some ad ∧ ∀ j v, cs[j]? = some v → w.cell? (ad.add j) = some v) := by
  obtain ⟨a', cap', e, hc, hb, h⟩ := h
  injection e with e1 e2 e3
  subst e1; subst e2
  rcases h with h | ⟨b, o, cs, e2, hs, hr⟩
  · subst h; exact ⟨[], by simp, rfl, rfl, .inl rfl⟩
  · exact ⟨cs, Reps.length (fun x c hx => T.len hx) hr, rfl, hr, .inr ⟨_, e2, hs.cells⟩⟩
end

/-! ### 2. append -/
structure SlT (P : Program) (t e : TypeId) (sz by_ : Nat) (z : Value) : Prop where
  u : P.underlying t = some (.slice e)
  i : (P.info? e).map (fun i => (i.zero, i.size, i.bytes)) = some (some z, sz, by_)
  z : z.cells.size = sz
  p : 0 < sz

theorem run_app {P : Program} {α : Type} (T : Ty α) {t e : TypeId} {z : Value} (S : SlT P t e T.sz T.by_ z) {B : Nat} {σ : Nat → Nat} {w : World} {v u : Value} {xs ys : List α} (ty : TypeId)
    (ho : Own T e B σ w v xs) (hu : Rd T σ w u ys) (hb : (xs.length + ys.length) * T.by_ ≤ 140737488355328) (hm : xs.length + ys.length ≤ 140737488355328) (hB : B ≤ w.heap.size) :
    ∃ v' σ' w', (Builtin.append_ #[t, t] ty #[v, u]).run P w = .ok v' w' ∧ Own T e B σ' w' v' (xs ++ ys) ∧ Stp (fun b => v.ownBlock = some b) σ w σ' w' ∧ (∀ b, b < w.heap.size → v'.ownBlock = some b → v.ownBlock = some b) := by
  obtain ⟨i, hi, hz, hsz, hby⟩ := info_parts S.i
  obtain ⟨ua, uc, hue, huc⟩ := hu.form
  subst hue
  obtain ⟨news, hnl, _, hnr, hnc⟩ := hu.cells
  by_cases hy : ys = []
  · -- nothing is appended
    subst hy
    simp only [List.length_nil, Nat.add_zero, List.append_nil] at *
    refine ⟨v, σ, w, ?_, ho, Stp.refl _ _ _, fun _ _ h => h⟩
    obtain ⟨va, vc, hve, hvc⟩ := ho.form
    subst hve
    have hf : (Builtin.firstCells i.size 0 (.slice ua 0 uc)).run P w = .ok #[] w := by
      cases ua with
      | none => exact run_firstCells_none w _ _ _ _
      | some ad => exact run_firstCells_some w i.size 0 ad 0 uc [] (by simp) (fun j v h => by simp at h)
    cases va with
    | none => simp [Builtin.append_, run_underlying S.u, sizeOf, typeInfo, hi, Builtin.lenOf, hf, hvc]
    | some ad => simp [Builtin.append_, run_underlying S.u, sizeOf, typeInfo, hi, Builtin.lenOf, hf, hvc, storeCells]
  · obtain ⟨ad, rfl, hcell⟩ := hnc.resolve_left hy
    have h0 : 0 < ys.length := List.length_pos_iff.2 hy
    have hn1 : ∀ u ∈ news, u.oneCell' = true := Reps.all (fun x c hx => T.one hx) hnr
    obtain ⟨cs, how, hcr, hob, hos⟩ := ho
    have how' := how
    have hcl := Reps.length (fun x c hx => T.len hx) hcr
    have hmax : xs.length + ys.length ≤ maxLen := by simp only [maxLen]; omega
    have h63 : ((xs.length + ys.length : Nat) : Int) ≤ 9223372036854775807 := by omega
    have hlen : (cs ++ news).length = (xs.length + ys.length) * T.sz := by rw [List.length_append, hcl, hnl, Nat.add_mul]
    -- a new row
    have grown : ∀ (old : Nat), old < xs.length + ys.length → ∀ row : Array Value, row = (cs.toArray ++ news.toArray ++ Builtin.zeroCells z.cells (grownCap w (xs.length + ys.length) old e - (xs.length + ys.length))) →
        Own T e B (upd σ w.heap.size ((xs.length + ys.length) * T.sz)) (w.drew.alloc (.cells row e)) (.slice (some ⟨w.heap.size, 0, none⟩) (xs.length + ys.length) (grownCap w (xs.length + ys.length) old e)) (xs ++ ys) ∧
        Stp noM σ w (upd σ w.heap.size ((xs.length + ys.length) * T.sz)) (w.drew.alloc (.cells row e)) := by
      intro old hold row hrow
      have hge := grownCap_ge w (xs.length + ys.length) old e
      have hcm : grownCap w (xs.length + ys.length) old e ≤ maxLen := grownCap_le_maxLen w (xs.length + ys.length) old e hmax
      have hstp : Stp noM σ w (upd σ w.heap.size ((xs.length + ys.length) * T.sz)) (w.drew.alloc (.cells row e)) := (Stp.drew σ w).then (Stp.alloc σ w.drew (.cells row e) ((xs.length + ys.length) * T.sz))
      refine ⟨⟨cs ++ news, ⟨by rw [List.length_append (as := xs)]; exact hlen, .inr ⟨w.heap.size, _, row, by rw [List.length_append], hB, heap_alloc_new w.drew _, by rw [List.length_append]; exact hge, hcm, ?_, ?_⟩⟩, ?_, by rw [List.length_append]; exact hb, ?_⟩, hstp⟩
      · rw [hrow]
        simp only [Array.size_append, List.size_toArray, size_zeroCells, S.z, hcl, hnl, ← Nat.add_mul]
        congr 1
        omega
      · rw [hrow]
        simp only [Array.toList_append, List.length_append (as := xs)]
        rw [← hlen]
        exact List.take_left
      · exact Reps.append (Reps.mono (fun x c hx => T.step hstp hx) _ _ hcr) (Reps.mono (fun x c hx => T.step hstp hx) _ _ hnr)
      · intro g hg
        simp only [Value.ownBlock, Option.some.injEq] at hg
        subst hg
        rw [upd_same, List.length_append]
    rcases how.2 with ⟨rfl, hx0⟩ | ⟨g, cap, cur, rfl, hbg, hg, hnc, hcm, hcs, htake⟩
    · have hx : xs = [] := List.eq_nil_of_length_eq_zero hx0
      subst hx
      have hc0 : cs = [] := List.eq_nil_of_length_eq_zero (by simpa using hcl)
      subst hc0
      simp only [List.length_nil, Nat.zero_add] at *
      have hr := run_append_nil (P := P) w t ty e i z S.u hi hz ad ys.length uc news (by rw [hnl, hsz]) hcell h0 h63 (by rw [hby]; omega)
      obtain ⟨g1, g2⟩ := grown 0 h0 _ rfl
      simp only [List.nil_append, Array.empty_append] at g1 g2 ⊢
      refine ⟨_, _, _, hr, g1, g2.mono (fun b _ e => e.elim), fun b hb' e => ?_⟩
      simp only [Value.ownBlock, Option.some.injEq] at e
      omega
    · by_cases hroom : xs.length + ys.length ≤ cap
      · have hfit : xs.length * i.size + news.length ≤ cur.size := by rw [hnl, hcs, hsz, ← Nat.add_mul]; exact Nat.mul_le_mul_right _ hroom
        have hr := run_append_room (P := P) w t ty e i S.u hi g xs.length cap cur hg ad ys.length uc news (by rw [hnl, hsz]) hcell hn1 hroom hfit
        rw [hsz] at hr hfit
        have hσg : σ g = xs.length * T.sz := hos g rfl
        have hgl : g < w.heap.size := (Array.getElem?_eq_some_iff.1 hg).1
        have hheap := setRow_heap w g cur (cur.toList.take (xs.length * T.sz) ++ news ++ cur.toList.drop (xs.length * T.sz + news.length)).toArray e (0, 0) hg
        have hstp : Stp (fun b => Value.ownBlock (.slice (some ⟨g, 0, none⟩) xs.length cap) = some b) σ w (upd σ g ((xs.length + ys.length) * T.sz)) (w.setRow g (cur.toList.take (xs.length * T.sz) ++ news ++ cur.toList.drop (xs.length * T.sz + news.length)).toArray) := by
          refine ⟨rfl, rfl, rfl, by simp, fun b _ hb' => setRow_other w g b _ (fun e => hb' (by simp [Value.ownBlock, e])), fun b _ hb' => upd_ne σ _ (fun e => hb' (by simp [Value.ownBlock, e])), fun b o hb' hlt => ?_, fun b _ => ?_⟩
          · by_cases eb : b = g
            · subst eb
              rw [hσg] at hlt
              rw [cell_of_row _ b o _ e (0, 0) hheap, cell_of_row _ b o _ e (0, 0) hg]
              rw [List.getElem?_toArray, List.append_assoc, List.getElem?_append_left (by simp; omega), List.getElem?_take]
              simp [hlt]
            · exact World.cell?_of_block (setRow_other w g b _ eb)
          · by_cases eb : b = g
            · subst eb; rw [upd_same, hσg]; exact Nat.mul_le_mul_right _ (by omega)
            · rw [upd_ne σ _ eb]; exact Nat.le_refl _
        refine ⟨_, _, _, hr, ⟨cs ++ news, ⟨by rw [List.length_append (as := xs)]; exact hlen, .inr ⟨g, cap, _, by rw [List.length_append], hbg, hheap, by rw [List.length_append]; exact hroom, hcm, ?_, ?_⟩⟩, ?_, by rw [List.length_append]; exact hb, ?_⟩, hstp, fun b _ e => e⟩
        · simp only [List.size_toArray, List.length_append, List.length_take, List.length_drop, Array.length_toList]
          omega
        · rw [htake, List.length_append (as := xs), ← hlen]
          exact List.take_left
        · exact Reps.append (Reps.mono (fun x c hx => T.step hstp hx) _ _ hcr) (Reps.mono (fun x c hx => T.step hstp hx) _ _ hnr)
        · intro g' hg'
          simp only [Value.ownBlock, Option.some.injEq] at hg'
          subst hg'
          rw [upd_same, List.length_append]
      · have holds : ∀ j u, cs[j]? = some u → w.cell? ((⟨g, 0, none⟩ : Addr).add j) = some u := how'.cells (g := g) rfl
        have hr := run_append_grow (P := P) w t ty e i z S.u hi hz ⟨g, 0, none⟩ xs.length cap cs (by rw [hcl, hsz]) holds ad ys.length uc news (by rw [hnl, hsz]) hcell (by omega) h63 (growslice_fits (by omega) (by rw [hby]; exact hb))
        obtain ⟨g1, g2⟩ := grown cap (by omega) _ rfl
        refine ⟨_, _, _, hr, g1, g2.mono (fun b _ e => e.elim), fun b hb' e => ?_⟩
        simp only [Value.ownBlock, Option.some.injEq] at e
        omega

section
variable {P : Program} {ops : Array Oper} {Q : Exit → Act → World → Prop} {Kp : Act → World → Prop} {n i : Nat} {l l' : Sl} {a : Act} {w w' : World} {C : Code} {M : Nat → Prop} {σ : Nat → Nat}

theorem r_append {α : Type} (T : Ty α) {t e : TypeId} {z : Value} (S : SlT P t e T.sz T.by_ z) {d : Nat} {x y : Operand} (hF : Fr a n l) (ho : (ops[i]?).map (fun o => (o.dst, o.op)) = some (some d, .call ⟨.builtin .append, #[x, y], #[t, t]⟩)) (hk : okAt ops i n l = true)
    {B : Nat} {v u : Value} {xs ys : List α} (hx : evl l x = v) (hy : evl l y = u) (hO : Own T e B σ w v xs) (hR : Rd T σ w u ys) (hb : (xs.length + ys.length) * T.by_ ≤ 140737488355328) (hm : xs.length + ys.length ≤ 140737488355328) (hB : B ≤ w.heap.size)
    (K : ∀ a' σ' w' v', Stp (fun b => v.ownBlock = some b) σ w σ' w' → Own T e B σ' w' v' (xs ++ ys) → (∀ b, b < w.heap.size → v'.ownBlock = some b → v.ownBlock = some b) → Fr a' n ((d, v') :: l) → Kp a' w') : wpOp P ops Q i Kp a w := by
  obtain ⟨o, h1, h2, h3⟩ := opAt_of ho
  obtain ⟨v', σ', w', hr, h4, h5, h6⟩ := run_app T S o.type hO hR hb hm hB
  refine r_val hF ho hk v' w' ?_ fun a' hF' => K a' σ' w' v' h5 h4 h6 hF'
  intro o' e'
  obtain ⟨v'', σ'', w'', hr', _⟩ := run_app T S o'.type hO hR hb hm hB
  have hsame : (Builtin.append_ #[t, t] o'.type #[v, u]) = (Builtin.append_ #[t, t] o.type #[v, u]) := rfl
  simp only [execOp, e', resolve, List.map_toArray, List.map_cons, List.map_nil, hx, hy, Sem.run_bind, Sem.run_pure, Result.andThen_ok, invoke, builtin, hsame, hr]

/-- 'string(b)'. -/
theorem exec_b2s {t s e : TypeId} {x : Operand} (ht : P.underlying t = some (.slice e)) (he : P.underlying e = some (.int .u8)) (hs : P.underlying s = some .string) {v : Value} {bs : List UInt8} (hx : evl l x = v) (hR : Rd tU8 σ w v bs) :
    ∀ o : Oper, o.op = .convert t s x → (execOp (evl l) o).run P w = .ok (.value (sv bs)) w := by
  intro o e'
  obtain ⟨ad, cap, rfl, hc⟩ := hR.form
  have hrun : (convert t s (.slice ad bs.length cap)).run P w = .ok (sv bs) w := by
    cases ad with
    | none =>
      obtain ⟨a', cap', e2, _, _, h⟩ := hR
      injection e2 with e3 _ _
      subst e3
      rcases h with h | ⟨b, o, cs, e4, _⟩
      · subst h
        exact run_convert_bytes_nil w t e ht he _ _ s hs
      · simp at e4
    | some ad =>
      refine run_convert_bytes_back w t s e ad cap bs ht he hs (fun j hj => ?_)
      obtain ⟨b, o', c, e2, hseg, hrep⟩ := hR.at j hj
      injection e2 with e2
      subst e2
      have hrep' : c = [bv bs[j]] := hrep
      subst hrep'
      have := (hseg.h 0 _ rfl).2
      rw [Addr.add_lit]
      simpa [tU8, Ty.flat] using this
  simp only [execOp, e', hx, Sem.run_bind, hrun, Result.andThen_ok, Sem.run_pure]

/-- 's + t'. -/
theorem exec_cat {t u : TypeId} {x y : Operand} {p q : List UInt8} (hx : evl l x = sv p) (hy : evl l y = sv q) (hb : p.length + q.length ≤ 9000000000000000000) :
    ∀ o : Oper, o.op = .binOp .add t x y u → (execOp (evl l) o).run P w = .ok (.value (sv (p ++ q))) w := by
  intro o e'
  have hsz : ¬ (((p.toArray.size + q.toArray.size : Nat) : Int) > IntKind.i64.max) := by
    have : IntKind.i64.max = 9223372036854775807 := by decide
    rw [this]; simp; omega
  simp only [execOp, e', hx, hy, eqGuard, binOp, Op.stringOp, Sem.run_bind, Sem.run_pure, Result.andThen_ok]
  show ((if ((p.toArray.size + q.toArray.size : Nat) : Int) > IntKind.i64.max then (unsupported _ : Sem Value) else pure (.string (⟨p.toArray⟩ ++ ⟨q.toArray⟩))).run P w).andThen (fun a w' => Result.ok (Next.value a) w') = _
  rw [if_neg hsz]
  simp only [Sem.run_pure, Result.andThen_ok]
  congr 3

/-- '[]byte(s)': new memory; nothing is appended to it. -/
theorem r_s2b {d : Nat} {t s e : TypeId} {x : Operand} (hF : Fr a n l) (ho : (ops[i]?).map (fun o => (o.dst, o.op)) = some (some d, .convert s t x)) (hk : okAt ops i n l = true) (σ : Nat → Nat)
    (ht : P.underlying t = some (.slice e)) (he : P.underlying e = some (.int .u8)) (hs : P.underlying s = some .string) {bs : List UInt8} (hx : evl l x = sv bs) (hb : bs.length ≤ 140737488355328)
    (K : ∀ a' σ' w' v, Stp noM σ w σ' w' → Rd tU8 σ' w' v bs → Fr a' n ((d, v) :: l) → Kp a' w') : wpOp P ops Q i Kp a w := by
  have hrun := run_bytes_of_string (P := P) w s t e ⟨bs.toArray⟩ hs ht he
  refine r_val hF ho hk (.slice (some ⟨w.heap.size, 0, none⟩) bs.length (grownCap w bs.length 0 e)) (w.drew.alloc (.cells (bytesRow ⟨bs.toArray⟩ (grownCap w bs.length 0 e)) e ((bytesRow ⟨bs.toArray⟩ (grownCap w bs.length 0 e)).size, (bytesRow ⟨bs.toArray⟩ (grownCap w bs.length 0 e)).size + 1))) (fun o e' => ?_) fun a' hF' => K a' (upd σ w.heap.size bs.length) _ _ ?_ ?_ hF'
  · simp only [execOp, e', hx, Sem.run_bind, hrun, Result.andThen_ok, Sem.run_pure]
    rfl
  · exact (Stp.drew σ w).then (Stp.alloc σ w.drew _ _)
  · refine ⟨_, _, rfl, grownCap_ge _ _ _ _, by rw [show tU8.by_ = 1 from rfl]; simp only [big]; omega, ?_⟩
    by_cases h0 : bs = []
    · exact .inl h0
    · right
      refine ⟨w.heap.size, 0, bs.map bv, rfl, ⟨.inr (by simp), fun j v hj => ?_⟩, reps_u8 _ _ _⟩
      have hjl : j < bs.length := by
        have := (List.getElem?_eq_some_iff.1 hj).1
        simpa using this
      refine ⟨by rw [upd_same]; omega, ?_⟩
      rw [Nat.zero_add]
      refine (cell_of_row _ _ j _ _ _ (heap_alloc_new w.drew _)).trans ?_
      have hv : v = bv (bs[j]'hjl) := by
        rw [List.getElem?_map, List.getElem?_eq_getElem hjl] at hj
        simpa using hj.symm
      subst hv
      unfold bytesRow
      rw [Array.getElem?_append_left (by simp; exact hjl)]
      simp [hjl]

/-- 'v[lo:hi]'. -/
theorem exec_slice {α : Type} {T : Ty α} {t e : TypeId} {x : Operand} {lo hi : Option Operand}
    {ad : Option Addr} {len cap : Nat} {xs : List α} (hR : Rd T σ w (.slice ad len cap) xs) (hx : evl l x = .slice ad len cap) (hu : P.underlying t = some (.slice e)) (hs : ∀ w, (sizeOf e).run P w = .ok T.sz w)
    (p q : Nat) (hlo : lo.map (evl l) = some (.int .i64 (p : Int)) ∨ (lo = none ∧ p = 0)) (hhi : hi.map (evl l) = some (.int .i64 (q : Int)) ∨ (hi = none ∧ q = xs.length)) (hpq : p ≤ q) (hq : q ≤ xs.length) :
    ∀ o : Oper, o.op = .slice t x lo hi none → (execOp (evl l) o).run P w = .ok (.value (.slice (if cap = p then ad else ad.map (·.add (p * T.sz))) (q - p) (cap - p))) w := by
  obtain ⟨_, _, e2, hcap⟩ := hR.form
  injection e2 with e3 e4 e5
  subst e4; subst e5
  intro o e'
  have hq1 : (0 : Int) ≤ (q : Int) ∧ (q : Int) ≤ ((cap : Nat) : Int) := ⟨by omega, by omega⟩
  have hp1 : (0 : Int) ≤ (p : Int) ∧ (p : Int) ≤ ((q : Nat) : Int) := ⟨by omega, by omega⟩
  have hp0 : (0 : Int) ≤ (p : Int) ∧ (p : Int) ≤ ((xs.length : Nat) : Int) := ⟨by omega, by omega⟩
  have hb : (Instr.sliceBounds true xs.length cap (lo.map (evl l)) (hi.map (evl l)) none).run P w = .ok (p, q, cap) w := by
    rcases hlo with h1 | ⟨h1, h1'⟩ <;> rcases hhi with h2 | ⟨h2, h2'⟩
    · rw [h1, h2]
      simp [Instr.sliceBounds, Instr.sliceBound, asIntOf, hq1.1, hq1.2, hp1.1, hp1.2, hpq, Int.ofNat_le.1 hq1.2]
    · rw [h1]; subst h2; subst h2'
      simp [Instr.sliceBounds, Instr.sliceBound, asIntOf, hpq]
    · rw [h2]; subst h1; subst h1'
      simp [Instr.sliceBounds, Instr.sliceBound, asIntOf, Int.ofNat_le.1 hq1.2]
    · subst h1; subst h1'; subst h2; subst h2'
      simp [Instr.sliceBounds]
  have hat : (Instr.sliceAt t (.slice ad xs.length cap) (lo.map (evl l)) (hi.map (evl l)) none).run P w = .ok (.slice (if cap = p then ad else ad.map (·.add (p * T.sz))) (q - p) (cap - p)) w := by
    simp only [Instr.sliceAt, Instr.slice, Sem.run_bind, run_underlying hu, Result.andThen_ok, hb, hs, Sem.run_pure]
  simp only [execOp, e', hx, Option.map_none, Sem.run_bind, hat, Result.andThen_ok, Sem.run_pure]
end
end Go.Proofs.Ytaoamokfbhlaaaa.E
