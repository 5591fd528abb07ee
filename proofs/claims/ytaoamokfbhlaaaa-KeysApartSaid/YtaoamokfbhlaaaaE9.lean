/- More plain arithmetic of the engine: bytes. -/
import Derived.Test.YtaoamokfbhlaaaaE8
set_option linter.unusedVariables false
set_option linter.unusedSimpArgs false
namespace Go.Proofs.Ytaoamokfbhlaaaa.E
open Go Go.RowKit
theorem u8_add (a b : UInt8) : IntKind.u8.wrap ((a.toNat : Int) + (b.toNat : Int)) = ((a + b).toNat : Int) := by
  rw [wrap_u rfl, UInt8.toNat_add]
  show _ % (2 ^ 8 : Int) = _
  omega
theorem u8_sub (a b : UInt8) : IntKind.u8.wrap ((a.toNat : Int) - (b.toNat : Int)) = ((a - b).toNat : Int) := by
  rw [wrap_u rfl, UInt8.toNat_sub]
  have := a.toNat_lt
  have := b.toNat_lt
  show _ % (2 ^ 8 : Int) = _
  omega
theorem u8_mul (a b : UInt8) : IntKind.u8.wrap ((a.toNat : Int) * (b.toNat : Int)) = ((a * b).toNat : Int) := by
  rw [wrap_u rfl, UInt8.toNat_mul]
  show _ % (2 ^ 8 : Int) = _
  rw [← Int.natCast_mul]
  have h : (2 ^ 8 : Int) = ((2 ^ 8 : Nat) : Int) := by decide
  rw [h]
  exact (Int.natCast_emod _ _).symm
theorem u8_rem (a b : UInt8) (hb : b.toNat ≠ 0) : Int.tmod (a.toNat : Int) (b.toNat : Int) = ((a % b).toNat : Int) := by
  rw [UInt8.toNat_mod]
  exact (Int.ofNat_tmod _ _).symm
theorem u8_quo (a b : UInt8) (hb : b.toNat ≠ 0) : IntKind.u8.wrap (Int.tdiv (a.toNat : Int) (b.toNat : Int)) = ((a / b).toNat : Int) := by
  rw [wrap_u rfl, UInt8.toNat_div]
  have h1 : Int.tdiv (a.toNat : Int) (b.toNat : Int) = ((a.toNat / b.toNat : Nat) : Int) := (Int.ofNat_tdiv _ _).symm
  rw [h1]
  show _ % (2 ^ 8 : Int) = _
  have h3 := a.toNat_lt
  have h2 : a.toNat / b.toNat ≤ a.toNat := Nat.div_le_self _ _
  generalize a.toNat / b.toNat = q at *
  omega

/-! ### Records among the arguments -/
theorem weights_each {H : Type} {P : Program} {m : Nat} : ∀ {ts : List TypeId} {ds : List (DataW H)} {i : Nat} {t : TypeId} {d : DataW H}, ts[i]? = some t → ds[i]? = some d → m ∈ d.weights P t → m ∈ DataW.weightsEach P ts ds
  | [], _, i, t, d, h, _, _ => by simp at h
  | _ :: _, [], i, t, d, _, h, _ => by simp at h
  | u :: ts, e :: ds, 0, t, d, h1, h2, h => by
    simp only [List.getElem?_cons_zero, Option.some.injEq] at h1 h2
    subst h1; subst h2
    simp only [DataW.weightsEach, List.mem_append]
    exact .inl h
  | u :: ts, e :: ds, i + 1, t, d, h1, h2, h => by
    simp only [List.getElem?_cons_succ] at h1 h2
    simp only [DataW.weightsEach, List.mem_append]
    exact .inr (weights_each h1 h2 h)
theorem opens_field {P : Program} {t : TypeId} {fs : Array Field} (ht : P.underlying t = some (.struct fs)) {H : Type} {enc : TypeId × Value → H} {w : World} {sp : Nat → Bool} {held : Bool} {fuel : Nat} {cs : List Value} {x : DataW H × List MemPlace}
    (h : DataW.trod enc P w 0 sp held fuel t cs = some x) (hw : ∀ n ∈ x.1.weights P t, n ≤ reachBytes) :
    cs.length = P.cellsOf t ∧ ∀ (i : Nat) (f : Field), fs[i]? = some f → ∀ {α : Type} {T : Ty α}, Opens P f.type T → ∀ off sz, f.offset = off → P.cellsOf f.type = sz → ∃ a, T.rep (sig0 w) w a ((cs.drop off).take sz) := by
  obtain ⟨xs, n, _, rfl, hl, hlen, hf⟩ := DataW.trod_struct ht h
  refine ⟨hl, fun i f hi α T O off sz ho hs => ?_⟩
  subst ho; subst hs
  have h1 := hf i f hi
  have hlt : i < xs.length := by
    rw [hlen]
    exact (Array.getElem?_eq_some_iff.1 hi).1
  rw [List.getElem?_eq_getElem hlt] at h1
  refine O h1 fun m hm => hw m ?_
  simp only [DataW.weights, ht]
  refine weights_each (i := i) (t := f.type) (d := (xs[i]).1) ?_ ?_ hm
  · rw [List.getElem?_map, Array.getElem?_toList, hi]; rfl
  · rw [List.getElem?_map, List.getElem?_eq_getElem hlt]; rfl
theorem opens_i64 {P : Program} {t : TypeId} (ht : P.underlying t = some (.int .i64)) : Opens P t tI64 := by
  intro H enc w sp held fuel cs x h _
  obtain ⟨n, rfl, _, hw⟩ := DataW.trod_int ht h
  exact ⟨n, rfl⟩
end Go.Proofs.Ytaoamokfbhlaaaa.E
