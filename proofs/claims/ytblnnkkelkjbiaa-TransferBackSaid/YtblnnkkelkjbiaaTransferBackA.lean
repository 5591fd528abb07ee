/- The law TransferBack: whatever it is given, it answers true and leaves what it was given as it was. No condition. -/
import Derived.Test.YtblnnkkelkjbiaaRows
import Derived.Test.YtblnnkkelkjbiaaTransferBackM4
import Derived.WalkKit
import Derived.ProofKit
import Derived.OpenShut
import Derived.ShutString
import Derived.ChangeOld
import Derived.Below
import Derived.SizedLaws
set_option linter.unusedVariables false
set_option maxRecDepth 100000
namespace Go.Proofs.Ytblnnkkelkjbiaa.transferBack
open Go.ChangeShapes Go.WideShapes Go.ChangeAt Go.RowKit Go.Proofs.Ytblnnkkelkjbiaa.E Go.Proofs.Ytblnnkkelkjbiaa.X
open Go.ChangeMaps (open_string shut_string)
theorem own : ownKnob Try.prog.godebug = none := by kernel_rfl
theorem laidOut : laidOutB Try.prog = true := by kernel_rfl
theorem lifted (os : Os) (started : os.Started) (H : Type) (enc : TypeId × Value → H) :
    ReturnsInHanded {} Try.checked os 4 .any (Rows.transferBackSpec.pre6 enc Try.prog Try.f4 Rows.transferBackRow.domain false) (Rows.transferBackSpec.post enc Try.prog Try.f4 false true false false) := by
  refine returnsInHanded_of_change_sized (C := Try.checked) own started (by kernel_rfl) Try.func4
    (ChangeSpec.witness6 (enc := enc) (C := Try.checked) false ⟨#[], #[.slice none 0 0, .agg #[.int .u8 0, .int .u8 0, .int .u8 0, .int .u8 0, .int .u8 0, .int .i64 0, .int .u64 0, .int .u64 0, .string ByteArray.empty, .int .u64 0, .string ByteArray.empty, .string ByteArray.empty, .int .u64 0]], []⟩ 8 (by kernel_rfl) (by kernel_rfl) (by kernel_rfl) (by kernel_rfl)) ?_
  intro W base args ds gs before hval0 hW hcnd hsz0 _
  have hsz : (DataW.weightsEach Try.prog (Try.f4.params.toList ++ Rows.transferBackSpec.plain.varTypes Try.prog) (ds ++ gs)).all (· ≤ reachBytes) = true := hsz0
  have hval : ∀ (j : Nat) t v, Try.f4.params[j]? = some t → args[j]? = some v → Value.okWide Try.prog W .any base t v := hval0
  have hW' := hW
  obtain ⟨p, q, hA0, hV, rfl, hfz, hnd⟩ := hW
  have hA : DataW.TrodAll enc Try.prog W 0 (fun _ => true) true Try.f4.params.toList args.toList ds p := hA0
  rw [Try.params4] at hA hval hsz
  obtain ⟨v0, vs0, d0, ds0, p0, q0, hargs, rfl, rfl, h0, r0⟩ := trodAll_cons hA
  obtain ⟨v1, vs1, d1, ds1, p1, q1, rfl, rfl, rfl, h1, r1⟩ := trodAll_cons r0
  obtain ⟨rfl, rfl, rfl⟩ := trodAll_nil r1
  obtain rfl : args = #[v0, v1] := by cases args; simp_all
  obtain ⟨rfl, rfl⟩ := trodVars_none hV
  obtain ⟨a0, len0, cap0, rfl⟩ := okWide_slice Try.underlying40 (hval 0 40 v0 rfl rfl)
  have k0 := h0
  have lt0 : ∀ x ∈ p0, x.block < W.heap.size := by obtain ⟨m, hm⟩ := k0; exact DataW.trod_lt m _ _ _ hm
  obtain ⟨x0, R0⟩ := arg_slice (opens_slice (T := tCoinB) Try.underlying40 (by kernel_rfl) (by kernel_rfl) (by decide) opCoinB) h0 rfl hsz (j := 0) (t := 40) rfl rfl
  obtain ⟨R0, Q0⟩ := coins_sp R0
  obtain ⟨cs1, rfl, sz1⟩ := okWide_struct Try.underlying44 (hval 1 44 v1 rfl rfl)
  have k1 := h1
  have lt1 : ∀ x ∈ p1, x.block < W.heap.size := by obtain ⟨m, hm⟩ := k1; exact DataW.trod_lt m _ _ _ hm
  obtain ⟨x1, X1⟩ := arg_any opTActB h1 hsz (j := 1) (t := 44) rfl rfl
  obtain ⟨rfl, s1a, s1b, s1c⟩ := tact_rep X1
  clear hA0 hval0 hsz0 hsz
  have one : ∀ n, (nuOf [.slice a0 len0 cap0] n).oneCell' = true := nuOf_one (by simp only [List.mem_cons, List.not_mem_nil, or_false]; rintro v (rfl) <;> first | rfl)
  have S : Sat (G := GT) (nuOf [.slice a0 len0 cap0]) (fun _ _ => False) (sig0 W) W [.rd 46 x0] := by
    refine sat0 one (fun k e hk => ?_) rfl
    match k, hk with
    | 0, hk => simp only [List.getElem?_cons_zero, Option.some.injEq] at hk; subst hk; exact R0
    | k + 1, hk => simp at hk
  have hcall := law_calls (TransferBack_ok x0 x1 (rd_ln R0 (by decide)) Q0 (pkA_ln s1a s1b s1c).1 (pkA_ln s1a s1b s1c).2.1 (pkA_ln s1a s1b s1c).2.2) S
  refine hcall.mono fun e W' he => ?_
  obtain ⟨σ', v, rfl, st, rfl⟩ := he
  have bel := st.below
  exact ⟨_, rfl, _, _, _, [], _, [], hW', trodAll_mk1 (shut_bool Try.underlying4 _), (trodAll_cons_mk (Below.trod laidOut (by kernel_rfl) (of_decide_eq_true (by kernel_rfl)) k0 bel lt0) (trodAll_cons_mk (Below.trod laidOut (by kernel_rfl) (of_decide_eq_true (by kernel_rfl)) k1 bel lt1) trodAll_mk0)), rfl, bel.frame _, fun h => by cases h⟩
end Go.Proofs.Ytblnnkkelkjbiaa.transferBack
