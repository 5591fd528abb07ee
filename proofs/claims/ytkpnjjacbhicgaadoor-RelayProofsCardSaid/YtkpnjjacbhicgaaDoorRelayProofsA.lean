/- The law RelayProofs: whatever it is given, it answers true and leaves what it was given as it was. The package variables that it reads lie as the program lays them. -/
import Derived.Test.YtkpnjjacbhicgaaDoorRows
import Derived.Test.YtkpnjjacbhicgaaDoorCards
import Derived.Test.YtkpnjjacbhicgaaDoorTie
import Derived.Test.YtkpnjjacbhicgaaDoorRelayProofsM5
import Derived.WalkKit
import Derived.ProofKit
import Derived.OpenShut
import Derived.ShutString
import Derived.ChangeOld
import Derived.Below
import Derived.SizedLaws
import Derived.LaidMore
import Derived.LaidHandle
import Derived.Stop.Joined
import Derived.SevenTiedAt
import Derived.Handed
import Derived.ChangeSame
import Derived.ChangeVars
import Derived.JoinedOf
import Derived.RowKit
import Derived.LaidLaws
set_option linter.unusedVariables false
set_option maxRecDepth 100000
namespace Go.Proofs.YtkpnjjacbhicgaaDoor.relayProofs
open Go.ChangeShapes Go.WideShapes Go.ChangeAt Go.RowKit Go.Proofs.YtkpnjjacbhicgaaDoor.E Go.Proofs.YtkpnjjacbhicgaaDoor.X
open Go.ChangeMaps (open_string shut_string)
theorem own : ownKnob Tryd.prog.godebug = none := by kernel_rfl
theorem laidOut : laidOutB Tryd.prog = true := by kernel_rfl
theorem g_words : Tryd.prog.globalNamed "ferryman/sha.words" = some 1 := by kernel_rfl
theorem t_words : (Tryd.prog.globals[1]?).map (·.type) = some 151 := by kernel_rfl
def ksTab : List Int := kTab.map fun x => (x.toNat : Int)
theorem ksTab_map : (ksTab.map fun k => Value.int .u32 k) = kTab.map wv := by unfold ksTab; rw [List.map_map]; rfl
abbrev laidL : List (String × DataW Unit) := Rows.relayProofsRow.laid
theorem of_laid {W : World} (h : laidMetH Tryd.prog laidL W) : Seg (sig0 W) W 1 0 (kTab.map wv) := by
  have hd : laidMet Tryd.prog [("ferryman/sha.words", Rows.laid_ferryman_sha_words)] W := h
  obtain ⟨ps, ⟨g0, y0, cs0, f0, p0, q0, hg0, ht0, hv0, hd0, _, _⟩, _, _⟩ := hd
  obtain rfl := Option.some.inj (g_words.symm.trans hg0)
  obtain rfl := Option.some.inj (t_words.symm.trans ht0)
  exact by rw [← ksTab_map]; exact seg_of_laid (ks := ksTab) (n := 64) (e := 137) g_words hv0 hd0 (by kernel_rfl) (by kernel_rfl) (by kernel_rfl) (by kernel_rfl) (by kernel_rfl)
theorem door_met (os : Os) (args : Array Value) : laidMetH Tryd.prog laidL ((World.doorLaid Tryd.prog 400 os).forCall (fun _ _ => 0) ⟨#[], args, []⟩).memory :=
  laidMetH_of_parts3 (fuel := 8) (laidMet_of_run' 8 (by kernel_rfl) (by kernel_rfl)) (by kernel_rfl) (by kernel_rfl)
theorem lifted (os : Os) (started : os.Started) (H : Type) (enc : TypeId × Value → H) :
    ReturnsInHanded {} Tryd.checked os 3 .any (fun w args => (Rows.relayProofsSpec.pre enc Tryd.prog Tryd.f3 [] false w args ∧ laidMetH Tryd.prog laidL w) ∧ sizedMet enc Tryd.prog Tryd.f3 (OpenSpec.ofChange Rows.relayProofsSpec) false w args)
      (Rows.relayProofsSpec.post enc Tryd.prog Tryd.f3 false true false false) := by
  refine returnsInHanded_of_change_and (C := Tryd.checked) (X := fun w _ => laidMetH Tryd.prog laidL w) (fun _ _ _ hh h => h.of_heap hh) own started (by kernel_rfl) Tryd.func3
    (ChangeSpec.witness_shaped (enc := enc) (C := Tryd.checked) (os := os) (X := fun w _ => laidMetH Tryd.prog laidL w) false (World.doorLaid Tryd.prog 400 os) #[.slice none 0 0, .slice none 0 0, .slice none 0 0] 8 rfl (World.shaped_of_RefB (by kernel_rfl) (by kernel_rfl)) (by kernel_rfl) (by kernel_rfl) (by kernel_rfl) (door_met os _)) ?_
  intro W base args ds gs before hval0 hW _ hsz0 hL _
  have hsz : (DataW.weightsEach Tryd.prog (Tryd.f3.params.toList ++ Rows.relayProofsSpec.plain.varTypes Tryd.prog) (ds ++ gs)).all (· ≤ reachBytes) = true := hsz0
  have hval : ∀ (j : Nat) t v, Tryd.f3.params[j]? = some t → args[j]? = some v → Value.okWide Tryd.prog W .any base t v := hval0
  have hW' := hW
  obtain ⟨p, q, hA0, hV, rfl, hfz, hnd⟩ := hW
  have hA : DataW.TrodAll enc Tryd.prog W 0 (fun _ => true) true Tryd.f3.params.toList args.toList ds p := hA0
  rw [Tryd.params3] at hA hval hsz
  obtain ⟨v0, vs0, d0, ds0, p0, q0, hargs, rfl, rfl, h0, r0⟩ := trodAll_cons hA
  obtain ⟨v1, vs1, d1, ds1, p1, q1, rfl, rfl, rfl, h1, r1⟩ := trodAll_cons r0
  obtain ⟨v2, vs2, d2, ds2, p2, q2, rfl, rfl, rfl, h2, r2⟩ := trodAll_cons r1
  obtain ⟨rfl, rfl, rfl⟩ := trodAll_nil r2
  obtain rfl : args = #[v0, v1, v2] := by cases args; simp_all
  obtain ⟨rfl, rfl⟩ := trodVars_none hV
  obtain ⟨a0, len0, cap0, rfl⟩ := okWide_slice Tryd.underlying22 (hval 0 22 v0 rfl rfl)
  have k0 := h0
  have lt0 : ∀ x ∈ p0, x.block < W.heap.size := by obtain ⟨m, hm⟩ := k0; exact DataW.trod_lt m _ _ _ hm
  obtain ⟨x0, R0⟩ := arg_slice (opens_slice (T := tAct) Tryd.underlying22 (by kernel_rfl) (by kernel_rfl) (by decide) opAct) h0 rfl hsz (j := 0) (t := 22) rfl rfl
  obtain ⟨a1, len1, cap1, rfl⟩ := okWide_slice Tryd.underlying23 (hval 1 23 v1 rfl rfl)
  have k1 := h1
  have lt1 : ∀ x ∈ p1, x.block < W.heap.size := by obtain ⟨m, hm⟩ := k1; exact DataW.trod_lt m _ _ _ hm
  obtain ⟨x1, R1⟩ := arg_slice (opens_slice (T := tU8) Tryd.underlying23 (by kernel_rfl) (by kernel_rfl) (by decide) (opens_u8 Tryd.underlying5)) h1 rfl hsz (j := 1) (t := 23) rfl rfl
  obtain ⟨a2, len2, cap2, rfl⟩ := okWide_slice Tryd.underlying23 (hval 2 23 v2 rfl rfl)
  have k2 := h2
  have lt2 : ∀ x ∈ p2, x.block < W.heap.size := by obtain ⟨m, hm⟩ := k2; exact DataW.trod_lt m _ _ _ hm
  obtain ⟨x2, R2⟩ := arg_slice (opens_slice (T := tU8) Tryd.underlying23 (by kernel_rfl) (by kernel_rfl) (by decide) (opens_u8 Tryd.underlying5)) h2 rfl hsz (j := 2) (t := 23) rfl rfl
  clear hA0 hval0 hsz0 hsz
  have L_words := of_laid hL
  have one : ∀ n, (nuOf [.bool false, .slice a0 len0 cap0, .slice a1 len1 cap1, .slice a2 len2 cap2] n).oneCell' = true := nuOf_one (by simp only [List.mem_cons, List.not_mem_nil, or_false]; rintro v (rfl | rfl | rfl | rfl) <;> first | rfl)
  have S : Sat (G := GT) (nuOf [.bool false, .slice a0 len0 cap0, .slice a1 len1 cap1, .slice a2 len2 cap2]) (fun _ _ => False) (sig0 W) W [.pr wordsP, .rd 70 x0, .rd 5 x1, .rd 5 x2] := by
    refine sat0 one (fun k e hk => ?_) rfl
    match k, hk with
    | 0, hk => simp only [List.getElem?_cons_zero, Option.some.injEq] at hk; subst hk; exact L_words
    | 1, hk => simp only [List.getElem?_cons_succ, List.getElem?_cons_zero, Option.some.injEq] at hk; subst hk; exact R0
    | 2, hk => simp only [List.getElem?_cons_succ, List.getElem?_cons_zero, Option.some.injEq] at hk; subst hk; exact R1
    | 3, hk => simp only [List.getElem?_cons_succ, List.getElem?_cons_zero, Option.some.injEq] at hk; subst hk; exact R2
    | k + 4, hk => simp at hk
  have hcall := law_calls (RelayProofs_ok x0 x1 x2 (rd_u8_len R1) (rd_u8_len R2)) S
  refine hcall.mono fun e W' he => ?_
  obtain ⟨σ', v, rfl, st, rfl⟩ := he
  have bel := st.below
  exact ⟨_, rfl, _, _, _, [], _, [], hW', trodAll_mk1 (shut_bool Tryd.underlying4 _), (trodAll_cons_mk (Below.trod laidOut (by kernel_rfl) (of_decide_eq_true (by kernel_rfl)) k0 bel lt0) (trodAll_cons_mk (Below.trod laidOut (by kernel_rfl) (of_decide_eq_true (by kernel_rfl)) k1 bel lt1) (trodAll_cons_mk (Below.trod laidOut (by kernel_rfl) (of_decide_eq_true (by kernel_rfl)) k2 bel lt2) trodAll_mk0))), rfl, bel.frame _, fun h => by cases h⟩

end Go.Proofs.YtkpnjjacbhicgaaDoor.relayProofs
