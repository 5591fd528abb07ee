/- The law MultiChecks: whatever it is given, it answers true and leaves what it was given as it was. The package variables that it reads lie as the program lays them. -/
import Derived.Test.YtnicmjipbnhciaaDoorRows
import Derived.Test.YtnicmjipbnhciaaDoorCards
import Derived.Test.YtnicmjipbnhciaaDoorTie
import Derived.Test.YtnicmjipbnhciaaDoorMultiChecksM6
import Derived.WalkKit
import Derived.ProofKit
import Derived.OpenShut
import Derived.ShutString
import Derived.ChangeOld
import Derived.Below
import Derived.SizedLaws
import Derived.LaidMore
import Derived.LaidHandle
import Derived.Stop.Joined
import Derived.SevenTiedAt
import Derived.Handed
import Derived.ChangeSame
import Derived.ChangeVars
import Derived.JoinedOf
import Derived.RowKit
import Derived.LaidLaws
set_option linter.unusedVariables false
set_option maxRecDepth 100000
namespace Go.Proofs.YtnicmjipbnhciaaDoor.multiChecks
open Go.ChangeShapes Go.WideShapes Go.ChangeAt Go.RowKit Go.Proofs.YtnicmjipbnhciaaDoor.E Go.Proofs.YtnicmjipbnhciaaDoor.X
open Go.ChangeMaps (open_string shut_string)
theorem own : ownKnob Tryd.prog.godebug = none := by kernel_rfl
theorem laidOut : laidOutB Tryd.prog = true := by kernel_rfl
theorem g_roots : Tryd.prog.globalNamed "ferryman/ferrymanref01.roots" = some 1 := by kernel_rfl
theorem t_roots : (Tryd.prog.globals[1]?).map (·.type) = some 226 := by kernel_rfl
theorem g_words : Tryd.prog.globalNamed "ferryman/sha.words" = some 3 := by kernel_rfl
theorem t_words : (Tryd.prog.globals[3]?).map (·.type) = some 226 := by kernel_rfl
def ksTab : List Int := kTab.map fun x => (x.toNat : Int)
theorem ksTab_map : (ksTab.map fun k => Value.int .u32 k) = kTab.map wv := by unfold ksTab; rw [List.map_map]; rfl
theorem et : Tryd.prog.globalNamed "errors.errorType" = some 0 := by kernel_rfl
theorem rt : (Tryd.prog.cutTypes.find? (·.1 == "internal/reflectlite.rtype")).map (·.2) = some 251 := by kernel_rfl
theorem oneRow : ((List.range 312).filter fun t => Tryd.prog.rowNamed t [101, 114, 114, 111, 114]) = [49] := by kernel_rfl
theorem tsize : Tryd.prog.types.size = 312 := by kernel_rfl
abbrev laidL : List (String × DataW Unit) := Rows.multiChecksRow.laid
theorem of_laid {W : World} (h : laidMetH Tryd.prog laidL W) : Seg (sig0 W) W 1 0 (kTab.map wv) ∧ Seg (sig0 W) W 3 0 (kTab.map wv) ∧ Seg (sig0 W) W 0 0 [.iface 251 (.agg #[.pointer (some ⟨4, 49, none⟩)])] := by
  have h' : laidMet Tryd.prog [("ferryman/ferrymanref01.roots", Rows.laid_ferryman_ferrymanref01_roots), ("ferryman/sha.words", Rows.laid_ferryman_sha_words)] W ∧ handlesMet Tryd.prog [("errors.errorType", Rows.laid_errors_errorType)] W := h
  obtain ⟨hd, hh⟩ := h'
  obtain ⟨ps, ⟨g0, y0, cs0, f0, p0, q0, hg0, ht0, hv0, hd0, ⟨g1, y1, cs1, f1, p1, q1, hg1, ht1, hv1, hd1, _, _⟩, _⟩, _, _⟩ := hd
  obtain rfl := Option.some.inj (g_roots.symm.trans hg0)
  obtain rfl := Option.some.inj (t_roots.symm.trans ht0)
  obtain rfl := Option.some.inj (g_words.symm.trans hg1)
  obtain rfl := Option.some.inj (t_words.symm.trans ht1)
  refine ⟨by rw [← ksTab_map]; exact seg_of_laid (ks := ksTab) (n := 64) (e := 223) g_roots hv0 hd0 (by kernel_rfl) (by kernel_rfl) (by kernel_rfl) (by kernel_rfl) (by kernel_rfl), by rw [← ksTab_map]; exact seg_of_laid (ks := ksTab) (n := 64) (e := 223) g_words hv1 hd1 (by kernel_rfl) (by kernel_rfl) (by kernel_rfl) (by kernel_rfl) (by kernel_rfl), ?_⟩
  obtain ⟨name, u, ty, e1, e2, e3, e4, e5⟩ := hh _ (List.mem_singleton.2 rfl)
  have en : name = [101, 114, 114, 111, 114] := (Option.some.inj e1).symm
  subst en
  obtain rfl := Option.some.inj (rt.symm.trans e2)
  have hm : ty ∈ (List.range 312).filter fun t => Tryd.prog.rowNamed t [101, 114, 114, 111, 114] := List.mem_filter.2 ⟨List.mem_range.2 (by rw [← tsize]; exact e3), e4⟩
  rw [oneRow] at hm
  obtain rfl := List.mem_singleton.1 hm
  have hh2 : typeHandle Tryd.prog 49 = .pointer (some ⟨4, 49, none⟩) := by kernel_rfl
  rw [hh2] at e5
  have hc : W.cell? ⟨0, 0, none⟩ = some (.iface 251 (.agg #[.pointer (some ⟨4, 49, none⟩)])) := by simpa using World.var?_cell et e5 0
  refine ⟨.inr ?_, fun j v hj => ?_⟩
  · rcases Nat.lt_or_ge 0 W.heap.size with q | q
    · exact q
    · simp [World.cell?, Array.getElem?_eq_none q] at hc
  · cases j with
    | zero => simp only [List.getElem?_cons_zero, Option.some.injEq] at hj; subst hj; exact ⟨sig0_lt hc, hc⟩
    | succ j => simp at hj
theorem door_met (os : Os) (args : Array Value) : laidMetH Tryd.prog laidL ((World.doorLaid Tryd.prog 400 os).forCall (fun _ _ => 0) ⟨#[], args, []⟩).memory :=
  laidMetH_of_parts3 (fuel := 8) (laidMet_of_run' 8 (by kernel_rfl) (by kernel_rfl)) (by kernel_rfl) (by kernel_rfl)
theorem lifted (os : Os) (started : os.Started) (H : Type) (enc : TypeId × Value → H) :
    ReturnsInHanded {} Tryd.checked os 14 .any (fun w args => (Rows.multiChecksSpec.pre enc Tryd.prog Tryd.f14 [] false w args ∧ laidMetH Tryd.prog laidL w) ∧ sizedMet enc Tryd.prog Tryd.f14 (OpenSpec.ofChange Rows.multiChecksSpec) false w args)
      (Rows.multiChecksSpec.post enc Tryd.prog Tryd.f14 false true false false) := by
  refine returnsInHanded_of_change_and (C := Tryd.checked) (X := fun w _ => laidMetH Tryd.prog laidL w) (fun _ _ _ hh h => h.of_heap hh) own started (by kernel_rfl) Tryd.func14
    (ChangeSpec.witness_shaped (enc := enc) (C := Tryd.checked) (os := os) (X := fun w _ => laidMetH Tryd.prog laidL w) false (World.doorLaid Tryd.prog 400 os) #[.slice none 0 0, .agg (Array.replicate 32 (.int .u8 0)), .slice none 0 0, .slice none 0 0, .slice none 0 0, .int .u8 0, .int .u8 0, .int .i64 0, .agg (Array.replicate 32 (.int .u8 0)), .slice none 0 0] 8 rfl (World.shaped_of_RefB (by kernel_rfl) (by kernel_rfl)) (by kernel_rfl) (by kernel_rfl) (by kernel_rfl) (door_met os _)) ?_
  intro W base args ds gs before hval0 hW _ hsz0 hL _
  have hsz : (DataW.weightsEach Tryd.prog (Tryd.f14.params.toList ++ Rows.multiChecksSpec.plain.varTypes Tryd.prog) (ds ++ gs)).all (· ≤ reachBytes) = true := hsz0
  have hval : ∀ (j : Nat) t v, Tryd.f14.params[j]? = some t → args[j]? = some v → Value.okWide Tryd.prog W .any base t v := hval0
  have hW' := hW
  obtain ⟨p, q, hA0, hV, rfl, hfz, hnd⟩ := hW
  have hA : DataW.TrodAll enc Tryd.prog W 0 (fun _ => true) true Tryd.f14.params.toList args.toList ds p := hA0
  rw [Tryd.params14] at hA hval hsz
  obtain ⟨v0, vs0, d0, ds0, p0, q0, hargs, rfl, rfl, h0, r0⟩ := trodAll_cons hA
  obtain ⟨v1, vs1, d1, ds1, p1, q1, rfl, rfl, rfl, h1, r1⟩ := trodAll_cons r0
  obtain ⟨v2, vs2, d2, ds2, p2, q2, rfl, rfl, rfl, h2, r2⟩ := trodAll_cons r1
  obtain ⟨v3, vs3, d3, ds3, p3, q3, rfl, rfl, rfl, h3, r3⟩ := trodAll_cons r2
  obtain ⟨v4, vs4, d4, ds4, p4, q4, rfl, rfl, rfl, h4, r4⟩ := trodAll_cons r3
  obtain ⟨v5, vs5, d5, ds5, p5, q5, rfl, rfl, rfl, h5, r5⟩ := trodAll_cons r4
  obtain ⟨v6, vs6, d6, ds6, p6, q6, rfl, rfl, rfl, h6, r6⟩ := trodAll_cons r5
  obtain ⟨v7, vs7, d7, ds7, p7, q7, rfl, rfl, rfl, h7, r7⟩ := trodAll_cons r6
  obtain ⟨v8, vs8, d8, ds8, p8, q8, rfl, rfl, rfl, h8, r8⟩ := trodAll_cons r7
  obtain ⟨v9, vs9, d9, ds9, p9, q9, rfl, rfl, rfl, h9, r9⟩ := trodAll_cons r8
  obtain ⟨rfl, rfl, rfl⟩ := trodAll_nil r9
  obtain rfl : args = #[v0, v1, v2, v3, v4, v5, v6, v7, v8, v9] := by cases args; simp_all
  obtain ⟨rfl, rfl⟩ := trodVars_none hV
  obtain ⟨a0, len0, cap0, rfl⟩ := okWide_slice Tryd.underlying90 (hval 0 90 v0 rfl rfl)
  have k0 := h0
  have lt0 : ∀ x ∈ p0, x.block < W.heap.size := by obtain ⟨m, hm⟩ := k0; exact DataW.trod_lt m _ _ _ hm
  obtain ⟨x0, R0⟩ := arg_slice (opens_slice (T := tToken) Tryd.underlying90 (by kernel_rfl) (by kernel_rfl) (by decide) opToken) h0 rfl hsz (j := 0) (t := 90) rfl rfl
  obtain ⟨cs1, rfl, sz1⟩ := okWide_arr Tryd.underlying52 (hval 1 52 v1 rfl rfl)
  have k1 := h1
  have lt1 : ∀ x ∈ p1, x.block < W.heap.size := by obtain ⟨m, hm⟩ := k1; exact DataW.trod_lt m _ _ _ hm
  obtain ⟨x1, X1⟩ := arg_any opHash h1 hsz (j := 1) (t := 52) rfl rfl
  obtain rfl := hash_rep X1
  obtain ⟨a2, len2, cap2, rfl⟩ := okWide_slice Tryd.underlying39 (hval 2 39 v2 rfl rfl)
  have k2 := h2
  have lt2 : ∀ x ∈ p2, x.block < W.heap.size := by obtain ⟨m, hm⟩ := k2; exact DataW.trod_lt m _ _ _ hm
  obtain ⟨x2, R2⟩ := arg_slice (opens_slice (T := tAct) Tryd.underlying39 (by kernel_rfl) (by kernel_rfl) (by decide) opAct) h2 rfl hsz (j := 2) (t := 39) rfl rfl
  obtain ⟨a3, len3, cap3, rfl⟩ := okWide_slice Tryd.underlying56 (hval 3 56 v3 rfl rfl)
  have k3 := h3
  have lt3 : ∀ x ∈ p3, x.block < W.heap.size := by obtain ⟨m, hm⟩ := k3; exact DataW.trod_lt m _ _ _ hm
  obtain ⟨x3, R3⟩ := arg_slice (opens_slice (T := (tSl tU8)) Tryd.underlying56 (by kernel_rfl) (by kernel_rfl) (by decide) (opens_slice (T := tU8) Tryd.underlying22 (by kernel_rfl) (by kernel_rfl) (by decide) (opens_u8 Tryd.underlying5))) h3 rfl hsz (j := 3) (t := 56) rfl rfl
  obtain ⟨a4, len4, cap4, rfl⟩ := okWide_slice Tryd.underlying22 (hval 4 22 v4 rfl rfl)
  have k4 := h4
  have lt4 : ∀ x ∈ p4, x.block < W.heap.size := by obtain ⟨m, hm⟩ := k4; exact DataW.trod_lt m _ _ _ hm
  obtain ⟨x4, R4⟩ := arg_slice (opens_slice (T := tU8) Tryd.underlying22 (by kernel_rfl) (by kernel_rfl) (by decide) (opens_u8 Tryd.underlying5)) h4 rfl hsz (j := 4) (t := 22) rfl rfl
  obtain ⟨a5, rfl, rfl, rfl, w5⟩ := open_int Tryd.underlying5 (hval 5 5 v5 rfl rfl) h5
  obtain ⟨n5, rfl⟩ := wf_u8 w5
  obtain ⟨a6, rfl, rfl, rfl, w6⟩ := open_int Tryd.underlying5 (hval 6 5 v6 rfl rfl) h6
  obtain ⟨n6, rfl⟩ := wf_u8 w6
  obtain ⟨a7, rfl, rfl, rfl, w7⟩ := open_int Tryd.underlying3 (hval 7 3 v7 rfl rfl) h7
  have c7 := wf_i64 w7
  obtain ⟨cs8, rfl, sz8⟩ := okWide_arr Tryd.underlying52 (hval 8 52 v8 rfl rfl)
  have k8 := h8
  have lt8 : ∀ x ∈ p8, x.block < W.heap.size := by obtain ⟨m, hm⟩ := k8; exact DataW.trod_lt m _ _ _ hm
  obtain ⟨x8, X8⟩ := arg_any opHash h8 hsz (j := 8) (t := 52) rfl rfl
  obtain rfl := hash_rep X8
  obtain ⟨a9, len9, cap9, rfl⟩ := okWide_slice Tryd.underlying22 (hval 9 22 v9 rfl rfl)
  have k9 := h9
  have lt9 : ∀ x ∈ p9, x.block < W.heap.size := by obtain ⟨m, hm⟩ := k9; exact DataW.trod_lt m _ _ _ hm
  obtain ⟨x9, R9⟩ := arg_slice (opens_slice (T := tU8) Tryd.underlying22 (by kernel_rfl) (by kernel_rfl) (by decide) (opens_u8 Tryd.underlying5)) h9 rfl hsz (j := 9) (t := 22) rfl rfl
  clear hA0 hval0 hsz0 hsz
  obtain ⟨L_roots, L_words, L_errorType⟩ := of_laid hL
  have one : ∀ n, (nuOf [.bool false, .bool false, .bool false, .slice a0 len0 cap0, .slice a2 len2 cap2, .slice a3 len3 cap3, .slice a4 len4 cap4, .slice a9 len9 cap9] n).oneCell' = true := nuOf_one (by simp only [List.mem_cons, List.not_mem_nil, or_false]; rintro v (rfl | rfl | rfl | rfl | rfl | rfl | rfl | rfl) <;> first | rfl)
  have S : Sat (G := GT) (nuOf [.bool false, .bool false, .bool false, .slice a0 len0 cap0, .slice a2 len2 cap2, .slice a3 len3 cap3, .slice a4 len4 cap4, .slice a9 len9 cap9]) (fun _ _ => False) (sig0 W) W [.pr wordsP, .pr rootsP, .pr etP, .rd 100 x0, .rd 133 x2, .rd 22 x3, .rd 5 x4, .rd 5 x9] := by
    refine sat0 one (fun k e hk => ?_) rfl
    match k, hk with
    | 0, hk => simp only [List.getElem?_cons_zero, Option.some.injEq] at hk; subst hk; exact L_words
    | 1, hk => simp only [List.getElem?_cons_succ, List.getElem?_cons_zero, Option.some.injEq] at hk; subst hk; exact L_roots
    | 2, hk => simp only [List.getElem?_cons_succ, List.getElem?_cons_zero, Option.some.injEq] at hk; subst hk; exact L_errorType
    | 3, hk => simp only [List.getElem?_cons_succ, List.getElem?_cons_zero, Option.some.injEq] at hk; subst hk; exact R0
    | 4, hk => simp only [List.getElem?_cons_succ, List.getElem?_cons_zero, Option.some.injEq] at hk; subst hk; exact R2
    | 5, hk => simp only [List.getElem?_cons_succ, List.getElem?_cons_zero, Option.some.injEq] at hk; subst hk; exact R3
    | 6, hk => simp only [List.getElem?_cons_succ, List.getElem?_cons_zero, Option.some.injEq] at hk; subst hk; exact R4
    | 7, hk => simp only [List.getElem?_cons_succ, List.getElem?_cons_zero, Option.some.injEq] at hk; subst hk; exact R9
    | k + 8, hk => simp at hk
  have hcall := law_calls (MultiChecks_ok x0 x1.l x2 x3 x4 n5 n6 a7 x8.l x9 x1.h x8.h c7 (rd_tok_len R0) (rd_bb_len R3) (rd_u8_len R4)) S
  simp only [denL, denC, den, List.append_nil] at hcall
  refine hcall.mono fun e W' he => ?_
  obtain ⟨σ', v, rfl, st, rfl⟩ := he
  have bel := st.below
  exact ⟨_, rfl, _, _, _, [], _, [], hW', trodAll_mk1 (shut_bool Tryd.underlying4 _), (trodAll_cons_mk (Below.trod laidOut (by kernel_rfl) (of_decide_eq_true (by kernel_rfl)) k0 bel lt0) (trodAll_cons_mk (Below.trod laidOut (by kernel_rfl) (of_decide_eq_true (by kernel_rfl)) k1 bel lt1) (trodAll_cons_mk (Below.trod laidOut (by kernel_rfl) (of_decide_eq_true (by kernel_rfl)) k2 bel lt2) (trodAll_cons_mk (Below.trod laidOut (by kernel_rfl) (of_decide_eq_true (by kernel_rfl)) k3 bel lt3) (trodAll_cons_mk (Below.trod laidOut (by kernel_rfl) (of_decide_eq_true (by kernel_rfl)) k4 bel lt4) (trodAll_cons_mk (shut_int Tryd.underlying5 w5) (trodAll_cons_mk (shut_int Tryd.underlying5 w6) (trodAll_cons_mk (shut_int Tryd.underlying3 w7) (trodAll_cons_mk (Below.trod laidOut (by kernel_rfl) (of_decide_eq_true (by kernel_rfl)) k8 bel lt8) (trodAll_cons_mk (Below.trod laidOut (by kernel_rfl) (of_decide_eq_true (by kernel_rfl)) k9 bel lt9) trodAll_mk0)))))))))), rfl, bel.frame _, fun h => by cases h⟩

end Go.Proofs.YtnicmjipbnhciaaDoor.multiChecks
